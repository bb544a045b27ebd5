/-
Rules for walking the code of one function: a frame is a function of its slots; continuations for the normal end, the exits and the return. What a piece of memory holds, block by block, and how it passes from world to world. The operations, one rule each: what an operation makes of the frame and of the memory. The operations that read and write memory. The built-in functions, strings, equality, calls of functions. make, literals of structs, arrays and slices; append, copy; bytes and strings. A select with one case and a default, where nothing else runs. A region that draws its order: operations that only read, in memory of which it is known what they read, may be taken first; what writes comes behind. The operations once more, where more is known: tests that are decided, numbers that stay in their kind. From the walk to the row: what the row's frame asks. Slices beside nil; bytes and strings; copy. Rows of things that take more than one cell each. Loops whose rounds write to some slots alone: what the other slots hold is what they held ahead of the loop. Slices of the call's own that do not begin at the head of their block.
-/
import Derived.StillTail
import Derived.Orders
import Derived.Deep.LoopGhost
import Derived.RowKit3
import Derived.Laws.Append
import Derived.Laws.Bits
import Derived.Laws.CopyRow
import Derived.Laws.AppendOwn
import Derived.Laws.StructEq
import Derived.Laws.Strings
import Derived.Laws.BytesString
import Derived.Deep.AppendSrc
import Derived.Laws.Tables
import Derived.Conc.LoneSelect
import Derived.Below
import Derived.Lib.ConvBytes
set_option maxRecDepth 100000
set_option maxHeartbeats 16000000
namespace Go.Proofs.YtlpmfldijgdcoaaGreatDoor.Fx
open Go
abbrev Env := Nat → Value
def upd (n : Nat) (E : Env) (d : Nat) (v : Value) : Env := fun k =>
 match Nat.beq k d with
 | true => (match Nat.ble (d + 1) n with
  | true => v
  | false => E k)
 | false => E k
theorem upd_same {n : Nat} {E : Env} {d : Nat} {v : Value} (h : d < n) : upd n E d v d = v := by
 have h1 : Nat.beq d d = true := Nat.beq_refl d
 have h2 : Nat.ble (d + 1) n = true := Nat.ble_eq_true_of_le h
 simp only [upd, h1, h2]
theorem upd_out {n : Nat} {E : Env} {d : Nat} {v : Value} (h : ¬ d < n) : upd n E d v d = E d := by
 have h1 : Nat.beq d d = true := Nat.beq_refl d
 have h2 : Nat.ble (d + 1) n = false := by
  cases hb : Nat.ble (d + 1) n with
  | false => rfl
  | true => exact (h (Nat.le_of_ble_eq_true hb)).elim
 simp only [upd, h1, h2]
theorem upd_other {n : Nat} {E : Env} {d k : Nat} {v : Value} (h : k ≠ d) : upd n E d v k = E k := by
 have h1 : Nat.beq k d = false := by
  cases hb : Nat.beq k d with
  | false => rfl
  | true => exact (h (Nat.eq_of_beq_eq_true hb)).elim
 simp only [upd, h1]
/-- The frame in which it is written what a slot holds that it holds. -/
def know (E : Env) (d : Nat) (v : Value) : Env := fun k =>
 match Nat.beq k d with
 | true => v
 | false => E k
theorem Zj {E : Env} {d : Nat} {v : Value} (h : E d = v) : know E d v = E := by
 funext k
 unfold know
 cases hb : Nat.beq k d with
 | false => rfl
 | true => rw [Nat.eq_of_beq_eq_true hb, h]
def updo (n : Nat) (E : Env) (d : Option Nat) (v : Value) : Env :=
 match d with
 | some d => upd n E d v
 | none => E
def ev (E : Env) : Operand → Value
 | .tmp t => E t
 | .const v => v
 | .global g => .pointer (some ⟨g, 0, none⟩)
 | .func f => .func (.func f) #[] #[]
/-- The frame in which slot d holds what x stands for. -/
def mov (n : Nat) (E : Env) (d : Option Nat) (x : Operand) : Env := updo n E d (ev E x)
structure Rep (n : Nat) (E : Env) (a : Act) : Prop where
 size : a.tmps.size = n
 slot : ∀ t, a.tmps.getD t undef = E t
 defers : a.defers = []
theorem Rep.eval {n : Nat} {E : Env} {a : Act} (h : Rep n E a) : a.eval = ev E := by
 funext x
 cases x with
 | tmp t => exact h.slot t
 | const v => rfl
 | global g => rfl
 | func f => rfl
theorem Rep.put {n : Nat} {E : Env} {a : Act} (h : Rep n E a) (d : Option Nat) (v : Value) : Rep n (updo n E d v) (a.put d v) := by
 cases d with
 | none => exact h
 | some d =>
  refine ⟨?_, ?_, h.defers⟩
  ·simp [Act.put, h.size]
  ·intro t
   have hs := h.slot t
   simp only [Act.put, updo, Array.getD_eq_getD_getElem?] at *
   by_cases htd : t = d
   ·subst htd
    by_cases hlt : t < n
    ·rw [upd_same hlt, Array.getElem?_setIfInBounds]
     simp [h.size, hlt]
    ·rw [upd_out hlt, Array.getElem?_setIfInBounds]
     rw [if_pos rfl, if_neg (by rw [h.size]; exact hlt)]
     rw [← hs, Array.getElem?_eq_none (by rw [h.size]; omega)]
   ·rw [upd_other htd, Array.getElem?_setIfInBounds, if_neg (fun h => htd h.symm)]
    exact hs
/-- What a guard's operation has yielded. -/
def yE (ops : Array Oper) (E : Env) (j : Nat) : Option Bool :=
 match (ops[j]?).bind (·.dst) with
 | some t => match E t with
  | .bool b => some b
  | _ => none
 | none => none
theorem Rep.yielded {n : Nat} {E : Env} {a : Act} (h : Rep n E a) (ops : Array Oper) : yielded ops a.tmps = yE ops E := by
 funext j
 unfold Go.yielded yE
 cases hd : (ops[j]?).bind (·.dst) with
 | none => rfl
 | some t =>
  have hs := h.slot t
  rw [Array.getD_eq_getD_getElem?] at hs
  simp only [Option.bind_some]
  cases ht : a.tmps[t]? with
  | none =>
   rw [ht] at hs
   simp only [Option.getD_none] at hs
   rw [← hs]
   rfl
  | some v =>
   rw [ht] at hs
   simp only [Option.getD_some] at hs
   rw [← hs]
   cases v <;> rfl
/-- The three ways out of a piece of code. -/
def post (n : Nat) (kn : Env → World → Prop) (kx : Nat → Env → World → Prop) (kr : Env → World → Prop) : Exit → Act → World → Prop
 | .normal, a, w => ∃ E, Rep n E a ∧ kn E w
 | .exit i, a, w => ∃ E, Rep n E a ∧ kx i E w
 | .ret, a, w => ∃ E, Rep n E a ∧ kr E w
 | _, _, _ => False
structure W (P : Program) (n : Nat) (c : Code) (kn : Env → World → Prop) (kx : Nat → Env → World → Prop) (kr : Env → World → Prop) (E : Env) (w : World) : Prop where
 out : ∀ a, Rep n E a → c.wp P (post n kn kx kr) a w
/-- The operations of a region, one behind the other. -/
structure WL (P : Program) (n : Nat) (ops : Array Oper) (kn : Env → World → Prop) (l : List Oper) (E : Env) (w : World) : Prop where
 out : ∀ (Q : Exit → Act → World → Prop), (∀ a E w, Rep n E a → kn E w → Q .normal a w) → ∀ a, Rep n E a → wpList P ops Q l a w
/-- The call of a function returns. -/
structure Ret (P : Program) (f : FuncId) (args : Array Value) (w : World) (R : Value → World → Prop) : Prop where
 out : Calls P f args w fun e w' => ∃ v, e = .returned v ∧ R v w'
section rules
variable {P : Program} {n : Nat} {kn : Env → World → Prop} {kx : Nat → Env → World → Prop} {kr : Env → World → Prop} {E : Env} {w : World}
theorem W.mono {c : Code} {kn' : Env → World → Prop} {kx' : Nat → Env → World → Prop} {kr' : Env → World → Prop} (h : W P n c kn kx kr E w)
  (h1 : ∀ E w, kn E w → kn' E w) (h2 : ∀ i E w, kx i E w → kx' i E w) (h3 : ∀ E w, kr E w → kr' E w) : W P n c kn' kx' kr' E w := by
 refine ⟨fun a ha => ?_⟩
 refine wp_mono (h.out a ha) ?_
 intro e a w hq
 cases e with
 | normal => obtain ⟨E, h, k⟩ := hq; exact ⟨E, h, h1 _ _ k⟩
 | exit i => obtain ⟨E, h, k⟩ := hq; exact ⟨E, h, h2 _ _ _ k⟩
 | ret => obtain ⟨E, h, k⟩ := hq; exact ⟨E, h, h3 _ _ k⟩
 | goto l => exact hq.elim
 | panic c => exact hq.elim
 | outgrown => exact hq.elim
theorem W_skip (h : kn E w) : W P n .skip kn kx kr E w := ⟨fun _ ha => wp_skip ⟨E, ha, h⟩⟩
theorem Xr {i : Nat} (h : kx i E w) : W P n (.exit i) kn kx kr E w := ⟨fun _ ha => wp_exit ⟨E, ha, h⟩⟩
theorem W_ret (h : kr E w) : W P n .ret kn kx kr E w := ⟨fun _ ha => wp_ret ⟨E, ha, h⟩⟩
theorem W_seq {x y : Code} (h : W P n x (fun E w => W P n y kn kx kr E w) kx kr E w) : W P n (.seq x y) kn kx kr E w := by
 refine ⟨fun a ha => ?_⟩
 refine wp_seq (wp_mono (h.out a ha) ?_)
 intro e a w hq
 cases e with
 | normal => obtain ⟨E, h, k⟩ := hq; exact k.out a h
 | exit i => exact hq
 | ret => exact hq
 | goto l => exact hq
 | panic c => exact hq
 | outgrown => exact hq
theorem W_block {id : Nat} {c : Code} (h : W P n c kn (fun i E w => if i = id then kn E w else kx i E w) kr E w) : W P n (.block id c) kn kx kr E w := by
 refine ⟨fun a ha => ?_⟩
 refine wp_block (wp_mono (h.out a ha) ?_)
 intro e a w hq
 cases e with
 | normal => exact hq
 | exit i =>
  obtain ⟨E, h, k⟩ := hq
  by_cases hi : i = id
  ·rw [if_pos hi] at k
   simp only [Exit.inBlock, hi, if_true]
   exact ⟨E, h, k⟩
  ·rw [if_neg hi] at k
   simp only [Exit.inBlock, hi, if_false]
   exact ⟨E, h, k⟩
 | ret => exact hq
 | goto l => exact hq
 | panic c => exact hq
 | outgrown => exact hq
theorem W_cond {c : Operand} {x y : Code} {t : Bool} (hc : ev E c = .bool t) (ht : t = true → W P n x kn kx kr E w) (hf : t = false → W P n y kn kx kr E w) :
  W P n (.cond c x y) kn kx kr E w := by
 refine ⟨fun a ha => ?_⟩
 have he : a.eval c = .bool t := by rw [ha.eval]; exact hc
 exact wp_cond_split he (fun h => (ht h).out a ha) (fun h => (hf h).out a ha)
theorem W_cond_t {c : Operand} {x y : Code} (hc : ev E c = .bool true) (ht : W P n x kn kx kr E w) : W P n (.cond c x y) kn kx kr E w :=
 W_cond hc (fun _ => ht) (fun h => by cases h)
theorem W_cond_f {c : Operand} {x y : Code} (hc : ev E c = .bool false) (hf : W P n y kn kx kr E w) : W P n (.cond c x y) kn kx kr E w :=
 W_cond hc (fun h => by cases h) (fun _ => hf)
/-- A loop: what holds at the head of each round, by a ghost that every round makes smaller. -/
theorem Dp {c : Code} {α : Type} (I : α → Env → World → Prop) (m : α → Nat) (x : α) (h0 : I x E w)
  (round : ∀ x E w, I x E w → W P n c (fun E' w' => ∃ y, m y < m x ∧ I y E' w') kx kr E w) : W P n (.loop c) kn kx kr E w := by
 refine ⟨fun a ha => ?_⟩
 refine wp_loop_ghost (fun k a w => ∃ x E, m x = k ∧ Rep n E a ∧ I x E w) (m x) ⟨x, E, rfl, ha, h0⟩ ?_
 rintro k a w ⟨x, E, rfl, ha, hI⟩
 refine wp_mono ((round x E w hI).out a ha) ?_
 intro e a w hq
 cases e with
 | normal => obtain ⟨E, h, y, hlt, hy⟩ := hq; exact ⟨m y, hlt, y, E, rfl, h, hy⟩
 | exit i => exact hq
 | ret => exact hq
 | goto l => exact hq
 | panic c => exact hq
 | outgrown => exact hq
/-- At most so many rounds. -/
def Rn (P : Program) (n : Nat) (c : Code) (kx : Nat → Env → World → Prop) (kr : Env → World → Prop) : Nat → Env → World → Prop
 | 0, _, _ => False
 | k + 1, E, w => W P n c (Rn P n c kx kr k) kx kr E w
theorem Bp {c : Code} {k : Nat} (h : W P n c (Rn P n c kx kr k) kx kr E w) : Rn P n c kx kr (k + 1) E w := h
theorem Vs {c : Code} (k : Nat) (h : W P n c (Rn P n c kx kr k) kx kr E w) : W P n (.loop c) kn kx kr E w := by
 refine Dp (fun x E w => Rn P n c kx kr x E w) id (k + 1) h ?_
 intro x E w hx
 cases x with
 | zero => exact hx.elim
 | succ x => exact W.mono hx (fun E w h => ⟨x, Nat.lt_succ_self x, h⟩) (fun _ _ _ h => h) (fun _ _ h => h)
theorem W_region {id : Nat} {ops : Array Oper} (h : WL P n ops kn ops.toList E w) : W P n (.region id ops false) kn kx kr E w := by
 refine ⟨fun a ha => ?_⟩
 exact wp_region_list (h.out (post n kn kx kr) (fun a E w ha h => ⟨E, ha, h⟩) a ha)
theorem Qk {id : Nat} {l : List Oper} (h : WL P n l.toArray kn l E w) : W P n (.region id l.toArray false) kn kx kr E w :=
 W_region (by simpa using h)
variable {ops : Array Oper} {o : Oper} {l : List Oper}
theorem WL_nil (h : kn E w) : WL P n ops kn [] E w := ⟨fun _ hQ a ha => hQ a E w ha h⟩
theorem Ym {w' : World} {v : Value} (hg : o.guard = none) (hr : (execOp (ev E) o).run P w = .ok (.value v) w') (h : WL P n ops kn l (updo n E o.dst v) w') :
  WL P n ops kn (o :: l) E w := by
 refine ⟨fun Q hQ a ha => ?_⟩
 refine wpList_plain hg fun K hK => ?_
 unfold Oper.wp
 rw [ha.eval, hr]
 exact hK _ _ (h.out Q hQ _ (ha.put _ _))
theorem WL_stepM {x : Operand} (hg : o.guard = none) (hr : (execOp (ev E) o).run P w = .ok (.value (ev E x)) w) (h : WL P n ops kn l (mov n E o.dst x) w) :
  WL P n ops kn (o :: l) E w := Ym hg hr h
theorem WL_unit {w' : World} (hg : o.guard = none) (hr : (execOp (ev E) o).run P w = .ok .skip w') (h : WL P n ops kn l (updo n E o.dst undef) w') :
  WL P n ops kn (o :: l) E w := by
 refine ⟨fun Q hQ a ha => ?_⟩
 refine wpList_plain hg fun K hK => ?_
 unfold Oper.wp
 rw [ha.eval, hr]
 exact hK _ _ (h.out Q hQ _ (ha.put _ _))
theorem Vl {f : FuncId} {args : Array Value} {R : Value → World → Prop} (hg : o.guard = none) (hr : (execOp (ev E) o).run P w = .ok (.enter f args) w)
  (hc : Ret P f args w R) (h : ∀ v w', R v w' → WL P n ops kn l (updo n E o.dst v) w') : WL P n ops kn (o :: l) E w := by
 refine ⟨fun Q hQ a ha => ?_⟩
 refine wpList_plain hg fun K hK => ?_
 unfold Oper.wp
 rw [ha.eval, hr]
 refine hc.out.mono ?_
 rintro e w' ⟨v, rfl, hR⟩
 exact hK _ _ ((h v w' hR).out Q hQ _ (ha.put _ _))
/-- An operation whose guard is asked. -/
theorem WL_guard {j : Nat} {want b : Bool} (hg : o.guard = some (j, want)) (hy : yE ops E j = some b)
  (ht : b = want → WL P n ops kn ({ o with guard := none } :: l) E w) (hf : b ≠ want → WL P n ops kn l (updo n E o.dst undef) w) : WL P n ops kn (o :: l) E w := by
 refine ⟨fun Q hQ a ha => ?_⟩
 by_cases hb : b = want
 ·have hw : Region.wanted o (yielded ops a.tmps) = true := by simp [Region.wanted, hg, ha.yielded, hy, hb]
  have hw' : Region.wanted { o with guard := none } (yielded ops a.tmps) = true := rfl
  have := (ht hb).out Q hQ a ha
  unfold wpList at this ⊢
  rw [if_pos hw]
  rw [if_pos hw'] at this
  exact this
 ·have hw : Region.wanted o (yielded ops a.tmps) = false := by simp [Region.wanted, hg, ha.yielded, hy, hb]
  have := (hf hb).out Q hQ _ (ha.put o.dst undef)
  unfold wpList
  rw [if_neg (by rw [hw]; exact Bool.false_ne_true)]
  exact this
theorem WL_guard_t {j : Nat} {want : Bool} (hg : o.guard = some (j, want)) (hy : yE ops E j = some want)
  (ht : WL P n ops kn ({ o with guard := none } :: l) E w) : WL P n ops kn (o :: l) E w := WL_guard hg hy (fun _ => ht) (fun h => (h rfl).elim)
theorem WL_guard_f {j : Nat} {want b : Bool} (hg : o.guard = some (j, want)) (hy : yE ops E j = some b) (hb : b ≠ want)
  (hf : WL P n ops kn l (updo n E o.dst undef) w) : WL P n ops kn (o :: l) E w := WL_guard hg hy (fun h => (hb h).elim) (fun _ => hf)
/-- The guard's operation was passed over itself. -/
theorem WL_guard_n {j : Nat} {want : Bool} (hg : o.guard = some (j, want)) (hy : yE ops E j = none)
  (hf : WL P n ops kn l (updo n E o.dst undef) w) : WL P n ops kn (o :: l) E w := by
 refine ⟨fun Q hQ a ha => ?_⟩
 have hw : Region.wanted o (yielded ops a.tmps) = false := by simp [Region.wanted, hg, ha.yielded, hy]
 have := hf.out Q hQ _ (ha.put o.dst undef)
 unfold wpList
 rw [if_neg (by rw [hw]; exact Bool.false_ne_true)]
 exact this
/-- What a slot is known to hold. -/
theorem W_know {c : Code} {t : Nat} {v : Value} (ht : E t = v) (h : W P n c kn kx kr (know E t v) w) : W P n c kn kx kr E w := by
 rwa [Zj ht] at h
theorem W_know2 {c : Code} {t0 t1 : Nat} {v0 v1 : Value} (h0 : E t0 = v0) (h1 : E t1 = v1) (h : W P n c kn kx kr (know (know E t0 v0) t1 v1) w) : W P n c kn kx kr E w := by
 rwa [Zj h0, Zj h1] at h
theorem W_know3 {c : Code} {t0 t1 t2 : Nat} {v0 v1 v2 : Value} (h0 : E t0 = v0) (h1 : E t1 = v1) (h2 : E t2 = v2) (h : W P n c kn kx kr (know (know (know E t0 v0) t1 v1) t2 v2) w) : W P n c kn kx kr E w := by
 rwa [Zj h0, Zj h1, Zj h2] at h
theorem W_know4 {c : Code} {t0 t1 t2 t3 : Nat} {v0 v1 v2 v3 : Value} (h0 : E t0 = v0) (h1 : E t1 = v1) (h2 : E t2 = v2) (h3 : E t3 = v3) (h : W P n c kn kx kr (know (know (know (know E t0 v0) t1 v1) t2 v2) t3 v3) w) : W P n c kn kx kr E w := by
 rwa [Zj h0, Zj h1, Zj h2, Zj h3] at h
theorem W_know5 {c : Code} {t0 t1 t2 t3 t4 : Nat} {v0 v1 v2 v3 v4 : Value} (h0 : E t0 = v0) (h1 : E t1 = v1) (h2 : E t2 = v2) (h3 : E t3 = v3) (h4 : E t4 = v4) (h : W P n c kn kx kr (know (know (know (know (know E t0 v0) t1 v1) t2 v2) t3 v3) t4 v4) w) : W P n c kn kx kr E w := by
 rwa [Zj h0, Zj h1, Zj h2, Zj h3, Zj h4] at h
/-- A test that is open: both ways, and in each the slot holds what it tells. -/
theorem Xo {t : Nat} {x y : Code} {p : Prop} [Decidable p] (hc : E t = .bool (decide p)) (ht : p → W P n x kn kx kr (know E t (.bool true)) w) (hf : ¬ p → W P n y kn kx kr (know E t (.bool false)) w) :
  W P n (.cond (.tmp t) x y) kn kx kr E w := by
 by_cases h : p
 ·exact W_know (t := t) (v := .bool true) (by rw [hc, decide_eq_true h]) (W_cond_t (by simp [ev, know]) (ht h))
 ·exact W_know (t := t) (v := .bool false) (by rw [hc, decide_eq_false h]) (W_cond_f (by simp [ev, know]) (hf h))
theorem W_ifB {t : Nat} {x y : Code} {b : Bool} (hc : E t = .bool b) (ht : b = true → W P n x kn kx kr (know E t (.bool true)) w) (hf : b = false → W P n y kn kx kr (know E t (.bool false)) w) :
  W P n (.cond (.tmp t) x y) kn kx kr E w := by
 cases b
 ·exact W_know (t := t) hc (W_cond_f (by simp [ev, know]) (hf rfl))
 ·exact W_know (t := t) hc (W_cond_t (by simp [ev, know]) (ht rfl))
/-- What an operation that changes the memory leaves. -/
theorem Qd {F : World → Prop} (hg : o.guard = none) (he : ∃ w', F w' ∧ (execOp (ev E) o).run P w = .ok .skip w') (h : ∀ w', F w' → WL P n ops kn l (updo n E o.dst undef) w') : WL P n ops kn (o :: l) E w := by
 obtain ⟨w', hF, hr⟩ := he
 exact WL_unit hg hr (h w' hF)
theorem Qb {A : Nat → Prop} {F : Nat → World → Prop} {v : Nat → Value} (hg : o.guard = none) (he : ∃ b w', A b ∧ F b w' ∧ (execOp (ev E) o).run P w = .ok (.value (v b)) w')
  (h : ∀ b w', A b → F b w' → WL P n ops kn l (updo n E o.dst (v b)) w') : WL P n ops kn (o :: l) E w := by
 obtain ⟨b, w', hA, hF, hr⟩ := he
 exact Ym hg hr (h b w' hA hF)
theorem Ve {M : Type} {A : Value → M → Prop} {F : M → World → Prop} (hg : o.guard = none) (he : ∃ v m w', A v m ∧ F m w' ∧ (execOp (ev E) o).run P w = .ok (.value v) w')
  (h : ∀ v m w', A v m → F m w' → WL P n ops kn l (updo n E o.dst v) w') : WL P n ops kn (o :: l) E w := by
 obtain ⟨v, m, w', hA, hF, hr⟩ := he
 exact Ym hg hr (h v m w' hA hF)
end rules
/-- What a function hands back. -/
def resultOf (rs : Array ResultVar) (E : Env) : Option Value :=
 match rs.toList with
 | [] => some (.tuple #[])
 | [.tmp t] => some (E t)
 | [.tmp t, .tmp u] => some (.tuple #[E t, E u])
 | [.tmp t, .tmp u, .tmp v] => some (.tuple #[E t, E u, E v])
 | [.tmp t, .tmp u, .tmp v, .tmp x] => some (.tuple #[E t, E u, E v, E x])
 | _ => none
theorem results_of {P : Program} {fn : Func} {n : Nat} {E : Env} {a : Act} {v : Value} {w : World} (ha : Rep n E a) (h : resultOf fn.results E = some v) :
  (results fn a.tmps).run P w = .ok v w := by
 obtain ⟨rs, hrs⟩ : ∃ rs, fn.results.toList = rs := ⟨_, rfl⟩
 have hrs' : fn.results = rs.toArray := by rw [← hrs]
 unfold resultOf at h
 rw [hrs] at h
 split at h
 ·cases h; simp [results, hrs', go_sem]
 ·cases h; rw [← ha.slot]; simp [results, hrs', go_sem]
 ·cases h; rw [← ha.slot, ← ha.slot]; simp [results, hrs', go_sem]
 ·cases h; rw [← ha.slot, ← ha.slot, ← ha.slot]; simp [results, hrs', go_sem]
 ·cases h; rw [← ha.slot, ← ha.slot, ← ha.slot, ← ha.slot]; simp [results, hrs', go_sem]
 ·cases h
/-- The frame at the call. -/
def env0 (args : List Value) : Env := fun k => args.getD k undef
theorem Qi {P : Program} {f : FuncId} {fn : Func} {c : Code} {args : List Value} {w : World} {R : Value → World → Prop} {n : Nat} {rs : Array ResultVar}
  (hf : P.funcs[f]? = some fn) (hb : fn.body = some c) (hnt : fn.ntmps = n) (hrs : fn.results = rs) (hn : args.length ≤ n)
  (h : W P n c (fun E w => ∃ v, resultOf rs E = some v ∧ R v w) (fun _ _ _ => False) (fun E w => ∃ v, resultOf rs E = some v ∧ R v w) (env0 args) w) :
  Ret P f args.toArray w R := by
 subst hnt hrs
 refine ⟨calls_of_wp hf hb ?_⟩
 have hrep : Rep fn.ntmps (env0 args) { tmps := args.toArray ++ Array.replicate (fn.ntmps - args.toArray.size) undef, defers := [] } := by
  refine ⟨by simp; omega, ?_, rfl⟩
  intro t
  simp only [env0, Array.getD_eq_getD_getElem?, Array.getElem?_append, List.getD_eq_getElem?_getD]
  by_cases ht : t < args.length
  ·simp [ht]
  ·simp only [List.size_toArray, if_neg ht, Array.getElem?_replicate]
   rw [List.getElem?_eq_none (by omega)]
   split <;> rfl
 refine wp_mono (h.out _ hrep) ?_
 intro e a w hq
 cases e with
 | normal => obtain ⟨E, ha, v, hv, hR⟩ := hq; exact ⟨ha.defers, v, results_of ha hv, v, rfl, hR⟩
 | exit i => obtain ⟨E, ha, h⟩ := hq; exact h.elim
 | ret => obtain ⟨E, ha, v, hv, hR⟩ := hq; exact ⟨ha.defers, v, results_of ha hv, v, rfl, hR⟩
 | goto l => exact hq.elim
 | panic c => exact hq.elim
 | outgrown => exact hq.elim
theorem Ret.mono {P : Program} {f : FuncId} {args : Array Value} {w : World} {R R' : Value → World → Prop} (h : Ret P f args w R) (hr : ∀ v w', R v w' → R' v w') : Ret P f args w R' :=
 ⟨Calls.mono h.out fun _ _ ⟨v, he, hR⟩ => ⟨v, he, hr _ _ hR⟩⟩
end Go.Proofs.YtlpmfldijgdcoaaGreatDoor.Fx
namespace Go.Proofs.YtlpmfldijgdcoaaGreatDoor.Fx
open Go
/-- The world w is w0 but for the blocks of L, which hold what L says; blocks that w0 did not have may be there besides. -/
structure Hp (w0 : World) (L : List (Nat × Obj)) (w : World) : Prop where
 os : w.os = w0.os
 tape : w.tape = w0.tape
 output : w.output = w0.output
 size : w0.heap.size ≤ w.heap.size
 old : ∀ k, k < w0.heap.size → k ∉ L.map (·.1) → w.heap[k]? = w0.heap[k]?
 held : ∀ p ∈ L, w.heap[p.1]? = some p.2
 nodup : (L.map (·.1)).Nodup
theorem Hp.refl (w : World) : Hp w [] w := ⟨rfl, rfl, rfl, Nat.le_refl _, fun _ _ _ => rfl, (fun _ h => nomatch h), List.nodup_nil⟩
theorem Qr {w : World} {b : Nat} {o : Obj} (h : w.heap[b]? = some o) : b < w.heap.size := (Array.getElem?_eq_some_iff.1 h).1
/-- A block that is known comes into sight. -/
theorem Hp.focus {w0 w : World} {L : List (Nat × Obj)} (H : Hp w0 L w) {b : Nat} {o : Obj} (hb : w.heap[b]? = some o) (hn : b ∉ L.map (·.1)) : Hp w0 ((b, o) :: L) w := by
 refine ⟨H.os, H.tape, H.output, H.size, fun k hk hn' => H.old k hk (fun h => hn' (.tail _ h)), ?_, List.nodup_cons.2 ⟨hn, H.nodup⟩⟩
 intro p hp
 rcases List.mem_cons.1 hp with rfl | hp
 ·exact hb
 ·exact H.held p hp
theorem Hp.focus0 {w : World} {b : Nat} {o : Obj} (hb : w.heap[b]? = some o) : Hp w [(b, o)] w := by
 exact (Hp.refl w).focus hb (by simp)
/-- The place of a block in the list, and the list with something else in that place. -/
inductive At : List (Nat × Obj) → Nat → Obj → (Obj → List (Nat × Obj)) → Prop
 | here {b o L} : At ((b, o) :: L) b o (fun o' => (b, o') :: L)
 | there {b o L p f} : At L b o f → At (p :: L) b o (fun o' => p :: f o')
/-- The place of a part of the list, and the list with another part in that place. -/
inductive AtM : List (Nat × Obj) → List (Nat × Obj) → (List (Nat × Obj) → List (Nat × Obj)) → Prop
 | last {M} : AtM M M (fun M' => M')
 | here {M B} : AtM (M ++ B) M (fun M' => M' ++ B)
 | there {L M p f} : AtM L M f → AtM (p :: L) M (fun M' => p :: f M')
theorem AtM.split {L M f} (h : AtM L M f) : ∃ A B, L = A ++ (M ++ B) ∧ ∀ M', f M' = A ++ (M' ++ B) := by
 induction h with
 | last => exact ⟨[], [], by simp, fun _ => by simp⟩
 | @here M B => exact ⟨[], B, rfl, fun _ => rfl⟩
 | @there L M p f _ ih =>
  obtain ⟨A, B, e, h⟩ := ih
  exact ⟨p :: A, B, by rw [e]; rfl, fun M' => congrArg (p :: ·) (h M')⟩
theorem At.mem {L b o f} (h : At L b o f) : (b, o) ∈ L := by
 induction h with
 | here => exact .head _
 | there _ ih => exact .tail _ ih
theorem At.keys {L b o f} (h : At L b o f) (o' : Obj) : (f o').map (·.1) = L.map (·.1) := by
 induction h with
 | here => rfl
 | there _ ih => simp [ih]
theorem At.mem_set {L b o f} (h : At L b o f) {o' : Obj} (hn : (L.map (·.1)).Nodup) {p : Nat × Obj} (hp : p ∈ f o') : p = (b, o') ∨ (p ∈ L ∧ p.1 ≠ b) := by
 induction h with
 | @here b o L =>
  rcases List.mem_cons.1 hp with hp | hp
  ·exact .inl hp
  ·refine .inr ⟨.tail _ hp, fun e => ?_⟩
   simp only [List.map_cons, List.nodup_cons] at hn
   exact hn.1 (e ▸ List.mem_map_of_mem hp)
 | @there b o L q f h ih =>
  simp only [List.map_cons, List.nodup_cons] at hn
  rcases List.mem_cons.1 hp with hp | hp
  ·refine .inr ⟨by rw [hp]; exact .head _, fun e => hn.1 ?_⟩
   rw [← hp, e]
   exact List.mem_map_of_mem (f := (·.1)) h.mem
  ·rcases ih hn.2 hp with h | ⟨h, h'⟩
   ·exact .inl h
   ·exact .inr ⟨.tail _ h, h'⟩
theorem Hp.get {w0 w : World} {L b o f} (H : Hp w0 L w) (h : At L b o f) : w.heap[b]? = some o := H.held _ h.mem
/-- From a world to a later one: a block has turned. -/
theorem Hp.put {w0 w w' : World} {L b o f} (H : Hp w0 L w) (h : At L b o f) {o' : Obj} (hos : w'.os = w.os) (htape : w'.tape = w.tape) (hout : w'.output = w.output)
  (hsize : w.heap.size ≤ w'.heap.size) (hsame : ∀ k, k < w.heap.size → k ≠ b → w'.heap[k]? = w.heap[k]?) (hb : w'.heap[b]? = some o') : Hp w0 (f o') w' := by
 refine ⟨hos.trans H.os, htape.trans H.tape, hout.trans H.output, Nat.le_trans H.size hsize, ?_, ?_, ?_⟩
 ·intro k hk hn
  rw [h.keys] at hn
  have hkb : k ≠ b := fun e => hn (e ▸ List.mem_map_of_mem (f := (·.1)) h.mem)
  rw [hsame k (Nat.lt_of_lt_of_le hk H.size) hkb]
  exact H.old k hk hn
 ·intro p hp
  rcases h.mem_set H.nodup hp with rfl | ⟨hp, hne⟩
  ·exact hb
  ·rw [hsame p.1 (Qr (H.held p hp)) hne]
   exact H.held p hp
 ·rw [h.keys]; exact H.nodup
/-- Nothing that was there has turned. -/
theorem Hp.same {w0 w w' : World} {L} (H : Hp w0 L w) (hos : w'.os = w.os) (htape : w'.tape = w.tape) (hout : w'.output = w.output)
  (hsize : w.heap.size ≤ w'.heap.size) (hsame : ∀ k, k < w.heap.size → w'.heap[k]? = w.heap[k]?) : Hp w0 L w' :=
 ⟨hos.trans H.os, htape.trans H.tape, hout.trans H.output, Nat.le_trans H.size hsize, fun k hk hn => by rw [hsame k (Nat.lt_of_lt_of_le hk H.size)]; exact H.old k hk hn,
  fun p hp => by rw [hsame p.1 (Qr (H.held p hp))]; exact H.held p hp, H.nodup⟩
theorem Hp.drew {w0 w : World} {L} (H : Hp w0 L w) : Hp w0 L w.drew := ⟨H.os, H.tape, H.output, H.size, H.old, H.held, H.nodup⟩
theorem Hp.drawn {w0 w : World} {L} (H : Hp w0 L w) (n : Nat) : Hp w0 L { w with drawn := n } := ⟨H.os, H.tape, H.output, H.size, H.old, H.held, H.nodup⟩
theorem Hp.fresh {w0 w : World} {L} (H : Hp w0 L w) {k : Nat} (hk : w.heap.size ≤ k) : k ∉ L.map (·.1) := by
 intro h
 obtain ⟨p, hp, rfl⟩ := List.mem_map.1 h
 have := Qr (H.held p hp)
 omega
theorem Nu (w : World) (o : Obj) (k : Nat) (h : k < w.heap.size) : (w.alloc o).heap[k]? = w.heap[k]? := by
 show (w.heap.push o)[k]? = _
 rw [Array.getElem?_push, if_neg (by omega)]
theorem Bj (w : World) (o : Obj) : (w.alloc o).heap[w.heap.size]? = some o := by
 show (w.heap.push o)[w.heap.size]? = _
 simp
/-- A new block. -/
theorem Hp.alloc {w0 w : World} {L} (H : Hp w0 L w) (o : Obj) : Hp w0 ((w.heap.size, o) :: L) (w.alloc o) :=
 (H.same (w' := w.alloc o) rfl rfl rfl (by simp) (fun k hk => Nu w o k hk)).focus (Bj w o) (H.fresh (Nat.le_refl _))
/-- A block of no more interest, which w0 did not have. -/
theorem Hp.drop {w0 w : World} {L M : List (Nat × Obj)} (H : Hp w0 L w) (hs : M.Sublist L) (hn : ∀ p ∈ L, p ∉ M → w0.heap.size ≤ p.1) : Hp w0 M w := by
 refine ⟨H.os, H.tape, H.output, H.size, ?_, fun p hp => H.held p (hs.subset hp), (hs.map _).nodup H.nodup⟩
 intro k hk hk'
 refine H.old k hk fun h => ?_
 obtain ⟨p, hp, rfl⟩ := List.mem_map.1 h
 by_cases hm : p ∈ M
 ·exact hk' (List.mem_map_of_mem hm)
 ·have := hn p hp hm; omega
/-- A block that holds what it held. -/
theorem Hp.unfocus {w0 w : World} {L M : List (Nat × Obj)} (H : Hp w0 L w) (hs : M.Sublist L) (hn : ∀ p ∈ L, p ∉ M → w0.heap.size ≤ p.1 ∨ w0.heap[p.1]? = some p.2) : Hp w0 M w := by
 refine ⟨H.os, H.tape, H.output, H.size, ?_, fun p hp => H.held p (hs.subset hp), (hs.map _).nodup H.nodup⟩
 intro k hk hk'
 by_cases h : k ∈ L.map (·.1)
 ·obtain ⟨p, hp, rfl⟩ := List.mem_map.1 h
  by_cases hm : p ∈ M
  ·exact (hk' (List.mem_map_of_mem hm)).elim
  ·rcases hn p hp hm with h | h
   ·omega
   ·rw [H.held p hp, h]
 ·exact H.old k hk h
theorem Hp.perm {w0 w : World} {L M : List (Nat × Obj)} (H : Hp w0 L w) (hp : L.Perm M) : Hp w0 M w :=
 ⟨H.os, H.tape, H.output, H.size, fun k hk hn => H.old k hk (fun h => hn ((hp.map _).mem_iff.1 h)), fun p h => H.held p (hp.mem_iff.2 h), (hp.map _).nodup_iff.1 H.nodup⟩
/-- A row of changes behind a call, each at a block that is in sight, or a new one. -/
def okSeq (w : World) : List (Nat × Obj) → List (Nat × Obj) → List (Nat × Obj) → Prop
 | L, [], L' => L' = L
 | L, (b, o) :: M, L' => (∃ o0 f, At L b o0 f ∧ okSeq w (f o) M L') ∨ (w.heap.size ≤ b ∧ okSeq w ((b, o) :: L) M L')
theorem Yi {w : World} {L} : okSeq w L [] L := rfl
theorem Yh {w : World} {L b o o0 f M L'} (h : At L b o0 f) (k : okSeq w (f o) M L') : okSeq w L ((b, o) :: M) L' := .inl ⟨o0, f, h, k⟩
theorem okSeq_new {w : World} {L b o M L'} (h : w.heap.size ≤ b) (k : okSeq w ((b, o) :: L) M L') : okSeq w L ((b, o) :: M) L' := .inr ⟨h, k⟩
theorem okSeq_keys {w : World} : ∀ {M L L' : List (Nat × Obj)}, okSeq w L M L' → ∀ k, k ∈ L'.map (·.1) ↔ k ∈ L.map (·.1) ∨ k ∈ M.map (·.1)
 | [], L, L', h, k => by rw [show L' = L from h]; simp
 | (b, o) :: M, L, L', h, k => by
  rcases h with ⟨o0, f, hat, h⟩ | ⟨_, h⟩
  ·rw [okSeq_keys h k, hat.keys]
   have : b ∈ L.map (·.1) := List.mem_map_of_mem (f := (·.1)) hat.mem
   constructor
   ·rintro (h | h)
    ·exact .inl h
    ·exact .inr (by simp at h ⊢; exact .inr h)
   ·rintro (h | h)
    ·exact .inl h
    ·rcases List.mem_cons.1 (by simpa using h : k ∈ b :: M.map (·.1)) with rfl | h
     ·exact .inl this
     ·exact .inr h
  ·rw [okSeq_keys h k]
   simp only [List.map_cons, List.mem_cons]
   constructor
   ·rintro ((h | h) | h)
    ·exact .inr (.inl h)
    ·exact .inl h
    ·exact .inr (.inr h)
   ·rintro (h | h | h)
    ·exact .inl (.inr h)
    ·exact .inl (.inl h)
    ·exact .inr h
theorem okSeq_mem {w : World} : ∀ {M L L' : List (Nat × Obj)}, okSeq w L M L' → (L.map (·.1)).Nodup → (M.map (·.1)).Nodup → (∀ k ∈ L.map (·.1), k < w.heap.size ∨ k ∉ M.map (·.1)) →
  (L'.map (·.1)).Nodup ∧ ∀ p ∈ L', p ∈ M ∨ (p ∈ L ∧ p.1 ∉ M.map (·.1))
 | [], L, L', h, hL, _, _ => by rw [show L' = L from h]; exact ⟨hL, fun p hp => .inr ⟨hp, by simp⟩⟩
 | (b, o) :: M, L, L', h, hL, hM, hlt => by
  simp only [List.map_cons, List.nodup_cons] at hM
  rcases h with ⟨o0, f, hat, h⟩ | ⟨hb, h⟩
  ·have ih := okSeq_mem h (by rw [hat.keys]; exact hL) hM.2 (fun k hk => by rw [hat.keys] at hk; rcases hlt k hk with h | h; exact .inl h; exact .inr (fun h' => h (by simp at h' ⊢; exact .inr h')))
   refine ⟨ih.1, fun p hp => ?_⟩
   rcases ih.2 p hp with h | ⟨h, h'⟩
   ·exact .inl (.tail _ h)
   ·rcases hat.mem_set hL h with rfl | ⟨h1, h2⟩
    ·exact .inl (.head _)
    ·exact .inr ⟨h1, by simp only [List.map_cons, List.mem_cons, not_or]; exact ⟨h2, h'⟩⟩
  ·have hbL : b ∉ L.map (·.1) := fun hk => by
    rcases hlt b hk with h | h
    ·omega
    ·exact h (by simp)
   have hnd : (((b, o) :: L).map (·.1)).Nodup := List.nodup_cons.2 ⟨hbL, hL⟩
   have ih := okSeq_mem h hnd hM.2 (fun k hk => by
    rcases List.mem_cons.1 hk with rfl | hk
    ·exact .inr hM.1
    ·rcases hlt k hk with h | h
     ·exact .inl h
     ·exact .inr (fun h' => h (by simp at h' ⊢; exact .inr h')))
   refine ⟨ih.1, fun p hp => ?_⟩
   rcases ih.2 p hp with h | ⟨h, h'⟩
   ·exact .inl (.tail _ h)
   ·rcases List.mem_cons.1 h with rfl | h
    ·exact .inl (.head _)
    ·refine .inr ⟨h, ?_⟩
     simp only [List.map_cons, List.mem_cons, not_or]
     exact ⟨fun e => hbL (e ▸ List.mem_map_of_mem h), h'⟩
/-- Behind a call. -/
theorem Hp.seq {w0 w w' : World} {L M L' : List (Nat × Obj)} (H : Hp w0 L w) (H' : Hp w M w') (h : okSeq w L M L') : Hp w0 L' w' := by
 have hlt : ∀ k ∈ L.map (·.1), k < w.heap.size ∨ k ∉ M.map (·.1) := fun k hk => by
  obtain ⟨p, hp, rfl⟩ := List.mem_map.1 hk
  exact .inl (Qr (H.held p hp))
 have hm := okSeq_mem h H.nodup H'.nodup hlt
 refine ⟨H'.os.trans H.os, H'.tape.trans H.tape, H'.output.trans H.output, Nat.le_trans H.size H'.size, ?_, ?_, hm.1⟩
 ·intro k hk hn
  rw [okSeq_keys h k, not_or] at hn
  rw [H'.old k (Nat.lt_of_lt_of_le hk H.size) hn.2]
  exact H.old k hk hn.1
 ·intro p hp
  rcases hm.2 p hp with h | ⟨h, h'⟩
  ·exact H'.held p h
  ·rw [H'.old p.1 (Qr (H.held p h)) h']
   exact H.held p h
theorem Hp.seq0 {w0 w w' : World} {L : List (Nat × Obj)} (H : Hp w0 L w) (H' : Hp w [] w') : Hp w0 L w' := H.seq H' Yi
/-- What some blocks hold. -/
def Kp (L : List (Nat × Obj)) (w : World) : Prop := ∀ p ∈ L, w.heap[p.1]? = some p.2
theorem Hp.kp {w0 w : World} {L : List (Nat × Obj)} (H : Hp w0 L w) : Kp L w := H.held
theorem Kp.get {w : World} {L b o f} (H : Kp L w) (h : At L b o f) : w.heap[b]? = some o := H _ h.mem
theorem Kp.tail {w : World} {L p} (h : Kp (p :: L) w) : Kp L w := fun q hq => h q (.tail _ hq)
theorem Kp.sub {w : World} {L K : List (Nat × Obj)} (h : Kp L w) (hs : K ⊆ L) : Kp K w := fun q hq => h q (hs hq)
theorem Kp.nil {w : World} : Kp [] w := fun _ h => nomatch h
/-- A block that holds what it held is of no more interest. -/
theorem Hp.back {w0 w : World} {L : List (Nat × Obj)} {b : Nat} {o : Obj} (H : Hp w0 ((b, o) :: L) w) (hb : w0.heap[b]? = some o) : Hp w0 L w :=
 H.unfocus (List.sublist_cons_self _ _) fun p hp hn => by
  rcases List.mem_cons.1 hp with rfl | hp
  ·exact .inr hb
  ·exact (hn hp).elim
theorem Hp.swap2 {w0 w : World} {L : List (Nat × Obj)} {p q : Nat × Obj} (H : Hp w0 (p :: q :: L) w) : Hp w0 (q :: p :: L) w := H.perm (List.Perm.swap _ _ _)
end Go.Proofs.YtlpmfldijgdcoaaGreatDoor.Fx
namespace Go.Proofs.YtlpmfldijgdcoaaGreatDoor.Fx
open Go
section
variable {P : Program} {n : Nat} {ops : Array Oper} {kn : Env → World → Prop} {l : List Oper} {E : Env} {w0 w : World} {L : List (Nat × Obj)}
variable {d : Option Nat} {ty : TypeId} {pos : String} {after : Array Edge}
abbrev mk (d : Option Nat) (op : Op) (ty : TypeId) (pos : String) (after : Array Edge) : Oper := { dst := d, op := op, type := ty, pos := pos, after := after, guard := none }
/-! ### values alone -/
theorem Va {x : Operand} : (execOp (ev E) (mk d (.move x) ty pos after)).run P w = .ok (.value (ev E x)) w := by
 simp [execOp]
theorem R_as {x : Operand} : (execOp (ev E) (mk d (.assign x) ty pos after)).run P w = .ok (.value (ev E x)) w := by
 simp [execOp]
theorem R_pick {c a b : Operand} {t : Bool} {v : Value} (hc : ev E c = .bool t) (hv : (if t then ev E a else ev E b) = v)
  : (execOp (ev E) (mk d (.pick c a b) ty pos after)).run P w = .ok (.value (v)) w := by
 subst hv; simp [execOp, hc, asBool]
theorem Yw {op : BinOp} {t : TypeId} {x y : Operand} {k j : IntKind} {a b : Int} : (eqGuard op t x y (.int k a) (.int j b)).run P w = .ok () w := by
 unfold eqGuard
 cases op <;> rfl
theorem run_eqGuard_bool {op : BinOp} {t : TypeId} {x y : Operand} {a b : Bool} : (eqGuard op t x y (.bool a) (.bool b)).run P w = .ok () w := by
 unfold eqGuard
 cases op <;> rfl
/-- + - * on integers -/
theorem R_arith {op : BinOp} {t t' : TypeId} {x y : Operand} {k : IntKind} {a b r : Int} (hx : ev E x = .int k a) (hy : ev E y = .int k b)
  (hr : (Op.intArith op k a b).run P w = .ok (.int k r) w) (ho : op = .add ∨ op = .sub ∨ op = .mul)
  : (execOp (ev E) (mk d (.binOp op t x y t') ty pos after)).run P w = .ok (.value ((.int k r))) w := by
 rcases ho with rfl | rfl | rfl <;> simp [execOp, hx, hy, Yw, binOp, hr]
theorem Xg {t t' : TypeId} {x y : Operand} {k : IntKind} {a b r : Int} (hx : ev E x = .int k a) (hy : ev E y = .int k b) (hr : k.wrap (a + b) = r)
  : (execOp (ev E) (mk d (.binOp .add t x y t') ty pos after)).run P w = .ok (.value ((.int k r))) w :=
 R_arith hx hy (by subst hr; rfl) (.inl rfl)
theorem Vt {t t' : TypeId} {x y : Operand} {k : IntKind} {a b r : Int} (hx : ev E x = .int k a) (hy : ev E y = .int k b) (hr : k.wrap (a - b) = r)
  : (execOp (ev E) (mk d (.binOp .sub t x y t') ty pos after)).run P w = .ok (.value ((.int k r))) w :=
 R_arith hx hy (by subst hr; rfl) (.inr (.inl rfl))
theorem Bs {t t' : TypeId} {x y : Operand} {k : IntKind} {a b r : Int} (hx : ev E x = .int k a) (hy : ev E y = .int k b) (hr : k.wrap (a * b) = r)
  : (execOp (ev E) (mk d (.binOp .mul t x y t') ty pos after)).run P w = .ok (.value ((.int k r))) w :=
 R_arith hx hy (by subst hr; rfl) (.inr (.inr rfl))
/-- & | ^ &^ on integers -/
def Dn (op : BinOp) (k : IntKind) (x y : Int) : Int :=
 let a := BitVec.ofInt k.bits x
 let b := BitVec.ofInt k.bits y
 k.wrap ((match op with
  | .and => a &&& b
  | .or => a ||| b
  | .xor => a ^^^ b
  | _ => a &&& ~~~b : BitVec k.bits).toNat : Int)
theorem Zb {op : BinOp} {t t' : TypeId} {x y : Operand} {k : IntKind} {a b r : Int} (hx : ev E x = .int k a) (hy : ev E y = .int k b)
  (ho : op = .and ∨ op = .or ∨ op = .xor ∨ op = .andNot) (hr : Dn op k a b = r)
  : (execOp (ev E) (mk d (.binOp op t x y t') ty pos after)).run P w = .ok (.value ((.int k r))) w := by
 subst hr
 rcases ho with rfl | rfl | rfl | rfl <;> simp [execOp, hx, hy, Yw, binOp, Op.intBits, Dn]
theorem R_rem {t t' : TypeId} {x y : Operand} {k : IntKind} {a b r : Int} (hx : ev E x = .int k a) (hy : ev E y = .int k b) (hb : b ≠ 0) (hr : a.tmod b = r)
  : (execOp (ev E) (mk d (.binOp .rem t x y t') ty pos after)).run P w = .ok (.value ((.int k r))) w := by
 subst hr
 simp [execOp, hx, hy, Yw, binOp, Op.intDiv, hb]
/-- << and >> -/
theorem R_shl {t t' : TypeId} {x y : Operand} {k j : IntKind} {a b r : Int} (hx : ev E x = .int k a) (hy : ev E y = .int j b) (hb : 0 ≤ b) (hr : k.wrap (a * 2 ^ (min b.toNat k.bits)) = r)
  : (execOp (ev E) (mk d (.binOp .shl t x y t') ty pos after)).run P w = .ok (.value ((.int k r))) w := by
 subst hr
 have : ¬ b < 0 := by omega
 simp [execOp, hx, hy, Yw, binOp, Op.shift, this]
theorem R_shr {t t' : TypeId} {x y : Operand} {k j : IntKind} {a b r : Int} (hx : ev E x = .int k a) (hy : ev E y = .int j b) (hb : 0 ≤ b) (hr : a.fdiv (2 ^ (min b.toNat k.bits)) = r)
  : (execOp (ev E) (mk d (.binOp .shr t x y t') ty pos after)).run P w = .ok (.value ((.int k r))) w := by
 subst hr
 have : ¬ b < 0 := by omega
 simp [execOp, hx, hy, Yw, binOp, Op.shift, this]
/-- comparisons of integers: the Bool is that of a proposition -/
theorem Yk {t t' : TypeId} {x y : Operand} {k : IntKind} {a b : Int} (hx : ev E x = .int k a) (hy : ev E y = .int k b)
  : (execOp (ev E) (mk d (.binOp .eql t x y t') ty pos after)).run P w = .ok (.value ((.bool (decide (a = b))))) w := by
 simp [execOp, hx, hy, Yw, binOp, Op.intCmp]
 rfl
theorem Zu {t t' : TypeId} {x y : Operand} {k : IntKind} {a b : Int} (hx : ev E x = .int k a) (hy : ev E y = .int k b)
  : (execOp (ev E) (mk d (.binOp .neq t x y t') ty pos after)).run P w = .ok (.value ((.bool (decide (a ≠ b))))) w := by
 simp only [execOp, hx, hy, Yw, binOp, Op.intCmp, Sem.run_bind, Result.andThen_ok, ne_eq, not_true_eq_false, if_false, Sem.run_pure, bne, Bool.beq_eq_decide_eq, decide_not]
theorem Vb {t t' : TypeId} {x y : Operand} {k : IntKind} {a b : Int} (hx : ev E x = .int k a) (hy : ev E y = .int k b)
  : (execOp (ev E) (mk d (.binOp .lss t x y t') ty pos after)).run P w = .ok (.value ((.bool (decide (a < b))))) w := by
 simp [execOp, hx, hy, Yw, binOp, Op.intCmp]
theorem R_le {t t' : TypeId} {x y : Operand} {k : IntKind} {a b : Int} (hx : ev E x = .int k a) (hy : ev E y = .int k b)
  : (execOp (ev E) (mk d (.binOp .leq t x y t') ty pos after)).run P w = .ok (.value ((.bool (decide (a ≤ b))))) w := by
 simp [execOp, hx, hy, Yw, binOp, Op.intCmp]
theorem R_gt {t t' : TypeId} {x y : Operand} {k : IntKind} {a b : Int} (hx : ev E x = .int k a) (hy : ev E y = .int k b)
  : (execOp (ev E) (mk d (.binOp .gtr t x y t') ty pos after)).run P w = .ok (.value ((.bool (decide (b < a))))) w := by
 simp [execOp, hx, hy, Yw, binOp, Op.intCmp]
theorem Mi {t t' : TypeId} {x y : Operand} {k : IntKind} {a b : Int} (hx : ev E x = .int k a) (hy : ev E y = .int k b)
  : (execOp (ev E) (mk d (.binOp .geq t x y t') ty pos after)).run P w = .ok (.value ((.bool (decide (b ≤ a))))) w := by
 simp [execOp, hx, hy, Yw, binOp, Op.intCmp]
theorem R_not {t : TypeId} {x : Operand} {b : Bool} (hx : ev E x = .bool b)
  : (execOp (ev E) (mk d (.unOp .not t x) ty pos after)).run P w = .ok (.value ((.bool (!b)))) w := by
 simp [execOp, hx, Op.unary]
/-- from one kind of integers to another -/
theorem Xe {s t : TypeId} {x : Operand} {k j : IntKind} {a r : Int} (hs : P.underlying s = some (.int k)) (ht : P.underlying t = some (.int j)) (hx : ev E x = .int k a)
  (hr : j.wrap a = r)
  : (execOp (ev E) (mk d (.convert s t x) ty pos after)).run P w = .ok (.value ((.int j r))) w := by
 subst hr
 simp [execOp, hx, convert, run_underlying hs, run_underlying ht, Conv.intToInt]
theorem Qs {x : Operand} {i : Nat} {vs : Array Value} {v : Value} (hx : ev E x = .tuple vs) (hv : vs[i]? = some v)
  : (execOp (ev E) (mk d (.extract x i) ty pos after)).run P w = .ok (.value (v)) w := by
 simp [execOp, hx, Instr.extract, hv]
theorem R_makeFunc {fn : Fn} {first captured : Array Operand} {v : Value} (hv : Value.func fn (first.map (ev E)) (captured.map (ev E)) = v)
  : (execOp (ev E) (mk d (.makeFunc fn first captured) ty pos after)).run P w = .ok (.value (v)) w := by
 subst hv
 simp [execOp, Instr.makeFunc]
theorem Qf {x : Operand} {a : Addr} (hx : ev E x = .pointer (some a))
  : (execOp (ev E) (mk d (.nilCheck x) ty pos after)).run P w = .ok (.value ((.pointer (some a)))) w := by
 simp [execOp, hx]
end
end Go.Proofs.YtlpmfldijgdcoaaGreatDoor.Fx
namespace Go.Proofs.YtlpmfldijgdcoaaGreatDoor.Fx
open Go
abbrev blk (l : List Value) (e : TypeId) : Obj := .cells l.toArray e (0, 0)
abbrev ptr (b off : Nat) : Value := .pointer (some ⟨b, off, none⟩)
abbrev sl (b off len cap : Nat) : Value := .slice (some ⟨b, off, none⟩) len cap
abbrev nilS : Value := .slice none 0 0
theorem Zq (b off k : Nat) : (⟨b, off, none⟩ : Addr).add k = ⟨b, off + k, none⟩ := by
 unfold Addr.add; split <;> simp_all
theorem Uf {w : World} {b : Nat} {l : List Value} {e : TypeId} {fz : Nat × Nat} (h : w.heap[b]? = some (.cells l.toArray e fz)) (k : Nat) : w.cell? ⟨b, k, none⟩ = l[k]? := by
 simp [World.cell?, h]
theorem frozen_blk {w : World} {b : Nat} {l : List Value} {e : TypeId} (h : w.heap[b]? = some (blk l e)) (k : Nat) : w.frozen? ⟨b, k, none⟩ = false := by
 simp [World.frozen?, h]
section
variable {P : Program} {n : Nat} {ops : Array Oper} {kn : Env → World → Prop} {l : List Oper} {E : Env} {w0 w : World} {L : List (Nat × Obj)}
variable {d : Option Nat} {ty : TypeId} {pos : String} {after : Array Edge}
/-! ### load, store -/
theorem Qx {t : TypeId} {x : Operand} {a : Addr} {v : Value} (hA : ∀ w, (isAgg t).run P w = .ok false w) (hx : ev E x = .pointer (some a))
  (hc : w.cell? a = some v)
  : (execOp (ev E) (mk d (.load t x) ty pos after)).run P w = .ok (.value (v)) w := by
 simp [execOp, hx, Instr.loadAt, Instr.sureAddr, loadVar, hA, hc]
theorem Qe {t : TypeId} {x : Operand} {b off : Nat} {v : Value} {c : List Value} {e : TypeId} {fz : Nat × Nat} (hA : ∀ w, (isAgg t).run P w = .ok false w) (hx : ev E x = ptr b off)
  (hb : w.heap[b]? = some (.cells c.toArray e fz)) (hc : c[off]? = some v)
  : (execOp (ev E) (mk d (.load t x) ty pos after)).run P w = .ok (.value (v)) w :=
 Qx hA hx (by rw [Uf hb]; exact hc)
theorem run_loadAgg {t : TypeId} {b off sz : Nat} {vs : List Value} (hA : ∀ w, (isAgg t).run P w = .ok true w) (hS : ∀ w, (sizeOf t).run P w = .ok sz w)
  (hc : ∀ j v, vs[j]? = some v → w.cell? ⟨b, off + j, none⟩ = some v) (hl : vs.length = sz) : (loadVar t ⟨b, off, none⟩).run P w = .ok (.agg vs.toArray) w := by
 subst hl
 have := run_loadCells_list (P := P) w ⟨b, off, none⟩ vs (fun j v hj => by rw [Zq]; exact hc j v hj)
 simp [loadVar, hA, hS, this]
theorem Qo {t : TypeId} {x : Operand} {b off sz : Nat} {vs c : List Value} {e : TypeId} {fz : Nat × Nat} (hA : ∀ w, (isAgg t).run P w = .ok true w) (hS : ∀ w, (sizeOf t).run P w = .ok sz w) (hx : ev E x = ptr b off)
  (hb : w.heap[b]? = some (.cells c.toArray e fz)) (hc : (c.drop off).take sz = vs) (hl : off + sz ≤ c.length)
  : (execOp (ev E) (mk d (.load t x) ty pos after)).run P w = .ok (.value ((.agg vs.toArray))) w := by
 have := run_loadAgg (w := w) (b := b) (off := off) (vs := vs) hA hS (fun j v hj => by
  rw [Uf hb]
  subst hc
  rw [List.getElem?_take] at hj
  split at hj
  ·rwa [List.getElem?_drop] at hj
  ·cases hj) (by subst hc; simp; omega)
 simp [execOp, hx, Instr.loadAt, Instr.sureAddr, this]
theorem heap_setCell_other (w : World) (a : Addr) (k : Nat) (v : Value) (h : k ≠ a.block) : (w.setCell a v).heap[k]? = w.heap[k]? := by
 simp only [World.setCell, Array.getElem?_modify]
 rw [if_neg (by omega)]
theorem Hp.setCell {b off : Nat} {c : List Value} {e : TypeId} {f} (H : Hp w0 L w) (hL : At L b (blk c e) f) (v : Value) : Hp w0 (f (blk (c.set off v) e)) (w.setCell ⟨b, off, none⟩ v) := by
 refine H.put hL rfl rfl rfl (by simp) (fun k _ hk => heap_setCell_other _ _ _ _ hk) ?_
 have hb := H.get hL
 simp [World.setCell, Array.getElem?_modify, hb]
theorem Qz {t : TypeId} {x y : Operand} {b off : Nat} {v : Value} {c : List Value} {e : TypeId} {f} (H : Hp w0 L w) (hS : ∀ w, (sizeOf t).run P w = .ok 1 w) (hx : ev E x = ptr b off) (hy : ev E y = v)
  (hv : v.oneCell' = true) (hL : At L b (blk c e) f) (hc : off < c.length)
  : ∃ w', Hp w0 (f (blk (c.set off v) e)) w' ∧ (execOp (ev E) (mk d (.store t x y) ty pos after)).run P w = .ok .skip w' := by
 have hcell : w.cell? ⟨b, off, none⟩ = some c[off] := by rw [Uf (H.get hL)]; exact List.getElem?_eq_getElem hc
 have hfro := frozen_blk (H.get hL) off
 have hcs : v.cells = #[v] := by cases v <;> first | rfl | cases hv
 have hrun : (execOp (ev E) (mk d (.store t x y) ty pos after)).run P w = .ok .skip (w.setCell ⟨b, off, none⟩ v) := by
  have hst := run_store P w ⟨b, off, none⟩ v .plain hv
  rw [hcell, hfro] at hst
  simp [execOp, hx, hy, Instr.storeAt, Instr.sureAddr, storeVar, hS, hcs, storeCells, Zq, hst]
 exact ⟨_, H.setCell hL v, hrun⟩
theorem Hp.setRow {b : Nat} {c c' : List Value} {e : TypeId} {f} (H : Hp w0 L w) (hL : At L b (blk c e) f) : Hp w0 (f (blk c' e)) (w.setRow b c'.toArray) := by
 refine H.put hL rfl rfl rfl (by simp) (fun k _ hk => ?_) ?_
 ·simp only [World.setRow, Array.getElem?_modify]
  rw [if_neg (by omega)]
 ·have hb := H.get hL
  simp [World.setRow, Array.getElem?_modify, hb]
theorem Qg {t : TypeId} {x y : Operand} {b off : Nat} {vs c : List Value} {e : TypeId} {f} (H : Hp w0 L w) (hS : ∀ w, (sizeOf t).run P w = .ok vs.length w) (hx : ev E x = ptr b off) (hy : ev E y = .agg vs.toArray)
  (hv : ∀ v ∈ vs, v.oneCell' = true) (hL : At L b (blk c e) f) (hc : off + vs.length ≤ c.length)
  : ∃ w', Hp w0 (f (blk (c.take off ++ vs ++ c.drop (off + vs.length)) e)) w' ∧ (execOp (ev E) (mk d (.store t x y) ty pos after)).run P w = .ok .skip w' := by
 have hst := run_storeCells_at P b off e vs 0 c.toArray w (H.get hL) (by simpa using hc) hv
 have hrun : (execOp (ev E) (mk d (.store t x y) ty pos after)).run P w = .ok .skip (w.setRow b (c.take off ++ vs ++ c.drop (off + vs.length)).toArray) := by
  simp only [Nat.add_zero] at hst
  simp [execOp, hx, hy, Instr.storeAt, Instr.sureAddr, storeVar, hS, Value.cells, hst]
 exact ⟨_, H.setRow hL, hrun⟩
/-! ### new blocks -/
theorem E_new {o : Oper} {v : Nat → Value} {ob : Obj} (H : Hp w0 L w) (hr : (execOp (ev E) o).run P w = .ok (.value (v w.heap.size)) (w.alloc ob)) :
  ∃ b w', w0.heap.size ≤ b ∧ Hp w0 ((b, ob) :: L) w' ∧ (execOp (ev E) o).run P w = .ok (.value (v b)) w' :=
 ⟨_, _, H.size, H.alloc ob, hr⟩
theorem Xl {t : TypeId} {x : Operand} {v : Value} {vs : List Value} (H : Hp w0 L w) (hx : ev E x = v) (hv : v.cells = vs.toArray) :
  ∃ b w', w0.heap.size ≤ b ∧ Hp w0 ((b, blk vs t) :: L) w' ∧ (execOp (ev E) (mk d (.box t x) ty pos after)).run P w = .ok (.value (ptr b 0)) w' :=
 E_new (v := fun b => ptr b 0) H (by subst hx; simp [execOp, Instr.box, newVar, newRow, hv])
theorem Qp {t : TypeId} {v : Value} {vs : List Value} (H : Hp w0 L w) (hZ : ∀ w, (zeroValue t).run P w = .ok v w) (hv : v.cells = vs.toArray) :
  ∃ b w', w0.heap.size ≤ b ∧ Hp w0 ((b, blk vs t) :: L) w' ∧ (execOp (ev E) (mk d (.alloc t) ty pos after)).run P w = .ok (.value (ptr b 0)) w' :=
 E_new (v := fun b => ptr b 0) H (by simp [execOp, Instr.alloc, hZ, newVar, newRow, hv])
/-! ### addresses, fields, elements -/
theorem Qa {s : TypeId} {x : Operand} {b off off' sz i : Nat} {fields : Array Field} {fd : Field} (hs : P.underlying s = some (.struct fields)) (hf : fields[i]? = some fd)
  (hS : ∀ w, (sizeOf fd.type).run P w = .ok sz w) (h0 : sz ≠ 0) (hx : ev E x = ptr b off) (hr : off + fd.offset = off')
  : (execOp (ev E) (mk d (.fieldAddr s x i) ty pos after)).run P w = .ok (.value ((ptr b off'))) w := by
 subst hr
 simp [execOp, hx, Instr.fieldAt, run_underlying hs, hf, Instr.sureAddr, fieldPlace, hS, h0, Zq]
theorem R_field {s : TypeId} {x : Operand} {i : Nat} {cs : List Value} {v : Value} {fields : Array Field} {fd : Field} (hs : P.underlying s = some (.struct fields)) (hf : fields[i]? = some fd)
  (hA : ∀ w, (isAgg fd.type).run P w = .ok false w) (hx : ev E x = .agg cs.toArray) (hv : cs[fd.offset]? = some v)
  : (execOp (ev E) (mk d (.field s x i) ty pos after)).run P w = .ok (.value (v)) w := by
 simp [execOp, hx, Instr.field, run_underlying hs, hf, part, hA, asAgg, hv]
theorem Qj {t elem : TypeId} {x y : Operand} {b off len cap off' sz : Nat} {k : IntKind} {i : Int} (ht : P.underlying t = some (.slice elem)) (hS : ∀ w, (sizeOf elem).run P w = .ok sz w)
  (hx : ev E x = sl b off len cap) (hy : ev E y = .int k i) (h0 : 0 ≤ i) (h1 : i < len) (hr : off + i.toNat * sz = off')
  : (execOp (ev E) (mk d (.indexAddr t x y) ty pos after)).run P w = .ok (.value ((ptr b off'))) w := by
 subst hr
 simp [execOp, hx, hy, Instr.indexAt, asIntOf, run_underlying ht, h0, h1, hS, Zq]
theorem Yq {t elem : TypeId} {x y : Operand} {b off len off' sz : Nat} {k : IntKind} {i : Int} (ht : P.underlying t = some (.array len elem)) (hS : ∀ w, (sizeOf elem).run P w = .ok sz w)
  (hx : ev E x = ptr b off) (hy : ev E y = .int k i) (h0 : 0 ≤ i) (h1 : i < len) (hr : off + i.toNat * sz = off')
  : (execOp (ev E) (mk d (.indexAddr t x y) ty pos after)).run P w = .ok (.value ((ptr b off'))) w := by
 subst hr
 simp [execOp, hx, hy, Instr.indexAt, Instr.sureAddr, asIntOf, run_underlying ht, h0, h1, hS, Zq]
theorem R_index {t elem : TypeId} {x y : Operand} {len sz : Nat} {k : IntKind} {i : Int} {cs : List Value} {v : Value} (ht : P.underlying t = some (.array len elem)) (hA : ∀ w, (isAgg elem).run P w = .ok false w) (hS : ∀ w, (sizeOf elem).run P w = .ok sz w)
  (hx : ev E x = .agg cs.toArray) (hy : ev E y = .int k i) (h0 : 0 ≤ i) (h1 : i < len) (hv : cs[i.toNat * sz]? = some v)
  : (execOp (ev E) (mk d (.index t x y) ty pos after)).run P w = .ok (.value (v)) w := by
 simp [execOp, hx, hy, Instr.index, asIntOf, run_underlying ht, h0, h1, hS, part, hA, hv]
theorem R_indexS {t : TypeId} {x y : Operand} {k : IntKind} {i : Int} {s : ByteArray} {u : UInt8} (ht : P.underlying t = some .string)
  (hx : ev E x = .string s) (hy : ev E y = .int k i) (h0 : 0 ≤ i) (hv : s.data[i.toNat]? = some u)
  : (execOp (ev E) (mk d (.index t x y) ty pos after)).run P w = .ok (.value ((.int .u8 u.toNat))) w := by
 have hv' : s[i.toNat]? = some u := by
  obtain ⟨hlt, he⟩ := Array.getElem?_eq_some_iff.1 hv
  rw [getElem?_pos s i.toNat hlt]
  exact congrArg some he
 simp [execOp, hx, hy, Instr.index, asIntOf, run_underlying ht, h0, hv']
/-! ### slices of slices -/
theorem Ye {k : IntKind} {i : Int} {y : Nat} {code : BoundsCode} (h0 : 0 ≤ i) (h1 : i ≤ y) : (Instr.sliceBound (.int k i) y code).run P w = .ok i.toNat w := by
 simp [Instr.sliceBound, asIntOf, h0, h1]
/-- the bounds, and what they are when they are left out -/
inductive Bd (E : Env) : Option Operand → Int → Int → Prop
 | none {dflt} : Bd E none dflt dflt
 | some {x k i dflt} : ev E x = .int k i → Bd E (some x) dflt i
theorem Bq {t elem : TypeId} {x : Operand} {lo hi : Option Operand} {b off len cap off' sz : Nat} {i j : Int} (ht : P.underlying t = some (.slice elem)) (hS : ∀ w, (sizeOf elem).run P w = .ok sz w)
  (hx : ev E x = sl b off len cap) (hlo : Bd E lo 0 i) (hhi : Bd E hi len j) (hlc : len ≤ cap) (h0 : 0 ≤ i) (h1 : i ≤ j) (h2 : j ≤ cap) (hne : i = 0 ∨ i < cap) (hr : off + i.toNat * sz = off')
  : (execOp (ev E) (mk d (.slice t x lo hi none) ty pos after)).run P w = .ok (.value ((sl b off' (j - i).toNat (cap - i).toNat))) w := by
 subst hr
 have hb : (Instr.sliceBounds true len cap (lo.map (ev E)) (hi.map (ev E)) none).run P w = .ok (i.toNat, j.toNat, cap) w := by
  cases hlo with
  | none =>
   cases hhi with
   | none => simp [Instr.sliceBounds]
   | some hh => simp [Instr.sliceBounds, hh, Ye (P := P) (w := w) (code := .sliceAcap) (show 0 ≤ j by omega) h2]
  | some hl =>
   cases hhi with
   | none => simp [Instr.sliceBounds, hl, Ye (P := P) (w := w) (code := .sliceB) h0 h1]
   | some hh => simp [Instr.sliceBounds, hl, hh, Ye (P := P) (w := w) (code := .sliceAcap) (show 0 ≤ j by omega) h2, Ye (P := P) (w := w) (code := .sliceB) (y := j.toNat) h0 (by omega)]
 have ha : (if cap = i.toNat then some (⟨b, off, none⟩ : Addr) else some ⟨b, off + i.toNat * sz, none⟩) = some ⟨b, off + i.toNat * sz, none⟩ := by
  split
  ·rename_i hc
   rcases hne with rfl | hne
   ·simp
   ·omega
  ·rfl
 have e1 : j.toNat - i.toNat = (j - i).toNat := by omega
 have e2 : cap - i.toNat = (cap - i).toNat := by omega
 simp [execOp, hx, Instr.sliceAt, Instr.slice, run_underlying ht, hb, hS, Zq, ha, e1, e2]
/-- the whole array, or a part of it -/
theorem R_sliceArr {t elem : TypeId} {x : Operand} {lo hi : Option Operand} {b off m off' sz : Nat} {i j : Int} (ht : P.underlying t = some (.array m elem)) (hS : ∀ w, (sizeOf elem).run P w = .ok sz w)
  (hx : ev E x = ptr b off) (hlo : Bd E lo 0 i) (hhi : Bd E hi m j) (h0 : 0 ≤ i) (h1 : i ≤ j) (h2 : j ≤ m) (hne : i = 0 ∨ i < m) (hr : off + i.toNat * sz = off')
  : (execOp (ev E) (mk d (.slice t x lo hi none) ty pos after)).run P w = .ok (.value ((sl b off' (j - i).toNat (m - i).toNat))) w := by
 subst hr
 have hb : (Instr.sliceBounds false m m (lo.map (ev E)) (hi.map (ev E)) none).run P w = .ok (i.toNat, j.toNat, m) w := by
  cases hlo with
  | none =>
   cases hhi with
   | none => simp [Instr.sliceBounds]
   | some hh => simp [Instr.sliceBounds, hh, Ye (P := P) (w := w) (code := .sliceAlen) (show 0 ≤ j by omega) h2]
  | some hl =>
   cases hhi with
   | none => simp [Instr.sliceBounds, hl, Ye (P := P) (w := w) (code := .sliceB) h0 h1]
   | some hh => simp [Instr.sliceBounds, hl, hh, Ye (P := P) (w := w) (code := .sliceAlen) (show 0 ≤ j by omega) h2, Ye (P := P) (w := w) (code := .sliceB) (y := j.toNat) h0 (by omega)]
 have ha : (if m = i.toNat then (⟨b, off, none⟩ : Addr) else ⟨b, off + i.toNat * sz, none⟩) = ⟨b, off + i.toNat * sz, none⟩ := by
  split
  ·rename_i hc
   rcases hne with rfl | hne
   ·simp
   ·omega
  ·rfl
 have e1 : j.toNat - i.toNat = (j - i).toNat := by omega
 have e2 : m - i.toNat = (m - i).toNat := by omega
 simp [execOp, hx, Instr.sliceAt, Instr.sureAddr, run_underlying ht, hb, hS, Zq, ha, e1, e2]
end
end Go.Proofs.YtlpmfldijgdcoaaGreatDoor.Fx
namespace Go.Proofs.YtlpmfldijgdcoaaGreatDoor.Fx
open Go
section
variable {P : Program} {n : Nat} {ops : Array Oper} {kn : Env → World → Prop} {l : List Oper} {E : Env} {w0 w : World} {L : List (Nat × Obj)}
variable {d : Option Nat} {ty : TypeId} {pos : String} {after : Array Edge}
abbrev bi (b : Builtin) (args : Array Operand) (ts : Array TypeId) : Op := .call { callee := .builtin b, args := args, argTypes := ts }
/-! ### len, min, max -/
theorem Qh {t elem : TypeId} {x : Operand} {a : Option Addr} {len cap : Nat} (ht : P.underlying t = some (.slice elem)) (hx : ev E x = .slice a len cap)
  : (execOp (ev E) (mk d (bi .len #[x] #[t]) ty pos after)).run P w = .ok (.value ((.int .i64 len))) w := by
 simp [execOp, resolve, invoke, builtin, hx, Builtin.len_, run_underlying ht, goInt]
theorem R_len_string {t : TypeId} {x : Operand} {s : ByteArray} (ht : P.underlying t = some .string) (hx : ev E x = .string s)
  : (execOp (ev E) (mk d (bi .len #[x] #[t]) ty pos after)).run P w = .ok (.value ((.int .i64 s.size))) w := by
 simp [execOp, resolve, invoke, builtin, hx, Builtin.len_, run_underlying ht, goInt]
theorem Nn {ts : Array TypeId} {x y : Operand} {k j : IntKind} {a b r : Int} (hx : ev E x = .int k a) (hy : ev E y = .int j b) (hr : min a b = r)
  : (execOp (ev E) (mk d (bi .min #[x, y] ts) ty pos after)).run P w = .ok (.value ((.int k r))) w := by
 subst hr
 simp [execOp, resolve, invoke, builtin, hx, hy, Builtin.min_, Builtin.min2]
 omega
theorem Mz {ts : Array TypeId} {x y : Operand} {k j : IntKind} {a b r : Int} (hx : ev E x = .int k a) (hy : ev E y = .int j b) (hr : max a b = r)
  : (execOp (ev E) (mk d (bi .max #[x, y] ts) ty pos after)).run P w = .ok (.value ((.int k r))) w := by
 subst hr
 simp [execOp, resolve, invoke, builtin, hx, hy, Builtin.max_, Builtin.max2]
 omega
/-! ### a call of a function -/
abbrev callOf (f : Operand) (args : Array Operand) (ts : Array TypeId) : Op := .call { callee := .value f, args := args, argTypes := ts }
theorem run_call {f : FuncId} {args : Array Operand} {ts : Array TypeId} {first captured : Array Value} {x : Operand} (hx : ev E x = .func (.func f) first captured)
  (hf : ∀ as w, (callFunc f as).run P w = .ok (.enter f as) w) :
  (execOp (ev E) (mk d (callOf x args ts) ty pos after)).run P w = .ok (.enter f (first ++ args.map (ev E) ++ captured)) w := by
 simp [execOp, resolve, Deferred.ofValue, hx, invoke, hf]
/-- A call: the contract's arguments are what stands in the slots. -/
theorem Qw {f : FuncId} {args : Array Operand} {ts : Array TypeId} {first captured : Array Value} {x : Operand} {as : List Value}
  (hx : ev E x = .func (.func f) first captured) (hf : ∀ as w, (callFunc f as).run P w = .ok (.enter f as) w)
  (ha : first.toList ++ args.toList.map (ev E) ++ captured.toList = as) : (execOp (ev E) (mk d (callOf x args ts) ty pos after)).run P w = .ok (.enter f as.toArray) w := by
 rw [run_call hx hf]
 have : first ++ args.map (ev E) ++ captured = as.toArray := by
  subst ha
  apply Array.ext'
  simp
 rw [this]
/-! ### equality besides that of integers -/
theorem R_eqv {t t' : TypeId} {x y : Operand} {a b : Value} {r : Bool} (hx : ev E x = a) (hy : ev E y = b) (hg : (eqGuard .eql t x y a b).run P w = .ok () w)
  (hr : (binOp .eql t a b).run P w = .ok (.bool r) w)
  : (execOp (ev E) (mk d (.binOp .eql t x y t') ty pos after)).run P w = .ok (.value ((.bool r))) w := by
 simp [execOp, hx, hy, hg, hr]
theorem R_nev {t t' : TypeId} {x y : Operand} {a b : Value} {r : Bool} (hx : ev E x = a) (hy : ev E y = b) (hg : (eqGuard .neq t x y a b).run P w = .ok () w)
  (hr : (binOp .neq t a b).run P w = .ok (.bool r) w)
  : (execOp (ev E) (mk d (.binOp .neq t x y t') ty pos after)).run P w = .ok (.value ((.bool r))) w := by
 simp [execOp, hx, hy, hg, hr]
theorem Uu {op : BinOp} {t : TypeId} {x y : Operand} {a b : Option Addr} : (eqGuard op t x y (.pointer a) (.pointer b)).run P w = .ok () w := by
 unfold eqGuard; cases op <;> rfl
theorem Mt {op : BinOp} {t : TypeId} {x y : Operand} {a b : Option Addr} {n1 n2 m1 m2 : Nat} : (eqGuard op t x y (.slice a n1 n2) (.slice b m1 m2)).run P w = .ok () w := by
 unfold eqGuard; cases op <;> rfl
theorem run_eqGuard_str {op : BinOp} {t : TypeId} {x y : Operand} {a b : ByteArray} : (eqGuard op t x y (.string a) (.string b)).run P w = .ok () w := by
 unfold eqGuard; cases op <;> rfl
theorem run_eqGuard_fn {op : BinOp} {t : TypeId} {x y : Operand} {f : Fn} {a b : Array Value} : (eqGuard op t x y (.func f a b) .nilFunc).run P w = .ok () w := by
 unfold eqGuard; cases op <;> rfl
theorem Uz {t : TypeId} {a b : Value} {r : Bool} (h : ∀ k, (Op.equalIn (k + 1) t a b).run P w = .ok r w) : (Op.equal t a b).run P w = .ok r w := by
 unfold Op.equal Op.maxDepth
 exact h 9999
theorem eqIn_ptr_nil {t e : TypeId} {a : Addr} (ht : P.underlying t = some (.pointer e)) (k : Nat) : (Op.equalIn (k + 1) t (.pointer (some a)) (.pointer none)).run P w = .ok false w := by
 simp [Op.equalIn, run_underlying ht]
theorem eqIn_nil_nil {t e : TypeId} (ht : P.underlying t = some (.pointer e)) (k : Nat) : (Op.equalIn (k + 1) t (.pointer none) (.pointer none)).run P w = .ok true w := by
 simp [Op.equalIn, run_underlying ht]
theorem eqIn_fn {t : TypeId} {ps rs : Array TypeId} {v : Bool} {f : Fn} {a b : Array Value} (ht : P.underlying t = some (.func ps rs v)) (k : Nat) : (Op.equalIn (k + 1) t (.func f a b) .nilFunc).run P w = .ok false w := by
 simp [Op.equalIn, run_underlying ht]
theorem eqIn_bool {t : TypeId} {a b : Bool} (ht : P.underlying t = some .bool) (k : Nat) : (Op.equalIn (k + 1) t (.bool a) (.bool b)).run P w = .ok (decide (a = b)) w := by
 simp only [Op.equalIn, Sem.run_bind, run_underlying ht, Result.andThen_ok, Sem.run_pure]
 cases a <;> cases b <;> rfl
theorem eqIn_slice_nil {t e : TypeId} {a : Addr} {n1 n2 m1 m2 : Nat} (ht : P.underlying t = some (.slice e)) (k : Nat) : (Op.equalIn (k + 1) t (.slice (some a) n1 n2) (.slice none m1 m2)).run P w = .ok false w := by
 simp [Op.equalIn, run_underlying ht]
theorem eqIn_nils_nil {t e : TypeId} {n1 n2 m1 m2 : Nat} (ht : P.underlying t = some (.slice e)) (k : Nat) : (Op.equalIn (k + 1) t (.slice none n1 n2) (.slice none m1 m2)).run P w = .ok true w := by
 simp [Op.equalIn, run_underlying ht]
/-- a pointer beside nil -/
theorem Vx {t t' e : TypeId} {x y : Operand} {a : Addr} (ht : P.underlying t = some (.pointer e)) (hx : ev E x = .pointer (some a)) (hy : ev E y = .pointer none)
  : (execOp (ev E) (mk d (.binOp .eql t x y t') ty pos after)).run P w = .ok (.value ((.bool false))) w :=
 R_eqv hx hy Uu (by simp only [binOp, Sem.run_bind, Uz (eqIn_ptr_nil ht), Result.andThen_ok, Sem.run_pure])
theorem Br {t t' e : TypeId} {x y : Operand} {a : Addr} (ht : P.underlying t = some (.pointer e)) (hx : ev E x = .pointer (some a)) (hy : ev E y = .pointer none)
  : (execOp (ev E) (mk d (.binOp .neq t x y t') ty pos after)).run P w = .ok (.value ((.bool true))) w :=
 R_nev hx hy Uu (by simp only [binOp, Sem.run_bind, Uz (eqIn_ptr_nil ht), Result.andThen_ok, Sem.run_pure, Bool.not_false])
theorem R_eq_nil_nil {t t' e : TypeId} {x y : Operand} (ht : P.underlying t = some (.pointer e)) (hx : ev E x = .pointer none) (hy : ev E y = .pointer none)
  : (execOp (ev E) (mk d (.binOp .eql t x y t') ty pos after)).run P w = .ok (.value ((.bool true))) w :=
 R_eqv hx hy Uu (by simp only [binOp, Sem.run_bind, Uz (eqIn_nil_nil ht), Result.andThen_ok, Sem.run_pure])
theorem R_ne_nil_nil {t t' e : TypeId} {x y : Operand} (ht : P.underlying t = some (.pointer e)) (hx : ev E x = .pointer none) (hy : ev E y = .pointer none)
  : (execOp (ev E) (mk d (.binOp .neq t x y t') ty pos after)).run P w = .ok (.value ((.bool false))) w :=
 R_nev hx hy Uu (by simp only [binOp, Sem.run_bind, Uz (eqIn_nil_nil ht), Result.andThen_ok, Sem.run_pure, Bool.not_true])
/-- a function beside nil -/
theorem Vy {t t' : TypeId} {ps rs : Array TypeId} {v : Bool} {x y : Operand} {f : Fn} {a b : Array Value} (ht : P.underlying t = some (.func ps rs v)) (hx : ev E x = .func f a b) (hy : ev E y = .nilFunc)
  : (execOp (ev E) (mk d (.binOp .eql t x y t') ty pos after)).run P w = .ok (.value ((.bool false))) w :=
 R_eqv hx hy run_eqGuard_fn (by simp only [binOp, Sem.run_bind, Uz (eqIn_fn ht), Result.andThen_ok, Sem.run_pure])
theorem R_ne_bool {t t' : TypeId} {x y : Operand} {a b : Bool} (ht : P.underlying t = some .bool) (hx : ev E x = .bool a) (hy : ev E y = .bool b)
  : (execOp (ev E) (mk d (.binOp .neq t x y t') ty pos after)).run P w = .ok (.value ((.bool (decide (a ≠ b))))) w :=
 R_nev (r := decide (a ≠ b)) hx hy run_eqGuard_bool (by simp only [binOp, Sem.run_bind, Uz (eqIn_bool ht), Result.andThen_ok, Sem.run_pure, ne_eq, decide_not])
theorem beq_bytes (a b : ByteArray) : (a.toList == b.toList) = decide (a.data.toList = b.data.toList) := by
 rw [ByteArray.toList_eq, ByteArray.toList_eq, Bool.beq_eq_decide_eq]
theorem R_ne_str {t t' : TypeId} {x y : Operand} {a b : ByteArray} (hx : ev E x = .string a) (hy : ev E y = .string b)
  : (execOp (ev E) (mk d (.binOp .neq t x y t') ty pos after)).run P w = .ok (.value ((.bool (decide (a.data.toList ≠ b.data.toList))))) w :=
 R_nev (r := decide (a.data.toList ≠ b.data.toList)) hx hy run_eqGuard_str (by simp only [binOp, Op.stringOp, beq_bytes, Sem.run_pure, ne_eq, decide_not])
theorem R_cat {t t' : TypeId} {x y : Operand} {a b r : ByteArray} (hx : ev E x = .string a) (hy : ev E y = .string b) (hl : a.size + b.size ≤ 9223372036854775807) (hr : a ++ b = r)
  : (execOp (ev E) (mk d (.binOp .add t x y t') ty pos after)).run P w = .ok (.value ((.string r))) w := by
 subst hr
 have : ¬ (9223372036854775807 < (a.size : Int) + (b.size : Int)) := by omega
 simp [execOp, hx, hy, run_eqGuard_str, binOp, Op.stringOp, IntKind.max, IntKind.signed, IntKind.bits, this]
end
end Go.Proofs.YtlpmfldijgdcoaaGreatDoor.Fx
namespace Go.Proofs.YtlpmfldijgdcoaaGreatDoor.Fx
open Go
section
variable {P : Program} {E : Env} {w0 w : World} {L : List (Nat × Obj)}
variable {d : Option Nat} {ty : TypeId} {pos : String} {after : Array Edge}
/-! ### values of structs and arrays -/
theorem Nb {t : TypeId} {parts : Array (Nat × Operand)} {ps : List (Nat × Value)} {vs : List Value} (hp : parts.toList.map (fun p => (p.1, ev E p.2)) = ps)
  (hb : P.built t ps = some vs.toArray) : (execOp (ev E) (mk d (.build t parts) ty pos after)).run P w = .ok (.value (.agg vs.toArray)) w := by
 have := run_build (P := P) w t (parts.map fun (i, x) => (i, ev E x)) vs.toArray (by subst hp; simpa using hb)
 simp [execOp, this]
/-! ### new rows -/
theorem zeros_eq (zs : List Value) (c : Nat) : ((Array.range (c * zs.length)).map (zs.toArray[· % zs.toArray.size]!)) = (List.replicate c zs).flatten.toArray := by
 apply Array.ext
 ·simp
 ·intro i h1 h2
  have hi : i < c * zs.length := by simpa using h1
  have hz : 0 < zs.length := by
   rcases Nat.eq_zero_or_pos zs.length with h | h
   ·rw [h] at hi; simp at hi
   ·exact h
  have key : ∀ (c i : Nat), i < c * zs.length → (List.replicate c zs).flatten[i]? = zs[i % zs.length]? := by
   intro c
   induction c with
   | zero => intro i hi; simp at hi
   | succ c ih =>
    intro i hi
    rw [List.replicate_succ, List.flatten_cons, List.getElem?_append]
    split
    ·rename_i hlt; rw [Nat.mod_eq_of_lt hlt]
    ·rename_i hlt
     rw [ih (i - zs.length) (by rw [Nat.succ_mul] at hi; omega)]
     rw [← Nat.mod_eq_sub_mod (by omega)]
  have hm : i % zs.length < zs.length := Nat.mod_lt _ hz
  have e1 := key c i hi
  rw [List.getElem?_eq_getElem hm, List.getElem?_eq_some_iff] at e1
  obtain ⟨_, e1⟩ := e1
  simp only [Array.getElem_map, Array.getElem_range, List.size_toArray, List.getElem!_toArray, List.getElem_toArray, getElem!_pos zs (i % zs.length) hm]
  exact e1.symm
theorem replicate_one (c : Nat) (z : Value) : (List.replicate c [z]).flatten = List.replicate c z := by
 induction c with
 | zero => rfl
 | succ c ih => rw [List.replicate_succ, List.flatten_cons, ih, List.replicate_succ]; rfl
theorem E_makeSliceA {t elem : TypeId} {x y : Operand} {k k' : IntKind} {m c : Int} {sz : Nat} {i : TypeInfo} {z : Value} {zs : List Value} (H : Hp w0 L w) (ht : P.underlying t = some (.slice elem))
  (hS : ∀ w, (sizeOf elem).run P w = .ok sz w) (hI : ∀ w, (typeInfo elem).run P w = .ok i w) (hZ : ∀ w, (zeroValue elem).run P w = .ok z w) (hz : z.cells = zs.toArray) (hzl : zs.length = sz)
  (hx : ev E x = .int k m) (hy : ev E y = .int k' c) (h0 : 0 ≤ m) (h1 : m ≤ c) (hc : c ≤ 9223372036854775807) (hb : (i.bytes : Int) * c ≤ 281474976710656) :
  ∃ b w', w0.heap.size ≤ b ∧ Hp w0 ((b, blk (List.replicate c.toNat zs).flatten elem) :: L) w' ∧ (execOp (ev E) (mk d (.makeSlice t x y) ty pos after)).run P w = .ok (.value (sl b 0 m.toNat c.toNat)) w' := by
 have e1 : IntKind.i64.wrap m = m := by simp [IntKind.wrap, IntKind.bits, IntKind.signed]; omega
 have e2 : IntKind.i64.wrap c = c := by simp [IntKind.wrap, IntKind.bits, IntKind.signed]; omega
 have h2 : ¬ (c < 0) := by omega
 have h3 : ¬ (m < 0) := by omega
 have h4 : ¬ (c < m) := by omega
 have h5 : ¬ (281474976710656 < (i.bytes : Int) * c) := by omega
 refine E_new (v := fun b => sl b 0 m.toNat c.toNat) H ?_
 by_cases hz0 : c.toNat * sz = 0
 ·have hrow : (Array.range 0).map ((#[] : Array Value)[· % (#[] : Array Value).size]!) = (List.replicate c.toNat zs).flatten.toArray := by
   rw [← zeros_eq, hzl, hz0]; simp
  simp only [execOp, hx, hy, Instr.makeSlice, run_underlying ht, asInt, asIntOf, hI, hS, Sem.run_bind, Sem.run_pure, Result.andThen_ok, e1, e2, h2, h3, h4, h5, decide_false, Bool.or_self, Bool.false_eq_true, if_false, gt_iff_lt, Int.reducePow, run_askRoom, newRow, hz0, if_true, hrow, run_newObj]
  rfl
 ·have hrow : (Array.range (c.toNat * sz)).map (zs.toArray[· % zs.toArray.size]!) = (List.replicate c.toNat zs).flatten.toArray := by
   rw [← hzl]; exact zeros_eq zs c.toNat
  simp only [execOp, hx, hy, Instr.makeSlice, run_underlying ht, asInt, asIntOf, hI, hS, Sem.run_bind, Sem.run_pure, Result.andThen_ok, e1, e2, h2, h3, h4, h5, decide_false, Bool.or_self, Bool.false_eq_true, if_false, gt_iff_lt, Int.reducePow, run_askRoom, newRow, hz0, hZ, hz, hrow, run_newObj]
  rfl
theorem Vf {t elem : TypeId} {x y : Operand} {k k' : IntKind} {m c : Int} {i : TypeInfo} {z : Value} (H : Hp w0 L w) (ht : P.underlying t = some (.slice elem))
  (hS : ∀ w, (sizeOf elem).run P w = .ok 1 w) (hI : ∀ w, (typeInfo elem).run P w = .ok i w) (hZ : ∀ w, (zeroValue elem).run P w = .ok z w) (hz : z.cells = #[z])
  (hx : ev E x = .int k m) (hy : ev E y = .int k' c) (h0 : 0 ≤ m) (h1 : m ≤ c) (hc : c ≤ 9223372036854775807) (hb : (i.bytes : Int) * c ≤ 281474976710656) :
  ∃ b w', w0.heap.size ≤ b ∧ Hp w0 ((b, blk (List.replicate c.toNat z) elem) :: L) w' ∧ (execOp (ev E) (mk d (.makeSlice t x y) ty pos after)).run P w = .ok (.value (sl b 0 m.toNat c.toNat)) w' := by
 have h := E_makeSliceA (d := d) (ty := ty) (pos := pos) (after := after) (zs := [z]) H ht hS hI hZ hz rfl hx hy h0 h1 hc hb
 rw [replicate_one] at h
 exact h
theorem Du {t elem : TypeId} {len sz : Nat} {parts : Array (Nat × Operand)} {ps : List (Nat × Value)} {vs zs : List Value} {z : Value} (H : Hp w0 L w) (ht : P.underlying t = some (.slice elem))
  (hS : ∀ w, (sizeOf elem).run P w = .ok sz w) (hZ : ∀ w, (zeroValue elem).run P w = .ok z w) (hz : z.cells = zs.toArray) (hzl : zs.length = sz) (hn : len * sz ≤ 16777216)
  (hp : parts.toList.map (fun p => (p.1, ev E p.2)) = ps) (hf : Instr.fill (fun i => some (i * sz, sz)) (List.replicate len zs).flatten.toArray ps = some vs.toArray) :
  ∃ b w', w0.heap.size ≤ b ∧ Hp w0 ((b, blk vs elem) :: L) w' ∧ (execOp (ev E) (mk d (.buildSlice t len parts) ty pos after)).run P w = .ok (.value (sl b 0 len len)) w' := by
 refine E_new (v := fun b => sl b 0 len len) H ?_
 have h2 : ¬ (16777216 < len * sz) := by omega
 have hps : (parts.map fun (i, x) => (i, ev E x)).toList = ps := by subst hp; simp
 by_cases hz0 : len * sz = 0
 ·have hrow : (Array.range 0).map ((#[] : Array Value)[· % (#[] : Array Value).size]!) = (List.replicate len zs).flatten.toArray := by
   rw [← zeros_eq, hzl, hz0]; simp
  simp only [execOp, Instr.buildSlice, run_underlying ht, hS, Sem.run_bind, Sem.run_pure, Result.andThen_ok, hz0, if_true, if_false, gt_iff_lt, Nat.reducePow, Nat.not_lt_zero, hrow, hps, hf, newRow, run_newObj]
  rfl
 ·have hrow : (Array.range (len * sz)).map (zs.toArray[· % zs.toArray.size]!) = (List.replicate len zs).flatten.toArray := by
   rw [← hzl]; exact zeros_eq zs len
  simp only [execOp, Instr.buildSlice, run_underlying ht, hS, Sem.run_bind, Sem.run_pure, Result.andThen_ok, h2, if_false, gt_iff_lt, Nat.reducePow, hz0, hZ, hz, hrow, hps, hf, newRow, run_newObj]
  rfl
/-- for the reckoning of a literal's cells -/
def zrow (len : Nat) (z : Value) : Array Value := (List.replicate len z.cells.toList).flatten.toArray
def fillRow (sz : Nat) (zs : Array Value) (ps : List (Nat × Value)) : Option (Array Value) := Instr.fill (fun i => some (i * sz, sz)) zs ps
/-! ### append -/
/-- A slice of the call's own: nil, or at the head of a block that B does not reach. -/
def Yo (B : Nat) (e : TypeId) (sz : Nat) (v : Value) (len : Nat) (xs : List Value) (M : List (Nat × Obj)) : Prop :=
 xs.length = len * sz ∧ ((v = nilS ∧ len = 0 ∧ M = []) ∨
  ∃ b cap sp, v = sl b 0 len cap ∧ B ≤ b ∧ M = [(b, blk (xs ++ sp) e)] ∧ sp.length = (cap - len) * sz ∧ len ≤ cap)
theorem Yo.nil (B : Nat) (e : TypeId) (sz : Nat) : Yo B e sz nilS 0 [] [] := ⟨by simp, .inl ⟨rfl, rfl, rfl⟩⟩
theorem Yo.new {B b len cap sz : Nat} {e : TypeId} {xs sp : List Value} (hb : B ≤ b) (h1 : xs.length = len * sz) (h2 : sp.length = (cap - len) * sz) (h3 : len ≤ cap) :
  Yo B e sz (sl b 0 len cap) len xs [(b, blk (xs ++ sp) e)] := ⟨h1, .inr ⟨b, cap, sp, rfl, hb, rfl, h2, h3⟩⟩
theorem Hp.atM {M : List (Nat × Obj)} {f} {b : Nat} {o : Obj} (H : Hp w0 L w) (h : AtM L M f) (hm : (b, o) ∈ M) : w.heap[b]? = some o := by
 obtain ⟨A, B, e, _⟩ := h.split
 exact H.held (b, o) (by rw [e]; simp [hm])
/-- A part of the list gives way to a new block. -/
theorem Hp.swap {w' : World} {M : List (Nat × Obj)} {f} {o : Obj} {b : Nat} (H : Hp w0 L w) (h : AtM L M f) (hM : ∀ p ∈ M, w0.heap.size ≤ p.1) (hos : w'.os = w.os) (htape : w'.tape = w.tape) (hout : w'.output = w.output)
  (hsize : w.heap.size ≤ w'.heap.size) (hsame : ∀ k, k < w.heap.size → w'.heap[k]? = w.heap[k]?) (hb : w'.heap[b]? = some o) (hnew : w.heap.size ≤ b) : Hp w0 (f [(b, o)]) w' := by
 obtain ⟨A, B, e, hf⟩ := h.split
 subst e
 rw [hf]
 have H1 := (H.same hos htape hout hsize hsame).focus hb (H.fresh hnew)
 have H2 : Hp w0 ((b, o) :: (A ++ B)) w' := by
  refine H1.drop (M := (b, o) :: (A ++ B)) ?_ ?_
  ·exact ((List.Sublist.refl A).append (List.sublist_append_right M B)).cons_cons _
  ·intro p hp hn
   simp only [List.mem_cons, List.mem_append, not_or] at hp hn
   rcases hp with hp | hp | hp | hp
   ·exact (hn.1 hp).elim
   ·exact (hn.2.1 hp).elim
   ·exact hM p hp
   ·exact (hn.2.2 hp).elim
 exact H2.perm List.perm_middle.symm
theorem Hp.setM {c c' : List Value} {e : TypeId} {b : Nat} {f} (H : Hp w0 L w) (h : AtM L [(b, blk c e)] f) : Hp w0 (f [(b, blk c' e)]) (w.setRow b c'.toArray) := by
 obtain ⟨A, B, e1, hf⟩ := h.split
 subst e1
 rw [hf]
 have hat : ∀ A : List (Nat × Obj), ∃ g, At (A ++ ([(b, blk c e)] ++ B)) b (blk c e) g ∧ ∀ o, g o = A ++ ([(b, o)] ++ B) := by
  intro A
  induction A with
  | nil => exact ⟨_, .here, fun _ => rfl⟩
  | cons p A ih =>
   obtain ⟨g, h1, h2⟩ := ih
   exact ⟨_, .there h1, fun o => congrArg (p :: ·) (h2 o)⟩
 obtain ⟨g, h1, h2⟩ := hat A
 rw [← h2]
 exact H.setRow h1
theorem Vv {e : TypeId} {i : TypeInfo} (h : ∀ w, (typeInfo e).run P w = .ok i w) (w : World) : P.info? e = some i := by
 have h1 := h w
 simp only [typeInfo, Sem.run_bind, run_program, Result.andThen_ok] at h1
 cases hq : P.info? e with
 | none => simp [hq] at h1
 | some j => simp [hq] at h1; rw [h1]
theorem Yx {t tx e : TypeId} {sz m len : Nat} {v u : Value} {xs news zs : List Value} {z : Value} {i : TypeInfo} {M : List (Nat × Obj)} {f} {x y : Operand} (H : Hp w0 L w) (hM : AtM L M f) (ho : Yo w0.heap.size e sz v len xs M)
  (ht : P.underlying t = some (.slice e)) (hI0 : ∀ w, (typeInfo e).run P w = .ok i w) (hsz : i.size = sz) (hZ : i.zero = some z) (hz : z.cells = zs.toArray) (hzl : zs.length = sz)
  (hx : ev E x = v) (hy : ev E y = u) (hs : Src P sz tx u m news w) (hlen : len + m ≤ 9223372036854775807) (hby : (len + m) * i.bytes ≤ 140737488355328) :
  ∃ v' M' w', Yo w0.heap.size e sz v' (len + m) (xs ++ news) M' ∧ Hp w0 (f M') w' ∧ (execOp (ev E) (mk d (bi .append #[x, y] #[t, tx]) ty pos after)).run P w = .ok (.value v') w' := by
 subst hsz
 have hI : P.info? e = some i := Vv hI0 w
 have hnl : (xs ++ news).length = (len + m) * i.size := by rw [List.length_append, ho.1, hs.newsLen, Nat.add_mul]
 have hexec : (execOp (ev E) (mk d (bi .append #[x, y] #[t, tx]) ty pos after)).run P w = ((Builtin.append_ #[t, tx] ty #[v, u]).run P w).andThen fun a w' => .ok (.value a) w' := by
  subst hx hy
  simp [execOp, resolve, invoke, builtin]
 rw [hexec]
 have hzc : ∀ k, (Builtin.zeroCells z.cells k).toList.length = k * i.size := by
  intro k; rw [hz]; simp [Builtin.zeroCells, hzl]
 rcases ho.2 with ⟨rfl, rfl, rfl⟩ | ⟨b, cap, sp, rfl, hb, rfl, hspl, hcap⟩
 ·have hxs : xs = [] := List.length_eq_zero_iff.1 (by simpa using ho.1)
  subst hxs
  rcases Nat.eq_zero_or_pos m with rfl | hm
  ·have hn : news = [] := List.length_eq_zero_iff.1 (by simpa using hs.newsLen)
   subst hn
   refine ⟨nilS, [], w, Yo.nil _ _ _, ?_, ?_⟩
   ·obtain ⟨A, B, e1, hf⟩ := hM.split
    rw [hf]; subst e1; exact H
   ·rcases hs.kind with ⟨e', hk⟩ | hk <;> simp [Builtin.append_, run_underlying ht, run_underlying hk, sizeOf, typeInfo, hI, hs.len, hs.cells]
  ·have hfit : Builtin.nextslicecap (0 + m) 0 * i.bytes ≤ 281474976710656 := by
    rw [Nat.zero_add, nextslicecap_zero hm]; simp only [Nat.zero_add] at hby; omega
   have hr := run_append_grow_src (w := w) (ty := ty) t tx e i z ht hI hZ none 0 0 [] (by simp [Builtin.firstCells]) u m news hs (by omega) (by omega) hfit
   refine ⟨_, [((w.drew).heap.size, blk ((([] : List Value) ++ news) ++ (Builtin.zeroCells z.cells (grownCap w (0 + m) 0 e - (0 + m))).toList) e)], _, ?_, ?_, by rw [hr]; rfl⟩
   ·exact Yo.new H.size hnl (hzc _) (grownCap_ge w (0 + m) 0 e)
   ·refine H.swap (w' := w.drew.alloc _) hM (fun p hp => by cases hp) rfl rfl rfl (by simp) (fun k hk => Nu w.drew _ k hk) ?_ (Nat.le_refl _)
    rw [Bj]
    congr 2
    apply Array.ext'; simp
 ·have hblk := H.atM hM (.head _)
  rcases Nat.lt_or_ge cap (len + m) with hg | hroom
  ·have hfit : Builtin.nextslicecap (len + m) cap * i.bytes ≤ 281474976710656 := growslice_fits hg hby
   have hold : (Builtin.firstCells i.size len (sl b 0 len cap)).run P w.drew = .ok xs.toArray w.drew := by
    refine run_firstCells_some w.drew i.size len _ len cap xs ho.1 (fun j u hj => ?_)
    rw [Zq, World.cell?_drew, Uf hblk]
    rw [Nat.zero_add, List.getElem?_append_left (List.getElem?_eq_some_iff.1 hj).1]
    exact hj
   have hr := run_append_grow_src (w := w) (ty := ty) t tx e i z ht hI hZ (some ⟨b, 0, none⟩) len cap xs hold u m news hs hg (by omega) hfit
   refine ⟨_, [((w.drew).heap.size, blk ((xs ++ news) ++ (Builtin.zeroCells z.cells (grownCap w (len + m) cap e - (len + m))).toList) e)], _, ?_, ?_, by rw [hr]; rfl⟩
   ·exact Yo.new H.size hnl (hzc _) (grownCap_ge w (len + m) cap e)
   ·refine H.swap (w' := w.drew.alloc _) hM (fun p hp => by rw [List.mem_singleton.1 hp]; exact hb) rfl rfl rfl (by simp) (fun k hk => Nu w.drew _ k hk) ?_ (Nat.le_refl _)
    rw [Bj]
    congr 2
    apply Array.ext'; simp
  ·have hle : len * i.size + news.length ≤ (xs ++ sp).length := by
    rw [List.length_append, ho.1, hspl, hs.newsLen, ← Nat.add_mul, ← Nat.add_mul]
    exact Nat.mul_le_mul_right _ (by omega)
   have hst := run_storeCells_at P b (len * i.size) e news 0 (xs ++ sp).toArray w hblk (by simpa using hle) hs.one
   simp only [Nat.add_zero] at hst
   have hrun : (Builtin.append_ #[t, tx] ty #[sl b 0 len cap, u]).run P w = .ok (sl b 0 (len + m) cap) (w.setRow b ((xs ++ sp).take (len * i.size) ++ news ++ (xs ++ sp).drop (len * i.size + news.length)).toArray) := by
    rcases hs.kind with ⟨e', hk⟩ | hk <;> simp [Builtin.append_, run_underlying ht, run_underlying hk, sizeOf, typeInfo, hI, hs.len, hroom, hs.cells, Zq, hst]
   have e1 : (xs ++ sp).take (len * i.size) ++ news ++ (xs ++ sp).drop (len * i.size + news.length) = (xs ++ news) ++ sp.drop news.length := by
    rw [← ho.1, List.take_left, List.drop_append]
    simp
   rw [e1] at hrun
   refine ⟨_, _, _, ?_, H.setM hM (c' := (xs ++ news) ++ sp.drop news.length), by rw [hrun]; rfl⟩
   refine Yo.new hb hnl ?_ hroom
   rw [List.length_drop, hspl, hs.newsLen, ← Nat.sub_mul]
   congr 1
   omega
end
end Go.Proofs.YtlpmfldijgdcoaaGreatDoor.Fx
namespace Go.Proofs.YtlpmfldijgdcoaaGreatDoor.Fx
open Go Go.Conc
section
variable {P : Program} {n : Nat} {kn : Env → World → Prop} {kx : Nat → Env → World → Prop} {kr : Env → World → Prop} {l : List Oper} {E : Env} {w0 w : World} {L : List (Nat × Obj)}
variable {d : Option Nat} {ty : TypeId} {pos : String} {after : Array Edge}
abbrev selOp (c : Operand) (s : Option Operand) (elem : TypeId) : Op := .select #[{ chan := c, send := s, elem := elem }] false
end
end Go.Proofs.YtlpmfldijgdcoaaGreatDoor.Fx
namespace Go.Proofs.YtlpmfldijgdcoaaGreatDoor.Fx
open Go
section
variable {P : Program} {ops : Array Oper} {C : World → Prop} {tl : Nat → Bool} {Q : Act → World → Prop}
/-- One operation, which does not panic. -/
def opA (P : Program) (o : Oper) (a : Act) (w : World) (K : Act → World → Prop) : Prop :=
 (∃ v w', (execOp a.eval o).run P w = .ok (.value v) w' ∧ K (a.put o.dst v) w') ∨
 (∃ w', (execOp a.eval o).run P w = .ok .skip w' ∧ K (a.put o.dst undef) w') ∨
 (∃ f args w', (execOp a.eval o).run P w = .ok (.enter f args) w' ∧ Ret P f args w' fun v w'' => K (a.put o.dst v) w'')
/-- Operation i comes up. -/
def opI (P : Program) (ops : Array Oper) (i : Nat) (K : Act → World → Prop) (a : Act) (w : World) : Prop :=
 match ops[i]? with
 | none => False
 | some o => if Region.wanted o (yielded ops a.tmps) then opA P o a w K else K (a.put o.dst undef) w
/-- Whatever comes up, from here on; what is known of the memory stays so till the tail. -/
def anyC (P : Program) (ops : Array Oper) (C : World → Prop) (tl : Nat → Bool) (Q : Act → World → Prop) : Nat → Array Bool → Act → World → Prop
 | 0, listed, a, w => Region.ready .any ops listed = [] ∧ Q a w
 | f + 1, listed, a, w => (Region.ready .any ops listed = [] → Q a w) ∧
  ∀ i ∈ Region.ready .any ops listed, opI P ops i (fun a' w' => (tl i = false → C w') ∧ anyC P ops C tl Q f (listed.setIfInBounds i true) a' w') a w
theorem opA.mono {o : Oper} {a : Act} {w : World} {K K' : Act → World → Prop} (h : opA P o a w K) (hk : ∀ a w, K a w → K' a w) : opA P o a w K' := by
 rcases h with ⟨v, w', h1, h2⟩ | ⟨w', h1, h2⟩ | ⟨f, args, w', h1, h2⟩
 ·exact .inl ⟨v, w', h1, hk _ _ h2⟩
 ·exact .inr (.inl ⟨w', h1, hk _ _ h2⟩)
 ·exact .inr (.inr ⟨f, args, w', h1, h2.mono fun _ _ h => hk _ _ h⟩)
theorem opI.mono {i : Nat} {a : Act} {w : World} {K K' : Act → World → Prop} (h : opI P ops i K a w) (hk : ∀ a w, K a w → K' a w) : opI P ops i K' a w := by
 unfold opI at *
 split
 ·rename_i ho; simp only [ho] at h
 ·rename_i o ho
  simp only [ho] at h
  split
  ·rename_i hw; rw [if_pos hw] at h; exact h.mono hk
  ·rename_i hw; rw [if_neg hw] at h; exact hk _ _ h
theorem wp_of_opA {o : Oper} {a : Act} {w : World} {K : Act → World → Prop} {Q' : Exit → Act → World → Prop} (h : opA P o a w K) : o.wp P a w K Q' := by
 unfold Oper.wp
 rcases h with ⟨v, w', h1, h2⟩ | ⟨w', h1, h2⟩ | ⟨f, args, w', h1, h2⟩
 ·rw [h1]; exact h2
 ·rw [h1]; exact h2
 ·rw [h1]
  exact Calls.mono h2.out (by rintro e w ⟨v, rfl, h⟩; exact h)
theorem wpOp_of_opI {i : Nat} {a : Act} {w : World} {K : Act → World → Prop} {Q' : Exit → Act → World → Prop} (h : opI P ops i K a w) : wpOp P ops Q' i K a w := by
 unfold opI at h
 unfold wpOp
 split
 ·rename_i ho; simp only [ho] at h
 ·rename_i o ho
  simp only [ho] at h
  split
  ·rename_i hw; rw [if_pos hw] at h; exact .inl (wp_of_opA h)
  ·rename_i hw; rw [if_neg hw] at h; exact h
theorem wpAny_of_anyC {Q' : Exit → Act → World → Prop} (hQ : ∀ a w, Q a w → Q' .normal a w) : ∀ (f : Nat) (listed : Array Bool) (a : Act) (w : World), anyC P ops C tl Q f listed a w → wpAny P .any ops Q' f listed a w
 | 0, _, _, _, h => ⟨h.1, hQ _ _ h.2⟩
 | f + 1, _, _, _, h => ⟨fun h0 => hQ _ _ (h.1 h0), fun i hi => wpOp_of_opI ((h.2 i hi).mono fun a w h => wpAny_of_anyC hQ f _ a w h.2)⟩
/-- What comes in the tail waits for all that is not of it. -/
def Mm (ops : Array Oper) (tl : Nat → Bool) : Bool :=
 (List.range ops.size).all fun t => !tl t || (List.range ops.size).all fun i => tl i || ((ops[t]?).map fun o => o.after.any fun e => Region.binds .any e && e.on == i).getD false
theorem tailB_spec (h : Mm ops tl = true) {t i : Nat} {ot : Oper} (hot : ops[t]? = some ot) (hi : i < ops.size) (ht : tl t = true) (hti : tl i = false) :
  ∃ e ∈ ot.after, Region.binds .any e = true ∧ e.on = i := by
 have hlt : t < ops.size := (Array.getElem?_eq_some_iff.1 hot).1
 have h1 := List.all_eq_true.1 h t (List.mem_range.2 hlt)
 simp only [ht, Bool.not_true, Bool.false_or] at h1
 have h2 := List.all_eq_true.1 h1 i (List.mem_range.2 hi)
 simp only [hti, Bool.false_or, hot, Option.map_some, Option.getD_some] at h2
 obtain ⟨e, he, hb⟩ := Array.any_eq_true'.1 h2
 simp only [Bool.and_eq_true, beq_iff_eq] at hb
 exact ⟨e, he, hb.1, hb.2⟩
/-- In every memory of the class the operation yields this, or is passed over. -/
def Yc (P : Program) (ops : Array Oper) (C : World → Prop) (o : Oper) (v : Value) (a : Act) : Prop :=
 (Region.wanted o (yielded ops a.tmps) = true ∧ ∀ w, C w → (execOp a.eval o).run P w = .ok (.value v) w) ∨ (Region.wanted o (yielded ops a.tmps) = false ∧ v = undef)
theorem Yc.opI {i : Nat} {o : Oper} {v : Value} {a : Act} {w : World} (hi : ops[i]? = some o) (hy : Yc P ops C o v a) (hC : C w) {K : Act → World → Prop} (h : K (a.put o.dst v) w) : opI P ops i K a w := by
 unfold Fx.opI
 simp only [hi]
 rcases hy with ⟨hw, hv⟩ | ⟨hw, rfl⟩
 ·rw [if_pos hw]; exact .inl ⟨v, w, hv w hC, h⟩
 ·rw [if_neg (by rw [hw]; exact Bool.false_ne_true)]; exact h
theorem Yc.put {o oj : Oper} {v u : Value} {a : Act} (hs : ∀ cs b, o.op ≠ .select cs b) (h : ∀ d, oj.dst = some d → d ∉ o.looksAt ops) (hy : Yc P ops C o v a) : Yc P ops C o v (a.put oj.dst u) := by
 unfold Yc at *
 rw [wanted_put o a oj.dst u h, execOp_put o hs a oj.dst u h]
 exact hy
theorem opI_put {j : Nat} {oi oj : Oper} {v : Value} {a : Act} {w : World} {K : Act → World → Prop} (hj : ops[j]? = some oj) (hap : oi.apart ops oj = true)
  (hsi : ∀ cs b, oi.op ≠ .select cs b) (hsj : ∀ cs b, oj.op ≠ .select cs b) (hy : Yc P ops C oi v a) (h : opI P ops j K (a.put oi.dst v) w) :
  opI P ops j (fun a' w' => Yc P ops C oi v a' ∧ K (a'.put oi.dst v) w') a w := by
 obtain ⟨h1, h2, h3⟩ := Oper.apart_spec hap
 unfold opI at *
 simp only [hj] at *
 rw [wanted_put oj a oi.dst v h1] at h
 split
 ·rename_i hw
  rw [if_pos hw] at h
  unfold opA at h ⊢
  rw [execOp_put oj hsj a oi.dst v h1] at h
  rcases h with ⟨u, w', e, hk⟩ | ⟨w', e, hk⟩ | ⟨f, args, w', e, hk⟩
  ·exact .inl ⟨u, w', e, hy.put hsi h3, by rw [← Act.put_comm a v u h2]; exact hk⟩
  ·exact .inr (.inl ⟨w', e, hy.put hsi h3, by rw [← Act.put_comm a v undef h2]; exact hk⟩)
  ·exact .inr (.inr ⟨f, args, w', e, hk.mono fun u _ hk => ⟨hy.put hsi h3, by rw [← Act.put_comm a v u h2]; exact hk⟩⟩)
 ·rename_i hw
  rw [if_neg hw] at h
  exact ⟨hy.put hsi h3, by rw [← Act.put_comm a v undef h2]; exact h⟩
/-- An operation that only reads may be taken first. -/
theorem anyC_take {i : Nat} {oi : Oper} {v : Value} (hi : ops[i]? = some oi) (hsel : ∀ (j : Nat) (o : Oper) cs b, ops[j]? = some o → o.op ≠ .select cs b) (ht : Mm ops tl = true) (hti : tl i = false) :
  ∀ (f : Nat) (listed : Array Bool) (a : Act) (w : World), C w →
   (∀ j oj, ops[j]? = some oj → j ≠ i → listed.getD j true = false → (∀ e ∈ oj.after, Region.binds .any e = true → e.on ≠ i) → oi.apart ops oj = true) →
   i ∈ Region.ready .any ops listed → Yc P ops C oi v a →
   anyC P ops C tl Q f (listed.setIfInBounds i true) (a.put oi.dst v) w → anyC P ops C tl Q (f + 1) listed a w := by
 have hin : i < ops.size := (Array.getElem?_eq_some_iff.1 hi).1
 -- what may come up ahead of i is not of the tail, and does not wait for i
 have look : ∀ (listed : Array Bool) (j : Nat) (oj : Oper), ops[j]? = some oj → i ∈ Region.ready .any ops listed → j ∈ Region.ready .any ops listed →
   tl j = false ∧ ∀ e ∈ oj.after, Region.binds .any e = true → e.on ≠ i := by
  intro listed j oj hoj hr hj
  obtain ⟨_, o', ho', hall⟩ := mem_ready.1 hj
  obtain rfl : o' = oj := Option.some.inj (ho'.symm.trans hoj)
  have hno : ∀ e ∈ o'.after, Region.binds .any e = true → e.on ≠ i := fun e he hb heq => by
   have h1 := hall e he hb
   have h0 := (mem_ready.1 hr).1
   rw [heq] at h1
   rw [Array.getD_eq_getD_getElem?] at h0 h1
   cases hl : listed[i]? with
   | none => rw [hl] at h1; cases h1
   | some x => rw [hl] at h0 h1; simp only [Option.getD_some] at h0 h1; rw [h0] at h1; cases h1
  refine ⟨?_, hno⟩
  cases htj : tl j with
  | false => rfl
  | true =>
   obtain ⟨e, he, hb, hon⟩ := tailB_spec ht hoj hin htj hti
   exact (hno e he hb hon).elim
 intro f
 induction f with
 | zero =>
  intro listed a w hC hfree hr hy H
  refine ⟨fun h => (by rw [h] at hr; cases hr), fun j hj => ?_⟩
  by_cases hji : j = i
  ·subst hji
   exact hy.opI hi hC ⟨fun _ => hC, H⟩
  ·have := ready_mono hj hji
   rw [H.1] at this
   cases this
 | succ f ih =>
  intro listed a w hC hfree hr hy H
  refine ⟨fun h => (by rw [h] at hr; cases hr), fun j hj => ?_⟩
  by_cases hji : j = i
  ·subst hji
   exact hy.opI hi hC ⟨fun _ => hC, H⟩
  ·obtain ⟨hjun, oj, hoj, hall⟩ := mem_ready.1 hj
   obtain ⟨htj, hno⟩ := look listed j oj hoj hr hj
   have h1 := H.2 j (ready_mono hj hji)
   have h2 := opI_put hoj (hfree j oj hoj hji hjun hno) (fun cs b => hsel i oi cs b hi) (fun cs b => hsel j oj cs b hoj) hy h1
   refine h2.mono ?_
   rintro a' w' ⟨hy', hC', hK⟩
   refine ⟨hC', ih (listed.setIfInBounds j true) a' w' (hC' htj) ?_ (ready_mono hr (Ne.symm hji)) hy' ?_⟩
   ·intro k ok hk hki hun hno'
    refine hfree k ok hk hki ?_ hno'
    by_cases hjk : j = k
    ·subst hjk; exact hjun
    ·rw [getD_set_ne true hjk] at hun; exact hun
   ·rw [Array.setIfInBounds_comm _ _ hji]
    exact hK
end
section
variable {P : Program} {n : Nat} {ops : Array Oper} {C : World → Prop} {tl : Nat → Bool} {kn : Env → World → Prop} {kx : Nat → Env → World → Prop} {kr : Env → World → Prop} {E : Env} {w0 w : World} {L : List (Nat × Obj)}
variable {f : Nat} {listed : Array Bool}
structure WA (P : Program) (n : Nat) (ops : Array Oper) (C : World → Prop) (tl : Nat → Bool) (kn : Env → World → Prop) (f : Nat) (listed : Array Bool) (E : Env) (w : World) : Prop where
 out : ∀ (Q : Act → World → Prop), (∀ a E w, Rep n E a → kn E w → Q a w) → ∀ a, Rep n E a → anyC P ops C tl Q f listed a w
theorem Xi {id : Nat} (C : World → Prop) (tl : Nat → Bool) (hm : P.follows .mixedOrders = true) (H : Hp w0 L w)
  (h : ∀ w', Hp w0 L w' → WA P n ops C tl kn ops.size (Array.replicate ops.size false) E w') : W P n (.region id ops true) kn kx kr E w := by
 refine ⟨fun a ha => ?_⟩
 refine wp_region_any hm (wpAny_of_anyC (C := C) (tl := tl) (Q := fun a w => ∃ E, Rep n E a ∧ kn E w) (fun a w h => h) _ _ _ _ ?_)
 exact (h _ (H.drawn _)).out _ (fun a E w ha h => ⟨E, ha, h⟩) a ha
theorem WA_done (hr : Region.ready .any ops listed = []) (h : kn E w) : WA P n ops C tl kn f listed E w := by
 refine ⟨fun Q hQ a ha => ?_⟩
 cases f with
 | zero => exact ⟨hr, hQ _ _ _ ha h⟩
 | succ f => exact ⟨fun _ => hQ _ _ _ ha h, fun i hi => by rw [hr] at hi; cases hi⟩
/-- all that is asked of an operation that is to be taken first, but for what it does -/
def Mb (ops : Array Oper) (tl : Nat → Bool) (listed : Array Bool) (i : Nat) : Bool :=
 Region.noSelect ops && Region.free .any ops listed i && (Region.ready .any ops listed).contains i && !tl i
theorem WA_take {i : Nat} {o : Oper} {v : Value} (i0 : Nat) (hi0 : i0 = i) (hi : ops[i]? = some o) (hg : o.guard = none) (ht : Mm ops tl = true) (hb : Mb ops tl listed i = true) (hC : C w)
  (hv : ∀ w, C w → (execOp (ev E) o).run P w = .ok (.value v) w) (h : WA P n ops C tl kn f (listed.setIfInBounds i true) (updo n E o.dst v) w) : WA P n ops C tl kn (f + 1) listed E w := by
 subst hi0
 refine ⟨fun Q hQ a ha => ?_⟩
 simp only [Mb, Bool.and_eq_true, Bool.not_eq_true'] at hb
 obtain ⟨⟨⟨h1, h2⟩, h3⟩, h4⟩ := hb
 refine anyC_take hi (Region.noSelect_spec h1) ht h4 f listed a w hC (Region.free_spec hi h2) (by simpa using h3) (.inl ⟨by simp [Region.wanted, hg], fun w hw => ?_⟩) (h.out Q hQ _ (ha.put _ _))
 rw [ha.eval]
 exact hv w hw
theorem WA_takeM {i : Nat} {o : Oper} {x : Operand} (i0 : Nat) (hi0 : i0 = i) (hi : ops[i]? = some o) (hg : o.guard = none) (ht : Mm ops tl = true) (hb : Mb ops tl listed i = true) (hC : C w)
  (hv : ∀ w, C w → (execOp (ev E) o).run P w = .ok (.value (ev E x)) w) (h : WA P n ops C tl kn f (listed.setIfInBounds i true) (mov n E o.dst x) w) : WA P n ops C tl kn (f + 1) listed E w :=
 WA_take i0 hi0 hi hg ht hb hC hv h
/-- a guarded operation that is wanted -/
theorem WA_takeG {i j : Nat} {o : Oper} {v : Value} {want : Bool} (i0 : Nat) (hi0 : i0 = i) (hi : ops[i]? = some o) (hg : o.guard = some (j, want)) (hy : yE ops E j = some want) (ht : Mm ops tl = true) (hb : Mb ops tl listed i = true) (hC : C w)
  (hv : ∀ w, C w → (execOp (ev E) { o with guard := none }).run P w = .ok (.value v) w) (h : WA P n ops C tl kn f (listed.setIfInBounds i true) (updo n E o.dst v) w) : WA P n ops C tl kn (f + 1) listed E w := by
 subst hi0
 refine ⟨fun Q hQ a ha => ?_⟩
 simp only [Mb, Bool.and_eq_true, Bool.not_eq_true'] at hb
 obtain ⟨⟨⟨h1, h2⟩, h3⟩, h4⟩ := hb
 refine anyC_take hi (Region.noSelect_spec h1) ht h4 f listed a w hC (Region.free_spec hi h2) (by simpa using h3) (.inl ⟨by simp [Region.wanted, hg, ha.yielded, hy], fun w hw => ?_⟩) (h.out Q hQ _ (ha.put _ _))
 rw [ha.eval]
 exact hv w hw
theorem WA_takeGM {i j : Nat} {o : Oper} {x : Operand} {want : Bool} (i0 : Nat) (hi0 : i0 = i) (hi : ops[i]? = some o) (hg : o.guard = some (j, want)) (hy : yE ops E j = some want) (ht : Mm ops tl = true) (hb : Mb ops tl listed i = true) (hC : C w)
  (hv : ∀ w, C w → (execOp (ev E) { o with guard := none }).run P w = .ok (.value (ev E x)) w) (h : WA P n ops C tl kn f (listed.setIfInBounds i true) (mov n E o.dst x) w) : WA P n ops C tl kn (f + 1) listed E w :=
 WA_takeG i0 hi0 hi hg hy ht hb hC hv h
/-- a guarded operation that is passed over -/
theorem WA_pass {i j : Nat} {o : Oper} {want : Bool} (i0 : Nat) (hi0 : i0 = i) (hi : ops[i]? = some o) (hg : o.guard = some (j, want)) (hy : yE ops E j ≠ some want) (ht : Mm ops tl = true) (hb : Mb ops tl listed i = true) (hC : C w)
  (h : WA P n ops C tl kn f (listed.setIfInBounds i true) (updo n E o.dst undef) w) : WA P n ops C tl kn (f + 1) listed E w := by
 subst hi0
 refine ⟨fun Q hQ a ha => ?_⟩
 simp only [Mb, Bool.and_eq_true, Bool.not_eq_true'] at hb
 obtain ⟨⟨⟨h1, h2⟩, h3⟩, h4⟩ := hb
 refine anyC_take hi (Region.noSelect_spec h1) ht h4 f listed a w hC (Region.free_spec hi h2) (by simpa using h3) (.inr ⟨?_, rfl⟩) (h.out Q hQ _ (ha.put _ _))
 simp only [Region.wanted, hg, ha.yielded]
 exact beq_eq_false_iff_ne.2 hy
/-- One of those that may come up. -/
structure WI (P : Program) (n : Nat) (ops : Array Oper) (C : World → Prop) (tl : Nat → Bool) (kn : Env → World → Prop) (f : Nat) (listed : Array Bool) (i : Nat) (E : Env) (w : World) : Prop where
 out : ∀ (Q : Act → World → Prop), (∀ a E w, Rep n E a → kn E w → Q a w) → ∀ a, Rep n E a → opI P ops i (fun a' w' => (tl i = false → C w') ∧ anyC P ops C tl Q f (listed.setIfInBounds i true) a' w') a w
theorem WA_one {i : Nat} (hr : Region.ready .any ops listed = [i]) (h : WI P n ops C tl kn f listed i E w) : WA P n ops C tl kn (f + 1) listed E w := by
 refine ⟨fun Q hQ a ha => ?_⟩
 refine ⟨fun h0 => (by rw [hr] at h0; cases h0), fun j hj => ?_⟩
 rw [hr] at hj
 obtain rfl : j = i := by simpa using hj
 exact h.out Q hQ a ha
theorem Zf {i j : Nat} (hr : Region.ready .any ops listed = [i, j]) (h : WI P n ops C tl kn f listed i E w) (h' : WI P n ops C tl kn f listed j E w) : WA P n ops C tl kn (f + 1) listed E w := by
 refine ⟨fun Q hQ a ha => ?_⟩
 refine ⟨fun h0 => (by rw [hr] at h0; cases h0), fun k hk => ?_⟩
 rw [hr] at hk
 rcases List.mem_cons.1 hk with rfl | hk
 ·exact h.out Q hQ a ha
 ·obtain rfl : k = j := by simpa using hk
  exact h'.out Q hQ a ha
/-- Its guard, if it has one, says yes. -/
def Wanted (ops : Array Oper) (E : Env) (o : Oper) : Prop := o.guard = none ∨ ∃ j want, o.guard = some (j, want) ∧ yE ops E j = some want
theorem Wanted.rep {a : Act} {o : Oper} (h : Wanted ops E o) (ha : Rep n E a) : Region.wanted o (yielded ops a.tmps) = true := by
 rcases h with h | ⟨j, want, h, hy⟩
 ·simp [Region.wanted, h]
 ·simp [Region.wanted, h, ha.yielded, hy]
theorem Xv {i : Nat} {o : Oper} {v : Value} {w' : World} (hi : ops[i]? = some o) (hg : Wanted ops E o) (hr : (execOp (ev E) { o with guard := none }).run P w = .ok (.value v) w') (hC : tl i = false → C w')
  (h : WA P n ops C tl kn f (listed.setIfInBounds i true) (updo n E o.dst v) w') : WI P n ops C tl kn f listed i E w := by
 refine ⟨fun Q hQ a ha => ?_⟩
 unfold opI
 simp only [hi]
 rw [if_pos (hg.rep ha)]
 exact .inl ⟨v, w', by rw [ha.eval]; exact hr, hC, h.out Q hQ _ (ha.put _ _)⟩
theorem WI_unit {i : Nat} {o : Oper} {w' : World} (hi : ops[i]? = some o) (hg : Wanted ops E o) (hr : (execOp (ev E) { o with guard := none }).run P w = .ok .skip w') (hC : tl i = false → C w')
  (h : WA P n ops C tl kn f (listed.setIfInBounds i true) (updo n E o.dst undef) w') : WI P n ops C tl kn f listed i E w := by
 refine ⟨fun Q hQ a ha => ?_⟩
 unfold opI
 simp only [hi]
 rw [if_pos (hg.rep ha)]
 exact .inr (.inl ⟨w', by rw [ha.eval]; exact hr, hC, h.out Q hQ _ (ha.put _ _)⟩)
theorem Qv {i : Nat} {o : Oper} {fn : FuncId} {args : Array Value} {R : Value → World → Prop} (hi : ops[i]? = some o) (hg : Wanted ops E o) (hr : (execOp (ev E) { o with guard := none }).run P w = .ok (.enter fn args) w)
  (hc : Ret P fn args w R) (hC : ∀ v w', R v w' → tl i = false → C w') (h : ∀ v w', R v w' → WA P n ops C tl kn f (listed.setIfInBounds i true) (updo n E o.dst v) w') : WI P n ops C tl kn f listed i E w := by
 refine ⟨fun Q hQ a ha => ?_⟩
 unfold opI
 simp only [hi]
 rw [if_pos (hg.rep ha)]
 exact .inr (.inr ⟨fn, args, w, by rw [ha.eval]; exact hr, hc.mono fun v w' hR => ⟨hC v w' hR, (h v w' hR).out Q hQ _ (ha.put _ _)⟩⟩)
theorem Xb {i : Nat} {o : Oper} {F : World → Prop} (hi : ops[i]? = some o) (hg : Wanted ops E o) (he : ∃ w', F w' ∧ (execOp (ev E) { o with guard := none }).run P w = .ok .skip w') (hC : ∀ w', F w' → tl i = false → C w')
  (h : ∀ w', F w' → WA P n ops C tl kn f (listed.setIfInBounds i true) (updo n E o.dst undef) w') : WI P n ops C tl kn f listed i E w := by
 obtain ⟨w', hF, hr⟩ := he
 exact WI_unit hi hg hr (hC w' hF) (h w' hF)
theorem WI_effn {i : Nat} {o : Oper} {A : Nat → Prop} {F : Nat → World → Prop} {v : Nat → Value} (hi : ops[i]? = some o) (hg : Wanted ops E o) (he : ∃ b w', A b ∧ F b w' ∧ (execOp (ev E) { o with guard := none }).run P w = .ok (.value (v b)) w')
  (hC : ∀ b w', F b w' → tl i = false → C w') (h : ∀ b w', A b → F b w' → WA P n ops C tl kn f (listed.setIfInBounds i true) (updo n E o.dst (v b)) w') : WI P n ops C tl kn f listed i E w := by
 obtain ⟨b, w', hA, hF, hr⟩ := he
 exact Xv hi hg hr (hC b w' hF) (h b w' hA hF)
theorem WI_effm {i : Nat} {o : Oper} {M : Type} {A : Value → M → Prop} {F : M → World → Prop} (hi : ops[i]? = some o) (hg : Wanted ops E o) (he : ∃ v m w', A v m ∧ F m w' ∧ (execOp (ev E) { o with guard := none }).run P w = .ok (.value v) w')
  (hC : ∀ m w', F m w' → tl i = false → C w') (h : ∀ v m w', A v m → F m w' → WA P n ops C tl kn f (listed.setIfInBounds i true) (updo n E o.dst v) w') : WI P n ops C tl kn f listed i E w := by
 obtain ⟨v, m, w', hA, hF, hr⟩ := he
 exact Xv hi hg hr (hC m w' hF) (h v m w' hA hF)
theorem Zc {id : Nat} (tl : Nat → Bool) (hm : P.follows .mixedOrders = true) (H : Hp w0 L w)
  (h : ∀ w', Hp w0 L w' → WA P n ops (Hp w0 L) tl kn ops.size (Array.replicate ops.size false) E w') : W P n (.region id ops true) kn kx kr E w :=
 Xi (Hp w0 L) tl hm H h
theorem WA_know {t : Nat} {v : Value} (ht : E t = v) (h : WA P n ops C tl kn f listed (know E t v) w) : WA P n ops C tl kn f listed E w := by
 rwa [Zj ht] at h
theorem WA_if (t : Nat) {p : Prop} [Decidable p] (hc : E t = .bool (decide p)) (ht : p → WA P n ops C tl kn f listed (know E t (.bool true)) w) (hf : ¬ p → WA P n ops C tl kn f listed (know E t (.bool false)) w) :
  WA P n ops C tl kn f listed E w := by
 by_cases h : p
 ·exact WA_know (t := t) (v := .bool true) (by rw [hc, decide_eq_true h]) (ht h)
 ·exact WA_know (t := t) (v := .bool false) (by rw [hc, decide_eq_false h]) (hf h)
theorem WA_ifB (t : Nat) {b : Bool} (hc : E t = .bool b) (ht : b = true → WA P n ops C tl kn f listed (know E t (.bool true)) w) (hf : b = false → WA P n ops C tl kn f listed (know E t (.bool false)) w) :
  WA P n ops C tl kn f listed E w := by
 cases b
 ·exact WA_know (t := t) hc (hf rfl)
 ·exact WA_know (t := t) hc (ht rfl)
end
end Go.Proofs.YtlpmfldijgdcoaaGreatDoor.Fx
namespace Go.Proofs.YtlpmfldijgdcoaaGreatDoor.Fx
open Go
/-! ### numbers that stay in their kind -/
theorem Xc {x : Int} (h : -9223372036854775808 ≤ x ∧ x ≤ 9223372036854775807) : IntKind.i64.wrap x = x := by
 simp [IntKind.wrap, IntKind.bits, IntKind.signed]; omega
/-- a byte of whatever number -/
theorem m_u8 {x : Int} : IntKind.u8.wrap x = x % 256 := by
 simp [IntKind.wrap, IntKind.bits, IntKind.signed]
theorem rem_pos {a b : Int} (h0 : 0 ≤ a) : a.tmod b = a % b := Int.tmod_eq_emod_of_nonneg h0
theorem shl_i64 {a b : Int} (M : Int) (hM : (2 : Int) ^ (min b.toNat 64) = M) (h : -9223372036854775808 ≤ a * M ∧ a * M ≤ 9223372036854775807) : IntKind.i64.wrap (a * 2 ^ (min b.toNat IntKind.i64.bits)) = a * M := by
 have : IntKind.i64.bits = 64 := rfl
 rw [this, hM]; exact Xc h
theorem shr_any {a : Int} {n : Nat} (M : Int) (hM : (2 : Int) ^ n = M) : a.fdiv (2 ^ n) = a / M := by
 rw [← hM]
 exact Int.fdiv_eq_ediv_of_nonneg _ (Int.pow_nonneg (by omega))
theorem and_nat (k x m : Nat) (hm : m = 2 ^ k - 1) : x &&& m = x % 2 ^ k := by
 subst hm; exact Nat.and_two_pow_sub_one_eq_mod x k
theorem Yp (k : Nat) {x m : Int} (M : Int) (hM : (2 : Int) ^ k = M) (hm : m = M - 1) (hk : k ≤ 62) : Dn .and .i64 x m = x % M := by
 have e1 : ((BitVec.ofInt 64 x &&& BitVec.ofInt 64 m).toNat : Int) = x % M := by
  have hp : (2 : Nat) ^ k ≤ 2 ^ 62 := Nat.pow_le_pow_right (by omega) hk
  have hpos : 0 < (2 : Nat) ^ k := Nat.pow_pos (by omega)
  have hMn : M = ((2 ^ k : Nat) : Int) := by rw [← hM]; simp
  have hmn : m = ((2 ^ k - 1 : Nat) : Int) := by rw [hm, hMn]; omega
  have h2 : (BitVec.ofInt 64 m).toNat = 2 ^ k - 1 := by
   rw [hmn, BitVec.toNat_ofInt]
   have : (2 ^ k - 1 : Nat) < 2 ^ 64 := by omega
   have h3 : (((2 ^ k - 1 : Nat) : Int) % ((2 ^ 64 : Nat) : Int)) = ((2 ^ k - 1 : Nat) : Int) := Int.emod_eq_of_lt (by omega) (by omega)
   rw [h3]; simp
  rw [BitVec.toNat_and, h2, and_nat k _ _ rfl, BitVec.toNat_ofInt]
  rw [Int.natCast_emod, ← hMn]
  have h5 : (((x % ((2 ^ 64 : Nat) : Int)).toNat : Nat) : Int) = x % ((2 ^ 64 : Nat) : Int) := Int.toNat_of_nonneg (Int.emod_nonneg _ (by decide))
  rw [h5]
  refine Int.emod_emod_of_dvd x ?_
  rw [hMn]
  exact Int.natCast_dvd_natCast.2 (Nat.pow_dvd_pow 2 (by omega))
 have hpos : 0 < M := by rw [← hM]; exact Int.pow_pos (by omega)
 have hle : M ≤ 4611686018427387904 := by
  have h1 : (2 : Nat) ^ k ≤ 2 ^ 62 := Nat.pow_le_pow_right (by omega) hk
  have h2 : M = ((2 ^ k : Nat) : Int) := by rw [← hM]; simp
  omega
 have h0 := Int.emod_nonneg x (show M ≠ 0 by omega)
 have h1 := Int.emod_lt_of_pos x hpos
 show IntKind.i64.wrap ((BitVec.ofInt 64 x &&& BitVec.ofInt 64 m).toNat : Int) = x % M
 rw [e1]
 exact Xc ⟨by omega, by omega⟩
/-! ### places in a row -/
theorem Bz {k : Nat} : 0 + ((k : Nat) : Int).toNat * 1 = k := by simp
theorem Xt {off k : Nat} : off + ((k : Nat) : Int).toNat * 1 = off + k := by simp
theorem Zz {k sz : Nat} : 0 + ((k : Nat) : Int).toNat * sz = k * sz := by simp
theorem idx_castn {off k sz : Nat} : off + ((k : Nat) : Int).toNat * sz = off + k * sz := by simp
section
variable {P : Program} {E : Env} {w0 w : World} {L : List (Nat × Obj)}
variable {d : Option Nat} {ty : TypeId} {pos : String} {after : Array Edge}
theorem Ug {c a b : Operand} (hc : ev E c = .bool true)
  : (execOp (ev E) (mk d (.pick c a b) ty pos after)).run P w = .ok (.value (ev E a)) w := R_pick hc (by rw [if_pos rfl])
theorem Zg {c a b : Operand} (hc : ev E c = .bool false)
  : (execOp (ev E) (mk d (.pick c a b) ty pos after)).run P w = .ok (.value (ev E b)) w := R_pick hc (by rw [if_neg (by decide)])
theorem R_fn1 {fn : Fn} {x : Operand} {a : Option Addr} (h : ev E x = .pointer a) : (execOp (ev E) (mk d (.makeFunc fn #[] #[x]) ty pos after)).run P w = .ok (.value (.func fn #[] #[.pointer a])) w := R_makeFunc (by simp [h])
theorem Xj {t : TypeId} {x : Operand} (hx : ev E x = .bool true) : (execOp (ev E) (mk d (.unOp .not t x) ty pos after)).run P w = .ok (.value (.bool false)) w := R_not hx
theorem Xx {t : TypeId} {x : Operand} (hx : ev E x = .bool false) : (execOp (ev E) (mk d (.unOp .not t x) ty pos after)).run P w = .ok (.value (.bool true)) w := R_not hx
theorem Zd {t : TypeId} {x : Operand} {p : Prop} [Decidable p] (hx : ev E x = .bool (decide p)) : (execOp (ev E) (mk d (.unOp .not t x) ty pos after)).run P w = .ok (.value (.bool (decide (¬ p)))) w := by
 rw [R_not hx, decide_not]
section
variable {t t' : TypeId} {x y : Operand} {k : IntKind} {a b : Int} (hx : ev E x = .int k a) (hy : ev E y = .int k b)
include hx hy
theorem Yr (h : a = b) : (execOp (ev E) (mk d (.binOp .eql t x y t') ty pos after)).run P w = .ok (.value (.bool true)) w := by rw [Yk hx hy, decide_eq_true h]
theorem Xf (h : ¬ a = b) : (execOp (ev E) (mk d (.binOp .eql t x y t') ty pos after)).run P w = .ok (.value (.bool false)) w := by rw [Yk hx hy, decide_eq_false h]
theorem Dq (h : ¬ a = b) : (execOp (ev E) (mk d (.binOp .neq t x y t') ty pos after)).run P w = .ok (.value (.bool true)) w := by rw [Zu hx hy, decide_eq_true h]
theorem Yl (h : a = b) : (execOp (ev E) (mk d (.binOp .neq t x y t') ty pos after)).run P w = .ok (.value (.bool false)) w := by rw [Zu hx hy, decide_eq_false (fun n => n h)]
theorem Za (h : a < b) : (execOp (ev E) (mk d (.binOp .lss t x y t') ty pos after)).run P w = .ok (.value (.bool true)) w := by rw [Vb hx hy, decide_eq_true h]
theorem Xp (h : ¬ a < b) : (execOp (ev E) (mk d (.binOp .lss t x y t') ty pos after)).run P w = .ok (.value (.bool false)) w := by rw [Vb hx hy, decide_eq_false h]
theorem R_le_t (h : a ≤ b) : (execOp (ev E) (mk d (.binOp .leq t x y t') ty pos after)).run P w = .ok (.value (.bool true)) w := by rw [R_le hx hy, decide_eq_true h]
theorem R_le_f (h : ¬ a ≤ b) : (execOp (ev E) (mk d (.binOp .leq t x y t') ty pos after)).run P w = .ok (.value (.bool false)) w := by rw [R_le hx hy, decide_eq_false h]
theorem R_gt_t (h : b < a) : (execOp (ev E) (mk d (.binOp .gtr t x y t') ty pos after)).run P w = .ok (.value (.bool true)) w := by rw [R_gt hx hy, decide_eq_true h]
theorem Zm (h : ¬ b < a) : (execOp (ev E) (mk d (.binOp .gtr t x y t') ty pos after)).run P w = .ok (.value (.bool false)) w := by rw [R_gt hx hy, decide_eq_false h]
theorem R_ge_t (h : b ≤ a) : (execOp (ev E) (mk d (.binOp .geq t x y t') ty pos after)).run P w = .ok (.value (.bool true)) w := by rw [Mi hx hy, decide_eq_true h]
theorem Zn (h : ¬ b ≤ a) : (execOp (ev E) (mk d (.binOp .geq t x y t') ty pos after)).run P w = .ok (.value (.bool false)) w := by rw [Mi hx hy, decide_eq_false h]
end
section
variable {t t' : TypeId} {x y : Operand} {a b : Bool} (ht : P.underlying t = some .bool) (hx : ev E x = .bool a) (hy : ev E y = .bool b)
include ht hx hy
end
section
variable {t t' : TypeId} {x y : Operand} {p q : Prop} [Decidable p] [Decidable q] (ht : P.underlying t = some .bool) (hx : ev E x = .bool (decide p)) (hy : ev E y = .bool (decide q))
include ht hx hy
end
section
variable {t t' : TypeId} {x y : Operand} {a b : ByteArray} (hx : ev E x = .string a) (hy : ev E y = .string b)
include hx hy
end
end
/-! ### odds and ends -/
abbrev I (x : Int) : Value := .int .i64 x
abbrev U (x : UInt8) : Value := .int .u8 x.toNat
theorem Hp.pop {w0 w : World} {L : List (Nat × Obj)} {b : Nat} {o : Obj} (H : Hp w0 ((b, o) :: L) w) (hb : w0.heap.size ≤ b) : Hp w0 L w :=
 H.drop (List.sublist_cons_self _ _) fun p hp hn => by
  rcases List.mem_cons.1 hp with rfl | hp
  ·exact hb
  ·exact (hn hp).elim
/-- The block behind the first one, of no more interest. -/
theorem Hp.pop2 {w0 w : World} {L : List (Nat × Obj)} {b : Nat} {p : Nat × Obj} {o : Obj} (H : Hp w0 (p :: (b, o) :: L) w) (hb : w0.heap.size ≤ b) : Hp w0 (p :: L) w :=
 (H.perm (List.Perm.swap _ _ _)).pop hb
theorem Vg {w : World} {a b : Nat} {x y : Obj} (h1 : w.heap[a]? = some x) (h2 : w.heap[b]? = some y) (h : x ≠ y) : a ≠ b := by
 rintro rfl
 rw [h1] at h2
 exact h (Option.some.inj h2)
section
variable {P : Program} {w : World}
theorem Mn {tx e' e : TypeId} {sz b m c : Nat} {xs sp : List Value} (hk : P.underlying tx = some (.slice e')) (hb : w.heap[b]? = some (blk (xs ++ sp) e)) (hl : xs.length = m * sz) (h1 : ∀ u ∈ xs, u.oneCell' = true) :
  Src P sz tx (sl b 0 m c) m xs w :=
 Src.ofSlice w hk _ m c xs hl (fun j u hj => by
  rw [Zq, Uf hb, Nat.zero_add, List.getElem?_append_left (List.getElem?_eq_some_iff.1 hj).1]
  exact hj) h1
theorem Ut {tx e' e : TypeId} {b c : Nat} {x : Value} {sp : List Value} (hk : P.underlying tx = some (.slice e')) (hb : w.heap[b]? = some (blk (x :: sp) e)) (h1 : x.oneCell' = true) :
  Src P 1 tx (sl b 0 1 c) 1 [x] w := Mn (xs := [x]) hk hb rfl (by simpa using h1)
/-- cells that are known one by one -/
theorem src_cells {tx e' : TypeId} {sz b off m c : Nat} {xs : List Value} (hk : P.underlying tx = some (.slice e')) (hl : xs.length = m * sz) (hc : ∀ j u, xs[j]? = some u → w.cell? ⟨b, off + j, none⟩ = some u) (h1 : ∀ u ∈ xs, u.oneCell' = true) :
  Src P sz tx (sl b off m c) m xs w :=
 Src.ofSlice w hk _ m c xs hl (fun j u hj => by rw [Zq]; exact hc j u hj) h1
end
theorem Yo.form {B len sz : Nat} {e : TypeId} {v : Value} {xs : List Value} {M : List (Nat × Obj)} (h : Yo B e sz v len xs M) : ∃ ao cap, v = .slice ao len cap := by
 rcases h.2 with ⟨rfl, rfl, _⟩ | ⟨b, cap, sp, rfl, _⟩
 ·exact ⟨none, 0, rfl⟩
 ·exact ⟨_, cap, rfl⟩
theorem Yo.keys {B len sz : Nat} {e : TypeId} {v : Value} {xs : List Value} {M : List (Nat × Obj)} (h : Yo B e sz v len xs M) : ∀ p ∈ M, B ≤ p.1 := by
 rcases h.2 with ⟨_, _, rfl⟩ | ⟨b, cap, sp, _, hb, rfl, _⟩
 ·intro p hp; cases hp
 ·intro p hp; rw [List.mem_singleton.1 hp]; exact hb
/-- The new blocks at the list's end are of no more interest. -/
theorem Hp.cut {w0 w : World} {L M : List (Nat × Obj)} (H : Hp w0 (L ++ M) w) (hM : ∀ p ∈ M, w0.heap.size ≤ p.1) : Hp w0 L w :=
 H.drop (List.sublist_append_left L M) fun p hp hn => by
  rcases List.mem_append.1 hp with hp | hp
  ·exact (hn hp).elim
  ·exact hM p hp
/-! ### bytes -/
theorem Un {n : Nat} : IntKind.u8.wrap (n : Int) = ((UInt8.ofNat n).toNat : Int) := by
 rw [m_u8, UInt8.toNat_ofNat']; omega
theorem u8_add {x y : UInt8} : IntKind.u8.wrap ((x.toNat : Int) + (y.toNat : Int)) = ((x + y).toNat : Int) := by
 rw [m_u8, UInt8.toNat_add]; omega
theorem u8_ne {x : UInt8} : ((x.toNat : Int) ≠ 0) ↔ x ≠ 0 := by
 constructor
 ·rintro h rfl; exact h rfl
 ·intro h hn; exact h (UInt8.toNat_inj.1 (by rw [UInt8.toNat_zero]; omega))
theorem u8_eq {x y : UInt8} : ((x.toNat : Int) = (y.toNat : Int)) ↔ x = y := by
 constructor
 ·intro h; exact UInt8.toNat_inj.1 (by omega)
 ·rintro rfl; rfl
theorem or_bytes (x y : UInt8) : Dn .or .i64 ((x.toNat : Int) * 256) (y.toNat : Int) = (x.toNat : Int) * 256 + (y.toNat : Int) := by
 have hx := x.toNat_lt
 have hy := y.toNat_lt
 have e1 : (x.toNat : Int) * 256 = ((x.toNat * 256 : Nat) : Int) := by omega
 have h1 : (BitVec.ofInt 64 ((x.toNat : Int) * 256)).toNat = x.toNat * 256 := by rw [e1]; simp; omega
 have h2 : (BitVec.ofInt 64 (y.toNat : Int)).toNat = y.toNat := by simp
 show IntKind.i64.wrap ((BitVec.ofInt 64 ((x.toNat : Int) * 256) ||| BitVec.ofInt 64 (y.toNat : Int)).toNat : Int) = _
 rw [BitVec.toNat_or, h1, h2]
 have h3 : x.toNat * 256 ||| y.toNat = x.toNat * 256 + y.toNat := by
  have := Nat.two_pow_add_eq_or_of_lt (i := 8) (b := y.toNat) (by omega) x.toNat
  rw [Nat.mul_comm]; exact this.symm
 rw [h3, Xc ⟨by omega, by omega⟩]
 omega
/-! ### slices that are only read, whose elements take one cell -/
theorem Hp.cell {w0 w : World} {L : List (Nat × Obj)} (H : Hp w0 L w) {a : Addr} {u : Value} (h : w0.cell? a = some u) (hn : a.block ∉ L.map (·.1)) : w.cell? a = some u := by
 have hlt : a.block < w0.heap.size := by
  rcases Nat.lt_or_ge a.block w0.heap.size with h' | h'
  ·exact h'
  ·simp [World.cell?, Array.getElem?_eq_none h'] at h
 rw [← h]
 simp only [World.cell?, H.old a.block hlt hn]
theorem Hp.block {w0 w : World} {L : List (Nat × Obj)} (H : Hp w0 L w) {b : Nat} {o : Obj} (h : w0.heap[b]? = some o) (hn : b ∉ L.map (·.1)) : w.heap[b]? = some o := by
 rw [H.old b (Qr h) hn]; exact h
theorem AtM.one {b : Nat} {o : Obj} {B : List (Nat × Obj)} : AtM ((b, o) :: B) [(b, o)] (fun M' => M' ++ B) := AtM.here (M := [(b, o)])
theorem Yo.pos {B len sz : Nat} {e : TypeId} {v : Value} {xs : List Value} {M : List (Nat × Obj)} (h : Yo B e sz v len xs M) (h0 : 0 < len) :
  ∃ b cap sp, v = sl b 0 len cap ∧ B ≤ b ∧ M = [(b, blk (xs ++ sp) e)] ∧ sp.length = (cap - len) * sz ∧ len ≤ cap := by
 rcases h.2 with ⟨_, hh, _⟩ | h
 ·omega
 ·exact h
theorem Xu {B : Nat} : ∀ p ∈ ([] : List (Nat × Obj)), B ≤ p.1 := fun _ h => nomatch h
theorem Qu {B b : Nat} {o : Obj} {M : List (Nat × Obj)} (hb : B ≤ b) (h : ∀ p ∈ M, B ≤ p.1) : ∀ p ∈ (b, o) :: M, B ≤ p.1 := fun p hp => by
 rcases List.mem_cons.1 hp with rfl | hp
 ·exact hb
 ·exact h p hp
theorem Yv {B : Nat} {M N : List (Nat × Obj)} (h : ∀ p ∈ M, B ≤ p.1) (h' : ∀ p ∈ N, B ≤ p.1) : ∀ p ∈ M ++ N, B ≤ p.1 := fun p hp => by
 rcases List.mem_append.1 hp with hp | hp
 ·exact h p hp
 ·exact h' p hp
theorem kYs {B : Nat} {L : List (Nat × Obj)} (h : ∀ p ∈ L, B ≤ p.1 := by repeat' first | exact Xu | apply Qu | apply Yv | assumption | exact Yo.keys (by assumption)) : ∀ p ∈ L, B ≤ p.1 := h
theorem Hp.Qc {w0 w : World} {L : List (Nat × Obj)} (H : Hp w0 L w) {b : Nat} {o : Obj} (h : w0.heap[b]? = some o) (hn : ∀ p ∈ L, w0.heap.size ≤ p.1) : w.heap[b]? = some o := by
 refine H.block h fun hm => ?_
 obtain ⟨p, hp, e⟩ := List.mem_map.1 hm
 have := hn p hp
 have := Qr h
 omega
theorem At.app {L : List (Nat × Obj)} {b : Nat} {o : Obj} {f} (M : List (Nat × Obj)) (h : At L b o f) : At (M ++ L) b o (fun o => M ++ f o) := by
 induction M with
 | nil => exact h
 | cons p M ih => exact .there ih
theorem AtM.app {L N : List (Nat × Obj)} {f} (M : List (Nat × Obj)) (h : AtM L N f) : AtM (M ++ L) N (fun N => M ++ f N) := by
 induction M with
 | nil => exact h
 | cons p M ih => exact .there ih
theorem okSeq_all {w : World} : ∀ {M L : List (Nat × Obj)}, (∀ p ∈ M, w.heap.size ≤ p.1) → okSeq w L M (M.reverse ++ L)
 | [], _, _ => rfl
 | (b, o) :: M, L, h => by
  rw [List.reverse_cons, List.append_assoc]
  exact okSeq_new (h _ (.head _)) (okSeq_all fun p hp => h p (.tail _ hp))
/-- What a call leaves that only makes new blocks. -/
theorem Hp.Zo {w0 w w' : World} {L M : List (Nat × Obj)} (H : Hp w0 L w) (H1 : Hp w M w') (hM : ∀ p ∈ M, w.heap.size ≤ p.1) : Hp w0 (M ++ L) w' :=
 (H.seq H1 (okSeq_all hM)).perm (List.reverse_perm M |>.append_right L)
theorem Yo.mono {B B' len sz : Nat} {e : TypeId} {v : Value} {xs : List Value} {M : List (Nat × Obj)} (h : Yo B e sz v len xs M) (hB : B' ≤ B) : Yo B' e sz v len xs M := by
 refine ⟨h.1, ?_⟩
 rcases h.2 with h | ⟨b, cap, sp, h1, h2, h3⟩
 ·exact .inl h
 ·exact .inr ⟨b, cap, sp, h1, Nat.le_trans hB h2, h3⟩
theorem Hp.seq1 {w0 w w' : World} {L : List (Nat × Obj)} {b : Nat} {o : Obj} (H : Hp w0 L w) (hb : w.heap.size ≤ b) (H1 : Hp w [(b, o)] w') : w0.heap.size ≤ b ∧ Hp w0 ((b, o) :: L) w' :=
 ⟨Nat.le_trans H.size hb, H.seq H1 (okSeq_new hb Yi)⟩
theorem Hp.Bx {w0 w w' : World} {L : List (Nat × Obj)} {b : Nat} {o o' : Obj} (H : Hp w0 L w) (hb : w0.heap[b]? = some o) (hn : ∀ p ∈ L, w0.heap.size ≤ p.1) (H1 : Hp w [(b, o')] w') : Hp w0 ((b, o') :: L) w' :=
 (H.focus (H.Qc hb hn) (fun hm => by
  obtain ⟨p, hp, e⟩ := List.mem_map.1 hm
  have := hn p hp
  have := Qr hb
  omega)).seq H1 (Yh .here Yi)
theorem Hp.none {w0 w : World} {L : List (Nat × Obj)} (H : Hp w0 L w) (hL : ∀ p ∈ L, w0.heap.size ≤ p.1) : Hp w0 [] w :=
 H.drop (List.nil_sublist _) fun p hp _ => hL p hp
theorem Hp.Ub {w0 w : World} {L M : List (Nat × Obj)} (H : Hp w0 (M ++ L) w) (hM : ∀ p ∈ M, w0.heap.size ≤ p.1) : Hp w0 L w :=
 H.drop (List.sublist_append_right M L) fun p hp hn => by
  rcases List.mem_append.1 hp with hp | hp
  ·exact hM p hp
  ·exact (hn hp).elim
theorem Hp.Yn {w0 w w' : World} {L M : List (Nat × Obj)} {len sz : Nat} {e : TypeId} {v : Value} {xs : List Value} (H : Hp w0 L w) (hO : Yo w.heap.size e sz v len xs M) (H1 : Hp w M w') :
  Yo w0.heap.size e sz v len xs M ∧ Hp w0 (M ++ L) w' := ⟨hO.mono H.size, H.Zo H1 hO.keys⟩
/-- Where all that is in sight is new. -/
theorem Hp.Zx {w0 w : World} {L : List (Nat × Obj)} (H : Hp w0 L w) {a : Addr} {u : Value} (h : w0.cell? a = some u) (hn : ∀ p ∈ L, w0.heap.size ≤ p.1) : w.cell? a = some u := by
 refine H.cell h fun hm => ?_
 obtain ⟨p, hp, e⟩ := List.mem_map.1 hm
 have hlt : a.block < w0.heap.size := by
  rcases Nat.lt_or_ge a.block w0.heap.size with h' | h'
  ·exact h'
  ·simp [World.cell?, Array.getElem?_eq_none h'] at h
 have := hn p hp
 omega
/-- The slice v reads as xs. -/
def RdS (w : World) (v : Value) (xs : List Value) : Prop :=
 ∃ ao cap, v = .slice ao xs.length cap ∧ xs.length ≤ cap ∧ (xs = [] ∨ ∃ b off, ao = some ⟨b, off, none⟩ ∧ ∀ j u, xs[j]? = some u → w.cell? ⟨b, off + j, none⟩ = some u)
theorem RdS.nil {w : World} : RdS w nilS [] := ⟨none, 0, rfl, Nat.le_refl _, .inl rfl⟩
theorem RdS.blk {w : World} {b off m cap : Nat} {c xs : List Value} {e : TypeId} {fz : Nat × Nat} (hb : w.heap[b]? = some (.cells c.toArray e fz)) (h : (c.drop off).take m = xs) (hm : off + m ≤ c.length) (hc : m ≤ cap) : RdS w (sl b off m cap) xs := by
 have hl : xs.length = m := by subst h; simp; omega
 refine ⟨some ⟨b, off, none⟩, cap, by rw [hl], by omega, .inr ⟨b, off, rfl, fun j u hj => ?_⟩⟩
 rw [Uf hb]
 subst h
 rw [List.getElem?_take] at hj
 split at hj
 ·rwa [List.getElem?_drop] at hj
 ·cases hj
theorem RdS.own {w : World} {B : Nat} {e : TypeId} {v : Value} {m : Nat} {xs : List Value} {M : List (Nat × Obj)} (h : Yo B e 1 v m xs M) (hM : ∀ p ∈ M, w.heap[p.1]? = some p.2) : RdS w v xs := by
 obtain ⟨hl, h⟩ := h
 rw [Nat.mul_one] at hl
 rcases h with ⟨rfl, rfl, rfl⟩ | ⟨b, cap, sp, rfl, hb, rfl, hs, hc⟩
 ·obtain rfl : xs = [] := List.length_eq_zero_iff.1 hl
  exact RdS.nil
 ·exact RdS.blk (c := xs ++ sp) (off := 0) (hM _ (.head _)) (by simp [← hl]) (by simp; omega) hc
theorem RdS.cell {w : World} {ao : Option Addr} {m cap i : Nat} {xs : List Value} {u : Value} (h : RdS w (.slice ao m cap) xs) (hi : xs[i]? = some u) : ∃ b off, ao = some ⟨b, off, none⟩ ∧ w.cell? ⟨b, off + i, none⟩ = some u := by
 obtain ⟨ao', cap', e, _, h⟩ := h
 cases e
 rcases h with rfl | ⟨b, off, h1, h2⟩
 ·simp at hi
 ·exact ⟨b, off, h1, h2 i u hi⟩
theorem RdS.mono {w w' : World} {v : Value} {xs : List Value} {L} (h : RdS w v xs) (H : Hp w L w') (hn : ∀ a m c, v = .slice (some a) m c → a.block ∉ L.map (·.1)) : RdS w' v xs := by
 obtain ⟨ao, cap, rfl, hl, h⟩ := h
 refine ⟨ao, cap, rfl, hl, ?_⟩
 rcases h with h | ⟨b, off, rfl, h⟩
 ·exact .inl h
 ·exact .inr ⟨b, off, rfl, fun j u hj => H.cell (h j u hj) (hn ⟨b, off, none⟩ _ _ rfl)⟩
theorem RdS.Yd {w w' : World} {v : Value} {xs : List Value} {L} (h : RdS w v xs) (H : Hp w L w') (hn : ∀ p ∈ L, w.heap.size ≤ p.1) : RdS w' v xs := by
 obtain ⟨ao, cap, rfl, hl, h⟩ := h
 refine ⟨ao, cap, rfl, hl, ?_⟩
 rcases h with h | ⟨b, off, rfl, h⟩
 ·exact .inl h
 ·exact .inr ⟨b, off, rfl, fun j u hj => H.Zx (h j u hj) hn⟩
theorem RdS.same {w w' : World} {v : Value} {xs : List Value} (h : RdS w v xs) (H : Hp w [] w') : RdS w' v xs := h.mono H (fun _ _ _ _ => by simp)
/-- What a slice shows of its first elements. -/
theorem RdS.src {P : Program} {w : World} {tx e' : TypeId} {v : Value} {xs : List Value} (h : RdS w v xs) (hk : P.underlying tx = some (.slice e')) (h1 : ∀ u ∈ xs, u.oneCell' = true) : Src P 1 tx v xs.length xs w := by
 obtain ⟨ao, cap, rfl, hl, h⟩ := h
 rcases h with rfl | ⟨b, off, rfl, h⟩
 ·cases ao with
  | none => exact Src.ofNil w hk cap
  | some a => exact Src.ofSlice w hk a 0 cap [] rfl (fun j u hj => by simp at hj) (by simp)
 ·exact src_cells hk (by simp) h h1
end Go.Proofs.YtlpmfldijgdcoaaGreatDoor.Fx
namespace Go.Proofs.YtlpmfldijgdcoaaGreatDoor.Fx
open Go Go.RowKit
theorem Hp.below {w w' : World} (H : Hp w [] w') : Below w.heap.size w w' :=
 ⟨H.os, H.tape, H.output, H.size, fun k hk => H.old k hk (by simp)⟩
theorem calls_of_ret {P : Program} {f : FuncId} {args : Array Value} {w : World} (h : Ret P f args w fun v w' => v = .bool true ∧ Hp w [] w') :
  Calls P f args w fun e w' => e = .returned (.bool true) ∧ Below w.heap.size w w' :=
 Calls.mono h.out (by rintro e w' ⟨v, rfl, rfl, H⟩; exact ⟨rfl, H.below⟩)
theorem Np {w : World} {x : Addr} {v : Value} (h : w.cell? x = some v) : x = ⟨x.block, x.off, none⟩ := by
 cases x with
 | mk b o s =>
  cases s with
  | none => rfl
  | some s =>
   unfold World.cell? at h
   split at h
   ·simp at h
   ·cases h
/-- a slice of integers that came in -/
theorem rds_of_row {k : IntKind} {w : World} {a : Option Addr} {len cap : Nat} {zs : List Int}
  (h : (a = none ∧ len = 0 ∧ cap = 0 ∧ zs = []) ∨
   ∃ x, a = some x ∧ len ≤ cap ∧ cap ≤ maxLen ∧ zs.length = cap ∧ (∀ i, i < zs.length → w.cell? (x.add i) = some (.int k (zs.getD i 0))) ∧ ∀ n ∈ zs, (Lit.int k n).wf = true) :
  ∃ xs : List Int, xs.length = len ∧ len ≤ 9223372036854775807 ∧ RdS w (.slice a len cap) (xs.map (Value.int k)) ∧ ∀ n ∈ xs, (Lit.int k n).wf = true := by
 rcases h with ⟨rfl, rfl, rfl, rfl⟩ | ⟨x, rfl, hl, hm, hz, hc, hw⟩
 ·exact ⟨[], rfl, by omega, RdS.nil, fun n h => nomatch h⟩
 ·refine ⟨zs.take len, by simp; omega, by unfold maxLen at hm; omega, ?_, fun n hn => hw n (List.mem_of_mem_take hn)⟩
  have e1 : ((zs.take len).map (Value.int k)).length = len := by simp; omega
  refine ⟨some x, cap, by rw [e1], by rw [e1]; exact hl, ?_⟩
  rcases Nat.eq_zero_or_pos len with rfl | hpos
  ·exact .inl (by simp)
  ·refine .inr ⟨x.block, x.off, ?_, fun j u hj => ?_⟩
   ·have h0 := hc 0 (by omega)
    have hx : x.add 0 = x := by simp [Addr.add]
    rw [hx] at h0
    exact congrArg some (Np h0)
   ·rw [List.getElem?_map, List.getElem?_take] at hj
    split at hj
    ·rename_i hjl
     rw [List.getElem?_eq_getElem (by omega)] at hj
     simp only [Option.map_some, Option.some.injEq] at hj
     have hcj := hc j (by omega)
     have h0 := hc 0 (by omega)
     have hx : x.add 0 = x := by simp [Addr.add]
     rw [hx] at h0
     rw [Np h0, Zq] at hcj
     rw [hcj, ← hj]
     simp [List.getD_eq_getElem?_getD, List.getElem?_eq_getElem (show j < zs.length by omega)]
    ·simp at hj
theorem wf_i64 {a : Int} (h : (Lit.int .i64 a).wf = true) : -9223372036854775808 ≤ a ∧ a ≤ 9223372036854775807 := by
 simpa [Lit.wf, IntKind.min, IntKind.max, IntKind.signed, IntKind.bits] using h
theorem wf_u8 {a : Int} (h : (Lit.int .u8 a).wf = true) : 0 ≤ a ∧ a ≤ 255 := by
 simpa [Lit.wf, IntKind.min, IntKind.max, IntKind.signed, IntKind.bits] using h
/-- a slice of bytes that came in -/
theorem bytes_of_row {w : World} {a : Option Addr} {len cap : Nat} {zs : List Int}
  (h : (a = none ∧ len = 0 ∧ cap = 0 ∧ zs = []) ∨
   ∃ x, a = some x ∧ len ≤ cap ∧ cap ≤ maxLen ∧ zs.length = cap ∧ (∀ i, i < zs.length → w.cell? (x.add i) = some (.int .u8 (zs.getD i 0))) ∧ ∀ n ∈ zs, (Lit.int .u8 n).wf = true) :
  ∃ xs : List UInt8, xs.length = len ∧ len ≤ 9223372036854775807 ∧ RdS w (.slice a len cap) (xs.map U) := by
 obtain ⟨xs, hl, hb, hr, hw⟩ := rds_of_row h
 refine ⟨xs.map fun n => UInt8.ofNat n.toNat, by simpa using hl, hb, ?_⟩
 have e : (xs.map fun n => UInt8.ofNat n.toNat).map U = xs.map (Value.int .u8) := by
  rw [List.map_map]
  refine List.map_congr_left fun n hn => ?_
  have := wf_u8 (hw n hn)
  refine congrArg (Value.int .u8) ?_
  rw [UInt8.toNat_ofNat']
  omega
 rw [e]; exact hr
end Go.Proofs.YtlpmfldijgdcoaaGreatDoor.Fx
namespace Go.Proofs.YtlpmfldijgdcoaaGreatDoor.Fx
open Go
section
variable {P : Program} {E : Env} {w0 w : World} {L : List (Nat × Obj)}
variable {d : Option Nat} {ty : TypeId} {pos : String} {after : Array Edge}
theorem R_eq_sl {t t' e : TypeId} {x y : Operand} {a : Addr} {n1 n2 m1 m2 : Nat} (ht : P.underlying t = some (.slice e)) (hx : ev E x = .slice (some a) n1 n2) (hy : ev E y = .slice none m1 m2)
  : (execOp (ev E) (mk d (.binOp .eql t x y t') ty pos after)).run P w = .ok (.value ((.bool false))) w :=
 R_eqv hx hy Mt (by simp only [binOp, Sem.run_bind, Uz (eqIn_slice_nil ht), Result.andThen_ok, Sem.run_pure])
theorem R_eq_nils {t t' e : TypeId} {x y : Operand} {n1 n2 m1 m2 : Nat} (ht : P.underlying t = some (.slice e)) (hx : ev E x = .slice none n1 n2) (hy : ev E y = .slice none m1 m2)
  : (execOp (ev E) (mk d (.binOp .eql t x y t') ty pos after)).run P w = .ok (.value ((.bool true))) w :=
 R_eqv hx hy Mt (by simp only [binOp, Sem.run_bind, Uz (eqIn_nils_nil ht), Result.andThen_ok, Sem.run_pure])
/-- a string, by its bytes -/
abbrev S (xs : List UInt8) : Value := .string ⟨xs.toArray⟩
theorem foldl_push_u (xs : List UInt8) : ∀ s : ByteArray, (xs.map fun x => (x.toNat : Int)).foldl (fun r n => r.push (UInt8.ofNat n.toNat)) s = ⟨s.data ++ xs.toArray⟩ := by
 induction xs with
 | nil => intro s; simp
 | cons x xs ih => intro s; rw [List.map_cons, List.foldl_cons, ih]; simp [ByteArray.push]
theorem loadCells_of {a : Addr} {b off : Nat} {xs : List Value} (ha : a = ⟨b, off, none⟩) (h : ∀ j u, xs[j]? = some u → w.cell? ⟨b, off + j, none⟩ = some u) (n : Nat) : (loadCells a (xs.take n).length).run P w = .ok (xs.take n).toArray w := by
 subst ha
 refine run_loadCells_list w _ _ (fun j v hj => ?_)
 rw [Zq]
 rw [List.getElem?_take] at hj
 split at hj
 ·exact h j v hj
 ·cases hj
theorem Ua {s t e : TypeId} {x : Operand} {v : Value} {xs : List UInt8} (hs : P.underlying s = some (.slice e)) (he : P.underlying e = some (.int .u8)) (ht : P.underlying t = some .string) (hx : ev E x = v) (h : RdS w v (xs.map U))
  : (execOp (ev E) (mk d (.convert s t x) ty pos after)).run P w = .ok (.value (S xs)) w := by
 obtain ⟨ao, cap, rfl, hl, h⟩ := h
 have hgo : ∀ a, ao = some a → (loadCells a (xs.map U).length).run P w = .ok (xs.map U).toArray w → (execOp (ev E) (mk d (.convert s t x) ty pos after)).run P w = .ok (.value (S xs)) w := by
  rintro a rfl hld
  have e1 : xs.map U = (xs.map fun x => (x.toNat : Int)).map (Value.int .u8) := by rw [List.map_map]; rfl
  have h2 := run_bytesToString (P := P) w a (xs.map U).length cap (xs.map fun x => (x.toNat : Int)) (by rw [hld, e1])
  rw [foldl_push_u] at h2
  simp only [execOp, Sem.run_bind, Sem.run_pure, Result.andThen_ok, hx, run_convert_bytes_string w s t e (some a) (xs.map U).length cap hs he ht, h2]
  congr 2
  simp [S]
 rcases h with h0 | ⟨b, off, rfl, h⟩
 ·obtain rfl : xs = [] := by simpa using h0
  cases ao with
  | none => simp [execOp, hx, run_convert_bytes_string w s t e none 0 cap hs he ht, Conv.bytesToString, S]; rfl
  | some a => exact hgo a rfl (by simpa using run_loadCells_list (P := P) w a [] (by simp))
 ·exact hgo _ rfl (by have := loadCells_of (P := P) rfl h (xs.map U).length; rwa [List.take_length] at this)
/-- what copy and append read of -/
def CopySrc (P : Program) (w : World) (u : Value) (xs : List Value) : Prop :=
 (∀ w' : World, (Builtin.lenOf u).run P w' = .ok xs.length w') ∧ ∀ n, n ≤ xs.length → (Builtin.firstCells 1 n u).run P w = .ok (xs.take n).toArray w
theorem RdS.csrc {v : Value} {xs : List Value} (h : RdS w v xs) : CopySrc P w v xs := by
 obtain ⟨ao, cap, rfl, hl, h⟩ := h
 refine ⟨fun w' => by simp [Builtin.lenOf], fun n hn => ?_⟩
 rcases h with rfl | ⟨b, off, rfl, h⟩
 ·obtain rfl : n = 0 := by simpa using hn
  cases ao with
  | none => simp [Builtin.firstCells]
  | some a => simpa [Builtin.firstCells] using run_loadCells_list (P := P) w a [] (by simp)
 ·have := loadCells_of (P := P) rfl h n
  rw [List.length_take, Nat.min_eq_left hn] at this
  simpa [Builtin.firstCells] using this
theorem E_copy {dT sT elem : TypeId} {b off len cap : Nat} {c xs : List Value} {e : TypeId} {f} {u : Value} {x y : Operand} (H : Hp w0 L w) (hL : At L b (blk c e) f) (ht : P.underlying dT = some (.slice elem)) (hS : ∀ w, (sizeOf elem).run P w = .ok 1 w)
  (hx : ev E x = sl b off len cap) (hy : ev E y = u) (hu : CopySrc P w u xs) (hfit : off + len ≤ c.length) (h1 : ∀ v ∈ xs, v.oneCell' = true) :
  ∃ (v : Value) (_ : Unit) (w' : World), v = I (min xs.length len : Nat) ∧ Hp w0 (f (blk (c.take off ++ xs.take len ++ c.drop (off + min xs.length len)) e)) w' ∧
   (execOp (ev E) (mk d (bi .copy #[x, y] #[dT, sT]) ty pos after)).run P w = .ok (.value v) w' := by
 have hg := H.get hL
 have e1 : xs.take len = xs.take (min xs.length len) := by
  rcases Nat.le_total xs.length len with h | h
  ·rw [Nat.min_eq_left h, List.take_of_length_le h, List.take_length]
  ·rw [Nat.min_eq_right h]
 have hlen : (xs.take len).length = min xs.length len := by rw [List.length_take, Nat.min_comm]
 have hst := run_storeCells_at P b off e (xs.take len) 0 c.toArray w hg (by rw [hlen]; simp; omega) (fun v hv => h1 v (List.mem_of_mem_take hv))
 simp only [Nat.add_zero, hlen] at hst
 have hfc := hu.2 (min xs.length len) (Nat.min_le_left _ _)
 rw [← e1] at hfc
 refine ⟨_, (), _, rfl, H.setRow hL (c' := c.take off ++ xs.take len ++ c.drop (off + min xs.length len)), ?_⟩
 ·have hnm : Nat.min xs.length len = min xs.length len := rfl
  simp [execOp, resolve, invoke, builtin, hx, hy, Builtin.copy_, run_underlying ht, hu.1, hS, hnm, hfc, hst, goInt]
theorem R_copy0 {dT sT elem : TypeId} {u : Value} {xs : List Value} {ao : Option Addr} {len cap : Nat} {x y : Operand} (ht : P.underlying dT = some (.slice elem)) (hS : ∀ w, (sizeOf elem).run P w = .ok 1 w)
  (hx : ev E x = .slice ao len cap) (hy : ev E y = u) (hu : CopySrc P w u xs) (h0 : xs.length = 0 ∨ len = 0) :
  (execOp (ev E) (mk d (bi .copy #[x, y] #[dT, sT]) ty pos after)).run P w = .ok (.value (I 0)) w := by
 have hnm : Nat.min xs.length len = 0 := by show min xs.length len = 0; omega
 have hfc := hu.2 0 (Nat.zero_le _)
 cases ao <;> simp [execOp, resolve, invoke, builtin, hx, hy, Builtin.copy_, run_underlying ht, hu.1, hS, hnm, hfc, goInt, storeCells]
/-! ### strings by their bytes -/
theorem S_size {xs : List UInt8} : (⟨xs.toArray⟩ : ByteArray).size = xs.length := by simp [ByteArray.size]
theorem Na {t : TypeId} {x : Operand} {xs : List UInt8} (ht : P.underlying t = some .string) (hx : ev E x = S xs)
  : (execOp (ev E) (mk d (bi .len #[x] #[t]) ty pos after)).run P w = .ok (.value (I xs.length)) w := by
 have := R_len_string (P := P) (w := w) (d := d) (ty := ty) (pos := pos) (after := after) ht hx
 rwa [S_size] at this
theorem Vz {t : TypeId} {x y : Operand} {k : IntKind} {i : Int} {xs : List UInt8} {u : UInt8} (ht : P.underlying t = some .string)
  (hx : ev E x = S xs) (hy : ev E y = .int k i) (h0 : 0 ≤ i) (hv : xs[i.toNat]? = some u)
  : (execOp (ev E) (mk d (.index t x y) ty pos after)).run P w = .ok (.value (U u)) w :=
 R_indexS ht hx hy h0 (by simpa using hv)
theorem R_cat_S {t t' : TypeId} {x y : Operand} {xs ys : List UInt8} (hx : ev E x = S xs) (hy : ev E y = S ys) (hl : xs.length + ys.length ≤ 9223372036854775807)
  : (execOp (ev E) (mk d (.binOp .add t x y t') ty pos after)).run P w = .ok (.value (S (xs ++ ys))) w :=
 R_cat hx hy (by rw [S_size, S_size]; omega) (by
  apply ByteArray.ext
  simp)
theorem R_ne_S {t t' : TypeId} {x y : Operand} {xs ys : List UInt8} (hx : ev E x = S xs) (hy : ev E y = S ys)
  : (execOp (ev E) (mk d (.binOp .neq t x y t') ty pos after)).run P w = .ok (.value (.bool (decide (xs ≠ ys)))) w := by
 rw [R_ne_str hx hy]
theorem R_ne_S_f {t t' : TypeId} {x y : Operand} {xs ys : List UInt8} (hx : ev E x = S xs) (hy : ev E y = S ys) (h : xs = ys)
  : (execOp (ev E) (mk d (.binOp .neq t x y t') ty pos after)).run P w = .ok (.value (.bool false)) w := by
 rw [R_ne_S hx hy, decide_eq_false (by simpa using h)]
theorem R_ne_S_t {t t' : TypeId} {x y : Operand} {xs ys : List UInt8} (hx : ev E x = S xs) (hy : ev E y = S ys) (h : ¬ xs = ys)
  : (execOp (ev E) (mk d (.binOp .neq t x y t') ty pos after)).run P w = .ok (.value (.bool true)) w := by
 rw [R_ne_S hx hy, decide_eq_true h]
/-- what is behind the last element of a slice's room -/
theorem R_sliceE {t elem : TypeId} {x : Operand} {lo hi : Option Operand} {b off len cap sz : Nat} {i j : Int} (ht : P.underlying t = some (.slice elem)) (hS : ∀ w, (sizeOf elem).run P w = .ok sz w)
  (hx : ev E x = sl b off len cap) (hlo : Bd E lo 0 i) (hhi : Bd E hi len j) (h0 : i = cap) (h1 : j = cap)
  : (execOp (ev E) (mk d (.slice t x lo hi none) ty pos after)).run P w = .ok (.value (sl b off 0 0)) w := by
 have h2 : j ≤ cap := by omega
 have h0' : 0 ≤ i := by omega
 have h1' : i ≤ j := by omega
 have hb : (Instr.sliceBounds true len cap (lo.map (ev E)) (hi.map (ev E)) none).run P w = .ok (i.toNat, j.toNat, cap) w := by
  cases hlo with
  | none =>
   cases hhi with
   | none => simp [Instr.sliceBounds]
   | some hh => simp [Instr.sliceBounds, hh, Ye (P := P) (w := w) (code := .sliceAcap) (show 0 ≤ j by omega) h2]
  | some hl =>
   cases hhi with
   | none => simp [Instr.sliceBounds, hl, Ye (P := P) (w := w) (code := .sliceB) h0' h1']
   | some hh => simp [Instr.sliceBounds, hl, hh, Ye (P := P) (w := w) (code := .sliceAcap) (show 0 ≤ j by omega) h2, Ye (P := P) (w := w) (code := .sliceB) (y := j.toNat) h0' (by omega)]
 have e1 : i.toNat = cap := by omega
 have e2 : j.toNat = cap := by omega
 rw [e1, e2] at hb
 simp [execOp, hx, Instr.sliceAt, Instr.slice, run_underlying ht, hb, hS]
theorem Yf {x : UInt8} : IntKind.i64.wrap (x.toNat : Int) = (x.toNat : Int) := by
 have := x.toNat_lt
 exact Xc ⟨by omega, by omega⟩
end
end Go.Proofs.YtlpmfldijgdcoaaGreatDoor.Fx
namespace Go.Proofs.YtlpmfldijgdcoaaGreatDoor.Fx
open Go
section
variable {α : Type} {f : α → List Value} {sz : Nat}
/-- the cells of things in a row -/
def rows (f : α → List Value) (l : List α) : List Value := l.flatMap f
theorem Zh (hf : ∀ a, (f a).length = sz) (l : List α) : (rows f l).length = l.length * sz := by
 unfold rows
 induction l with
 | nil => simp
 | cons a l ih => rw [List.flatMap_cons, List.length_append, ih, hf, List.length_cons, Nat.add_mul, Nat.one_mul, Nat.add_comm]
theorem rows_drop (hf : ∀ a, (f a).length = sz) : ∀ (l : List α) (i : Nat), (rows f l).drop (i * sz) = rows f (l.drop i)
 | l, 0 => by simp
 | [], i + 1 => by simp [rows]
 | a :: l, i + 1 => by
  have e : (i + 1) * sz = sz + i * sz := by rw [Nat.add_mul, Nat.one_mul, Nat.add_comm]
  have h := rows_drop hf l i
  unfold rows at h ⊢
  rw [List.flatMap_cons, e, ← List.drop_drop, List.drop_left' (hf a), h, List.drop_succ_cons]
theorem rows_take (hf : ∀ a, (f a).length = sz) : ∀ (l : List α) (i : Nat), (rows f l).take (i * sz) = rows f (l.take i)
 | l, 0 => by simp [rows]
 | [], i + 1 => by simp [rows]
 | a :: l, i + 1 => by
  have e : (i + 1) * sz = sz + i * sz := by rw [Nat.add_mul, Nat.one_mul, Nat.add_comm]
  have h := rows_take hf l i
  unfold rows at h ⊢
  rw [List.flatMap_cons, e, List.take_add, List.take_left' (hf a), List.drop_left' (hf a), h, List.take_succ_cons, List.flatMap_cons]
theorem rows_one (hf : ∀ a, (f a).length = sz) {l : List α} {i : Nat} {a : α} (h : l[i]? = some a) : ((rows f l).drop (i * sz)).take sz = f a := by
 obtain ⟨hi, rfl⟩ := List.getElem?_eq_some_iff.1 h
 rw [rows_drop hf, List.drop_eq_getElem_cons hi]
 unfold rows
 rw [List.flatMap_cons, List.take_left' (hf _)]
theorem Nj (hf : ∀ a, (f a).length = sz) {l : List α} {i j : Nat} {a : α} (h : l[i]? = some a) (hj : j < sz) : (rows f l)[i * sz + j]? = (f a)[j]? := by
 have := congrArg (fun l => l[j]?) (rows_one hf h)
 simp only [List.getElem?_take, if_pos hj, List.getElem?_drop] at this
 exact this
theorem Ba (l m : List α) : rows f (l ++ m) = rows f l ++ rows f m := by
 unfold rows; rw [List.flatMap_append]
theorem rows_set (hf : ∀ a, (f a).length = sz) {l : List α} {i j : Nat} {a a' : α} {v : Value} (h : l[i]? = some a) (hj : j < sz) (ha : f a' = (f a).set j v) : (rows f l).set (i * sz + j) v = rows f (l.set i a') := by
 obtain ⟨hi, rfl⟩ := List.getElem?_eq_some_iff.1 h
 have e1 : l = l.take i ++ (l[i] :: l.drop (i + 1)) := by rw [← List.drop_eq_getElem_cons hi, List.take_append_drop]
 have e2 : l.set i a' = l.take i ++ (a' :: l.drop (i + 1)) := by rw [List.set_eq_take_append_cons_drop, if_pos hi]
 have hl : (rows f (l.take i)).length = i * sz := by rw [Zh hf, List.length_take, Nat.min_eq_left (by omega)]
 rw [e2]
 conv => lhs; rw [e1]
 rw [Ba, Ba, List.set_append, if_neg (by omega), hl, show i * sz + j - i * sz = j from by omega]
 congr 1
 unfold rows
 rw [List.flatMap_cons, List.flatMap_cons, List.set_append, if_pos (by rw [hf]; exact hj), ha]
/-- the whole of a thing gives way to another -/
theorem rows_put (hf : ∀ a, (f a).length = sz) {l : List α} {i : Nat} {a' : α} (hi : i < l.length) : (rows f l).take (i * sz) ++ f a' ++ (rows f l).drop (i * sz + sz) = rows f (l.set i a') := by
 have e2 : l.set i a' = l.take i ++ (a' :: l.drop (i + 1)) := by rw [List.set_eq_take_append_cons_drop, if_pos hi]
 rw [e2, Ba, rows_take hf, show i * sz + sz = (i + 1) * sz from by rw [Nat.add_mul, Nat.one_mul], rows_drop hf, List.append_assoc]
 congr 1
end
/-- a block of old comes into sight -/
theorem Hp.foc {w0 w : World} {L : List (Nat × Obj)} (H : Hp w0 L w) {b : Nat} {o : Obj} (h : w0.heap[b]? = some o) (hn : ∀ p ∈ L, w0.heap.size ≤ p.1) : Hp w0 ((b, o) :: L) w :=
 H.focus (H.Qc h hn) fun hm => by
  obtain ⟨p, hp, e⟩ := List.mem_map.1 hm
  have := hn p hp
  have := Qr h
  omega
end Go.Proofs.YtlpmfldijgdcoaaGreatDoor.Fx
namespace Go.Proofs.YtlpmfldijgdcoaaGreatDoor.Fx
open Go
/-- ranges of slots, both ends within -/
def hasN : List (Nat × Nat) → Nat → Bool
 | [], _ => false
 | d :: D, t => match Nat.ble d.1 t, Nat.ble t d.2 with
  | true, true => true
  | _, _ => hasN D t
/-- Beside the slots of D the frames are the same. -/
def Same (D : List (Nat × Nat)) (E' E : Env) : Prop := ∀ t, hasN D t = false → E' t = E t
/-- The slots of D off the one frame, all others off the other. -/
def ovr (D : List (Nat × Nat)) (E' E : Env) : Env := fun t =>
 match hasN D t with
 | true => E' t
 | false => E t
theorem Same.refl {D : List (Nat × Nat)} {E : Env} : Same D E E := fun _ _ => rfl
theorem ovr_eq {D : List (Nat × Nat)} {E' E : Env} (h : Same D E' E) : ovr D E' E = E' := by
 funext t
 unfold ovr
 cases hc : hasN D t with
 | true => rfl
 | false => exact (h t hc).symm
theorem same_ovr {D : List (Nat × Nat)} {E' E : Env} : Same D (ovr D E' E) E := fun t ht => by
 unfold ovr
 rw [ht]
theorem same_upd {D : List (Nat × Nat)} {n d : Nat} {E' E : Env} {v : Value} (hd : hasN D d = true) (h : Same D E' E) : Same D (upd n E' d v) E := fun t ht => by
 have hne : t ≠ d := fun e => by rw [e, hd] at ht; cases ht
 rw [upd_other hne]
 exact h t ht
theorem same_updo {D : List (Nat × Nat)} {n d : Nat} {E' E : Env} {v : Value} (hd : hasN D d = true) (h : Same D E' E) : Same D (updo n E' (some d) v) E := same_upd hd h
theorem same_updn {D : List (Nat × Nat)} {n : Nat} {E' E : Env} {v : Value} (h : Same D E' E) : Same D (updo n E' none v) E := h
theorem same_mov {D : List (Nat × Nat)} {n d : Nat} {E' E : Env} {x : Operand} (hd : hasN D d = true) (h : Same D E' E) : Same D (mov n E' (some d) x) E := same_upd hd h
theorem same_know {D : List (Nat × Nat)} {d : Nat} {E' E : Env} {v : Value} (hd : hasN D d = true) (h : Same D E' E) : Same D (know E' d v) E := fun t ht => by
 have hne : Nat.beq t d = false := by
  cases hb : Nat.beq t d with
  | false => rfl
  | true => rw [Nat.eq_of_beq_eq_true hb, hd] at ht; cases ht
 unfold know
 rw [hne]
 exact h t ht
def subN (D' D : List (Nat × Nat)) : Bool := D'.all fun p => D.any fun q => Nat.ble q.1 p.1 && Nat.ble p.2 q.2
theorem hasN_iff {D : List (Nat × Nat)} {t : Nat} : hasN D t = true ↔ ∃ p ∈ D, p.1 ≤ t ∧ t ≤ p.2 := by
 induction D with
 | nil => simp [hasN]
 | cons d D ih =>
  unfold hasN
  constructor
  ·intro h
   split at h
   ·rename_i h1 h2; exact ⟨d, .head _, Nat.le_of_ble_eq_true h1, Nat.le_of_ble_eq_true h2⟩
   ·obtain ⟨p, hp, h⟩ := ih.1 h; exact ⟨p, .tail _ hp, h⟩
  ·rintro ⟨p, hp, h1, h2⟩
   split
   ·rfl
   ·rename_i hn
    rcases List.mem_cons.1 hp with rfl | hp
    ·exact (hn (Nat.ble_eq_true_of_le h1) (Nat.ble_eq_true_of_le h2)).elim
    ·exact ih.2 ⟨p, hp, h1, h2⟩
theorem hasN_sub {D D' : List (Nat × Nat)} {t : Nat} (hs : subN D' D = true) (h : hasN D t = false) : hasN D' t = false := by
 cases hc : hasN D' t with
 | false => rfl
 | true =>
  obtain ⟨p, hp, h1, h2⟩ := hasN_iff.1 hc
  have h3 := List.all_eq_true.1 hs p hp
  obtain ⟨q, hq, h4⟩ := List.any_eq_true.1 h3
  simp only [Bool.and_eq_true] at h4
  have := hasN_iff.2 ⟨q, hq, Nat.le_trans (Nat.le_of_ble_eq_true h4.1) h1, Nat.le_trans h2 (Nat.le_of_ble_eq_true h4.2)⟩
  rw [h] at this; cases this
/-- What an inner loop has left. -/
theorem same_in {D D' : List (Nat × Nat)} {X Y E : Env} (hs : subN D' D = true) (h : Same D Y E) : Same D (ovr D' X Y) E := fun t ht => by
 unfold ovr
 rw [hasN_sub hs ht]
 exact h t ht
theorem Same.trans {D D' : List (Nat × Nat)} {E E' E'' : Env} (hs : ∀ t, hasN D t = false → hasN D' t = false) (h : Same D' E'' E') (h' : Same D E' E) : Same D E'' E := fun t ht => (h t (hs t ht)).trans (h' t ht)
section
variable {P : Program} {n : Nat} {kn : Env → World → Prop} {kx : Nat → Env → World → Prop} {kr : Env → World → Prop} {E : Env} {w : World}
/-- What the slots of D are known to hold. -/
theorem Ur {c : Code} {D : List (Nat × Nat)} {E' : Env} {t0 : Nat} {v0 : Value} (h0 : E' t0 = v0) (h : W P n c kn kx kr (ovr D (know E' t0 v0) E) w) : W P n c kn kx kr (ovr D E' E) w := by
 rwa [Zj h0] at h
theorem W_kn2 {c : Code} {D : List (Nat × Nat)} {E' : Env} {t0 t1 : Nat} {v0 v1 : Value} (h0 : E' t0 = v0) (h1 : E' t1 = v1) (h : W P n c kn kx kr (ovr D (know (know E' t0 v0) t1 v1) E) w) : W P n c kn kx kr (ovr D E' E) w := by
 rwa [Zj h0, Zj h1] at h
/-- A loop: D are the slots that its code writes. -/
theorem Yg {c : Code} (D : List (Nat × Nat)) {α : Type} (I : α → Env → World → Prop) (m : α → Nat) (x : α) (h0 : I x E w)
  (round : ∀ x E' w', I x E' w' → W P n c (fun E'' w'' => Same D E'' E ∧ ∃ y, m y < m x ∧ I y E'' w'') kx kr (ovr D E' E) w') : W P n (.loop c) kn kx kr E w := by
 refine Dp (fun x E' w' => Same D E' E ∧ I x E' w') m x ⟨Same.refl, h0⟩ ?_
 rintro x E' w' ⟨hS, hI⟩
 have h := round x E' w' hI
 rw [ovr_eq hS] at h
 exact W.mono h (fun _ _ ⟨hS, y, hy, h⟩ => ⟨y, hy, hS, h⟩) (fun _ _ _ h => h) (fun _ _ h => h)
/-- A block: what holds behind it, whichever way it was left. -/
theorem W_blockS {id : Nat} {c : Code} (D : List (Nat × Nat)) (I : Env → World → Prop) (h : W P n c (fun E' w' => Same D E' E ∧ I E' w') (fun i E' w' => if i = id then Same D E' E ∧ I E' w' else kx i E' w') kr E w)
  (k : ∀ E' w', I E' w' → kn (ovr D E' E) w') : W P n (.block id c) kn kx kr E w := by
 have hk : ∀ E' w', Same D E' E ∧ I E' w' → kn E' w' := fun E' w' ⟨hS, hI⟩ => by
  have := k E' w' hI
  rwa [ovr_eq hS] at this
 refine W_block (W.mono h hk (fun i E' w' hi => ?_) (fun _ _ h => h))
 by_cases he : i = id
 ·rw [if_pos he] at hi ⊢; exact hk _ _ hi
 ·rw [if_neg he] at hi ⊢; exact hi
/-- What holds between two parts. -/
theorem W_seqS {x y : Code} (D : List (Nat × Nat)) (I : Env → World → Prop) (h : W P n x (fun E' w' => Same D E' E ∧ I E' w') kx kr E w)
  (k : ∀ E' w', I E' w' → W P n y kn kx kr (ovr D E' E) w') : W P n (.seq x y) kn kx kr E w :=
 W_seq (W.mono h (fun E' w' ⟨hS, hI⟩ => by
  have := k E' w' hI
  rwa [ovr_eq hS] at this) (fun _ _ _ h => h) (fun _ _ h => h))
end
end Go.Proofs.YtlpmfldijgdcoaaGreatDoor.Fx
namespace Go.Proofs.YtlpmfldijgdcoaaGreatDoor.Fx
open Go
/-- A slice of the call's own, somewhere in a block that B does not reach; its elements take one cell each. -/
def Zv (B : Nat) (e : TypeId) (v : Value) (xs : List Value) (M : List (Nat × Obj)) : Prop :=
 (v = nilS ∧ xs = [] ∧ M = []) ∨
  ∃ b off cap pre sp, v = sl b off xs.length cap ∧ B ≤ b ∧ M = [(b, blk (pre ++ (xs ++ sp)) e)] ∧ pre.length = off ∧ cap ≤ xs.length + sp.length ∧ xs.length ≤ cap
theorem Zv.nil (B : Nat) (e : TypeId) : Zv B e nilS [] [] := .inl ⟨rfl, rfl, rfl⟩
theorem Zv.keys {B : Nat} {e : TypeId} {v : Value} {xs : List Value} {M : List (Nat × Obj)} (h : Zv B e v xs M) : ∀ p ∈ M, B ≤ p.1 := by
 rcases h with ⟨_, _, rfl⟩ | ⟨b, off, cap, pre, sp, _, hb, rfl, _⟩
 ·intro p hp; cases hp
 ·intro p hp; rw [List.mem_singleton.1 hp]; exact hb
theorem Zv.mono {B B' : Nat} {e : TypeId} {v : Value} {xs : List Value} {M : List (Nat × Obj)} (h : Zv B e v xs M) (hB : B' ≤ B) : Zv B' e v xs M := by
 rcases h with h | ⟨b, off, cap, pre, sp, h1, hb, h2⟩
 ·exact .inl h
 ·exact .inr ⟨b, off, cap, pre, sp, h1, Nat.le_trans hB hb, h2⟩
theorem Zv.form {B : Nat} {e : TypeId} {v : Value} {xs : List Value} {M : List (Nat × Obj)} (h : Zv B e v xs M) : ∃ ao cap, v = .slice ao xs.length cap := by
 rcases h with ⟨rfl, rfl, _⟩ | ⟨b, off, cap, pre, sp, h1, _⟩
 ·exact ⟨none, 0, rfl⟩
 ·exact ⟨_, cap, h1⟩
theorem Zv.one {B : Nat} {e : TypeId} {v : Value} {xs : List Value} {M : List (Nat × Obj)} (h : Zv B e v xs M) : v.oneCell' = true := by
 obtain ⟨ao, cap, rfl⟩ := h.form; rfl
theorem Zv.ofS {B len : Nat} {e : TypeId} {v : Value} {xs : List Value} {M : List (Nat × Obj)} (h : Yo B e 1 v len xs M) : Zv B e v xs M := by
 obtain ⟨hl, h⟩ := h
 rw [Nat.mul_one] at hl
 rcases h with ⟨rfl, rfl, rfl⟩ | ⟨b, cap, sp, rfl, hb, rfl, hs, hc⟩
 ·obtain rfl : xs = [] := List.length_eq_zero_iff.1 hl
  exact .nil _ _
 ·exact .inr ⟨b, 0, cap, [], sp, by rw [hl], hb, by simp, rfl, by omega, by omega⟩
theorem Zv.rds {w : World} {B : Nat} {e : TypeId} {v : Value} {xs : List Value} {M : List (Nat × Obj)} (h : Zv B e v xs M) (hM : ∀ p ∈ M, w.heap[p.1]? = some p.2) : RdS w v xs := by
 rcases h with ⟨rfl, rfl, rfl⟩ | ⟨b, off, cap, pre, sp, rfl, hb, rfl, hp, hs, hc⟩
 ·exact RdS.nil
 ·subst hp
  refine RdS.blk (c := pre ++ (xs ++ sp)) (hM _ (.head _)) ?_ (by simp) hc
  rw [List.drop_left, List.take_left]
section
variable {P : Program} {E : Env} {w0 w : World} {L : List (Nat × Obj)}
variable {d : Option Nat} {ty : TypeId} {pos : String} {after : Array Edge}
/-- what is behind the first element -/
theorem E_tailQ {t e elem : TypeId} {x y : Operand} {B : Nat} {v a : Value} {xs : List Value} {M : List (Nat × Obj)} (ho : Zv B e v (a :: xs) M) (ht : P.underlying t = some (.slice elem)) (hS : ∀ w, (sizeOf elem).run P w = .ok 1 w)
  (hx : ev E x = v) (hy : ev E y = .int .i64 1) :
  ∃ v', Zv B e v' xs M ∧ (execOp (ev E) (mk d (.slice t x (some y) none none) ty pos after)).run P w = .ok (.value v') w := by
 rcases ho with ⟨_, h, _⟩ | ⟨b, off, cap, pre, sp, rfl, hb, rfl, hp, hs, hc⟩
 ·cases h
 ·rw [List.length_cons] at hs hc hx
  by_cases h1 : cap = 1
  ·subst h1
   have hl : xs = [] := List.length_eq_zero_iff.1 (by omega)
   subst hl
   refine ⟨_, ?_, R_sliceE (i := 1) (j := 1) ht hS hx (.some hy) (.none (dflt := 1)) rfl rfl⟩
   exact .inr ⟨b, off, 0, pre, a :: sp, rfl, hb, rfl, hp, by simp, Nat.le_refl _⟩
  ·refine ⟨_, ?_, Bq (i := 1) (j := ((xs.length + 1 : Nat) : Int)) ht hS hx (.some hy) (.none (dflt := ((xs.length + 1 : Nat) : Int))) (by omega) (by omega) (by omega) (by omega) (by omega) rfl⟩
   refine .inr ⟨b, off + 1, cap - 1, pre ++ [a], sp, ?_, hb, by simp, by simp [hp], by omega, by omega⟩
   rw [show (((xs.length + 1 : Nat) : Int) - 1).toNat = xs.length from by omega, show ((cap : Int) - 1).toNat = cap - 1 from by omega]
   rfl
theorem WL_tailQ {n : Nat} {ops : Array Oper} {kn : Env → World → Prop} {l : List Oper} {t e elem : TypeId} {x y : Operand} {B : Nat} {v a : Value} {xs : List Value} {M : List (Nat × Obj)} (ho : Zv B e v (a :: xs) M) (ht : P.underlying t = some (.slice elem)) (hS : ∀ w, (sizeOf elem).run P w = .ok 1 w)
  (hx : ev E x = v) (hy : ev E y = .int .i64 1) (h : ∀ v', Zv B e v' xs M → WL P n ops kn l (updo n E d v') w) : WL P n ops kn (mk d (.slice t x (some y) none none) ty pos after :: l) E w := by
 obtain ⟨v', hQ, hr⟩ := E_tailQ (d := d) (ty := ty) (pos := pos) (after := after) (w := w) ho ht hS hx hy
 exact Ym rfl hr (h v' hQ)
theorem E_appendQ {t tx e : TypeId} {m : Nat} {v u : Value} {xs news zs : List Value} {z : Value} {i : TypeInfo} {M : List (Nat × Obj)} {f} {x y : Operand} (H : Hp w0 L w) (hM : AtM L M f) (ho : Zv w0.heap.size e v xs M)
  (ht : P.underlying t = some (.slice e)) (hI0 : ∀ w, (typeInfo e).run P w = .ok i w) (hsz : i.size = 1) (hZ : i.zero = some z) (hz : z.cells = zs.toArray) (hzl : zs.length = 1)
  (hx : ev E x = v) (hy : ev E y = u) (hs : Src P 1 tx u m news w) (hlen : xs.length + m ≤ 9223372036854775807) (hby : (xs.length + m) * i.bytes ≤ 140737488355328) :
  ∃ v' M' w', Zv w0.heap.size e v' (xs ++ news) M' ∧ Hp w0 (f M') w' ∧ (execOp (ev E) (mk d (bi .append #[x, y] #[t, tx]) ty pos after)).run P w = .ok (.value v') w' := by
 rcases ho with ⟨rfl, rfl, rfl⟩ | ⟨b, off, cap, pre, sp, rfl, hb, rfl, hp, hsp, hcap⟩
 ·obtain ⟨v', M', w', hO, H', hr⟩ := Yx (d := d) (ty := ty) (pos := pos) (after := after) H hM (Yo.nil _ e 1) ht hI0 hsz hZ hz hzl hx hy hs (by simpa using hlen) (by simpa using hby)
  exact ⟨v', M', w', .ofS hO, H', hr⟩
 ·have hI : P.info? e = some i := Vv hI0 w
  have hnm : news.length = m := by have := hs.newsLen; simpa using this
  have hexec : (execOp (ev E) (mk d (bi .append #[x, y] #[t, tx]) ty pos after)).run P w = ((Builtin.append_ #[t, tx] ty #[sl b off xs.length cap, u]).run P w).andThen fun a w' => .ok (.value a) w' := by
   subst hy
   simp [execOp, resolve, invoke, builtin, hx]
  rw [hexec]
  have hzc : ∀ k, (Builtin.zeroCells z.cells k).toList.length = k := by
   intro k; rw [hz]; simp [Builtin.zeroCells, hzl]
  have hblk := H.atM hM (.head _)
  subst hp
  rcases Nat.lt_or_ge cap (xs.length + m) with hg | hroom
  ·have hfit : Builtin.nextslicecap (xs.length + m) cap * i.bytes ≤ 281474976710656 := growslice_fits hg hby
   have hold : (Builtin.firstCells i.size xs.length (sl b pre.length xs.length cap)).run P w.drew = .ok xs.toArray w.drew := by
    refine run_firstCells_some w.drew i.size xs.length _ xs.length cap xs (by rw [hsz]; simp) (fun j u hj => ?_)
    have hjl := (List.getElem?_eq_some_iff.1 hj).1
    rw [Zq, World.cell?_drew, Uf hblk, List.getElem?_append_right (by omega), show pre.length + j - pre.length = j from by omega, List.getElem?_append_left hjl]
    exact hj
   rw [← hsz] at hs
   have hr := run_append_grow_src (w := w) (ty := ty) t tx e i z ht hI hZ (some ⟨b, pre.length, none⟩) xs.length cap xs hold u m news hs hg (by omega) hfit
   refine ⟨_, [((w.drew).heap.size, blk ((xs ++ news) ++ (Builtin.zeroCells z.cells (grownCap w (xs.length + m) cap e - (xs.length + m))).toList) e)], _, ?_, ?_, by rw [hr]; rfl⟩
   ·refine .inr ⟨_, 0, grownCap w (xs.length + m) cap e, [], _, by rw [List.length_append, hnm], H.size, rfl, rfl, ?_, ?_⟩
    ·rw [hzc, List.length_append, hnm]; have := grownCap_ge w (xs.length + m) cap e; omega
    ·rw [List.length_append, hnm]; exact grownCap_ge w (xs.length + m) cap e
   ·refine H.swap (w' := w.drew.alloc _) hM (fun p hp => by rw [List.mem_singleton.1 hp]; exact hb) rfl rfl rfl (by simp) (fun k hk => Nu w.drew _ k hk) ?_ (Nat.le_refl _)
    rw [Bj]
    congr 2
    apply Array.ext'; simp
  ·have hst := run_storeCells_at P b (pre.length + xs.length) e news 0 (pre ++ (xs ++ sp)).toArray w hblk (by simp; omega) hs.one
   simp only [Nat.add_zero] at hst
   have hrun : (Builtin.append_ #[t, tx] ty #[sl b pre.length xs.length cap, u]).run P w = .ok (sl b pre.length (xs.length + m) cap) (w.setRow b ((pre ++ (xs ++ sp)).take (pre.length + xs.length) ++ news ++ (pre ++ (xs ++ sp)).drop (pre.length + xs.length + news.length)).toArray) := by
    rw [← hsz] at hs
    have h1 : xs.length * i.size = xs.length := by rw [hsz]; simp
    rcases hs.kind with ⟨e', hk⟩ | hk <;> simp [Builtin.append_, run_underlying ht, run_underlying hk, sizeOf, typeInfo, hI, hs.len, hroom, hs.cells, Zq, h1, hst]
   have e1 : (pre ++ (xs ++ sp)).take (pre.length + xs.length) ++ news ++ (pre ++ (xs ++ sp)).drop (pre.length + xs.length + news.length) = pre ++ ((xs ++ news) ++ sp.drop news.length) := by
    rw [List.take_length_add_append, List.take_left, Nat.add_assoc, List.drop_length_add_append, List.drop_length_add_append]
    simp
   rw [e1] at hrun
   refine ⟨_, _, _, ?_, H.setM hM (c' := pre ++ ((xs ++ news) ++ sp.drop news.length)), by rw [hrun]; rfl⟩
   refine .inr ⟨b, pre.length, cap, pre, sp.drop news.length, by rw [List.length_append, hnm], hb, rfl, rfl, ?_, ?_⟩
   ·rw [List.length_append, List.length_drop, hnm]; omega
   ·rw [List.length_append, hnm]; exact hroom
end
end Go.Proofs.YtlpmfldijgdcoaaGreatDoor.Fx

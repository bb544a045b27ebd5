/-
  Rules for walking the code of one function: a frame is a function of its slots; continuations for the normal end, the exits and the return.
-/
import Derived.StillTail
import Derived.Orders
import Derived.Deep.LoopGhost
import Derived.RowKit3
import Derived.Laws.Append
import Derived.Laws.Bits
import Derived.Laws.CopyRow
import Derived.Laws.AppendOwn
import Derived.Laws.StructEq
import Derived.Laws.Strings
import Derived.Laws.BytesString
namespace Go.Proofs.YtlpmfldijgdcoaaGreatDoor.Fx
open Go

abbrev Env := Nat → Value

def upd (n : Nat) (E : Env) (d : Nat) (v : Value) : Env := fun k =>
  match Nat.beq k d with
  | true => (match Nat.ble (d + 1) n with
    | true => v
    | false => E k)
  | false => E k

theorem upd_same {n : Nat} {E : Env} {d : Nat} {v : Value} (h : d < n) : upd n E d v d = v := by
  have h1 : Nat.beq d d = true := Nat.beq_refl d
  have h2 : Nat.ble (d + 1) n = true := Nat.ble_eq_true_of_le h
  simp only [upd, h1, h2]
theorem upd_out {n : Nat} {E : Env} {d : Nat} {v : Value} (h : ¬ d < n) : upd n E d v d = E d := by
  have h1 : Nat.beq d d = true := Nat.beq_refl d
  have h2 : Nat.ble (d + 1) n = false := by
    cases hb : Nat.ble (d + 1) n with
    | false => rfl
    | true => exact (h (Nat.le_of_ble_eq_true hb)).elim
  simp only [upd, h1, h2]
theorem upd_other {n : Nat} {E : Env} {d k : Nat} {v : Value} (h : k ≠ d) : upd n E d v k = E k := by
  have h1 : Nat.beq k d = false := by
    cases hb : Nat.beq k d with
    | false => rfl
    | true => exact (h (Nat.eq_of_beq_eq_true hb)).elim
  simp only [upd, h1]

/-- The frame in which it is written what a slot holds that it holds. -/
def know (E : Env) (d : Nat) (v : Value) : Env := fun k =>
  match Nat.beq k d with
  | true => v
  | false => E k
theorem know_eq {E : Env} {d : Nat} {v : Value} (h : E d = v) : know E d v = E := by
  funext k
  unfold know
  cases hb : Nat.beq k d with
  | false => rfl
  | true => rw [Nat.eq_of_beq_eq_true hb, h]

def updo (n : Nat) (E : Env) (d : Option Nat) (v : Value) : Env :=
  match d with
  | some d => upd n E d v
  | none => E

def ev (E : Env) : Operand → Value
  | .tmp t => E t
  | .const v => v
  | .global g => .pointer (some ⟨g, 0, none⟩)
  | .func f => .func (.func f) #[] #[]

/-- The frame in which slot d holds what x stands for. -/
def mov (n : Nat) (E : Env) (d : Option Nat) (x : Operand) : Env := updo n E d (ev E x)

structure Rep (n : Nat) (E : Env) (a : Act) : Prop where
  size : a.tmps.size = n
  slot : ∀ t, a.tmps.getD t undef = E t
  defers : a.defers = []

theorem Rep.eval {n : Nat} {E : Env} {a : Act} (h : Rep n E a) : a.eval = ev E := by
  funext x
  cases x with
  | tmp t => exact h.slot t
  | const v => rfl
  | global g => rfl
  | func f => rfl

theorem Rep.put {n : Nat} {E : Env} {a : Act} (h : Rep n E a) (d : Option Nat) (v : Value) : Rep n (updo n E d v) (a.put d v) := by
  cases d with
  | none => exact h
  | some d =>
    refine ⟨?_, ?_, h.defers⟩
    · simp [Act.put, h.size]
    · intro t
      have hs := h.slot t
      simp only [Act.put, updo, Array.getD_eq_getD_getElem?] at *
      by_cases htd : t = d
      · subst htd
        by_cases hlt : t < n
        · rw [upd_same hlt, Array.getElem?_setIfInBounds]
          simp [h.size, hlt]
        · rw [upd_out hlt, Array.getElem?_setIfInBounds]
          rw [if_pos rfl, if_neg (by rw [h.size]; exact hlt)]
          rw [← hs, Array.getElem?_eq_none (by rw [h.size]; omega)]
      · rw [upd_other htd, Array.getElem?_setIfInBounds, if_neg (fun h => htd h.symm)]
        exact hs

/-- What a guard's operation has yielded. -/
def yE (ops : Array Oper) (E : Env) (j : Nat) : Option Bool :=
  match (ops[j]?).bind (·.dst) with
  | some t => match E t with
    | .bool b => some b
    | _ => none
  | none => none

theorem Rep.yielded {n : Nat} {E : Env} {a : Act} (h : Rep n E a) (ops : Array Oper) : yielded ops a.tmps = yE ops E := by
  funext j
  unfold Go.yielded yE
  cases hd : (ops[j]?).bind (·.dst) with
  | none => rfl
  | some t =>
    have hs := h.slot t
    rw [Array.getD_eq_getD_getElem?] at hs
    simp only [Option.bind_some]
    cases ht : a.tmps[t]? with
    | none =>
      rw [ht] at hs
      simp only [Option.getD_none] at hs
      rw [← hs]
      rfl
    | some v =>
      rw [ht] at hs
      simp only [Option.getD_some] at hs
      rw [← hs]
      cases v <;> rfl

/-- The three ways out of a piece of code. -/
def post (n : Nat) (kn : Env → World → Prop) (kx : Nat → Env → World → Prop) (kr : Env → World → Prop) : Exit → Act → World → Prop
  | .normal, a, w => ∃ E, Rep n E a ∧ kn E w
  | .exit i, a, w => ∃ E, Rep n E a ∧ kx i E w
  | .ret, a, w => ∃ E, Rep n E a ∧ kr E w
  | _, _, _ => False

structure W (P : Program) (n : Nat) (c : Code) (kn : Env → World → Prop) (kx : Nat → Env → World → Prop) (kr : Env → World → Prop) (E : Env) (w : World) : Prop where
  out : ∀ a, Rep n E a → c.wp P (post n kn kx kr) a w

/-- The operations of a region, one behind the other. -/
structure WL (P : Program) (n : Nat) (ops : Array Oper) (kn : Env → World → Prop) (l : List Oper) (E : Env) (w : World) : Prop where
  out : ∀ (Q : Exit → Act → World → Prop), (∀ a E w, Rep n E a → kn E w → Q .normal a w) → ∀ a, Rep n E a → wpList P ops Q l a w

/-- The call of a function returns. -/
structure Ret (P : Program) (f : FuncId) (args : Array Value) (w : World) (R : Value → World → Prop) : Prop where
  out : Calls P f args w fun e w' => ∃ v, e = .returned v ∧ R v w'

section rules
variable {P : Program} {n : Nat} {kn : Env → World → Prop} {kx : Nat → Env → World → Prop} {kr : Env → World → Prop} {E : Env} {w : World}

theorem W.mono {c : Code} {kn' : Env → World → Prop} {kx' : Nat → Env → World → Prop} {kr' : Env → World → Prop} (h : W P n c kn kx kr E w)
    (h1 : ∀ E w, kn E w → kn' E w) (h2 : ∀ i E w, kx i E w → kx' i E w) (h3 : ∀ E w, kr E w → kr' E w) : W P n c kn' kx' kr' E w := by
  refine ⟨fun a ha => ?_⟩
  refine wp_mono (h.out a ha) ?_
  intro e a w hq
  cases e with
  | normal => obtain ⟨E, h, k⟩ := hq; exact ⟨E, h, h1 _ _ k⟩
  | exit i => obtain ⟨E, h, k⟩ := hq; exact ⟨E, h, h2 _ _ _ k⟩
  | ret => obtain ⟨E, h, k⟩ := hq; exact ⟨E, h, h3 _ _ k⟩
  | goto l => exact hq.elim
  | panic c => exact hq.elim
  | outgrown => exact hq.elim

theorem W_skip (h : kn E w) : W P n .skip kn kx kr E w := ⟨fun _ ha => wp_skip ⟨E, ha, h⟩⟩
theorem W_exit {i : Nat} (h : kx i E w) : W P n (.exit i) kn kx kr E w := ⟨fun _ ha => wp_exit ⟨E, ha, h⟩⟩
theorem W_ret (h : kr E w) : W P n .ret kn kx kr E w := ⟨fun _ ha => wp_ret ⟨E, ha, h⟩⟩

theorem W_seq {x y : Code} (h : W P n x (fun E w => W P n y kn kx kr E w) kx kr E w) : W P n (.seq x y) kn kx kr E w := by
  refine ⟨fun a ha => ?_⟩
  refine wp_seq (wp_mono (h.out a ha) ?_)
  intro e a w hq
  cases e with
  | normal => obtain ⟨E, h, k⟩ := hq; exact k.out a h
  | exit i => exact hq
  | ret => exact hq
  | goto l => exact hq
  | panic c => exact hq
  | outgrown => exact hq

theorem W_block {id : Nat} {c : Code} (h : W P n c kn (fun i E w => if i = id then kn E w else kx i E w) kr E w) : W P n (.block id c) kn kx kr E w := by
  refine ⟨fun a ha => ?_⟩
  refine wp_block (wp_mono (h.out a ha) ?_)
  intro e a w hq
  cases e with
  | normal => exact hq
  | exit i =>
    obtain ⟨E, h, k⟩ := hq
    by_cases hi : i = id
    · rw [if_pos hi] at k
      simp only [Exit.inBlock, hi, if_true]
      exact ⟨E, h, k⟩
    · rw [if_neg hi] at k
      simp only [Exit.inBlock, hi, if_false]
      exact ⟨E, h, k⟩
  | ret => exact hq
  | goto l => exact hq
  | panic c => exact hq
  | outgrown => exact hq

theorem W_cond {c : Operand} {x y : Code} {t : Bool} (hc : ev E c = .bool t) (ht : t = true → W P n x kn kx kr E w) (hf : t = false → W P n y kn kx kr E w) :
    W P n (.cond c x y) kn kx kr E w := by
  refine ⟨fun a ha => ?_⟩
  have he : a.eval c = .bool t := by rw [ha.eval]; exact hc
  exact wp_cond_split he (fun h => (ht h).out a ha) (fun h => (hf h).out a ha)

theorem W_cond_t {c : Operand} {x y : Code} (hc : ev E c = .bool true) (ht : W P n x kn kx kr E w) : W P n (.cond c x y) kn kx kr E w :=
  W_cond hc (fun _ => ht) (fun h => by cases h)
theorem W_cond_f {c : Operand} {x y : Code} (hc : ev E c = .bool false) (hf : W P n y kn kx kr E w) : W P n (.cond c x y) kn kx kr E w :=
  W_cond hc (fun h => by cases h) (fun _ => hf)
/-- A loop: what holds at the head of each round, by a ghost that every round makes smaller. -/
theorem W_loop {c : Code} {α : Type} (I : α → Env → World → Prop) (m : α → Nat) (x : α) (h0 : I x E w)
    (round : ∀ x E w, I x E w → W P n c (fun E' w' => ∃ y, m y < m x ∧ I y E' w') kx kr E w) : W P n (.loop c) kn kx kr E w := by
  refine ⟨fun a ha => ?_⟩
  refine wp_loop_ghost (fun k a w => ∃ x E, m x = k ∧ Rep n E a ∧ I x E w) (m x) ⟨x, E, rfl, ha, h0⟩ ?_
  rintro k a w ⟨x, E, rfl, ha, hI⟩
  refine wp_mono ((round x E w hI).out a ha) ?_
  intro e a w hq
  cases e with
  | normal => obtain ⟨E, h, y, hlt, hy⟩ := hq; exact ⟨m y, hlt, y, E, rfl, h, hy⟩
  | exit i => exact hq
  | ret => exact hq
  | goto l => exact hq
  | panic c => exact hq
  | outgrown => exact hq

/-- At most so many rounds. -/
def Rn (P : Program) (n : Nat) (c : Code) (kx : Nat → Env → World → Prop) (kr : Env → World → Prop) : Nat → Env → World → Prop
  | 0, _, _ => False
  | k + 1, E, w => W P n c (Rn P n c kx kr k) kx kr E w
theorem Rn_succ {c : Code} {k : Nat} (h : W P n c (Rn P n c kx kr k) kx kr E w) : Rn P n c kx kr (k + 1) E w := h
theorem W_rounds {c : Code} (k : Nat) (h : W P n c (Rn P n c kx kr k) kx kr E w) : W P n (.loop c) kn kx kr E w := by
  refine W_loop (fun x E w => Rn P n c kx kr x E w) id (k + 1) h ?_
  intro x E w hx
  cases x with
  | zero => exact hx.elim
  | succ x => exact W.mono hx (fun E w h => ⟨x, Nat.lt_succ_self x, h⟩) (fun _ _ _ h => h) (fun _ _ h => h)

theorem W_region {id : Nat} {ops : Array Oper} (h : WL P n ops kn ops.toList E w) : W P n (.region id ops false) kn kx kr E w := by
  refine ⟨fun a ha => ?_⟩
  exact wp_region_list (h.out (post n kn kx kr) (fun a E w ha h => ⟨E, ha, h⟩) a ha)
theorem W_region_l {id : Nat} {l : List Oper} (h : WL P n l.toArray kn l E w) : W P n (.region id l.toArray false) kn kx kr E w :=
  W_region (by simpa using h)

variable {ops : Array Oper} {o : Oper} {l : List Oper}

theorem WL_nil (h : kn E w) : WL P n ops kn [] E w := ⟨fun _ hQ a ha => hQ a E w ha h⟩

theorem WL_step {w' : World} {v : Value} (hg : o.guard = none) (hr : (execOp (ev E) o).run P w = .ok (.value v) w') (h : WL P n ops kn l (updo n E o.dst v) w') :
    WL P n ops kn (o :: l) E w := by
  refine ⟨fun Q hQ a ha => ?_⟩
  refine wpList_plain hg fun K hK => ?_
  unfold Oper.wp
  rw [ha.eval, hr]
  exact hK _ _ (h.out Q hQ _ (ha.put _ _))

theorem WL_stepM {x : Operand} (hg : o.guard = none) (hr : (execOp (ev E) o).run P w = .ok (.value (ev E x)) w) (h : WL P n ops kn l (mov n E o.dst x) w) :
    WL P n ops kn (o :: l) E w := WL_step hg hr h

theorem WL_unit {w' : World} (hg : o.guard = none) (hr : (execOp (ev E) o).run P w = .ok .skip w') (h : WL P n ops kn l (updo n E o.dst undef) w') :
    WL P n ops kn (o :: l) E w := by
  refine ⟨fun Q hQ a ha => ?_⟩
  refine wpList_plain hg fun K hK => ?_
  unfold Oper.wp
  rw [ha.eval, hr]
  exact hK _ _ (h.out Q hQ _ (ha.put _ _))

theorem WL_call {f : FuncId} {args : Array Value} {R : Value → World → Prop} (hg : o.guard = none) (hr : (execOp (ev E) o).run P w = .ok (.enter f args) w)
    (hc : Ret P f args w R) (h : ∀ v w', R v w' → WL P n ops kn l (updo n E o.dst v) w') : WL P n ops kn (o :: l) E w := by
  refine ⟨fun Q hQ a ha => ?_⟩
  refine wpList_plain hg fun K hK => ?_
  unfold Oper.wp
  rw [ha.eval, hr]
  refine hc.out.mono ?_
  rintro e w' ⟨v, rfl, hR⟩
  exact hK _ _ ((h v w' hR).out Q hQ _ (ha.put _ _))

/-- An operation whose guard is asked. -/
theorem WL_guard {j : Nat} {want b : Bool} (hg : o.guard = some (j, want)) (hy : yE ops E j = some b)
    (ht : b = want → WL P n ops kn ({ o with guard := none } :: l) E w) (hf : b ≠ want → WL P n ops kn l (updo n E o.dst undef) w) : WL P n ops kn (o :: l) E w := by
  refine ⟨fun Q hQ a ha => ?_⟩
  by_cases hb : b = want
  · have hw : Region.wanted o (yielded ops a.tmps) = true := by simp [Region.wanted, hg, ha.yielded, hy, hb]
    have hw' : Region.wanted { o with guard := none } (yielded ops a.tmps) = true := rfl
    have := (ht hb).out Q hQ a ha
    unfold wpList at this ⊢
    rw [if_pos hw]
    rw [if_pos hw'] at this
    exact this
  · have hw : Region.wanted o (yielded ops a.tmps) = false := by simp [Region.wanted, hg, ha.yielded, hy, hb]
    have := (hf hb).out Q hQ _ (ha.put o.dst undef)
    unfold wpList
    rw [if_neg (by rw [hw]; exact Bool.false_ne_true)]
    exact this

theorem WL_guard_t {j : Nat} {want : Bool} (hg : o.guard = some (j, want)) (hy : yE ops E j = some want)
    (ht : WL P n ops kn ({ o with guard := none } :: l) E w) : WL P n ops kn (o :: l) E w := WL_guard hg hy (fun _ => ht) (fun h => (h rfl).elim)
theorem WL_guard_f {j : Nat} {want b : Bool} (hg : o.guard = some (j, want)) (hy : yE ops E j = some b) (hb : b ≠ want)
    (hf : WL P n ops kn l (updo n E o.dst undef) w) : WL P n ops kn (o :: l) E w := WL_guard hg hy (fun h => (hb h).elim) (fun _ => hf)
/-- The guard's operation was passed over itself. -/
theorem WL_guard_n {j : Nat} {want : Bool} (hg : o.guard = some (j, want)) (hy : yE ops E j = none)
    (hf : WL P n ops kn l (updo n E o.dst undef) w) : WL P n ops kn (o :: l) E w := by
  refine ⟨fun Q hQ a ha => ?_⟩
  have hw : Region.wanted o (yielded ops a.tmps) = false := by simp [Region.wanted, hg, ha.yielded, hy]
  have := hf.out Q hQ _ (ha.put o.dst undef)
  unfold wpList
  rw [if_neg (by rw [hw]; exact Bool.false_ne_true)]
  exact this

/-- What a slot is known to hold. -/
theorem W_know {c : Code} {t : Nat} {v : Value} (ht : E t = v) (h : W P n c kn kx kr (know E t v) w) : W P n c kn kx kr E w := by
  rwa [know_eq ht] at h
theorem W_know3 {c : Code} {t0 t1 t2 : Nat} {v0 v1 v2 : Value} (h0 : E t0 = v0) (h1 : E t1 = v1) (h2 : E t2 = v2) (h : W P n c kn kx kr (know (know (know E t0 v0) t1 v1) t2 v2) w) : W P n c kn kx kr E w := by
  rwa [know_eq h0, know_eq h1, know_eq h2] at h
theorem W_know4 {c : Code} {t0 t1 t2 t3 : Nat} {v0 v1 v2 v3 : Value} (h0 : E t0 = v0) (h1 : E t1 = v1) (h2 : E t2 = v2) (h3 : E t3 = v3) (h : W P n c kn kx kr (know (know (know (know E t0 v0) t1 v1) t2 v2) t3 v3) w) : W P n c kn kx kr E w := by
  rwa [know_eq h0, know_eq h1, know_eq h2, know_eq h3] at h
theorem W_know5 {c : Code} {t0 t1 t2 t3 t4 : Nat} {v0 v1 v2 v3 v4 : Value} (h0 : E t0 = v0) (h1 : E t1 = v1) (h2 : E t2 = v2) (h3 : E t3 = v3) (h4 : E t4 = v4) (h : W P n c kn kx kr (know (know (know (know (know E t0 v0) t1 v1) t2 v2) t3 v3) t4 v4) w) : W P n c kn kx kr E w := by
  rwa [know_eq h0, know_eq h1, know_eq h2, know_eq h3, know_eq h4] at h
/-- A test that is open: both ways, and in each the slot holds what it tells. -/
theorem W_if {t : Nat} {x y : Code} {p : Prop} [Decidable p] (hc : E t = .bool (decide p)) (ht : p → W P n x kn kx kr (know E t (.bool true)) w) (hf : ¬ p → W P n y kn kx kr (know E t (.bool false)) w) :
    W P n (.cond (.tmp t) x y) kn kx kr E w := by
  by_cases h : p
  · exact W_know (t := t) (v := .bool true) (by rw [hc, decide_eq_true h]) (W_cond_t (by simp [ev, know]) (ht h))
  · exact W_know (t := t) (v := .bool false) (by rw [hc, decide_eq_false h]) (W_cond_f (by simp [ev, know]) (hf h))
theorem W_ifB {t : Nat} {x y : Code} {b : Bool} (hc : E t = .bool b) (ht : b = true → W P n x kn kx kr (know E t (.bool true)) w) (hf : b = false → W P n y kn kx kr (know E t (.bool false)) w) :
    W P n (.cond (.tmp t) x y) kn kx kr E w := by
  cases b
  · exact W_know (t := t) hc (W_cond_f (by simp [ev, know]) (hf rfl))
  · exact W_know (t := t) hc (W_cond_t (by simp [ev, know]) (ht rfl))
/-- What an operation that changes the memory leaves. -/
theorem WL_effu {F : World → Prop} (hg : o.guard = none) (he : ∃ w', F w' ∧ (execOp (ev E) o).run P w = .ok .skip w') (h : ∀ w', F w' → WL P n ops kn l (updo n E o.dst undef) w') : WL P n ops kn (o :: l) E w := by
  obtain ⟨w', hF, hr⟩ := he
  exact WL_unit hg hr (h w' hF)
theorem WL_effn {A : Nat → Prop} {F : Nat → World → Prop} {v : Nat → Value} (hg : o.guard = none) (he : ∃ b w', A b ∧ F b w' ∧ (execOp (ev E) o).run P w = .ok (.value (v b)) w')
    (h : ∀ b w', A b → F b w' → WL P n ops kn l (updo n E o.dst (v b)) w') : WL P n ops kn (o :: l) E w := by
  obtain ⟨b, w', hA, hF, hr⟩ := he
  exact WL_step hg hr (h b w' hA hF)
theorem WL_effm {M : Type} {A : Value → M → Prop} {F : M → World → Prop} (hg : o.guard = none) (he : ∃ v m w', A v m ∧ F m w' ∧ (execOp (ev E) o).run P w = .ok (.value v) w')
    (h : ∀ v m w', A v m → F m w' → WL P n ops kn l (updo n E o.dst v) w') : WL P n ops kn (o :: l) E w := by
  obtain ⟨v, m, w', hA, hF, hr⟩ := he
  exact WL_step hg hr (h v m w' hA hF)

end rules

/-- What a function hands back. -/
def resultOf (rs : Array ResultVar) (E : Env) : Option Value :=
  match rs.toList with
  | [] => some (.tuple #[])
  | [.tmp t] => some (E t)
  | [.tmp t, .tmp u] => some (.tuple #[E t, E u])
  | [.tmp t, .tmp u, .tmp v] => some (.tuple #[E t, E u, E v])
  | [.tmp t, .tmp u, .tmp v, .tmp x] => some (.tuple #[E t, E u, E v, E x])
  | _ => none

theorem results_of {P : Program} {fn : Func} {n : Nat} {E : Env} {a : Act} {v : Value} {w : World} (ha : Rep n E a) (h : resultOf fn.results E = some v) :
    (results fn a.tmps).run P w = .ok v w := by
  obtain ⟨rs, hrs⟩ : ∃ rs, fn.results.toList = rs := ⟨_, rfl⟩
  have hrs' : fn.results = rs.toArray := by rw [← hrs]
  unfold resultOf at h
  rw [hrs] at h
  split at h
  · cases h; simp [results, hrs', go_sem]
  · cases h; rw [← ha.slot]; simp [results, hrs', go_sem]
  · cases h; rw [← ha.slot, ← ha.slot]; simp [results, hrs', go_sem]
  · cases h; rw [← ha.slot, ← ha.slot, ← ha.slot]; simp [results, hrs', go_sem]
  · cases h; rw [← ha.slot, ← ha.slot, ← ha.slot, ← ha.slot]; simp [results, hrs', go_sem]
  · cases h

/-- The frame at the call. -/
def env0 (args : List Value) : Env := fun k => args.getD k undef

theorem Ret_of_W {P : Program} {f : FuncId} {fn : Func} {c : Code} {args : List Value} {w : World} {R : Value → World → Prop} {n : Nat} {rs : Array ResultVar}
    (hf : P.funcs[f]? = some fn) (hb : fn.body = some c) (hnt : fn.ntmps = n) (hrs : fn.results = rs) (hn : args.length ≤ n)
    (h : W P n c (fun E w => ∃ v, resultOf rs E = some v ∧ R v w) (fun _ _ _ => False) (fun E w => ∃ v, resultOf rs E = some v ∧ R v w) (env0 args) w) :
    Ret P f args.toArray w R := by
  subst hnt hrs
  refine ⟨calls_of_wp hf hb ?_⟩
  have hrep : Rep fn.ntmps (env0 args) { tmps := args.toArray ++ Array.replicate (fn.ntmps - args.toArray.size) undef, defers := [] } := by
    refine ⟨by simp; omega, ?_, rfl⟩
    intro t
    simp only [env0, Array.getD_eq_getD_getElem?, Array.getElem?_append, List.getD_eq_getElem?_getD]
    by_cases ht : t < args.length
    · simp [ht]
    · simp only [List.size_toArray, if_neg ht, Array.getElem?_replicate]
      rw [List.getElem?_eq_none (by omega)]
      split <;> rfl
  refine wp_mono (h.out _ hrep) ?_
  intro e a w hq
  cases e with
  | normal => obtain ⟨E, ha, v, hv, hR⟩ := hq; exact ⟨ha.defers, v, results_of ha hv, v, rfl, hR⟩
  | exit i => obtain ⟨E, ha, h⟩ := hq; exact h.elim
  | ret => obtain ⟨E, ha, v, hv, hR⟩ := hq; exact ⟨ha.defers, v, results_of ha hv, v, rfl, hR⟩
  | goto l => exact hq.elim
  | panic c => exact hq.elim
  | outgrown => exact hq.elim

theorem Ret.mono {P : Program} {f : FuncId} {args : Array Value} {w : World} {R R' : Value → World → Prop} (h : Ret P f args w R) (hr : ∀ v w', R v w' → R' v w') : Ret P f args w R' :=
  ⟨Calls.mono h.out fun _ _ ⟨v, he, hR⟩ => ⟨v, he, hr _ _ hR⟩⟩

end Go.Proofs.YtlpmfldijgdcoaaGreatDoor.Fx

/-
  What a piece of memory holds, block by block, and how it passes from world to world.
-/
namespace Go.Proofs.YtlpmfldijgdcoaaGreatDoor.Fx
open Go

/-- The world w is w0 but for the blocks of L, which hold what L says; blocks that w0 did not have may be there besides. -/
structure Hp (w0 : World) (L : List (Nat × Obj)) (w : World) : Prop where
  os : w.os = w0.os
  tape : w.tape = w0.tape
  output : w.output = w0.output
  size : w0.heap.size ≤ w.heap.size
  old : ∀ k, k < w0.heap.size → k ∉ L.map (·.1) → w.heap[k]? = w0.heap[k]?
  held : ∀ p ∈ L, w.heap[p.1]? = some p.2
  nodup : (L.map (·.1)).Nodup

theorem Hp.refl (w : World) : Hp w [] w := ⟨rfl, rfl, rfl, Nat.le_refl _, fun _ _ _ => rfl, (fun _ h => nomatch h), List.nodup_nil⟩

theorem lt_of_some {w : World} {b : Nat} {o : Obj} (h : w.heap[b]? = some o) : b < w.heap.size := (Array.getElem?_eq_some_iff.1 h).1

/-- A block that is known comes into sight. -/
theorem Hp.focus {w0 w : World} {L : List (Nat × Obj)} (H : Hp w0 L w) {b : Nat} {o : Obj} (hb : w.heap[b]? = some o) (hn : b ∉ L.map (·.1)) : Hp w0 ((b, o) :: L) w := by
  refine ⟨H.os, H.tape, H.output, H.size, fun k hk hn' => H.old k hk (fun h => hn' (.tail _ h)), ?_, List.nodup_cons.2 ⟨hn, H.nodup⟩⟩
  intro p hp
  rcases List.mem_cons.1 hp with rfl | hp
  · exact hb
  · exact H.held p hp

theorem Hp.focus0 {w : World} {b : Nat} {o : Obj} (hb : w.heap[b]? = some o) : Hp w [(b, o)] w := by
  exact (Hp.refl w).focus hb (by simp)

/-- The place of a block in the list, and the list with something else in that place. -/
inductive At : List (Nat × Obj) → Nat → Obj → (Obj → List (Nat × Obj)) → Prop
  | here {b o L} : At ((b, o) :: L) b o (fun o' => (b, o') :: L)
  | there {b o L p f} : At L b o f → At (p :: L) b o (fun o' => p :: f o')

/-- The place of a part of the list, and the list with another part in that place. -/
inductive AtM : List (Nat × Obj) → List (Nat × Obj) → (List (Nat × Obj) → List (Nat × Obj)) → Prop
  | last {M} : AtM M M (fun M' => M')
  | here {M B} : AtM (M ++ B) M (fun M' => M' ++ B)
  | there {L M p f} : AtM L M f → AtM (p :: L) M (fun M' => p :: f M')

theorem AtM.split {L M f} (h : AtM L M f) : ∃ A B, L = A ++ (M ++ B) ∧ ∀ M', f M' = A ++ (M' ++ B) := by
  induction h with
  | last => exact ⟨[], [], by simp, fun _ => by simp⟩
  | @here M B => exact ⟨[], B, rfl, fun _ => rfl⟩
  | @there L M p f _ ih =>
    obtain ⟨A, B, e, h⟩ := ih
    exact ⟨p :: A, B, by rw [e]; rfl, fun M' => congrArg (p :: ·) (h M')⟩

theorem At.mem {L b o f} (h : At L b o f) : (b, o) ∈ L := by
  induction h with
  | here => exact .head _
  | there _ ih => exact .tail _ ih

theorem At.keys {L b o f} (h : At L b o f) (o' : Obj) : (f o').map (·.1) = L.map (·.1) := by
  induction h with
  | here => rfl
  | there _ ih => simp [ih]

theorem At.mem_set {L b o f} (h : At L b o f) {o' : Obj} (hn : (L.map (·.1)).Nodup) {p : Nat × Obj} (hp : p ∈ f o') : p = (b, o') ∨ (p ∈ L ∧ p.1 ≠ b) := by
  induction h with
  | @here b o L =>
    rcases List.mem_cons.1 hp with hp | hp
    · exact .inl hp
    · refine .inr ⟨.tail _ hp, fun e => ?_⟩
      simp only [List.map_cons, List.nodup_cons] at hn
      exact hn.1 (e ▸ List.mem_map_of_mem hp)
  | @there b o L q f h ih =>
    simp only [List.map_cons, List.nodup_cons] at hn
    rcases List.mem_cons.1 hp with hp | hp
    · refine .inr ⟨by rw [hp]; exact .head _, fun e => hn.1 ?_⟩
      rw [← hp, e]
      exact List.mem_map_of_mem (f := (·.1)) h.mem
    · rcases ih hn.2 hp with h | ⟨h, h'⟩
      · exact .inl h
      · exact .inr ⟨.tail _ h, h'⟩

theorem Hp.get {w0 w : World} {L b o f} (H : Hp w0 L w) (h : At L b o f) : w.heap[b]? = some o := H.held _ h.mem

/-- From a world to a later one: a block has turned. -/
theorem Hp.put {w0 w w' : World} {L b o f} (H : Hp w0 L w) (h : At L b o f) {o' : Obj} (hos : w'.os = w.os) (htape : w'.tape = w.tape) (hout : w'.output = w.output)
    (hsize : w.heap.size ≤ w'.heap.size) (hsame : ∀ k, k < w.heap.size → k ≠ b → w'.heap[k]? = w.heap[k]?) (hb : w'.heap[b]? = some o') : Hp w0 (f o') w' := by
  refine ⟨hos.trans H.os, htape.trans H.tape, hout.trans H.output, Nat.le_trans H.size hsize, ?_, ?_, ?_⟩
  · intro k hk hn
    rw [h.keys] at hn
    have hkb : k ≠ b := fun e => hn (e ▸ List.mem_map_of_mem (f := (·.1)) h.mem)
    rw [hsame k (Nat.lt_of_lt_of_le hk H.size) hkb]
    exact H.old k hk hn
  · intro p hp
    rcases h.mem_set H.nodup hp with rfl | ⟨hp, hne⟩
    · exact hb
    · rw [hsame p.1 (lt_of_some (H.held p hp)) hne]
      exact H.held p hp
  · rw [h.keys]; exact H.nodup

/-- Nothing that was there has turned. -/
theorem Hp.same {w0 w w' : World} {L} (H : Hp w0 L w) (hos : w'.os = w.os) (htape : w'.tape = w.tape) (hout : w'.output = w.output)
    (hsize : w.heap.size ≤ w'.heap.size) (hsame : ∀ k, k < w.heap.size → w'.heap[k]? = w.heap[k]?) : Hp w0 L w' :=
  ⟨hos.trans H.os, htape.trans H.tape, hout.trans H.output, Nat.le_trans H.size hsize, fun k hk hn => by rw [hsame k (Nat.lt_of_lt_of_le hk H.size)]; exact H.old k hk hn,
    fun p hp => by rw [hsame p.1 (lt_of_some (H.held p hp))]; exact H.held p hp, H.nodup⟩

theorem Hp.drew {w0 w : World} {L} (H : Hp w0 L w) : Hp w0 L w.drew := ⟨H.os, H.tape, H.output, H.size, H.old, H.held, H.nodup⟩
theorem Hp.drawn {w0 w : World} {L} (H : Hp w0 L w) (n : Nat) : Hp w0 L { w with drawn := n } := ⟨H.os, H.tape, H.output, H.size, H.old, H.held, H.nodup⟩

theorem Hp.fresh {w0 w : World} {L} (H : Hp w0 L w) {k : Nat} (hk : w.heap.size ≤ k) : k ∉ L.map (·.1) := by
  intro h
  obtain ⟨p, hp, rfl⟩ := List.mem_map.1 h
  have := lt_of_some (H.held p hp)
  omega

theorem heap_alloc (w : World) (o : Obj) (k : Nat) (h : k < w.heap.size) : (w.alloc o).heap[k]? = w.heap[k]? := by
  show (w.heap.push o)[k]? = _
  rw [Array.getElem?_push, if_neg (by omega)]
theorem heap_alloc_new (w : World) (o : Obj) : (w.alloc o).heap[w.heap.size]? = some o := by
  show (w.heap.push o)[w.heap.size]? = _
  simp

/-- A new block. -/
theorem Hp.alloc {w0 w : World} {L} (H : Hp w0 L w) (o : Obj) : Hp w0 ((w.heap.size, o) :: L) (w.alloc o) :=
  (H.same (w' := w.alloc o) rfl rfl rfl (by simp) (fun k hk => heap_alloc w o k hk)).focus (heap_alloc_new w o) (H.fresh (Nat.le_refl _))

/-- A block of no more interest, which w0 did not have. -/
theorem Hp.drop {w0 w : World} {L M : List (Nat × Obj)} (H : Hp w0 L w) (hs : M.Sublist L) (hn : ∀ p ∈ L, p ∉ M → w0.heap.size ≤ p.1) : Hp w0 M w := by
  refine ⟨H.os, H.tape, H.output, H.size, ?_, fun p hp => H.held p (hs.subset hp), (hs.map _).nodup H.nodup⟩
  intro k hk hk'
  refine H.old k hk fun h => ?_
  obtain ⟨p, hp, rfl⟩ := List.mem_map.1 h
  by_cases hm : p ∈ M
  · exact hk' (List.mem_map_of_mem hm)
  · have := hn p hp hm; omega

/-- A block that holds what it held. -/
theorem Hp.unfocus {w0 w : World} {L M : List (Nat × Obj)} (H : Hp w0 L w) (hs : M.Sublist L) (hn : ∀ p ∈ L, p ∉ M → w0.heap.size ≤ p.1 ∨ w0.heap[p.1]? = some p.2) : Hp w0 M w := by
  refine ⟨H.os, H.tape, H.output, H.size, ?_, fun p hp => H.held p (hs.subset hp), (hs.map _).nodup H.nodup⟩
  intro k hk hk'
  by_cases h : k ∈ L.map (·.1)
  · obtain ⟨p, hp, rfl⟩ := List.mem_map.1 h
    by_cases hm : p ∈ M
    · exact (hk' (List.mem_map_of_mem hm)).elim
    · rcases hn p hp hm with h | h
      · omega
      · rw [H.held p hp, h]
  · exact H.old k hk h

theorem Hp.perm {w0 w : World} {L M : List (Nat × Obj)} (H : Hp w0 L w) (hp : L.Perm M) : Hp w0 M w :=
  ⟨H.os, H.tape, H.output, H.size, fun k hk hn => H.old k hk (fun h => hn ((hp.map _).mem_iff.1 h)), fun p h => H.held p (hp.mem_iff.2 h), (hp.map _).nodup_iff.1 H.nodup⟩

/-- A row of changes behind a call, each at a block that is in sight, or a new one. -/
def okSeq (w : World) : List (Nat × Obj) → List (Nat × Obj) → List (Nat × Obj) → Prop
  | L, [], L' => L' = L
  | L, (b, o) :: M, L' => (∃ o0 f, At L b o0 f ∧ okSeq w (f o) M L') ∨ (w.heap.size ≤ b ∧ okSeq w ((b, o) :: L) M L')

theorem okSeq_nil {w : World} {L} : okSeq w L [] L := rfl
theorem okSeq_set {w : World} {L b o o0 f M L'} (h : At L b o0 f) (k : okSeq w (f o) M L') : okSeq w L ((b, o) :: M) L' := .inl ⟨o0, f, h, k⟩
theorem okSeq_new {w : World} {L b o M L'} (h : w.heap.size ≤ b) (k : okSeq w ((b, o) :: L) M L') : okSeq w L ((b, o) :: M) L' := .inr ⟨h, k⟩

theorem okSeq_keys {w : World} : ∀ {M L L' : List (Nat × Obj)}, okSeq w L M L' → ∀ k, k ∈ L'.map (·.1) ↔ k ∈ L.map (·.1) ∨ k ∈ M.map (·.1)
  | [], L, L', h, k => by rw [show L' = L from h]; simp
  | (b, o) :: M, L, L', h, k => by
    rcases h with ⟨o0, f, hat, h⟩ | ⟨_, h⟩
    · rw [okSeq_keys h k, hat.keys]
      have : b ∈ L.map (·.1) := List.mem_map_of_mem (f := (·.1)) hat.mem
      constructor
      · rintro (h | h)
        · exact .inl h
        · exact .inr (by simp at h ⊢; exact .inr h)
      · rintro (h | h)
        · exact .inl h
        · rcases List.mem_cons.1 (by simpa using h : k ∈ b :: M.map (·.1)) with rfl | h
          · exact .inl this
          · exact .inr h
    · rw [okSeq_keys h k]
      simp only [List.map_cons, List.mem_cons]
      constructor
      · rintro ((h | h) | h)
        · exact .inr (.inl h)
        · exact .inl h
        · exact .inr (.inr h)
      · rintro (h | h | h)
        · exact .inl (.inr h)
        · exact .inl (.inl h)
        · exact .inr h

theorem okSeq_mem {w : World} : ∀ {M L L' : List (Nat × Obj)}, okSeq w L M L' → (L.map (·.1)).Nodup → (M.map (·.1)).Nodup → (∀ k ∈ L.map (·.1), k < w.heap.size ∨ k ∉ M.map (·.1)) →
    (L'.map (·.1)).Nodup ∧ ∀ p ∈ L', p ∈ M ∨ (p ∈ L ∧ p.1 ∉ M.map (·.1))
  | [], L, L', h, hL, _, _ => by rw [show L' = L from h]; exact ⟨hL, fun p hp => .inr ⟨hp, by simp⟩⟩
  | (b, o) :: M, L, L', h, hL, hM, hlt => by
    simp only [List.map_cons, List.nodup_cons] at hM
    rcases h with ⟨o0, f, hat, h⟩ | ⟨hb, h⟩
    · have ih := okSeq_mem h (by rw [hat.keys]; exact hL) hM.2 (fun k hk => by rw [hat.keys] at hk; rcases hlt k hk with h | h; exact .inl h; exact .inr (fun h' => h (by simp at h' ⊢; exact .inr h')))
      refine ⟨ih.1, fun p hp => ?_⟩
      rcases ih.2 p hp with h | ⟨h, h'⟩
      · exact .inl (.tail _ h)
      · rcases hat.mem_set hL h with rfl | ⟨h1, h2⟩
        · exact .inl (.head _)
        · exact .inr ⟨h1, by simp only [List.map_cons, List.mem_cons, not_or]; exact ⟨h2, h'⟩⟩
    · have hbL : b ∉ L.map (·.1) := fun hk => by
        rcases hlt b hk with h | h
        · omega
        · exact h (by simp)
      have hnd : (((b, o) :: L).map (·.1)).Nodup := List.nodup_cons.2 ⟨hbL, hL⟩
      have ih := okSeq_mem h hnd hM.2 (fun k hk => by
        rcases List.mem_cons.1 hk with rfl | hk
        · exact .inr hM.1
        · rcases hlt k hk with h | h
          · exact .inl h
          · exact .inr (fun h' => h (by simp at h' ⊢; exact .inr h')))
      refine ⟨ih.1, fun p hp => ?_⟩
      rcases ih.2 p hp with h | ⟨h, h'⟩
      · exact .inl (.tail _ h)
      · rcases List.mem_cons.1 h with rfl | h
        · exact .inl (.head _)
        · refine .inr ⟨h, ?_⟩
          simp only [List.map_cons, List.mem_cons, not_or]
          exact ⟨fun e => hbL (e ▸ List.mem_map_of_mem h), h'⟩

/-- Behind a call. -/
theorem Hp.seq {w0 w w' : World} {L M L' : List (Nat × Obj)} (H : Hp w0 L w) (H' : Hp w M w') (h : okSeq w L M L') : Hp w0 L' w' := by
  have hlt : ∀ k ∈ L.map (·.1), k < w.heap.size ∨ k ∉ M.map (·.1) := fun k hk => by
    obtain ⟨p, hp, rfl⟩ := List.mem_map.1 hk
    exact .inl (lt_of_some (H.held p hp))
  have hm := okSeq_mem h H.nodup H'.nodup hlt
  refine ⟨H'.os.trans H.os, H'.tape.trans H.tape, H'.output.trans H.output, Nat.le_trans H.size H'.size, ?_, ?_, hm.1⟩
  · intro k hk hn
    rw [okSeq_keys h k, not_or] at hn
    rw [H'.old k (Nat.lt_of_lt_of_le hk H.size) hn.2]
    exact H.old k hk hn.1
  · intro p hp
    rcases hm.2 p hp with h | ⟨h, h'⟩
    · exact H'.held p h
    · rw [H'.old p.1 (lt_of_some (H.held p h)) h']
      exact H.held p h

theorem Hp.seq0 {w0 w w' : World} {L : List (Nat × Obj)} (H : Hp w0 L w) (H' : Hp w [] w') : Hp w0 L w' := H.seq H' okSeq_nil

/-- What some blocks hold. -/
def Kp (L : List (Nat × Obj)) (w : World) : Prop := ∀ p ∈ L, w.heap[p.1]? = some p.2
theorem Hp.kp {w0 w : World} {L : List (Nat × Obj)} (H : Hp w0 L w) : Kp L w := H.held
theorem Kp.get {w : World} {L b o f} (H : Kp L w) (h : At L b o f) : w.heap[b]? = some o := H _ h.mem

theorem Kp.tail {w : World} {L p} (h : Kp (p :: L) w) : Kp L w := fun q hq => h q (.tail _ hq)
theorem Kp.sub {w : World} {L K : List (Nat × Obj)} (h : Kp L w) (hs : K ⊆ L) : Kp K w := fun q hq => h q (hs hq)
theorem Kp.nil {w : World} : Kp [] w := fun _ h => nomatch h

/-- A block that holds what it held is of no more interest. -/
theorem Hp.back {w0 w : World} {L : List (Nat × Obj)} {b : Nat} {o : Obj} (H : Hp w0 ((b, o) :: L) w) (hb : w0.heap[b]? = some o) : Hp w0 L w :=
  H.unfocus (List.sublist_cons_self _ _) fun p hp hn => by
    rcases List.mem_cons.1 hp with rfl | hp
    · exact .inr hb
    · exact (hn hp).elim
theorem Hp.swap2 {w0 w : World} {L : List (Nat × Obj)} {p q : Nat × Obj} (H : Hp w0 (p :: q :: L) w) : Hp w0 (q :: p :: L) w := H.perm (List.Perm.swap _ _ _)

end Go.Proofs.YtlpmfldijgdcoaaGreatDoor.Fx

/-
  The operations, one rule each: what an operation makes of the frame and of the memory.
-/
namespace Go.Proofs.YtlpmfldijgdcoaaGreatDoor.Fx
open Go

section
variable {P : Program} {n : Nat} {ops : Array Oper} {kn : Env → World → Prop} {l : List Oper} {E : Env} {w0 w : World} {L : List (Nat × Obj)}
variable {d : Option Nat} {ty : TypeId} {pos : String} {after : Array Edge}

abbrev mk (d : Option Nat) (op : Op) (ty : TypeId) (pos : String) (after : Array Edge) : Oper := { dst := d, op := op, type := ty, pos := pos, after := after, guard := none }

/-! ### values alone -/
theorem R_mv {x : Operand} : (execOp (ev E) (mk d (.move x) ty pos after)).run P w = .ok (.value (ev E x)) w := by
  simp [execOp]
theorem R_as {x : Operand} : (execOp (ev E) (mk d (.assign x) ty pos after)).run P w = .ok (.value (ev E x)) w := by
  simp [execOp]
theorem R_pick {c a b : Operand} {t : Bool} {v : Value} (hc : ev E c = .bool t) (hv : (if t then ev E a else ev E b) = v)
    : (execOp (ev E) (mk d (.pick c a b) ty pos after)).run P w = .ok (.value (v)) w := by
  subst hv; simp [execOp, hc, asBool]


theorem run_eqGuard_int {op : BinOp} {t : TypeId} {x y : Operand} {k j : IntKind} {a b : Int} : (eqGuard op t x y (.int k a) (.int j b)).run P w = .ok () w := by
  unfold eqGuard
  cases op <;> rfl
theorem run_eqGuard_bool {op : BinOp} {t : TypeId} {x y : Operand} {a b : Bool} : (eqGuard op t x y (.bool a) (.bool b)).run P w = .ok () w := by
  unfold eqGuard
  cases op <;> rfl

/-- + - * on integers -/
theorem R_arith {op : BinOp} {t t' : TypeId} {x y : Operand} {k : IntKind} {a b r : Int} (hx : ev E x = .int k a) (hy : ev E y = .int k b)
    (hr : (Op.intArith op k a b).run P w = .ok (.int k r) w) (ho : op = .add ∨ op = .sub ∨ op = .mul)
    : (execOp (ev E) (mk d (.binOp op t x y t') ty pos after)).run P w = .ok (.value ((.int k r))) w := by
  rcases ho with rfl | rfl | rfl <;> simp [execOp, hx, hy, run_eqGuard_int, binOp, hr]


theorem R_add {t t' : TypeId} {x y : Operand} {k : IntKind} {a b r : Int} (hx : ev E x = .int k a) (hy : ev E y = .int k b) (hr : k.wrap (a + b) = r)
    : (execOp (ev E) (mk d (.binOp .add t x y t') ty pos after)).run P w = .ok (.value ((.int k r))) w :=
  R_arith hx hy (by subst hr; rfl) (.inl rfl)
theorem R_sub {t t' : TypeId} {x y : Operand} {k : IntKind} {a b r : Int} (hx : ev E x = .int k a) (hy : ev E y = .int k b) (hr : k.wrap (a - b) = r)
    : (execOp (ev E) (mk d (.binOp .sub t x y t') ty pos after)).run P w = .ok (.value ((.int k r))) w :=
  R_arith hx hy (by subst hr; rfl) (.inr (.inl rfl))
theorem R_mul {t t' : TypeId} {x y : Operand} {k : IntKind} {a b r : Int} (hx : ev E x = .int k a) (hy : ev E y = .int k b) (hr : k.wrap (a * b) = r)
    : (execOp (ev E) (mk d (.binOp .mul t x y t') ty pos after)).run P w = .ok (.value ((.int k r))) w :=
  R_arith hx hy (by subst hr; rfl) (.inr (.inr rfl))


/-- & | ^ &^ on integers -/
def bitsOf (op : BinOp) (k : IntKind) (x y : Int) : Int :=
  let a := BitVec.ofInt k.bits x
  let b := BitVec.ofInt k.bits y
  k.wrap ((match op with
    | .and => a &&& b
    | .or => a ||| b
    | .xor => a ^^^ b
    | _ => a &&& ~~~b : BitVec k.bits).toNat : Int)
theorem R_bits {op : BinOp} {t t' : TypeId} {x y : Operand} {k : IntKind} {a b r : Int} (hx : ev E x = .int k a) (hy : ev E y = .int k b)
    (ho : op = .and ∨ op = .or ∨ op = .xor ∨ op = .andNot) (hr : bitsOf op k a b = r)
    : (execOp (ev E) (mk d (.binOp op t x y t') ty pos after)).run P w = .ok (.value ((.int k r))) w := by
  subst hr
  rcases ho with rfl | rfl | rfl | rfl <;> simp [execOp, hx, hy, run_eqGuard_int, binOp, Op.intBits, bitsOf]


theorem R_rem {t t' : TypeId} {x y : Operand} {k : IntKind} {a b r : Int} (hx : ev E x = .int k a) (hy : ev E y = .int k b) (hb : b ≠ 0) (hr : a.tmod b = r)
    : (execOp (ev E) (mk d (.binOp .rem t x y t') ty pos after)).run P w = .ok (.value ((.int k r))) w := by
  subst hr
  simp [execOp, hx, hy, run_eqGuard_int, binOp, Op.intDiv, hb]


/-- << and >> -/
theorem R_shl {t t' : TypeId} {x y : Operand} {k j : IntKind} {a b r : Int} (hx : ev E x = .int k a) (hy : ev E y = .int j b) (hb : 0 ≤ b) (hr : k.wrap (a * 2 ^ (min b.toNat k.bits)) = r)
    : (execOp (ev E) (mk d (.binOp .shl t x y t') ty pos after)).run P w = .ok (.value ((.int k r))) w := by
  subst hr
  have : ¬ b < 0 := by omega
  simp [execOp, hx, hy, run_eqGuard_int, binOp, Op.shift, this]
theorem R_shr {t t' : TypeId} {x y : Operand} {k j : IntKind} {a b r : Int} (hx : ev E x = .int k a) (hy : ev E y = .int j b) (hb : 0 ≤ b) (hr : a.fdiv (2 ^ (min b.toNat k.bits)) = r)
    : (execOp (ev E) (mk d (.binOp .shr t x y t') ty pos after)).run P w = .ok (.value ((.int k r))) w := by
  subst hr
  have : ¬ b < 0 := by omega
  simp [execOp, hx, hy, run_eqGuard_int, binOp, Op.shift, this]


/-- comparisons of integers: the Bool is that of a proposition -/
theorem R_eq {t t' : TypeId} {x y : Operand} {k : IntKind} {a b : Int} (hx : ev E x = .int k a) (hy : ev E y = .int k b)
    : (execOp (ev E) (mk d (.binOp .eql t x y t') ty pos after)).run P w = .ok (.value ((.bool (decide (a = b))))) w := by
  simp [execOp, hx, hy, run_eqGuard_int, binOp, Op.intCmp]
  rfl
theorem R_ne {t t' : TypeId} {x y : Operand} {k : IntKind} {a b : Int} (hx : ev E x = .int k a) (hy : ev E y = .int k b)
    : (execOp (ev E) (mk d (.binOp .neq t x y t') ty pos after)).run P w = .ok (.value ((.bool (decide (a ≠ b))))) w := by
  simp only [execOp, hx, hy, run_eqGuard_int, binOp, Op.intCmp, Sem.run_bind, Result.andThen_ok, ne_eq, not_true_eq_false, if_false, Sem.run_pure, bne, Bool.beq_eq_decide_eq, decide_not]
theorem R_lt {t t' : TypeId} {x y : Operand} {k : IntKind} {a b : Int} (hx : ev E x = .int k a) (hy : ev E y = .int k b)
    : (execOp (ev E) (mk d (.binOp .lss t x y t') ty pos after)).run P w = .ok (.value ((.bool (decide (a < b))))) w := by
  simp [execOp, hx, hy, run_eqGuard_int, binOp, Op.intCmp]
theorem R_le {t t' : TypeId} {x y : Operand} {k : IntKind} {a b : Int} (hx : ev E x = .int k a) (hy : ev E y = .int k b)
    : (execOp (ev E) (mk d (.binOp .leq t x y t') ty pos after)).run P w = .ok (.value ((.bool (decide (a ≤ b))))) w := by
  simp [execOp, hx, hy, run_eqGuard_int, binOp, Op.intCmp]
theorem R_gt {t t' : TypeId} {x y : Operand} {k : IntKind} {a b : Int} (hx : ev E x = .int k a) (hy : ev E y = .int k b)
    : (execOp (ev E) (mk d (.binOp .gtr t x y t') ty pos after)).run P w = .ok (.value ((.bool (decide (b < a))))) w := by
  simp [execOp, hx, hy, run_eqGuard_int, binOp, Op.intCmp]
theorem R_ge {t t' : TypeId} {x y : Operand} {k : IntKind} {a b : Int} (hx : ev E x = .int k a) (hy : ev E y = .int k b)
    : (execOp (ev E) (mk d (.binOp .geq t x y t') ty pos after)).run P w = .ok (.value ((.bool (decide (b ≤ a))))) w := by
  simp [execOp, hx, hy, run_eqGuard_int, binOp, Op.intCmp]


theorem R_not {t : TypeId} {x : Operand} {b : Bool} (hx : ev E x = .bool b)
    : (execOp (ev E) (mk d (.unOp .not t x) ty pos after)).run P w = .ok (.value ((.bool (!b)))) w := by
  simp [execOp, hx, Op.unary]
/-- from one kind of integers to another -/
theorem R_conv_int {s t : TypeId} {x : Operand} {k j : IntKind} {a r : Int} (hs : P.underlying s = some (.int k)) (ht : P.underlying t = some (.int j)) (hx : ev E x = .int k a)
    (hr : j.wrap a = r)
    : (execOp (ev E) (mk d (.convert s t x) ty pos after)).run P w = .ok (.value ((.int j r))) w := by
  subst hr
  simp [execOp, hx, convert, run_underlying hs, run_underlying ht, Conv.intToInt]


theorem R_extract {x : Operand} {i : Nat} {vs : Array Value} {v : Value} (hx : ev E x = .tuple vs) (hv : vs[i]? = some v)
    : (execOp (ev E) (mk d (.extract x i) ty pos after)).run P w = .ok (.value (v)) w := by
  simp [execOp, hx, Instr.extract, hv]


theorem R_makeFunc {fn : Fn} {first captured : Array Operand} {v : Value} (hv : Value.func fn (first.map (ev E)) (captured.map (ev E)) = v)
    : (execOp (ev E) (mk d (.makeFunc fn first captured) ty pos after)).run P w = .ok (.value (v)) w := by
  subst hv
  simp [execOp, Instr.makeFunc]


theorem R_nilCheck {x : Operand} {a : Addr} (hx : ev E x = .pointer (some a))
    : (execOp (ev E) (mk d (.nilCheck x) ty pos after)).run P w = .ok (.value ((.pointer (some a)))) w := by
  simp [execOp, hx]

end

end Go.Proofs.YtlpmfldijgdcoaaGreatDoor.Fx

/-
  The operations that read and write memory.
-/
namespace Go.Proofs.YtlpmfldijgdcoaaGreatDoor.Fx
open Go

abbrev blk (l : List Value) (e : TypeId) : Obj := .cells l.toArray e (0, 0)
abbrev ptr (b off : Nat) : Value := .pointer (some ⟨b, off, none⟩)
abbrev sl (b off len cap : Nat) : Value := .slice (some ⟨b, off, none⟩) len cap
abbrev nilS : Value := .slice none 0 0

theorem add_none (b off k : Nat) : (⟨b, off, none⟩ : Addr).add k = ⟨b, off + k, none⟩ := by
  unfold Addr.add; split <;> simp_all

theorem cell_blk {w : World} {b : Nat} {l : List Value} {e : TypeId} {fz : Nat × Nat} (h : w.heap[b]? = some (.cells l.toArray e fz)) (k : Nat) : w.cell? ⟨b, k, none⟩ = l[k]? := by
  simp [World.cell?, h]

theorem frozen_blk {w : World} {b : Nat} {l : List Value} {e : TypeId} (h : w.heap[b]? = some (blk l e)) (k : Nat) : w.frozen? ⟨b, k, none⟩ = false := by
  simp [World.frozen?, h]

section
variable {P : Program} {n : Nat} {ops : Array Oper} {kn : Env → World → Prop} {l : List Oper} {E : Env} {w0 w : World} {L : List (Nat × Obj)}
variable {d : Option Nat} {ty : TypeId} {pos : String} {after : Array Edge}

/-! ### load, store -/
theorem R_load_cell {t : TypeId} {x : Operand} {a : Addr} {v : Value} (hA : ∀ w, (isAgg t).run P w = .ok false w) (hx : ev E x = .pointer (some a))
    (hc : w.cell? a = some v)
    : (execOp (ev E) (mk d (.load t x) ty pos after)).run P w = .ok (.value (v)) w := by
  simp [execOp, hx, Instr.loadAt, Instr.sureAddr, loadVar, hA, hc]


theorem R_load {t : TypeId} {x : Operand} {b off : Nat} {v : Value} {c : List Value} {e : TypeId} {fz : Nat × Nat} (hA : ∀ w, (isAgg t).run P w = .ok false w) (hx : ev E x = ptr b off)
    (hb : w.heap[b]? = some (.cells c.toArray e fz)) (hc : c[off]? = some v)
    : (execOp (ev E) (mk d (.load t x) ty pos after)).run P w = .ok (.value (v)) w :=
  R_load_cell hA hx (by rw [cell_blk hb]; exact hc)


theorem run_loadAgg {t : TypeId} {b off sz : Nat} {vs : List Value} (hA : ∀ w, (isAgg t).run P w = .ok true w) (hS : ∀ w, (sizeOf t).run P w = .ok sz w)
    (hc : ∀ j v, vs[j]? = some v → w.cell? ⟨b, off + j, none⟩ = some v) (hl : vs.length = sz) : (loadVar t ⟨b, off, none⟩).run P w = .ok (.agg vs.toArray) w := by
  subst hl
  have := run_loadCells_list (P := P) w ⟨b, off, none⟩ vs (fun j v hj => by rw [add_none]; exact hc j v hj)
  simp [loadVar, hA, hS, this]

theorem R_loadA {t : TypeId} {x : Operand} {b off sz : Nat} {vs c : List Value} {e : TypeId} {fz : Nat × Nat} (hA : ∀ w, (isAgg t).run P w = .ok true w) (hS : ∀ w, (sizeOf t).run P w = .ok sz w) (hx : ev E x = ptr b off)
    (hb : w.heap[b]? = some (.cells c.toArray e fz)) (hc : (c.drop off).take sz = vs) (hl : off + sz ≤ c.length)
    : (execOp (ev E) (mk d (.load t x) ty pos after)).run P w = .ok (.value ((.agg vs.toArray))) w := by
  have := run_loadAgg (w := w) (b := b) (off := off) (vs := vs) hA hS (fun j v hj => by
    rw [cell_blk hb]
    subst hc
    rw [List.getElem?_take] at hj
    split at hj
    · rwa [List.getElem?_drop] at hj
    · cases hj) (by subst hc; simp; omega)
  simp [execOp, hx, Instr.loadAt, Instr.sureAddr, this]


theorem heap_setCell_other (w : World) (a : Addr) (k : Nat) (v : Value) (h : k ≠ a.block) : (w.setCell a v).heap[k]? = w.heap[k]? := by
  simp only [World.setCell, Array.getElem?_modify]
  rw [if_neg (by omega)]

theorem Hp.setCell {b off : Nat} {c : List Value} {e : TypeId} {f} (H : Hp w0 L w) (hL : At L b (blk c e) f) (v : Value) : Hp w0 (f (blk (c.set off v) e)) (w.setCell ⟨b, off, none⟩ v) := by
  refine H.put hL rfl rfl rfl (by simp) (fun k _ hk => heap_setCell_other _ _ _ _ hk) ?_
  have hb := H.get hL
  simp [World.setCell, Array.getElem?_modify, hb]

theorem E_store {t : TypeId} {x y : Operand} {b off : Nat} {v : Value} {c : List Value} {e : TypeId} {f} (H : Hp w0 L w) (hS : ∀ w, (sizeOf t).run P w = .ok 1 w) (hx : ev E x = ptr b off) (hy : ev E y = v)
    (hv : v.oneCell' = true) (hL : At L b (blk c e) f) (hc : off < c.length)
    : ∃ w', Hp w0 (f (blk (c.set off v) e)) w' ∧ (execOp (ev E) (mk d (.store t x y) ty pos after)).run P w = .ok .skip w' := by
  have hcell : w.cell? ⟨b, off, none⟩ = some c[off] := by rw [cell_blk (H.get hL)]; exact List.getElem?_eq_getElem hc
  have hfro := frozen_blk (H.get hL) off
  have hcs : v.cells = #[v] := by cases v <;> first | rfl | cases hv
  have hrun : (execOp (ev E) (mk d (.store t x y) ty pos after)).run P w = .ok .skip (w.setCell ⟨b, off, none⟩ v) := by
    have hst := run_store P w ⟨b, off, none⟩ v .plain hv
    rw [hcell, hfro] at hst
    simp [execOp, hx, hy, Instr.storeAt, Instr.sureAddr, storeVar, hS, hcs, storeCells, add_none, hst]
  exact ⟨_, H.setCell hL v, hrun⟩

theorem Hp.setRow {b : Nat} {c c' : List Value} {e : TypeId} {f} (H : Hp w0 L w) (hL : At L b (blk c e) f) : Hp w0 (f (blk c' e)) (w.setRow b c'.toArray) := by
  refine H.put hL rfl rfl rfl (by simp) (fun k _ hk => ?_) ?_
  · simp only [World.setRow, Array.getElem?_modify]
    rw [if_neg (by omega)]
  · have hb := H.get hL
    simp [World.setRow, Array.getElem?_modify, hb]

theorem E_storeA {t : TypeId} {x y : Operand} {b off : Nat} {vs c : List Value} {e : TypeId} {f} (H : Hp w0 L w) (hS : ∀ w, (sizeOf t).run P w = .ok vs.length w) (hx : ev E x = ptr b off) (hy : ev E y = .agg vs.toArray)
    (hv : ∀ v ∈ vs, v.oneCell' = true) (hL : At L b (blk c e) f) (hc : off + vs.length ≤ c.length)
    : ∃ w', Hp w0 (f (blk (c.take off ++ vs ++ c.drop (off + vs.length)) e)) w' ∧ (execOp (ev E) (mk d (.store t x y) ty pos after)).run P w = .ok .skip w' := by
  have hst := run_storeCells_at P b off e vs 0 c.toArray w (H.get hL) (by simpa using hc) hv
  have hrun : (execOp (ev E) (mk d (.store t x y) ty pos after)).run P w = .ok .skip (w.setRow b (c.take off ++ vs ++ c.drop (off + vs.length)).toArray) := by
    simp only [Nat.add_zero] at hst
    simp [execOp, hx, hy, Instr.storeAt, Instr.sureAddr, storeVar, hS, Value.cells, hst]
  exact ⟨_, H.setRow hL, hrun⟩

/-! ### new blocks -/
theorem E_new {o : Oper} {v : Nat → Value} {ob : Obj} (H : Hp w0 L w) (hr : (execOp (ev E) o).run P w = .ok (.value (v w.heap.size)) (w.alloc ob)) :
    ∃ b w', w0.heap.size ≤ b ∧ Hp w0 ((b, ob) :: L) w' ∧ (execOp (ev E) o).run P w = .ok (.value (v b)) w' :=
  ⟨_, _, H.size, H.alloc ob, hr⟩

theorem E_box {t : TypeId} {x : Operand} {v : Value} {vs : List Value} (H : Hp w0 L w) (hx : ev E x = v) (hv : v.cells = vs.toArray) :
    ∃ b w', w0.heap.size ≤ b ∧ Hp w0 ((b, blk vs t) :: L) w' ∧ (execOp (ev E) (mk d (.box t x) ty pos after)).run P w = .ok (.value (ptr b 0)) w' :=
  E_new (v := fun b => ptr b 0) H (by subst hx; simp [execOp, Instr.box, newVar, newRow, hv])

theorem E_alloc {t : TypeId} {v : Value} {vs : List Value} (H : Hp w0 L w) (hZ : ∀ w, (zeroValue t).run P w = .ok v w) (hv : v.cells = vs.toArray) :
    ∃ b w', w0.heap.size ≤ b ∧ Hp w0 ((b, blk vs t) :: L) w' ∧ (execOp (ev E) (mk d (.alloc t) ty pos after)).run P w = .ok (.value (ptr b 0)) w' :=
  E_new (v := fun b => ptr b 0) H (by simp [execOp, Instr.alloc, hZ, newVar, newRow, hv])

/-! ### addresses, fields, elements -/
theorem R_fieldAddr {s : TypeId} {x : Operand} {b off off' sz i : Nat} {fields : Array Field} {fd : Field} (hs : P.underlying s = some (.struct fields)) (hf : fields[i]? = some fd)
    (hS : ∀ w, (sizeOf fd.type).run P w = .ok sz w) (h0 : sz ≠ 0) (hx : ev E x = ptr b off) (hr : off + fd.offset = off')
    : (execOp (ev E) (mk d (.fieldAddr s x i) ty pos after)).run P w = .ok (.value ((ptr b off'))) w := by
  subst hr
  simp [execOp, hx, Instr.fieldAt, run_underlying hs, hf, Instr.sureAddr, fieldPlace, hS, h0, add_none]


theorem R_field {s : TypeId} {x : Operand} {i : Nat} {cs : List Value} {v : Value} {fields : Array Field} {fd : Field} (hs : P.underlying s = some (.struct fields)) (hf : fields[i]? = some fd)
    (hA : ∀ w, (isAgg fd.type).run P w = .ok false w) (hx : ev E x = .agg cs.toArray) (hv : cs[fd.offset]? = some v)
    : (execOp (ev E) (mk d (.field s x i) ty pos after)).run P w = .ok (.value (v)) w := by
  simp [execOp, hx, Instr.field, run_underlying hs, hf, part, hA, asAgg, hv]


theorem R_indexAddr {t elem : TypeId} {x y : Operand} {b off len cap off' sz : Nat} {k : IntKind} {i : Int} (ht : P.underlying t = some (.slice elem)) (hS : ∀ w, (sizeOf elem).run P w = .ok sz w)
    (hx : ev E x = sl b off len cap) (hy : ev E y = .int k i) (h0 : 0 ≤ i) (h1 : i < len) (hr : off + i.toNat * sz = off')
    : (execOp (ev E) (mk d (.indexAddr t x y) ty pos after)).run P w = .ok (.value ((ptr b off'))) w := by
  subst hr
  simp [execOp, hx, hy, Instr.indexAt, asIntOf, run_underlying ht, h0, h1, hS, add_none]


theorem R_indexAddrA {t elem : TypeId} {x y : Operand} {b off len off' sz : Nat} {k : IntKind} {i : Int} (ht : P.underlying t = some (.array len elem)) (hS : ∀ w, (sizeOf elem).run P w = .ok sz w)
    (hx : ev E x = ptr b off) (hy : ev E y = .int k i) (h0 : 0 ≤ i) (h1 : i < len) (hr : off + i.toNat * sz = off')
    : (execOp (ev E) (mk d (.indexAddr t x y) ty pos after)).run P w = .ok (.value ((ptr b off'))) w := by
  subst hr
  simp [execOp, hx, hy, Instr.indexAt, Instr.sureAddr, asIntOf, run_underlying ht, h0, h1, hS, add_none]


theorem R_index {t elem : TypeId} {x y : Operand} {len sz : Nat} {k : IntKind} {i : Int} {cs : List Value} {v : Value} (ht : P.underlying t = some (.array len elem)) (hA : ∀ w, (isAgg elem).run P w = .ok false w) (hS : ∀ w, (sizeOf elem).run P w = .ok sz w)
    (hx : ev E x = .agg cs.toArray) (hy : ev E y = .int k i) (h0 : 0 ≤ i) (h1 : i < len) (hv : cs[i.toNat * sz]? = some v)
    : (execOp (ev E) (mk d (.index t x y) ty pos after)).run P w = .ok (.value (v)) w := by
  simp [execOp, hx, hy, Instr.index, asIntOf, run_underlying ht, h0, h1, hS, part, hA, hv]


/-! ### slices of slices -/
theorem run_sliceBound {k : IntKind} {i : Int} {y : Nat} {code : BoundsCode} (h0 : 0 ≤ i) (h1 : i ≤ y) : (Instr.sliceBound (.int k i) y code).run P w = .ok i.toNat w := by
  simp [Instr.sliceBound, asIntOf, h0, h1]

/-- the bounds, and what they are when they are left out -/
inductive Bd (E : Env) : Option Operand → Int → Int → Prop
  | none {dflt} : Bd E none dflt dflt
  | some {x k i dflt} : ev E x = .int k i → Bd E (some x) dflt i

theorem R_slice {t elem : TypeId} {x : Operand} {lo hi : Option Operand} {b off len cap off' sz : Nat} {i j : Int} (ht : P.underlying t = some (.slice elem)) (hS : ∀ w, (sizeOf elem).run P w = .ok sz w)
    (hx : ev E x = sl b off len cap) (hlo : Bd E lo 0 i) (hhi : Bd E hi len j) (hlc : len ≤ cap) (h0 : 0 ≤ i) (h1 : i ≤ j) (h2 : j ≤ cap) (hne : i = 0 ∨ i < cap) (hr : off + i.toNat * sz = off')
    : (execOp (ev E) (mk d (.slice t x lo hi none) ty pos after)).run P w = .ok (.value ((sl b off' (j - i).toNat (cap - i).toNat))) w := by
  subst hr
  have hb : (Instr.sliceBounds true len cap (lo.map (ev E)) (hi.map (ev E)) none).run P w = .ok (i.toNat, j.toNat, cap) w := by
    cases hlo with
    | none =>
      cases hhi with
      | none => simp [Instr.sliceBounds]
      | some hh => simp [Instr.sliceBounds, hh, run_sliceBound (P := P) (w := w) (code := .sliceAcap) (show 0 ≤ j by omega) h2]
    | some hl =>
      cases hhi with
      | none => simp [Instr.sliceBounds, hl, run_sliceBound (P := P) (w := w) (code := .sliceB) h0 h1]
      | some hh => simp [Instr.sliceBounds, hl, hh, run_sliceBound (P := P) (w := w) (code := .sliceAcap) (show 0 ≤ j by omega) h2, run_sliceBound (P := P) (w := w) (code := .sliceB) (y := j.toNat) h0 (by omega)]
  have ha : (if cap = i.toNat then some (⟨b, off, none⟩ : Addr) else some ⟨b, off + i.toNat * sz, none⟩) = some ⟨b, off + i.toNat * sz, none⟩ := by
    split
    · rename_i hc
      rcases hne with rfl | hne
      · simp
      · omega
    · rfl
  have e1 : j.toNat - i.toNat = (j - i).toNat := by omega
  have e2 : cap - i.toNat = (cap - i).toNat := by omega
  simp [execOp, hx, Instr.sliceAt, Instr.slice, run_underlying ht, hb, hS, add_none, ha, e1, e2]


/-- the whole array, or a part of it -/
theorem R_sliceArr {t elem : TypeId} {x : Operand} {lo hi : Option Operand} {b off m off' sz : Nat} {i j : Int} (ht : P.underlying t = some (.array m elem)) (hS : ∀ w, (sizeOf elem).run P w = .ok sz w)
    (hx : ev E x = ptr b off) (hlo : Bd E lo 0 i) (hhi : Bd E hi m j) (h0 : 0 ≤ i) (h1 : i ≤ j) (h2 : j ≤ m) (hne : i = 0 ∨ i < m) (hr : off + i.toNat * sz = off')
    : (execOp (ev E) (mk d (.slice t x lo hi none) ty pos after)).run P w = .ok (.value ((sl b off' (j - i).toNat (m - i).toNat))) w := by
  subst hr
  have hb : (Instr.sliceBounds false m m (lo.map (ev E)) (hi.map (ev E)) none).run P w = .ok (i.toNat, j.toNat, m) w := by
    cases hlo with
    | none =>
      cases hhi with
      | none => simp [Instr.sliceBounds]
      | some hh => simp [Instr.sliceBounds, hh, run_sliceBound (P := P) (w := w) (code := .sliceAlen) (show 0 ≤ j by omega) h2]
    | some hl =>
      cases hhi with
      | none => simp [Instr.sliceBounds, hl, run_sliceBound (P := P) (w := w) (code := .sliceB) h0 h1]
      | some hh => simp [Instr.sliceBounds, hl, hh, run_sliceBound (P := P) (w := w) (code := .sliceAlen) (show 0 ≤ j by omega) h2, run_sliceBound (P := P) (w := w) (code := .sliceB) (y := j.toNat) h0 (by omega)]
  have ha : (if m = i.toNat then (⟨b, off, none⟩ : Addr) else ⟨b, off + i.toNat * sz, none⟩) = ⟨b, off + i.toNat * sz, none⟩ := by
    split
    · rename_i hc
      rcases hne with rfl | hne
      · simp
      · omega
    · rfl
  have e1 : j.toNat - i.toNat = (j - i).toNat := by omega
  have e2 : m - i.toNat = (m - i).toNat := by omega
  simp [execOp, hx, Instr.sliceAt, Instr.sureAddr, run_underlying ht, hb, hS, add_none, ha, e1, e2]


end
end Go.Proofs.YtlpmfldijgdcoaaGreatDoor.Fx

/-
  The built-in functions, strings, equality, calls of functions.
-/
namespace Go.Proofs.YtlpmfldijgdcoaaGreatDoor.Fx
open Go

section
variable {P : Program} {n : Nat} {ops : Array Oper} {kn : Env → World → Prop} {l : List Oper} {E : Env} {w0 w : World} {L : List (Nat × Obj)}
variable {d : Option Nat} {ty : TypeId} {pos : String} {after : Array Edge}

abbrev bi (b : Builtin) (args : Array Operand) (ts : Array TypeId) : Op := .call { callee := .builtin b, args := args, argTypes := ts }

/-! ### len, min, max -/
theorem R_len_slice {t elem : TypeId} {x : Operand} {a : Option Addr} {len cap : Nat} (ht : P.underlying t = some (.slice elem)) (hx : ev E x = .slice a len cap)
    : (execOp (ev E) (mk d (bi .len #[x] #[t]) ty pos after)).run P w = .ok (.value ((.int .i64 len))) w := by
  simp [execOp, resolve, invoke, builtin, hx, Builtin.len_, run_underlying ht, goInt]
theorem R_min {ts : Array TypeId} {x y : Operand} {k j : IntKind} {a b r : Int} (hx : ev E x = .int k a) (hy : ev E y = .int j b) (hr : min a b = r)
    : (execOp (ev E) (mk d (bi .min #[x, y] ts) ty pos after)).run P w = .ok (.value ((.int k r))) w := by
  subst hr
  simp [execOp, resolve, invoke, builtin, hx, hy, Builtin.min_, Builtin.min2]
  omega
theorem R_max {ts : Array TypeId} {x y : Operand} {k j : IntKind} {a b r : Int} (hx : ev E x = .int k a) (hy : ev E y = .int j b) (hr : max a b = r)
    : (execOp (ev E) (mk d (bi .max #[x, y] ts) ty pos after)).run P w = .ok (.value ((.int k r))) w := by
  subst hr
  simp [execOp, resolve, invoke, builtin, hx, hy, Builtin.max_, Builtin.max2]
  omega


/-! ### a call of a function -/
abbrev callOf (f : Operand) (args : Array Operand) (ts : Array TypeId) : Op := .call { callee := .value f, args := args, argTypes := ts }

theorem run_call {f : FuncId} {args : Array Operand} {ts : Array TypeId} {first captured : Array Value} {x : Operand} (hx : ev E x = .func (.func f) first captured)
    (hf : ∀ as w, (callFunc f as).run P w = .ok (.enter f as) w) :
    (execOp (ev E) (mk d (callOf x args ts) ty pos after)).run P w = .ok (.enter f (first ++ args.map (ev E) ++ captured)) w := by
  simp [execOp, resolve, Deferred.ofValue, hx, invoke, hf]

/-- A call: the contract's arguments are what stands in the slots. -/
theorem R_call {f : FuncId} {args : Array Operand} {ts : Array TypeId} {first captured : Array Value} {x : Operand} {as : List Value}
    (hx : ev E x = .func (.func f) first captured) (hf : ∀ as w, (callFunc f as).run P w = .ok (.enter f as) w)
    (ha : first.toList ++ args.toList.map (ev E) ++ captured.toList = as) : (execOp (ev E) (mk d (callOf x args ts) ty pos after)).run P w = .ok (.enter f as.toArray) w := by
  rw [run_call hx hf]
  have : first ++ args.map (ev E) ++ captured = as.toArray := by
    subst ha
    apply Array.ext'
    simp
  rw [this]

/-! ### equality besides that of integers -/
theorem R_eqv {t t' : TypeId} {x y : Operand} {a b : Value} {r : Bool} (hx : ev E x = a) (hy : ev E y = b) (hg : (eqGuard .eql t x y a b).run P w = .ok () w)
    (hr : (binOp .eql t a b).run P w = .ok (.bool r) w)
    : (execOp (ev E) (mk d (.binOp .eql t x y t') ty pos after)).run P w = .ok (.value ((.bool r))) w := by
  simp [execOp, hx, hy, hg, hr]
theorem R_nev {t t' : TypeId} {x y : Operand} {a b : Value} {r : Bool} (hx : ev E x = a) (hy : ev E y = b) (hg : (eqGuard .neq t x y a b).run P w = .ok () w)
    (hr : (binOp .neq t a b).run P w = .ok (.bool r) w)
    : (execOp (ev E) (mk d (.binOp .neq t x y t') ty pos after)).run P w = .ok (.value ((.bool r))) w := by
  simp [execOp, hx, hy, hg, hr]


theorem run_eqGuard_ptr {op : BinOp} {t : TypeId} {x y : Operand} {a b : Option Addr} : (eqGuard op t x y (.pointer a) (.pointer b)).run P w = .ok () w := by
  unfold eqGuard; cases op <;> rfl
theorem run_eqGuard_slice {op : BinOp} {t : TypeId} {x y : Operand} {a b : Option Addr} {n1 n2 m1 m2 : Nat} : (eqGuard op t x y (.slice a n1 n2) (.slice b m1 m2)).run P w = .ok () w := by
  unfold eqGuard; cases op <;> rfl
theorem run_eqGuard_str {op : BinOp} {t : TypeId} {x y : Operand} {a b : ByteArray} : (eqGuard op t x y (.string a) (.string b)).run P w = .ok () w := by
  unfold eqGuard; cases op <;> rfl
theorem run_eqGuard_fn {op : BinOp} {t : TypeId} {x y : Operand} {f : Fn} {a b : Array Value} : (eqGuard op t x y (.func f a b) .nilFunc).run P w = .ok () w := by
  unfold eqGuard; cases op <;> rfl
theorem run_equal {t : TypeId} {a b : Value} {r : Bool} (h : ∀ k, (Op.equalIn (k + 1) t a b).run P w = .ok r w) : (Op.equal t a b).run P w = .ok r w := by
  unfold Op.equal Op.maxDepth
  exact h 9999

theorem eqIn_ptr_nil {t e : TypeId} {a : Addr} (ht : P.underlying t = some (.pointer e)) (k : Nat) : (Op.equalIn (k + 1) t (.pointer (some a)) (.pointer none)).run P w = .ok false w := by
  simp [Op.equalIn, run_underlying ht]
theorem eqIn_fn {t : TypeId} {ps rs : Array TypeId} {v : Bool} {f : Fn} {a b : Array Value} (ht : P.underlying t = some (.func ps rs v)) (k : Nat) : (Op.equalIn (k + 1) t (.func f a b) .nilFunc).run P w = .ok false w := by
  simp [Op.equalIn, run_underlying ht]
theorem eqIn_bool {t : TypeId} {a b : Bool} (ht : P.underlying t = some .bool) (k : Nat) : (Op.equalIn (k + 1) t (.bool a) (.bool b)).run P w = .ok (decide (a = b)) w := by
  simp only [Op.equalIn, Sem.run_bind, run_underlying ht, Result.andThen_ok, Sem.run_pure]
  cases a <;> cases b <;> rfl
theorem eqIn_slice_nil {t e : TypeId} {a : Addr} {n1 n2 m1 m2 : Nat} (ht : P.underlying t = some (.slice e)) (k : Nat) : (Op.equalIn (k + 1) t (.slice (some a) n1 n2) (.slice none m1 m2)).run P w = .ok false w := by
  simp [Op.equalIn, run_underlying ht]
theorem eqIn_nils_nil {t e : TypeId} {n1 n2 m1 m2 : Nat} (ht : P.underlying t = some (.slice e)) (k : Nat) : (Op.equalIn (k + 1) t (.slice none n1 n2) (.slice none m1 m2)).run P w = .ok true w := by
  simp [Op.equalIn, run_underlying ht]

/-- a pointer beside nil -/
theorem R_eq_ptr_nil {t t' e : TypeId} {x y : Operand} {a : Addr} (ht : P.underlying t = some (.pointer e)) (hx : ev E x = .pointer (some a)) (hy : ev E y = .pointer none)
    : (execOp (ev E) (mk d (.binOp .eql t x y t') ty pos after)).run P w = .ok (.value ((.bool false))) w :=
  R_eqv hx hy run_eqGuard_ptr (by simp only [binOp, Sem.run_bind, run_equal (eqIn_ptr_nil ht), Result.andThen_ok, Sem.run_pure])
theorem R_ne_ptr_nil {t t' e : TypeId} {x y : Operand} {a : Addr} (ht : P.underlying t = some (.pointer e)) (hx : ev E x = .pointer (some a)) (hy : ev E y = .pointer none)
    : (execOp (ev E) (mk d (.binOp .neq t x y t') ty pos after)).run P w = .ok (.value ((.bool true))) w :=
  R_nev hx hy run_eqGuard_ptr (by simp only [binOp, Sem.run_bind, run_equal (eqIn_ptr_nil ht), Result.andThen_ok, Sem.run_pure, Bool.not_false])
/-- a function beside nil -/
theorem R_eq_fn {t t' : TypeId} {ps rs : Array TypeId} {v : Bool} {x y : Operand} {f : Fn} {a b : Array Value} (ht : P.underlying t = some (.func ps rs v)) (hx : ev E x = .func f a b) (hy : ev E y = .nilFunc)
    : (execOp (ev E) (mk d (.binOp .eql t x y t') ty pos after)).run P w = .ok (.value ((.bool false))) w :=
  R_eqv hx hy run_eqGuard_fn (by simp only [binOp, Sem.run_bind, run_equal (eqIn_fn ht), Result.andThen_ok, Sem.run_pure])
theorem R_ne_bool {t t' : TypeId} {x y : Operand} {a b : Bool} (ht : P.underlying t = some .bool) (hx : ev E x = .bool a) (hy : ev E y = .bool b)
    : (execOp (ev E) (mk d (.binOp .neq t x y t') ty pos after)).run P w = .ok (.value ((.bool (decide (a ≠ b))))) w :=
  R_nev (r := decide (a ≠ b)) hx hy run_eqGuard_bool (by simp only [binOp, Sem.run_bind, run_equal (eqIn_bool ht), Result.andThen_ok, Sem.run_pure, ne_eq, decide_not])


theorem beq_bytes (a b : ByteArray) : (a.toList == b.toList) = decide (a.data.toList = b.data.toList) := by
  rw [ByteArray.toList_eq, ByteArray.toList_eq, Bool.beq_eq_decide_eq]

theorem R_ne_str {t t' : TypeId} {x y : Operand} {a b : ByteArray} (hx : ev E x = .string a) (hy : ev E y = .string b)
    : (execOp (ev E) (mk d (.binOp .neq t x y t') ty pos after)).run P w = .ok (.value ((.bool (decide (a.data.toList ≠ b.data.toList))))) w :=
  R_nev (r := decide (a.data.toList ≠ b.data.toList)) hx hy run_eqGuard_str (by simp only [binOp, Op.stringOp, beq_bytes, Sem.run_pure, ne_eq, decide_not])
end
end Go.Proofs.YtlpmfldijgdcoaaGreatDoor.Fx

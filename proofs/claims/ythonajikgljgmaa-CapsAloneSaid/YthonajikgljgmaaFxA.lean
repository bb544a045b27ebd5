/-
  Rules for walking the code of one function: a frame is a function of its slots; continuations for the normal end, the exits and the return.
-/
import Derived.StillTail
import Derived.Orders
import Derived.Deep.LoopGhost
import Derived.RowKit3
namespace Go.Proofs.Ythonajikgljgmaa.Fx
open Go

abbrev Env := Nat → Value

def upd (n : Nat) (E : Env) (d : Nat) (v : Value) : Env := fun k =>
  match Nat.beq k d with
  | true => (match Nat.ble (d + 1) n with
    | true => v
    | false => E k)
  | false => E k

theorem upd_same {n : Nat} {E : Env} {d : Nat} {v : Value} (h : d < n) : upd n E d v d = v := by
  have h1 : Nat.beq d d = true := Nat.beq_refl d
  have h2 : Nat.ble (d + 1) n = true := Nat.ble_eq_true_of_le h
  simp only [upd, h1, h2]
theorem upd_out {n : Nat} {E : Env} {d : Nat} {v : Value} (h : ¬ d < n) : upd n E d v d = E d := by
  have h1 : Nat.beq d d = true := Nat.beq_refl d
  have h2 : Nat.ble (d + 1) n = false := by
    cases hb : Nat.ble (d + 1) n with
    | false => rfl
    | true => exact (h (Nat.le_of_ble_eq_true hb)).elim
  simp only [upd, h1, h2]
theorem upd_other {n : Nat} {E : Env} {d k : Nat} {v : Value} (h : k ≠ d) : upd n E d v k = E k := by
  have h1 : Nat.beq k d = false := by
    cases hb : Nat.beq k d with
    | false => rfl
    | true => exact (h (Nat.eq_of_beq_eq_true hb)).elim
  simp only [upd, h1]

/-- The frame in which it is written what a slot holds that it holds. -/
def know (E : Env) (d : Nat) (v : Value) : Env := fun k =>
  match Nat.beq k d with
  | true => v
  | false => E k
theorem know_eq {E : Env} {d : Nat} {v : Value} (h : E d = v) : know E d v = E := by
  funext k
  unfold know
  cases hb : Nat.beq k d with
  | false => rfl
  | true => rw [Nat.eq_of_beq_eq_true hb, h]

def updo (n : Nat) (E : Env) (d : Option Nat) (v : Value) : Env :=
  match d with
  | some d => upd n E d v
  | none => E

def ev (E : Env) : Operand → Value
  | .tmp t => E t
  | .const v => v
  | .global g => .pointer (some ⟨g, 0, none⟩)
  | .func f => .func (.func f) #[] #[]

/-- The frame in which slot d holds what x stands for. -/
def mov (n : Nat) (E : Env) (d : Option Nat) (x : Operand) : Env := updo n E d (ev E x)

structure Rep (n : Nat) (E : Env) (a : Act) : Prop where
  size : a.tmps.size = n
  slot : ∀ t, a.tmps.getD t undef = E t
  defers : a.defers = []

theorem Rep.eval {n : Nat} {E : Env} {a : Act} (h : Rep n E a) : a.eval = ev E := by
  funext x
  cases x with
  | tmp t => exact h.slot t
  | const v => rfl
  | global g => rfl
  | func f => rfl

theorem Rep.put {n : Nat} {E : Env} {a : Act} (h : Rep n E a) (d : Option Nat) (v : Value) : Rep n (updo n E d v) (a.put d v) := by
  cases d with
  | none => exact h
  | some d =>
    refine ⟨?_, ?_, h.defers⟩
    · simp [Act.put, h.size]
    · intro t
      have hs := h.slot t
      simp only [Act.put, updo, Array.getD_eq_getD_getElem?] at *
      by_cases htd : t = d
      · subst htd
        by_cases hlt : t < n
        · rw [upd_same hlt, Array.getElem?_setIfInBounds]
          simp [h.size, hlt]
        · rw [upd_out hlt, Array.getElem?_setIfInBounds]
          rw [if_pos rfl, if_neg (by rw [h.size]; exact hlt)]
          rw [← hs, Array.getElem?_eq_none (by rw [h.size]; omega)]
      · rw [upd_other htd, Array.getElem?_setIfInBounds, if_neg (fun h => htd h.symm)]
        exact hs

/-- What a guard's operation has yielded. -/
def yE (ops : Array Oper) (E : Env) (j : Nat) : Option Bool :=
  match (ops[j]?).bind (·.dst) with
  | some t => match E t with
    | .bool b => some b
    | _ => none
  | none => none

theorem Rep.yielded {n : Nat} {E : Env} {a : Act} (h : Rep n E a) (ops : Array Oper) : yielded ops a.tmps = yE ops E := by
  funext j
  unfold Go.yielded yE
  cases hd : (ops[j]?).bind (·.dst) with
  | none => rfl
  | some t =>
    have hs := h.slot t
    rw [Array.getD_eq_getD_getElem?] at hs
    simp only [Option.bind_some]
    cases ht : a.tmps[t]? with
    | none =>
      rw [ht] at hs
      simp only [Option.getD_none] at hs
      rw [← hs]
      rfl
    | some v =>
      rw [ht] at hs
      simp only [Option.getD_some] at hs
      rw [← hs]
      cases v <;> rfl

/-- The three ways out of a piece of code. -/
def post (n : Nat) (kn : Env → World → Prop) (kx : Nat → Env → World → Prop) (kr : Env → World → Prop) : Exit → Act → World → Prop
  | .normal, a, w => ∃ E, Rep n E a ∧ kn E w
  | .exit i, a, w => ∃ E, Rep n E a ∧ kx i E w
  | .ret, a, w => ∃ E, Rep n E a ∧ kr E w
  | _, _, _ => False

structure W (P : Program) (n : Nat) (c : Code) (kn : Env → World → Prop) (kx : Nat → Env → World → Prop) (kr : Env → World → Prop) (E : Env) (w : World) : Prop where
  out : ∀ a, Rep n E a → c.wp P (post n kn kx kr) a w

/-- The operations of a region, one behind the other. -/
structure WL (P : Program) (n : Nat) (ops : Array Oper) (kn : Env → World → Prop) (l : List Oper) (E : Env) (w : World) : Prop where
  out : ∀ (Q : Exit → Act → World → Prop), (∀ a E w, Rep n E a → kn E w → Q .normal a w) → ∀ a, Rep n E a → wpList P ops Q l a w

/-- The call of a function returns. -/
structure Ret (P : Program) (f : FuncId) (args : Array Value) (w : World) (R : Value → World → Prop) : Prop where
  out : Calls P f args w fun e w' => ∃ v, e = .returned v ∧ R v w'

section rules
variable {P : Program} {n : Nat} {kn : Env → World → Prop} {kx : Nat → Env → World → Prop} {kr : Env → World → Prop} {E : Env} {w : World}

theorem W.mono {c : Code} {kn' : Env → World → Prop} {kx' : Nat → Env → World → Prop} {kr' : Env → World → Prop} (h : W P n c kn kx kr E w)
    (h1 : ∀ E w, kn E w → kn' E w) (h2 : ∀ i E w, kx i E w → kx' i E w) (h3 : ∀ E w, kr E w → kr' E w) : W P n c kn' kx' kr' E w := by
  refine ⟨fun a ha => ?_⟩
  refine wp_mono (h.out a ha) ?_
  intro e a w hq
  cases e with
  | normal => obtain ⟨E, h, k⟩ := hq; exact ⟨E, h, h1 _ _ k⟩
  | exit i => obtain ⟨E, h, k⟩ := hq; exact ⟨E, h, h2 _ _ _ k⟩
  | ret => obtain ⟨E, h, k⟩ := hq; exact ⟨E, h, h3 _ _ k⟩
  | goto l => exact hq.elim
  | panic c => exact hq.elim
  | outgrown => exact hq.elim

theorem W_skip (h : kn E w) : W P n .skip kn kx kr E w := ⟨fun _ ha => wp_skip ⟨E, ha, h⟩⟩
theorem W_label {l : Nat} (h : kn E w) : W P n (.label l) kn kx kr E w := ⟨fun _ ha => wp_label ⟨E, ha, h⟩⟩
theorem W_exit {i : Nat} (h : kx i E w) : W P n (.exit i) kn kx kr E w := ⟨fun _ ha => wp_exit ⟨E, ha, h⟩⟩
theorem W_ret (h : kr E w) : W P n .ret kn kx kr E w := ⟨fun _ ha => wp_ret ⟨E, ha, h⟩⟩

theorem W_seq {x y : Code} (h : W P n x (fun E w => W P n y kn kx kr E w) kx kr E w) : W P n (.seq x y) kn kx kr E w := by
  refine ⟨fun a ha => ?_⟩
  refine wp_seq (wp_mono (h.out a ha) ?_)
  intro e a w hq
  cases e with
  | normal => obtain ⟨E, h, k⟩ := hq; exact k.out a h
  | exit i => exact hq
  | ret => exact hq
  | goto l => exact hq
  | panic c => exact hq
  | outgrown => exact hq

theorem W_block {id : Nat} {c : Code} (h : W P n c kn (fun i E w => if i = id then kn E w else kx i E w) kr E w) : W P n (.block id c) kn kx kr E w := by
  refine ⟨fun a ha => ?_⟩
  refine wp_block (wp_mono (h.out a ha) ?_)
  intro e a w hq
  cases e with
  | normal => exact hq
  | exit i =>
    obtain ⟨E, h, k⟩ := hq
    by_cases hi : i = id
    · rw [if_pos hi] at k
      simp only [Exit.inBlock, hi, if_true]
      exact ⟨E, h, k⟩
    · rw [if_neg hi] at k
      simp only [Exit.inBlock, hi, if_false]
      exact ⟨E, h, k⟩
  | ret => exact hq
  | goto l => exact hq
  | panic c => exact hq
  | outgrown => exact hq

theorem W_cond {c : Operand} {x y : Code} {t : Bool} (hc : ev E c = .bool t) (ht : t = true → W P n x kn kx kr E w) (hf : t = false → W P n y kn kx kr E w) :
    W P n (.cond c x y) kn kx kr E w := by
  refine ⟨fun a ha => ?_⟩
  have he : a.eval c = .bool t := by rw [ha.eval]; exact hc
  exact wp_cond_split he (fun h => (ht h).out a ha) (fun h => (hf h).out a ha)

theorem W_cond_t {c : Operand} {x y : Code} (hc : ev E c = .bool true) (ht : W P n x kn kx kr E w) : W P n (.cond c x y) kn kx kr E w :=
  W_cond hc (fun _ => ht) (fun h => by cases h)
theorem W_cond_f {c : Operand} {x y : Code} (hc : ev E c = .bool false) (hf : W P n y kn kx kr E w) : W P n (.cond c x y) kn kx kr E w :=
  W_cond hc (fun h => by cases h) (fun _ => hf)
/-- A loop: what holds at the head of each round, by a ghost that every round makes smaller. -/
theorem W_loop {c : Code} {α : Type} (I : α → Env → World → Prop) (m : α → Nat) (x : α) (h0 : I x E w)
    (round : ∀ x E w, I x E w → W P n c (fun E' w' => ∃ y, m y < m x ∧ I y E' w') kx kr E w) : W P n (.loop c) kn kx kr E w := by
  refine ⟨fun a ha => ?_⟩
  refine wp_loop_ghost (fun k a w => ∃ x E, m x = k ∧ Rep n E a ∧ I x E w) (m x) ⟨x, E, rfl, ha, h0⟩ ?_
  rintro k a w ⟨x, E, rfl, ha, hI⟩
  refine wp_mono ((round x E w hI).out a ha) ?_
  intro e a w hq
  cases e with
  | normal => obtain ⟨E, h, y, hlt, hy⟩ := hq; exact ⟨m y, hlt, y, E, rfl, h, hy⟩
  | exit i => exact hq
  | ret => exact hq
  | goto l => exact hq
  | panic c => exact hq
  | outgrown => exact hq

/-- At most so many rounds. -/
def Rn (P : Program) (n : Nat) (c : Code) (kx : Nat → Env → World → Prop) (kr : Env → World → Prop) : Nat → Env → World → Prop
  | 0, _, _ => False
  | k + 1, E, w => W P n c (Rn P n c kx kr k) kx kr E w
theorem Rn_succ {c : Code} {k : Nat} (h : W P n c (Rn P n c kx kr k) kx kr E w) : Rn P n c kx kr (k + 1) E w := h
theorem W_rounds {c : Code} (k : Nat) (h : W P n c (Rn P n c kx kr k) kx kr E w) : W P n (.loop c) kn kx kr E w := by
  refine W_loop (fun x E w => Rn P n c kx kr x E w) id (k + 1) h ?_
  intro x E w hx
  cases x with
  | zero => exact hx.elim
  | succ x => exact W.mono hx (fun E w h => ⟨x, Nat.lt_succ_self x, h⟩) (fun _ _ _ h => h) (fun _ _ h => h)

theorem W_region {id : Nat} {ops : Array Oper} (h : WL P n ops kn ops.toList E w) : W P n (.region id ops false) kn kx kr E w := by
  refine ⟨fun a ha => ?_⟩
  exact wp_region_list (h.out (post n kn kx kr) (fun a E w ha h => ⟨E, ha, h⟩) a ha)
theorem W_region_l {id : Nat} {l : List Oper} (h : WL P n l.toArray kn l E w) : W P n (.region id l.toArray false) kn kx kr E w :=
  W_region (by simpa using h)

variable {ops : Array Oper} {o : Oper} {l : List Oper}

theorem WL_nil (h : kn E w) : WL P n ops kn [] E w := ⟨fun _ hQ a ha => hQ a E w ha h⟩

theorem WL_step {w' : World} {v : Value} (hg : o.guard = none) (hr : (execOp (ev E) o).run P w = .ok (.value v) w') (h : WL P n ops kn l (updo n E o.dst v) w') :
    WL P n ops kn (o :: l) E w := by
  refine ⟨fun Q hQ a ha => ?_⟩
  refine wpList_plain hg fun K hK => ?_
  unfold Oper.wp
  rw [ha.eval, hr]
  exact hK _ _ (h.out Q hQ _ (ha.put _ _))

theorem WL_stepM {x : Operand} (hg : o.guard = none) (hr : (execOp (ev E) o).run P w = .ok (.value (ev E x)) w) (h : WL P n ops kn l (mov n E o.dst x) w) :
    WL P n ops kn (o :: l) E w := WL_step hg hr h

theorem WL_unit {w' : World} (hg : o.guard = none) (hr : (execOp (ev E) o).run P w = .ok .skip w') (h : WL P n ops kn l (updo n E o.dst undef) w') :
    WL P n ops kn (o :: l) E w := by
  refine ⟨fun Q hQ a ha => ?_⟩
  refine wpList_plain hg fun K hK => ?_
  unfold Oper.wp
  rw [ha.eval, hr]
  exact hK _ _ (h.out Q hQ _ (ha.put _ _))

theorem WL_call {f : FuncId} {args : Array Value} {R : Value → World → Prop} (hg : o.guard = none) (hr : (execOp (ev E) o).run P w = .ok (.enter f args) w)
    (hc : Ret P f args w R) (h : ∀ v w', R v w' → WL P n ops kn l (updo n E o.dst v) w') : WL P n ops kn (o :: l) E w := by
  refine ⟨fun Q hQ a ha => ?_⟩
  refine wpList_plain hg fun K hK => ?_
  unfold Oper.wp
  rw [ha.eval, hr]
  refine hc.out.mono ?_
  rintro e w' ⟨v, rfl, hR⟩
  exact hK _ _ ((h v w' hR).out Q hQ _ (ha.put _ _))

/-- An operation whose guard is asked. -/
theorem WL_guard {j : Nat} {want b : Bool} (hg : o.guard = some (j, want)) (hy : yE ops E j = some b)
    (ht : b = want → WL P n ops kn ({ o with guard := none } :: l) E w) (hf : b ≠ want → WL P n ops kn l (updo n E o.dst undef) w) : WL P n ops kn (o :: l) E w := by
  refine ⟨fun Q hQ a ha => ?_⟩
  by_cases hb : b = want
  · have hw : Region.wanted o (yielded ops a.tmps) = true := by simp [Region.wanted, hg, ha.yielded, hy, hb]
    have hw' : Region.wanted { o with guard := none } (yielded ops a.tmps) = true := rfl
    have := (ht hb).out Q hQ a ha
    unfold wpList at this ⊢
    rw [if_pos hw]
    rw [if_pos hw'] at this
    exact this
  · have hw : Region.wanted o (yielded ops a.tmps) = false := by simp [Region.wanted, hg, ha.yielded, hy, hb]
    have := (hf hb).out Q hQ _ (ha.put o.dst undef)
    unfold wpList
    rw [if_neg (by rw [hw]; exact Bool.false_ne_true)]
    exact this

theorem WL_guard_t {j : Nat} {want : Bool} (hg : o.guard = some (j, want)) (hy : yE ops E j = some want)
    (ht : WL P n ops kn ({ o with guard := none } :: l) E w) : WL P n ops kn (o :: l) E w := WL_guard hg hy (fun _ => ht) (fun h => (h rfl).elim)
theorem WL_guard_f {j : Nat} {want b : Bool} (hg : o.guard = some (j, want)) (hy : yE ops E j = some b) (hb : b ≠ want)
    (hf : WL P n ops kn l (updo n E o.dst undef) w) : WL P n ops kn (o :: l) E w := WL_guard hg hy (fun h => (hb h).elim) (fun _ => hf)
/-- The guard's operation was passed over itself. -/
theorem WL_guard_n {j : Nat} {want : Bool} (hg : o.guard = some (j, want)) (hy : yE ops E j = none)
    (hf : WL P n ops kn l (updo n E o.dst undef) w) : WL P n ops kn (o :: l) E w := by
  refine ⟨fun Q hQ a ha => ?_⟩
  have hw : Region.wanted o (yielded ops a.tmps) = false := by simp [Region.wanted, hg, ha.yielded, hy]
  have := hf.out Q hQ _ (ha.put o.dst undef)
  unfold wpList
  rw [if_neg (by rw [hw]; exact Bool.false_ne_true)]
  exact this

/-- What a slot is known to hold. -/
theorem W_know {c : Code} {t : Nat} {v : Value} (ht : E t = v) (h : W P n c kn kx kr (know E t v) w) : W P n c kn kx kr E w := by
  rwa [know_eq ht] at h
theorem W_know2 {c : Code} {t0 t1 : Nat} {v0 v1 : Value} (h0 : E t0 = v0) (h1 : E t1 = v1) (h : W P n c kn kx kr (know (know E t0 v0) t1 v1) w) : W P n c kn kx kr E w := by
  rwa [know_eq h0, know_eq h1] at h
theorem W_know3 {c : Code} {t0 t1 t2 : Nat} {v0 v1 v2 : Value} (h0 : E t0 = v0) (h1 : E t1 = v1) (h2 : E t2 = v2) (h : W P n c kn kx kr (know (know (know E t0 v0) t1 v1) t2 v2) w) : W P n c kn kx kr E w := by
  rwa [know_eq h0, know_eq h1, know_eq h2] at h
theorem W_know4 {c : Code} {t0 t1 t2 t3 : Nat} {v0 v1 v2 v3 : Value} (h0 : E t0 = v0) (h1 : E t1 = v1) (h2 : E t2 = v2) (h3 : E t3 = v3) (h : W P n c kn kx kr (know (know (know (know E t0 v0) t1 v1) t2 v2) t3 v3) w) : W P n c kn kx kr E w := by
  rwa [know_eq h0, know_eq h1, know_eq h2, know_eq h3] at h
theorem W_know5 {c : Code} {t0 t1 t2 t3 t4 : Nat} {v0 v1 v2 v3 v4 : Value} (h0 : E t0 = v0) (h1 : E t1 = v1) (h2 : E t2 = v2) (h3 : E t3 = v3) (h4 : E t4 = v4) (h : W P n c kn kx kr (know (know (know (know (know E t0 v0) t1 v1) t2 v2) t3 v3) t4 v4) w) : W P n c kn kx kr E w := by
  rwa [know_eq h0, know_eq h1, know_eq h2, know_eq h3, know_eq h4] at h
theorem W_know6 {c : Code} {t0 t1 t2 t3 t4 t5 : Nat} {v0 v1 v2 v3 v4 v5 : Value} (h0 : E t0 = v0) (h1 : E t1 = v1) (h2 : E t2 = v2) (h3 : E t3 = v3) (h4 : E t4 = v4) (h5 : E t5 = v5) (h : W P n c kn kx kr (know (know (know (know (know (know E t0 v0) t1 v1) t2 v2) t3 v3) t4 v4) t5 v5) w) : W P n c kn kx kr E w := by
  rwa [know_eq h0, know_eq h1, know_eq h2, know_eq h3, know_eq h4, know_eq h5] at h
theorem W_know7 {c : Code} {t0 t1 t2 t3 t4 t5 t6 : Nat} {v0 v1 v2 v3 v4 v5 v6 : Value} (h0 : E t0 = v0) (h1 : E t1 = v1) (h2 : E t2 = v2) (h3 : E t3 = v3) (h4 : E t4 = v4) (h5 : E t5 = v5) (h6 : E t6 = v6) (h : W P n c kn kx kr (know (know (know (know (know (know (know E t0 v0) t1 v1) t2 v2) t3 v3) t4 v4) t5 v5) t6 v6) w) : W P n c kn kx kr E w := by
  rwa [know_eq h0, know_eq h1, know_eq h2, know_eq h3, know_eq h4, know_eq h5, know_eq h6] at h
theorem W_know8 {c : Code} {t0 t1 t2 t3 t4 t5 t6 t7 : Nat} {v0 v1 v2 v3 v4 v5 v6 v7 : Value} (h0 : E t0 = v0) (h1 : E t1 = v1) (h2 : E t2 = v2) (h3 : E t3 = v3) (h4 : E t4 = v4) (h5 : E t5 = v5) (h6 : E t6 = v6) (h7 : E t7 = v7) (h : W P n c kn kx kr (know (know (know (know (know (know (know (know E t0 v0) t1 v1) t2 v2) t3 v3) t4 v4) t5 v5) t6 v6) t7 v7) w) : W P n c kn kx kr E w := by
  rwa [know_eq h0, know_eq h1, know_eq h2, know_eq h3, know_eq h4, know_eq h5, know_eq h6, know_eq h7] at h
theorem W_know9 {c : Code} {t0 t1 t2 t3 t4 t5 t6 t7 t8 : Nat} {v0 v1 v2 v3 v4 v5 v6 v7 v8 : Value} (h0 : E t0 = v0) (h1 : E t1 = v1) (h2 : E t2 = v2) (h3 : E t3 = v3) (h4 : E t4 = v4) (h5 : E t5 = v5) (h6 : E t6 = v6) (h7 : E t7 = v7) (h8 : E t8 = v8) (h : W P n c kn kx kr (know (know (know (know (know (know (know (know (know E t0 v0) t1 v1) t2 v2) t3 v3) t4 v4) t5 v5) t6 v6) t7 v7) t8 v8) w) : W P n c kn kx kr E w := by
  rwa [know_eq h0, know_eq h1, know_eq h2, know_eq h3, know_eq h4, know_eq h5, know_eq h6, know_eq h7, know_eq h8] at h
theorem W_know10 {c : Code} {t0 t1 t2 t3 t4 t5 t6 t7 t8 t9 : Nat} {v0 v1 v2 v3 v4 v5 v6 v7 v8 v9 : Value} (h0 : E t0 = v0) (h1 : E t1 = v1) (h2 : E t2 = v2) (h3 : E t3 = v3) (h4 : E t4 = v4) (h5 : E t5 = v5) (h6 : E t6 = v6) (h7 : E t7 = v7) (h8 : E t8 = v8) (h9 : E t9 = v9) (h : W P n c kn kx kr (know (know (know (know (know (know (know (know (know (know E t0 v0) t1 v1) t2 v2) t3 v3) t4 v4) t5 v5) t6 v6) t7 v7) t8 v8) t9 v9) w) : W P n c kn kx kr E w := by
  rwa [know_eq h0, know_eq h1, know_eq h2, know_eq h3, know_eq h4, know_eq h5, know_eq h6, know_eq h7, know_eq h8, know_eq h9] at h
theorem W_know11 {c : Code} {t0 t1 t2 t3 t4 t5 t6 t7 t8 t9 t10 : Nat} {v0 v1 v2 v3 v4 v5 v6 v7 v8 v9 v10 : Value} (h0 : E t0 = v0) (h1 : E t1 = v1) (h2 : E t2 = v2) (h3 : E t3 = v3) (h4 : E t4 = v4) (h5 : E t5 = v5) (h6 : E t6 = v6) (h7 : E t7 = v7) (h8 : E t8 = v8) (h9 : E t9 = v9) (h10 : E t10 = v10) (h : W P n c kn kx kr (know (know (know (know (know (know (know (know (know (know (know E t0 v0) t1 v1) t2 v2) t3 v3) t4 v4) t5 v5) t6 v6) t7 v7) t8 v8) t9 v9) t10 v10) w) : W P n c kn kx kr E w := by
  rwa [know_eq h0, know_eq h1, know_eq h2, know_eq h3, know_eq h4, know_eq h5, know_eq h6, know_eq h7, know_eq h8, know_eq h9, know_eq h10] at h
theorem W_know12 {c : Code} {t0 t1 t2 t3 t4 t5 t6 t7 t8 t9 t10 t11 : Nat} {v0 v1 v2 v3 v4 v5 v6 v7 v8 v9 v10 v11 : Value} (h0 : E t0 = v0) (h1 : E t1 = v1) (h2 : E t2 = v2) (h3 : E t3 = v3) (h4 : E t4 = v4) (h5 : E t5 = v5) (h6 : E t6 = v6) (h7 : E t7 = v7) (h8 : E t8 = v8) (h9 : E t9 = v9) (h10 : E t10 = v10) (h11 : E t11 = v11) (h : W P n c kn kx kr (know (know (know (know (know (know (know (know (know (know (know (know E t0 v0) t1 v1) t2 v2) t3 v3) t4 v4) t5 v5) t6 v6) t7 v7) t8 v8) t9 v9) t10 v10) t11 v11) w) : W P n c kn kx kr E w := by
  rwa [know_eq h0, know_eq h1, know_eq h2, know_eq h3, know_eq h4, know_eq h5, know_eq h6, know_eq h7, know_eq h8, know_eq h9, know_eq h10, know_eq h11] at h
theorem WL_know {t : Nat} {v : Value} (ht : E t = v) (h : WL P n ops kn l (know E t v) w) : WL P n ops kn l E w := by
  rwa [know_eq ht] at h

/-- A test that is open: both ways, and in each the slot holds what it tells. -/
theorem W_if {t : Nat} {x y : Code} {p : Prop} [Decidable p] (hc : E t = .bool (decide p)) (ht : p → W P n x kn kx kr (know E t (.bool true)) w) (hf : ¬ p → W P n y kn kx kr (know E t (.bool false)) w) :
    W P n (.cond (.tmp t) x y) kn kx kr E w := by
  by_cases h : p
  · exact W_know (t := t) (v := .bool true) (by rw [hc, decide_eq_true h]) (W_cond_t (by simp [ev, know]) (ht h))
  · exact W_know (t := t) (v := .bool false) (by rw [hc, decide_eq_false h]) (W_cond_f (by simp [ev, know]) (hf h))
theorem W_ifB {t : Nat} {x y : Code} {b : Bool} (hc : E t = .bool b) (ht : b = true → W P n x kn kx kr (know E t (.bool true)) w) (hf : b = false → W P n y kn kx kr (know E t (.bool false)) w) :
    W P n (.cond (.tmp t) x y) kn kx kr E w := by
  cases b
  · exact W_know (t := t) hc (W_cond_f (by simp [ev, know]) (hf rfl))
  · exact W_know (t := t) hc (W_cond_t (by simp [ev, know]) (ht rfl))
/-- The same at a guard. -/
theorem WL_if (t : Nat) {p : Prop} [Decidable p] (hc : E t = .bool (decide p)) (ht : p → WL P n ops kn l (know E t (.bool true)) w) (hf : ¬ p → WL P n ops kn l (know E t (.bool false)) w) :
    WL P n ops kn l E w := by
  by_cases h : p
  · exact WL_know (t := t) (v := .bool true) (by rw [hc, decide_eq_true h]) (ht h)
  · exact WL_know (t := t) (v := .bool false) (by rw [hc, decide_eq_false h]) (hf h)
theorem WL_ifB (t : Nat) {b : Bool} (hc : E t = .bool b) (ht : b = true → WL P n ops kn l (know E t (.bool true)) w) (hf : b = false → WL P n ops kn l (know E t (.bool false)) w) :
    WL P n ops kn l E w := by
  cases b
  · exact WL_know (t := t) hc (hf rfl)
  · exact WL_know (t := t) hc (ht rfl)

/-- What an operation that changes the memory leaves. -/
theorem WL_effu {F : World → Prop} (hg : o.guard = none) (he : ∃ w', F w' ∧ (execOp (ev E) o).run P w = .ok .skip w') (h : ∀ w', F w' → WL P n ops kn l (updo n E o.dst undef) w') : WL P n ops kn (o :: l) E w := by
  obtain ⟨w', hF, hr⟩ := he
  exact WL_unit hg hr (h w' hF)
theorem WL_effn {A : Nat → Prop} {F : Nat → World → Prop} {v : Nat → Value} (hg : o.guard = none) (he : ∃ b w', A b ∧ F b w' ∧ (execOp (ev E) o).run P w = .ok (.value (v b)) w')
    (h : ∀ b w', A b → F b w' → WL P n ops kn l (updo n E o.dst (v b)) w') : WL P n ops kn (o :: l) E w := by
  obtain ⟨b, w', hA, hF, hr⟩ := he
  exact WL_step hg hr (h b w' hA hF)
theorem WL_effm {M : Type} {A : Value → M → Prop} {F : M → World → Prop} (hg : o.guard = none) (he : ∃ v m w', A v m ∧ F m w' ∧ (execOp (ev E) o).run P w = .ok (.value v) w')
    (h : ∀ v m w', A v m → F m w' → WL P n ops kn l (updo n E o.dst v) w') : WL P n ops kn (o :: l) E w := by
  obtain ⟨v, m, w', hA, hF, hr⟩ := he
  exact WL_step hg hr (h v m w' hA hF)

end rules

/-- What a function hands back. -/
def resultOf (rs : Array ResultVar) (E : Env) : Option Value :=
  match rs.toList with
  | [] => some (.tuple #[])
  | [.tmp t] => some (E t)
  | [.tmp t, .tmp u] => some (.tuple #[E t, E u])
  | [.tmp t, .tmp u, .tmp v] => some (.tuple #[E t, E u, E v])
  | [.tmp t, .tmp u, .tmp v, .tmp x] => some (.tuple #[E t, E u, E v, E x])
  | _ => none

theorem results_of {P : Program} {fn : Func} {n : Nat} {E : Env} {a : Act} {v : Value} {w : World} (ha : Rep n E a) (h : resultOf fn.results E = some v) :
    (results fn a.tmps).run P w = .ok v w := by
  obtain ⟨rs, hrs⟩ : ∃ rs, fn.results.toList = rs := ⟨_, rfl⟩
  have hrs' : fn.results = rs.toArray := by rw [← hrs]
  unfold resultOf at h
  rw [hrs] at h
  split at h
  · cases h; simp [results, hrs', go_sem]
  · cases h; rw [← ha.slot]; simp [results, hrs', go_sem]
  · cases h; rw [← ha.slot, ← ha.slot]; simp [results, hrs', go_sem]
  · cases h; rw [← ha.slot, ← ha.slot, ← ha.slot]; simp [results, hrs', go_sem]
  · cases h; rw [← ha.slot, ← ha.slot, ← ha.slot, ← ha.slot]; simp [results, hrs', go_sem]
  · cases h

/-- The frame at the call. -/
def env0 (args : List Value) : Env := fun k => args.getD k undef

theorem Ret_of_W {P : Program} {f : FuncId} {fn : Func} {c : Code} {args : List Value} {w : World} {R : Value → World → Prop} {n : Nat} {rs : Array ResultVar}
    (hf : P.funcs[f]? = some fn) (hb : fn.body = some c) (hnt : fn.ntmps = n) (hrs : fn.results = rs) (hn : args.length ≤ n)
    (h : W P n c (fun E w => ∃ v, resultOf rs E = some v ∧ R v w) (fun _ _ _ => False) (fun E w => ∃ v, resultOf rs E = some v ∧ R v w) (env0 args) w) :
    Ret P f args.toArray w R := by
  subst hnt hrs
  refine ⟨calls_of_wp hf hb ?_⟩
  have hrep : Rep fn.ntmps (env0 args) { tmps := args.toArray ++ Array.replicate (fn.ntmps - args.toArray.size) undef, defers := [] } := by
    refine ⟨by simp; omega, ?_, rfl⟩
    intro t
    simp only [env0, Array.getD_eq_getD_getElem?, Array.getElem?_append, List.getD_eq_getElem?_getD]
    by_cases ht : t < args.length
    · simp [ht]
    · simp only [List.size_toArray, if_neg ht, Array.getElem?_replicate]
      rw [List.getElem?_eq_none (by omega)]
      split <;> rfl
  refine wp_mono (h.out _ hrep) ?_
  intro e a w hq
  cases e with
  | normal => obtain ⟨E, ha, v, hv, hR⟩ := hq; exact ⟨ha.defers, v, results_of ha hv, v, rfl, hR⟩
  | exit i => obtain ⟨E, ha, h⟩ := hq; exact h.elim
  | ret => obtain ⟨E, ha, v, hv, hR⟩ := hq; exact ⟨ha.defers, v, results_of ha hv, v, rfl, hR⟩
  | goto l => exact hq.elim
  | panic c => exact hq.elim
  | outgrown => exact hq.elim

theorem Ret.mono {P : Program} {f : FuncId} {args : Array Value} {w : World} {R R' : Value → World → Prop} (h : Ret P f args w R) (hr : ∀ v w', R v w' → R' v w') : Ret P f args w R' :=
  ⟨Calls.mono h.out fun _ _ ⟨v, he, hR⟩ => ⟨v, he, hr _ _ hR⟩⟩

end Go.Proofs.Ythonajikgljgmaa.Fx

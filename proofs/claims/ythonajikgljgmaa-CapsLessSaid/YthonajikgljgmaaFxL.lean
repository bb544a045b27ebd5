/-
  Loops whose rounds write to some slots alone: what the other slots hold is what they held ahead of the loop.
-/
import Derived.Test.YthonajikgljgmaaFxK
namespace Go.Proofs.Ythonajikgljgmaa.Fx
open Go

/-- ranges of slots, both ends within -/
def hasN : List (Nat × Nat) → Nat → Bool
  | [], _ => false
  | d :: D, t => match Nat.ble d.1 t, Nat.ble t d.2 with
    | true, true => true
    | _, _ => hasN D t

/-- Beside the slots of D the frames are the same. -/
def Same (D : List (Nat × Nat)) (E' E : Env) : Prop := ∀ t, hasN D t = false → E' t = E t

/-- The slots of D off the one frame, all others off the other. -/
def ovr (D : List (Nat × Nat)) (E' E : Env) : Env := fun t =>
  match hasN D t with
  | true => E' t
  | false => E t

theorem Same.refl {D : List (Nat × Nat)} {E : Env} : Same D E E := fun _ _ => rfl
theorem ovr_eq {D : List (Nat × Nat)} {E' E : Env} (h : Same D E' E) : ovr D E' E = E' := by
  funext t
  unfold ovr
  cases hc : hasN D t with
  | true => rfl
  | false => exact (h t hc).symm
theorem same_ovr {D : List (Nat × Nat)} {E' E : Env} : Same D (ovr D E' E) E := fun t ht => by
  unfold ovr
  rw [ht]
theorem same_upd {D : List (Nat × Nat)} {n d : Nat} {E' E : Env} {v : Value} (hd : hasN D d = true) (h : Same D E' E) : Same D (upd n E' d v) E := fun t ht => by
  have hne : t ≠ d := fun e => by rw [e, hd] at ht; cases ht
  rw [upd_other hne]
  exact h t ht
theorem same_updo {D : List (Nat × Nat)} {n d : Nat} {E' E : Env} {v : Value} (hd : hasN D d = true) (h : Same D E' E) : Same D (updo n E' (some d) v) E := same_upd hd h
theorem same_updn {D : List (Nat × Nat)} {n : Nat} {E' E : Env} {v : Value} (h : Same D E' E) : Same D (updo n E' none v) E := h
theorem same_mov {D : List (Nat × Nat)} {n d : Nat} {E' E : Env} {x : Operand} (hd : hasN D d = true) (h : Same D E' E) : Same D (mov n E' (some d) x) E := same_upd hd h
theorem same_know {D : List (Nat × Nat)} {d : Nat} {E' E : Env} {v : Value} (hd : hasN D d = true) (h : Same D E' E) : Same D (know E' d v) E := fun t ht => by
  have hne : Nat.beq t d = false := by
    cases hb : Nat.beq t d with
    | false => rfl
    | true => rw [Nat.eq_of_beq_eq_true hb, hd] at ht; cases ht
  unfold know
  rw [hne]
  exact h t ht
def subN (D' D : List (Nat × Nat)) : Bool := D'.all fun p => D.any fun q => Nat.ble q.1 p.1 && Nat.ble p.2 q.2
theorem hasN_iff {D : List (Nat × Nat)} {t : Nat} : hasN D t = true ↔ ∃ p ∈ D, p.1 ≤ t ∧ t ≤ p.2 := by
  induction D with
  | nil => simp [hasN]
  | cons d D ih =>
    unfold hasN
    constructor
    · intro h
      split at h
      · rename_i h1 h2; exact ⟨d, .head _, Nat.le_of_ble_eq_true h1, Nat.le_of_ble_eq_true h2⟩
      · obtain ⟨p, hp, h⟩ := ih.1 h; exact ⟨p, .tail _ hp, h⟩
    · rintro ⟨p, hp, h1, h2⟩
      split
      · rfl
      · rename_i hn
        rcases List.mem_cons.1 hp with rfl | hp
        · exact (hn (Nat.ble_eq_true_of_le h1) (Nat.ble_eq_true_of_le h2)).elim
        · exact ih.2 ⟨p, hp, h1, h2⟩
theorem hasN_sub {D D' : List (Nat × Nat)} {t : Nat} (hs : subN D' D = true) (h : hasN D t = false) : hasN D' t = false := by
  cases hc : hasN D' t with
  | false => rfl
  | true =>
    obtain ⟨p, hp, h1, h2⟩ := hasN_iff.1 hc
    have h3 := List.all_eq_true.1 hs p hp
    obtain ⟨q, hq, h4⟩ := List.any_eq_true.1 h3
    simp only [Bool.and_eq_true] at h4
    have := hasN_iff.2 ⟨q, hq, Nat.le_trans (Nat.le_of_ble_eq_true h4.1) h1, Nat.le_trans h2 (Nat.le_of_ble_eq_true h4.2)⟩
    rw [h] at this; cases this
/-- What an inner loop has left. -/
theorem same_in {D D' : List (Nat × Nat)} {X Y E : Env} (hs : subN D' D = true) (h : Same D Y E) : Same D (ovr D' X Y) E := fun t ht => by
  unfold ovr
  rw [hasN_sub hs ht]
  exact h t ht
theorem Same.trans {D D' : List (Nat × Nat)} {E E' E'' : Env} (hs : ∀ t, hasN D t = false → hasN D' t = false) (h : Same D' E'' E') (h' : Same D E' E) : Same D E'' E := fun t ht => (h t (hs t ht)).trans (h' t ht)

section
variable {P : Program} {n : Nat} {kn : Env → World → Prop} {kx : Nat → Env → World → Prop} {kr : Env → World → Prop} {E : Env} {w : World}

theorem W_ovr {c : Code} {D : List (Nat × Nat)} {E' : Env} (hS : Same D E' E) (h : W P n c kn kx kr (ovr D E' E) w) : W P n c kn kx kr E' w := by
  rwa [ovr_eq hS] at h

/-- What the slots of D are known to hold. -/
theorem W_kn {c : Code} {D : List (Nat × Nat)} {E' : Env} {t0 : Nat} {v0 : Value} (h0 : E' t0 = v0) (h : W P n c kn kx kr (ovr D (know E' t0 v0) E) w) : W P n c kn kx kr (ovr D E' E) w := by
  rwa [know_eq h0] at h
theorem W_kn2 {c : Code} {D : List (Nat × Nat)} {E' : Env} {t0 t1 : Nat} {v0 v1 : Value} (h0 : E' t0 = v0) (h1 : E' t1 = v1) (h : W P n c kn kx kr (ovr D (know (know E' t0 v0) t1 v1) E) w) : W P n c kn kx kr (ovr D E' E) w := by
  rwa [know_eq h0, know_eq h1] at h
theorem W_kn3 {c : Code} {D : List (Nat × Nat)} {E' : Env} {t0 t1 t2 : Nat} {v0 v1 v2 : Value} (h0 : E' t0 = v0) (h1 : E' t1 = v1) (h2 : E' t2 = v2) (h : W P n c kn kx kr (ovr D (know (know (know E' t0 v0) t1 v1) t2 v2) E) w) : W P n c kn kx kr (ovr D E' E) w := by
  rwa [know_eq h0, know_eq h1, know_eq h2] at h
theorem W_kn4 {c : Code} {D : List (Nat × Nat)} {E' : Env} {t0 t1 t2 t3 : Nat} {v0 v1 v2 v3 : Value} (h0 : E' t0 = v0) (h1 : E' t1 = v1) (h2 : E' t2 = v2) (h3 : E' t3 = v3) (h : W P n c kn kx kr (ovr D (know (know (know (know E' t0 v0) t1 v1) t2 v2) t3 v3) E) w) : W P n c kn kx kr (ovr D E' E) w := by
  rwa [know_eq h0, know_eq h1, know_eq h2, know_eq h3] at h
theorem W_kn5 {c : Code} {D : List (Nat × Nat)} {E' : Env} {t0 t1 t2 t3 t4 : Nat} {v0 v1 v2 v3 v4 : Value} (h0 : E' t0 = v0) (h1 : E' t1 = v1) (h2 : E' t2 = v2) (h3 : E' t3 = v3) (h4 : E' t4 = v4) (h : W P n c kn kx kr (ovr D (know (know (know (know (know E' t0 v0) t1 v1) t2 v2) t3 v3) t4 v4) E) w) : W P n c kn kx kr (ovr D E' E) w := by
  rwa [know_eq h0, know_eq h1, know_eq h2, know_eq h3, know_eq h4] at h
theorem W_kn6 {c : Code} {D : List (Nat × Nat)} {E' : Env} {t0 t1 t2 t3 t4 t5 : Nat} {v0 v1 v2 v3 v4 v5 : Value} (h0 : E' t0 = v0) (h1 : E' t1 = v1) (h2 : E' t2 = v2) (h3 : E' t3 = v3) (h4 : E' t4 = v4) (h5 : E' t5 = v5) (h : W P n c kn kx kr (ovr D (know (know (know (know (know (know E' t0 v0) t1 v1) t2 v2) t3 v3) t4 v4) t5 v5) E) w) : W P n c kn kx kr (ovr D E' E) w := by
  rwa [know_eq h0, know_eq h1, know_eq h2, know_eq h3, know_eq h4, know_eq h5] at h
theorem W_kn7 {c : Code} {D : List (Nat × Nat)} {E' : Env} {t0 t1 t2 t3 t4 t5 t6 : Nat} {v0 v1 v2 v3 v4 v5 v6 : Value} (h0 : E' t0 = v0) (h1 : E' t1 = v1) (h2 : E' t2 = v2) (h3 : E' t3 = v3) (h4 : E' t4 = v4) (h5 : E' t5 = v5) (h6 : E' t6 = v6) (h : W P n c kn kx kr (ovr D (know (know (know (know (know (know (know E' t0 v0) t1 v1) t2 v2) t3 v3) t4 v4) t5 v5) t6 v6) E) w) : W P n c kn kx kr (ovr D E' E) w := by
  rwa [know_eq h0, know_eq h1, know_eq h2, know_eq h3, know_eq h4, know_eq h5, know_eq h6] at h
theorem W_kn8 {c : Code} {D : List (Nat × Nat)} {E' : Env} {t0 t1 t2 t3 t4 t5 t6 t7 : Nat} {v0 v1 v2 v3 v4 v5 v6 v7 : Value} (h0 : E' t0 = v0) (h1 : E' t1 = v1) (h2 : E' t2 = v2) (h3 : E' t3 = v3) (h4 : E' t4 = v4) (h5 : E' t5 = v5) (h6 : E' t6 = v6) (h7 : E' t7 = v7) (h : W P n c kn kx kr (ovr D (know (know (know (know (know (know (know (know E' t0 v0) t1 v1) t2 v2) t3 v3) t4 v4) t5 v5) t6 v6) t7 v7) E) w) : W P n c kn kx kr (ovr D E' E) w := by
  rwa [know_eq h0, know_eq h1, know_eq h2, know_eq h3, know_eq h4, know_eq h5, know_eq h6, know_eq h7] at h
theorem W_kn9 {c : Code} {D : List (Nat × Nat)} {E' : Env} {t0 t1 t2 t3 t4 t5 t6 t7 t8 : Nat} {v0 v1 v2 v3 v4 v5 v6 v7 v8 : Value} (h0 : E' t0 = v0) (h1 : E' t1 = v1) (h2 : E' t2 = v2) (h3 : E' t3 = v3) (h4 : E' t4 = v4) (h5 : E' t5 = v5) (h6 : E' t6 = v6) (h7 : E' t7 = v7) (h8 : E' t8 = v8) (h : W P n c kn kx kr (ovr D (know (know (know (know (know (know (know (know (know E' t0 v0) t1 v1) t2 v2) t3 v3) t4 v4) t5 v5) t6 v6) t7 v7) t8 v8) E) w) : W P n c kn kx kr (ovr D E' E) w := by
  rwa [know_eq h0, know_eq h1, know_eq h2, know_eq h3, know_eq h4, know_eq h5, know_eq h6, know_eq h7, know_eq h8] at h
theorem W_kn10 {c : Code} {D : List (Nat × Nat)} {E' : Env} {t0 t1 t2 t3 t4 t5 t6 t7 t8 t9 : Nat} {v0 v1 v2 v3 v4 v5 v6 v7 v8 v9 : Value} (h0 : E' t0 = v0) (h1 : E' t1 = v1) (h2 : E' t2 = v2) (h3 : E' t3 = v3) (h4 : E' t4 = v4) (h5 : E' t5 = v5) (h6 : E' t6 = v6) (h7 : E' t7 = v7) (h8 : E' t8 = v8) (h9 : E' t9 = v9) (h : W P n c kn kx kr (ovr D (know (know (know (know (know (know (know (know (know (know E' t0 v0) t1 v1) t2 v2) t3 v3) t4 v4) t5 v5) t6 v6) t7 v7) t8 v8) t9 v9) E) w) : W P n c kn kx kr (ovr D E' E) w := by
  rwa [know_eq h0, know_eq h1, know_eq h2, know_eq h3, know_eq h4, know_eq h5, know_eq h6, know_eq h7, know_eq h8, know_eq h9] at h

/-- A loop: D are the slots that its code writes. -/
theorem W_loopS {c : Code} (D : List (Nat × Nat)) {α : Type} (I : α → Env → World → Prop) (m : α → Nat) (x : α) (h0 : I x E w)
    (round : ∀ x E' w', I x E' w' → W P n c (fun E'' w'' => Same D E'' E ∧ ∃ y, m y < m x ∧ I y E'' w'') kx kr (ovr D E' E) w') : W P n (.loop c) kn kx kr E w := by
  refine W_loop (fun x E' w' => Same D E' E ∧ I x E' w') m x ⟨Same.refl, h0⟩ ?_
  rintro x E' w' ⟨hS, hI⟩
  have h := round x E' w' hI
  rw [ovr_eq hS] at h
  exact W.mono h (fun _ _ ⟨hS, y, hy, h⟩ => ⟨y, hy, hS, h⟩) (fun _ _ _ h => h) (fun _ _ h => h)

/-- A block: what holds behind it, whichever way it was left. -/
theorem W_blockS {id : Nat} {c : Code} (D : List (Nat × Nat)) (I : Env → World → Prop) (h : W P n c (fun E' w' => Same D E' E ∧ I E' w') (fun i E' w' => if i = id then Same D E' E ∧ I E' w' else kx i E' w') kr E w)
    (k : ∀ E' w', I E' w' → kn (ovr D E' E) w') : W P n (.block id c) kn kx kr E w := by
  have hk : ∀ E' w', Same D E' E ∧ I E' w' → kn E' w' := fun E' w' ⟨hS, hI⟩ => by
    have := k E' w' hI
    rwa [ovr_eq hS] at this
  refine W_block (W.mono h hk (fun i E' w' hi => ?_) (fun _ _ h => h))
  by_cases he : i = id
  · rw [if_pos he] at hi ⊢; exact hk _ _ hi
  · rw [if_neg he] at hi ⊢; exact hi

/-- What holds between two parts. -/
theorem W_seqS {x y : Code} (D : List (Nat × Nat)) (I : Env → World → Prop) (h : W P n x (fun E' w' => Same D E' E ∧ I E' w') kx kr E w)
    (k : ∀ E' w', I E' w' → W P n y kn kx kr (ovr D E' E) w') : W P n (.seq x y) kn kx kr E w :=
  W_seq (W.mono h (fun E' w' ⟨hS, hI⟩ => by
    have := k E' w' hI
    rwa [ovr_eq hS] at this) (fun _ _ _ h => h) (fun _ _ h => h))
end
end Go.Proofs.Ythonajikgljgmaa.Fx

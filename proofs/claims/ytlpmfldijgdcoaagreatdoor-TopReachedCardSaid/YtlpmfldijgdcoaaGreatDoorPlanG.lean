/-
  Who is reached: one that was, or one that a bridge joins with one that is.
-/
import Derived.Test.YtlpmfldijgdcoaaGreatDoorPlanF
namespace Go.Proofs.YtlpmfldijgdcoaaGreatDoor.Top
open Go Go.Proofs Go.Proofs.YtlpmfldijgdcoaaGreatDoor.Fx
set_option maxRecDepth 100000
set_option linter.unusedVariables false

/-- is reached -/
def On (R : List Bool) (x : Nat) : Prop := R[x]? = some true
theorem stepB_on {R : List Bool} {b : Nat × Nat} (hA : b.1 < R.length) (hB : b.2 < R.length) (h : On R b.1 ∨ On R b.2) : On (stepB R b) b.1 ∧ On (stepB R b) b.2 := by
  have hc : (R.getD b.1 false || R.getD b.2 false) = true := by
    rw [List.getD_eq_getElem?_getD, List.getD_eq_getElem?_getD]
    rcases h with h | h
    · rw [show R[b.1]? = some true from h]; rfl
    · rw [show R[b.2]? = some true from h]; simp
  unfold stepB
  rw [if_pos hc]
  refine ⟨?_, ?_⟩
  · show ((R.set b.1 true).set b.2 true)[b.1]? = some true
    rw [List.getElem?_set]
    split
    · rw [List.length_set, if_pos hB]
    · exact List.getElem?_set_self hA
  · exact List.getElem?_set_self (by rw [List.length_set]; exact hB)
theorem passTo_from {R : List Bool} {bs : List (Nat × Nat)} {i : Nat} : ∀ {d k : Nat}, k + d ≤ bs.length → On (passTo R bs k) i → On (passTo R bs (k + d)) i
  | 0, _, _, h => h
  | d + 1, k, hk, h => by
    show On (passTo R bs (k + d + 1)) i
    unfold On
    rw [passTo_succ (List.getElem?_eq_getElem (show k + d < bs.length by omega))]
    exact stepB_up (passTo_from (d := d) (by omega) h)
/-- where nothing more is to be drawn, a bridge has both its ends reached or none -/
theorem fixed_on {R : List Bool} {bs : List (Nat × Nat)} (hok : ∀ b ∈ bs, brOk R.length b) (hf : fixed R bs) {b : Nat × Nat} (hb : b ∈ bs) (h : On R b.1 ∨ On R b.2) : On R b.1 ∧ On R b.2 := by
  obtain ⟨k, hk⟩ := List.getElem?_of_mem hb
  have hkl := (List.getElem?_eq_some_iff.1 hk).1
  obtain ⟨h1, h2, _⟩ := hok b hb
  have hl : (passTo R bs k).length = R.length := passTo_len (by omega)
  have hs := stepB_on (R := passTo R bs k) (b := b) (by omega) (by omega) (h.imp (passTo_up (by omega)) (passTo_up (by omega)))
  rw [← passTo_succ hk] at hs
  have e : k + 1 + (bs.length - (k + 1)) = bs.length := by omega
  have u1 := passTo_from (d := bs.length - (k + 1)) (by omega) hs.1
  have u2 := passTo_from (d := bs.length - (k + 1)) (by omega) hs.2
  rw [e, show passTo R bs bs.length = R from hf] at u1 u2
  exact ⟨u1, u2⟩
theorem stepB_cases {R : List Bool} {b : Nat × Nat} {x : Nat} (h : On (stepB R b) x) : On R x ∨ ((x = b.1 ∨ x = b.2) ∧ (On R b.1 ∨ On R b.2)) := by
  unfold stepB at h
  split at h
  · rename_i hc
    have hab : On R b.1 ∨ On R b.2 := by
      rw [List.getD_eq_getElem?_getD, List.getD_eq_getElem?_getD, Bool.or_eq_true] at hc
      rcases hc with hc | hc
      · left; unfold On; cases hq : R[b.1]? with
        | none => rw [hq] at hc; cases hc
        | some v => rw [hq] at hc; exact congrArg some hc
      · right; unfold On; cases hq : R[b.2]? with
        | none => rw [hq] at hc; cases hc
        | some v => rw [hq] at hc; exact congrArg some hc
    by_cases h1 : x = b.1
    · exact .inr ⟨.inl h1, hab⟩
    · by_cases h2 : x = b.2
      · exact .inr ⟨.inr h2, hab⟩
      · left
        unfold On at h ⊢
        rwa [List.getElem?_set_ne (fun e => h2 e.symm), List.getElem?_set_ne (fun e => h1 e.symm)] at h
  · exact .inl h
/-- each that is reached was a member's own, or a bridge joins it with one that is -/
def Why (ms R : List Bool) (bs : List (Nat × Nat)) (x : Nat) : Prop := On ms x ∨ ∃ b ∈ bs, (b.1 = x ∧ On R b.2) ∨ (b.2 = x ∧ On R b.1)
theorem pass_why {ms R S : List Bool} {bs : List (Nat × Nat)} (hok : ∀ b ∈ bs, brOk R.length b) (hf : fixed R bs) (hS : ∀ x, On S x → On R x ∧ Why ms R bs x) : ∀ {k : Nat}, k ≤ bs.length → ∀ x, On (passTo S bs k) x → On R x ∧ Why ms R bs x
  | 0, _ => hS
  | k + 1, hk => by
    intro x hx
    have hb := List.getElem?_eq_getElem (show k < bs.length by omega)
    have hm := List.mem_of_getElem? hb
    unfold On at hx
    rw [passTo_succ hb] at hx
    have ih := pass_why hok hf hS (k := k) (by omega)
    rcases stepB_cases hx with h | ⟨h1, h2⟩
    · exact ih x h
    · obtain ⟨ha, hb2⟩ := fixed_on hok hf hm (h2.imp (fun h => (ih _ h).1) (fun h => (ih _ h).1))
      rcases h1 with rfl | rfl
      · exact ⟨ha, .inr ⟨_, hm, .inl ⟨rfl, hb2⟩⟩⟩
      · exact ⟨hb2, .inr ⟨_, hm, .inr ⟨rfl, ha⟩⟩⟩
theorem cloTo_up {ms : List Bool} {bs : List (Nat × Nat)} {x : Nat} (h : On ms x) : ∀ i, On (cloTo ms bs i) x
  | 0 => h
  | i + 1 => passTo_up (Nat.le_refl _) (cloTo_up h i)
theorem clo_why {ms : List Bool} {bs : List (Nat × Nat)} (hok : ∀ b ∈ bs, brOk ms.length b) (x : Nat) : On (cloTo ms bs ms.length) x ↔ Why ms (cloTo ms bs ms.length) bs x := by
  have hl := cloTo_len ms bs ms.length
  have hf := clo_ends hok
  have hok' : ∀ b ∈ bs, brOk (cloTo ms bs ms.length).length b := by rw [hl]; exact hok
  constructor
  · have key : ∀ i, ∀ x, On (cloTo ms bs i) x → On (cloTo ms bs ms.length) x ∧ Why ms (cloTo ms bs ms.length) bs x := by
      intro i
      induction i with
      | zero => exact fun x h => ⟨cloTo_up h _, .inl h⟩
      | succ i ih => exact fun x h => pass_why hok' hf ih (Nat.le_refl _) x h
    exact fun h => (key _ x h).2
  · rintro (h | ⟨b, hb, ⟨rfl, h⟩ | ⟨rfl, h⟩⟩)
    · exact cloTo_up h _
    · exact (fixed_on hok' hf hb (.inr h)).1
    · exact (fixed_on hok' hf hb (.inl h)).2
end Go.Proofs.YtlpmfldijgdcoaaGreatDoor.Top

/-
  What a closure reaches; one more member.
-/
import Derived.Test.YtlpmfldijgdcoaaGreatDoorPlanM
namespace Go.Proofs.YtlpmfldijgdcoaaGreatDoor.Top
open Go Go.Proofs Go.Proofs.YtlpmfldijgdcoaaGreatDoor.Fx
set_option maxRecDepth 100000
set_option linter.unusedVariables false

theorem clo_ends {ms : List Bool} {bs : List (Nat × Nat)} (hok : ∀ b ∈ bs, brOk ms.length b) : fixed (cloTo ms bs ms.length) bs := by
  rcases clo_some hok ms.length with ⟨q, hq, hf⟩ | hh
  · rw [← clo_fixed hok hf]; exact hf
  · have hz : lacks (cloTo ms bs ms.length) = 0 := by have := lacks_le ms; omega
    have hl := cloTo_len ms bs ms.length
    rcases pass_le (R := cloTo ms bs ms.length) (bs := bs) (by rw [hl]; exact hok) (Nat.le_refl _) with e | e
    · exact e
    · omega
theorem stepB_snoc {R : List Bool} {b : Nat × Nat} (hA : b.1 < R.length) (hB : b.2 < R.length) : stepB (R ++ [true]) b = stepB R b ++ [true] := by
  have e1 : (R ++ [true]).getD b.1 false = R.getD b.1 false := by rw [List.getD_eq_getElem?_getD, List.getElem?_append_left hA, ← List.getD_eq_getElem?_getD]
  have e2 : (R ++ [true]).getD b.2 false = R.getD b.2 false := by rw [List.getD_eq_getElem?_getD, List.getElem?_append_left hB, ← List.getD_eq_getElem?_getD]
  unfold stepB
  rw [e1, e2]
  split
  · rw [List.set_append_left _ _ hA, List.set_append_left _ _ (by rw [List.length_set]; exact hB)]
  · rfl
theorem passTo_snoc {R : List Bool} {bs : List (Nat × Nat)} (hok : ∀ b ∈ bs, brOk R.length b) : ∀ {k : Nat}, k ≤ bs.length → passTo (R ++ [true]) bs k = passTo R bs k ++ [true]
  | 0, _ => rfl
  | k + 1, h => by
    have hb := List.getElem?_eq_getElem (show k < bs.length by omega)
    obtain ⟨h1, h2, _⟩ := hok _ (List.mem_of_getElem? hb)
    have hl : (passTo R bs k).length = R.length := passTo_len (by omega)
    rw [passTo_succ hb, passTo_succ hb, passTo_snoc hok (by omega), stepB_snoc (by omega) (by omega)]
theorem cloTo_snoc {ms : List Bool} {bs : List (Nat × Nat)} (hok : ∀ b ∈ bs, brOk ms.length b) : ∀ i, cloTo (ms ++ [true]) bs i = cloTo ms bs i ++ [true]
  | 0 => rfl
  | i + 1 => by
    have hl := cloTo_len ms bs i
    show passTo (cloTo (ms ++ [true]) bs i) bs bs.length = passTo (cloTo ms bs i) bs bs.length ++ [true]
    rw [cloTo_snoc hok i, passTo_snoc (by rw [hl]; exact hok) (Nat.le_refl _)]
/-- the closure of a plan with one more member, to which no bridge leads -/
theorem clo_more {ms : List Bool} {bs : List (Nat × Nat)} (hok : ∀ b ∈ bs, brOk ms.length b) : cloTo (ms ++ [true]) bs (ms ++ [true]).length = cloTo ms bs ms.length ++ [true] := by
  rw [cloTo_snoc hok, List.length_append]
  show cloTo ms bs (ms.length + 1) ++ [true] = _
  rw [clo_stays (clo_ends hok) 1]

theorem stepB_up {R : List Bool} {b : Nat × Nat} {i : Nat} (h : R[i]? = some true) : (stepB R b)[i]? = some true := by
  unfold stepB
  have hi := (List.getElem?_eq_some_iff.1 h).1
  split
  · rw [List.getElem?_set]
    split
    · rename_i e; subst e; rw [List.length_set, if_pos hi]
    · rw [List.getElem?_set]
      split
      · rename_i e; subst e; rw [if_pos hi]
      · exact h
  · exact h
theorem passTo_up {R : List Bool} {bs : List (Nat × Nat)} {i : Nat} : ∀ {k : Nat}, k ≤ bs.length → R[i]? = some true → (passTo R bs k)[i]? = some true
  | 0, _, h => h
  | k + 1, hk, h => by rw [passTo_succ (List.getElem?_eq_getElem (show k < bs.length by omega))]; exact stepB_up (passTo_up (by omega) h)
end Go.Proofs.YtlpmfldijgdcoaaGreatDoor.Top

/-
  TopReached, up to what awake does.
-/
import Derived.Test.YtlpmfldijgdcoaaGreatDoorPlanG
namespace Go.Proofs.YtlpmfldijgdcoaaGreatDoor.Top
open Go Go.Proofs Go.Proofs.YtlpmfldijgdcoaaGreatDoor.Fx
set_option maxRecDepth 100000
set_option linter.unusedVariables false
set_option linter.unusedSimpArgs false
set_option maxHeartbeats 16000000

/-- whether i is wanted, as far as the bridges were looked at -/
def wantOf (C : List Bool) (i : Nat) (b : Nat × Nat) : Bool := (decide (b.1 = i) && C.getD b.2 false) || (decide (b.2 = i) && C.getD b.1 false)
def wantTo (ms C : List Bool) (bs : List (Nat × Nat)) (i k : Nat) : Bool := ms.getD i false || (bs.take k).any (wantOf C i)
theorem want_zero (ms C : List Bool) (bs : List (Nat × Nat)) (i : Nat) : wantTo ms C bs i 0 = ms.getD i false := by simp [wantTo]
theorem want_succ {ms C : List Bool} {bs : List (Nat × Nat)} {i k : Nat} {b : Nat × Nat} (h : bs[k]? = some b) : wantTo ms C bs i (k + 1) = (wantTo ms C bs i k || wantOf C i b) := by
  have hk := (List.getElem?_eq_some_iff.1 h).1
  unfold wantTo
  rw [List.take_succ_eq_append_getElem hk, (List.getElem?_eq_some_iff.1 h).2, List.any_append, ← Bool.or_assoc]; simp
theorem want_one {C : List Bool} {i A B : Nat} {x y : Bool} (hx : C[A]? = some x) (hy : C[B]? = some y) : wantOf C i (A, B) = ((decide (A = i) && y) || (decide (B = i) && x)) := by
  unfold wantOf
  simp only [List.getD_eq_getElem?_getD, hx, hy, Option.getD_some]
theorem getD_on {R : List Bool} {x : Nat} : R.getD x false = true ↔ On R x := by
  unfold On
  rw [List.getD_eq_getElem?_getD]
  cases h : R[x]? with
  | none => simp
  | some v => simp
theorem want_all {ms : List Bool} {bs : List (Nat × Nat)} (hok : ∀ b ∈ bs, brOk ms.length b) (i : Nat) : wantTo ms (cloTo ms bs ms.length) bs i bs.length = (cloTo ms bs ms.length).getD i false := by
  have h1 : wantTo ms (cloTo ms bs ms.length) bs i bs.length = true ↔ (cloTo ms bs ms.length).getD i false = true := by
    rw [getD_on, clo_why hok]
    unfold wantTo Why
    rw [List.take_length, Bool.or_eq_true, getD_on, List.any_eq_true]
    refine or_congr Iff.rfl (exists_congr fun b => and_congr Iff.rfl ?_)
    unfold wantOf
    rw [Bool.or_eq_true, Bool.and_eq_true, Bool.and_eq_true, decide_eq_true_iff, decide_eq_true_iff, getD_on, getD_on]
  cases h2 : (cloTo ms bs ms.length).getD i false with
  | true => exact h1.2 h2
  | false =>
    cases h3 : wantTo ms (cloTo ms bs ms.length) bs i bs.length with
    | false => rfl
    | true => rw [h1.1 h3] at h2; cases h2
end Go.Proofs.YtlpmfldijgdcoaaGreatDoor.Top

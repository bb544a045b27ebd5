/-
  A part of a row that is only read.
-/
import Derived.Test.YtlpmfldijgdcoaaGreatDoorFxZ
namespace Go.Proofs.YtlpmfldijgdcoaaGreatDoor.Fx
open Go Go.Proofs
set_option linter.unusedVariables false

/-- a part of a row -/
def subS : Value → Nat → Nat → Value
  | .slice ao _ cap, i, j => .slice (if cap = i then ao else ao.map (·.add (i * 1))) (j - i) (cap - i)
  | v, _, _ => v

section
variable {P : Program} {E : Env} {w w1 : World} {d : Option Nat} {ty : TypeId} {pos : String} {after : Array Edge}
end
theorem RdS.sub {w : World} {v : Value} {xs : List Value} {i j : Nat} (h : RdS w v xs) (hij : i ≤ j) (hj : j ≤ xs.length) : RdS w (subS v i j) ((xs.take j).drop i) := by
  obtain ⟨ao, cap, rfl, hlc, h⟩ := h
  have hl : ((xs.take j).drop i).length = j - i := by simp; omega
  refine ⟨if cap = i then ao else ao.map (·.add (i * 1)), cap - i, by rw [hl]; rfl, by rw [hl]; omega, ?_⟩
  by_cases hc : j = i
  · left
    exact List.length_eq_zero_iff.1 (by omega)
  · right
    rw [if_neg (by omega)]
    rcases h with rfl | ⟨b, off, rfl, h⟩
    · simp at hj; omega
    · refine ⟨b, off + i, by simp [add_none], fun k u hk => ?_⟩
      rw [Nat.add_assoc]
      refine h (i + k) u ?_
      rw [List.getElem?_drop, List.getElem?_take] at hk
      split at hk
      · exact hk
      · cases hk
end Go.Proofs.YtlpmfldijgdcoaaGreatDoor.Fx

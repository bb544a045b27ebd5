/-
  Signals: a bit of a number.
-/
import Derived.Test.YtneeoicjipglkaaDoorSigC
namespace Go.Proofs.YtneeoicjipglkaaDoor.Slot
open Go Go.Proofs Go.Proofs.YtneeoicjipglkaaDoor.Fx
set_option maxRecDepth 100000
set_option linter.unusedVariables false

theorem bit_shr {x : BitVec 64} {k : Nat} (h : k ≤ 15) : (x.toInt / ((2 ^ k : Nat) : Int)) % 2 = if x.getLsbD k then 1 else 0 := by
  have hx := x.isLt
  have hg : x.getLsbD k = decide (x.toNat / 2 ^ k % 2 = 1) := by
    rw [BitVec.getLsbD, Nat.testBit_eq_decide_div_mod_eq]
  rw [hg, BitVec.toInt_eq_toNat_cond]
  have hk : k = 0 ∨ k = 1 ∨ k = 2 ∨ k = 3 ∨ k = 4 ∨ k = 5 ∨ k = 6 ∨ k = 7 ∨ k = 8 ∨ k = 9 ∨ k = 10 ∨ k = 11 ∨ k = 12 ∨ k = 13 ∨ k = 14 ∨ k = 15 := by omega
  rcases hk with rfl | rfl | rfl | rfl | rfl | rfl | rfl | rfl | rfl | rfl | rfl | rfl | rfl | rfl | rfl | rfl <;>
  · simp only [Nat.reducePow, decide_eq_true_eq]
    split <;> split <;> omega
end Go.Proofs.YtneeoicjipglkaaDoor.Slot

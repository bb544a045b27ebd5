/-
  Signals: one is raised.
-/
import Derived.Test.YtneeoicjipglkaaDoorSigA
namespace Go.Proofs.YtneeoicjipglkaaDoor.Slot
open Go Go.Proofs Go.Proofs.YtneeoicjipglkaaDoor.Fx
set_option maxRecDepth 100000
set_option linter.unusedVariables false
set_option linter.unusedSimpArgs false
set_option maxHeartbeats 4000000

/-- a signal's bit -/
def bitN (k : Nat) : BitVec 64 := 1#64 <<< k
theorem bit_shl {k : Nat} (h : k ≤ 15) : IntKind.i64.wrap (1 * 2 ^ (min (k : Int).toNat IntKind.i64.bits)) = (bitN k).toInt := by
  have : ∀ k : Fin 16, IntKind.i64.wrap (1 * 2 ^ (min ((k.val : Nat) : Int).toNat IntKind.i64.bits)) = (bitN k.val).toInt := by decide
  exact this ⟨k, by omega⟩
theorem bit_hard {k : Nat} (h : k ≤ 15) : (bitN k &&& 16896#64).toInt ≠ 0 ↔ k = 9 ∨ k = 14 := by
  have : ∀ k : Fin 16, (bitN k.val &&& 16896#64).toInt ≠ 0 ↔ k.val = 9 ∨ k.val = 14 := by decide
  exact this ⟨k, by omega⟩
theorem bit_9 {k : Nat} (h : k ≤ 15) : (bitN k).toInt = 512 ↔ k = 9 := by
  have : ∀ k : Fin 16, (bitN k.val).toInt = 512 ↔ k.val = 9 := by decide
  exact this ⟨k, by omega⟩
theorem bit_14 {k : Nat} (h : k ≤ 15) : (bitN k).toInt = 16384 ↔ k = 14 := by
  have : ∀ k : Fin 16, (bitN k.val).toInt = 16384 ↔ k.val = 14 := by decide
  exact this ⟨k, by omega⟩
theorem bit_15 {k : Nat} (h : k ≤ 15) : (bitN k).toInt = 32768 ↔ k = 15 := by
  have : ∀ k : Fin 16, (bitN k.val).toInt = 32768 ↔ k.val = 15 := by decide
  exact this ⟨k, by omega⟩
theorem bit_get (k j : Nat) : (bitN k).getLsbD j = (decide (j < 64) && decide (j = k)) := by
  unfold bitN
  rw [BitVec.getLsbD_shiftLeft]
  by_cases h : j < k
  · simp [h]; omega
  · rw [BitVec.getLsbD_one]
    by_cases h2 : j = k
    · subst h2; simp
    · simp [h, h2]; omega
theorem bit_in {x : BitVec 64} {k : Nat} (h : k ≤ 15) : (x &&& bitN k).toInt = 0 ↔ x.getLsbD k = false := by
  rw [bv_zero]
  constructor
  · intro e
    have := congrArg (fun v => v.getLsbD k) e
    simp only [BitVec.getLsbD_and, bit_get, BitVec.getLsbD_zero] at this
    simpa [show k < 64 by omega] using this
  · intro e
    apply BitVec.eq_of_getLsbD_eq
    intro j hj
    simp only [BitVec.getLsbD_and, bit_get, BitVec.getLsbD_zero]
    by_cases h2 : j = k
    · subst h2; simp [e]
    · simp [h2]
end Go.Proofs.YtneeoicjipglkaaDoor.Slot

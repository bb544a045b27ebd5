/-
  Numbers as sets of bits.
-/
import Derived.Test.YtlpmfldijgdcoaaGreatDoorFxZ
namespace Go.Proofs.YtlpmfldijgdcoaaGreatDoor.Fx
open Go Go.Proofs
set_option linter.unusedVariables false

theorem bv_wrap (x : BitVec 64) : IntKind.i64.wrap (x.toNat : Int) = x.toInt := by
  have hx := x.isLt
  rw [IntKind.wrap_i64, BitVec.toInt_eq_toNat_cond]
  split <;> omega
theorem bv_and (x y : BitVec 64) : bitsOf .and .i64 x.toInt y.toInt = (x &&& y).toInt := by
  show IntKind.i64.wrap ((BitVec.ofInt 64 x.toInt &&& BitVec.ofInt 64 y.toInt).toNat : Int) = _
  rw [BitVec.ofInt_toInt, BitVec.ofInt_toInt, bv_wrap]
theorem bv_andNot (x y : BitVec 64) : bitsOf .andNot .i64 x.toInt y.toInt = (x &&& ~~~ y).toInt := by
  show IntKind.i64.wrap ((BitVec.ofInt 64 x.toInt &&& ~~~ BitVec.ofInt 64 y.toInt).toNat : Int) = _
  rw [BitVec.ofInt_toInt, BitVec.ofInt_toInt, bv_wrap]
theorem bv_small {x : BitVec 64} (h : x.toNat < 65536) : x.toInt = (x.toNat : Int) := by
  rw [BitVec.toInt_eq_toNat_cond, if_pos (by omega)]
theorem bv_zero {x : BitVec 64} : x.toInt = 0 ↔ x = 0#64 := by
  constructor
  · intro h; exact BitVec.eq_of_toInt_eq (by rw [h]; rfl)
  · rintro rfl; rfl
theorem bv_in {x m : BitVec 64} (h : x &&& ~~~ m = 0#64) : x = x &&& m := by
  apply BitVec.eq_of_getLsbD_eq
  intro i hi
  have := congrArg (fun v => v.getLsbD i) h
  simp only [BitVec.getLsbD_and, BitVec.getLsbD_not, BitVec.getLsbD_zero, hi, decide_true, Bool.true_and] at this ⊢
  cases hx : x.getLsbD i <;> cases hm : m.getLsbD i <;> simp_all
theorem bv_lt {x m : BitVec 64} (h : x &&& ~~~ m = 0#64) : x.toNat ≤ m.toNat := by
  rw [bv_in h, BitVec.toNat_and]
  exact Nat.and_le_right
end Go.Proofs.YtlpmfldijgdcoaaGreatDoor.Fx

/-
  Numbers as sets of bits.
-/
import Derived.Test.YthonajikgljgmaaGreatFxZ
namespace Go.Proofs.YthonajikgljgmaaGreat.Fx
open Go Go.Proofs
set_option linter.unusedVariables false

theorem bv_wrap (x : BitVec 64) : IntKind.i64.wrap (x.toNat : Int) = x.toInt := by
  have hx := x.isLt
  rw [IntKind.wrap_i64, BitVec.toInt_eq_toNat_cond]
  split <;> omega
theorem bv_and (x y : BitVec 64) : bitsOf .and .i64 x.toInt y.toInt = (x &&& y).toInt := by
  show IntKind.i64.wrap ((BitVec.ofInt 64 x.toInt &&& BitVec.ofInt 64 y.toInt).toNat : Int) = _
  rw [BitVec.ofInt_toInt, BitVec.ofInt_toInt, bv_wrap]
theorem bv_or (x y : BitVec 64) : bitsOf .or .i64 x.toInt y.toInt = (x ||| y).toInt := by
  show IntKind.i64.wrap ((BitVec.ofInt 64 x.toInt ||| BitVec.ofInt 64 y.toInt).toNat : Int) = _
  rw [BitVec.ofInt_toInt, BitVec.ofInt_toInt, bv_wrap]
theorem bv_andNot (x y : BitVec 64) : bitsOf .andNot .i64 x.toInt y.toInt = (x &&& ~~~ y).toInt := by
  show IntKind.i64.wrap ((BitVec.ofInt 64 x.toInt &&& ~~~ BitVec.ofInt 64 y.toInt).toNat : Int) = _
  rw [BitVec.ofInt_toInt, BitVec.ofInt_toInt, bv_wrap]
theorem bv_of {n : Int} (h0 : -9223372036854775808 ≤ n) (h1 : n ≤ 9223372036854775807) : (BitVec.ofInt 64 n).toInt = n := by
  rw [BitVec.toInt_ofInt]
  exact Int.bmod_eq_of_le (by omega) (by omega)
theorem bv_small {x : BitVec 64} (h : x.toNat < 65536) : x.toInt = (x.toNat : Int) := by
  rw [BitVec.toInt_eq_toNat_cond, if_pos (by omega)]
theorem bv_zero {x : BitVec 64} : x.toInt = 0 ↔ x = 0#64 := by
  constructor
  · intro h; exact BitVec.eq_of_toInt_eq (by rw [h]; rfl)
  · rintro rfl; rfl
theorem bv_in {x m : BitVec 64} (h : x &&& ~~~ m = 0#64) : x = x &&& m := by
  apply BitVec.eq_of_getLsbD_eq
  intro i hi
  have := congrArg (fun v => v.getLsbD i) h
  simp only [BitVec.getLsbD_and, BitVec.getLsbD_not, BitVec.getLsbD_zero, hi, decide_true, Bool.true_and] at this ⊢
  cases hx : x.getLsbD i <;> cases hm : m.getLsbD i <;> simp_all
theorem bv_lt {x m : BitVec 64} (h : x &&& ~~~ m = 0#64) : x.toNat ≤ m.toNat := by
  rw [bv_in h, BitVec.toNat_and]
  exact Nat.and_le_right
theorem bv_or_and {x y z k : BitVec 64} : ((x ||| y) ||| z) &&& k = 0#64 ↔ x &&& k = 0#64 ∧ y &&& k = 0#64 ∧ z &&& k = 0#64 := by
  constructor
  · intro h
    refine ⟨?_, ?_, ?_⟩ <;>
    · apply BitVec.eq_of_getLsbD_eq
      intro i hi
      have := congrArg (fun v => v.getLsbD i) h
      simp only [BitVec.getLsbD_and, BitVec.getLsbD_or, BitVec.getLsbD_zero] at this ⊢
      cases hx : x.getLsbD i <;> cases hy : y.getLsbD i <;> cases hz : z.getLsbD i <;> cases hk : k.getLsbD i <;> simp_all
  · rintro ⟨h1, h2, h3⟩
    apply BitVec.eq_of_getLsbD_eq
    intro i hi
    have e1 := congrArg (fun v => v.getLsbD i) h1
    have e2 := congrArg (fun v => v.getLsbD i) h2
    have e3 := congrArg (fun v => v.getLsbD i) h3
    simp only [BitVec.getLsbD_and, BitVec.getLsbD_or, BitVec.getLsbD_zero] at e1 e2 e3 ⊢
    cases hx : x.getLsbD i <;> cases hy : y.getLsbD i <;> cases hz : z.getLsbD i <;> cases hk : k.getLsbD i <;> simp_all
theorem bv_m1 (n m k : BitVec 64) : ((n &&& m) &&& ~~~ k) &&& ~~~ m = 0#64 := by
  apply BitVec.eq_of_getLsbD_eq
  intro i hi
  simp only [BitVec.getLsbD_and, BitVec.getLsbD_not, BitVec.getLsbD_zero]
  cases n.getLsbD i <;> cases m.getLsbD i <;> cases k.getLsbD i <;> simp_all
theorem bv_m2 (n m k : BitVec 64) : ((n &&& m) &&& ~~~ k) &&& k = 0#64 := by
  apply BitVec.eq_of_getLsbD_eq
  intro i hi
  simp only [BitVec.getLsbD_and, BitVec.getLsbD_not, BitVec.getLsbD_zero]
  cases n.getLsbD i <;> cases m.getLsbD i <;> cases k.getLsbD i <;> simp_all
theorem bv_m3 (n m k c : BitVec 64) : (((n &&& m) &&& ~~~ k) &&& ~~~ c) &&& ~~~ m = 0#64 := by
  apply BitVec.eq_of_getLsbD_eq
  intro i hi
  simp only [BitVec.getLsbD_and, BitVec.getLsbD_not, BitVec.getLsbD_zero]
  cases n.getLsbD i <;> cases m.getLsbD i <;> cases k.getLsbD i <;> cases c.getLsbD i <;> simp_all
theorem bv_m4 (n m k c : BitVec 64) : (((n &&& m) &&& ~~~ k) &&& ~~~ c) &&& k = 0#64 := by
  apply BitVec.eq_of_getLsbD_eq
  intro i hi
  simp only [BitVec.getLsbD_and, BitVec.getLsbD_not, BitVec.getLsbD_zero]
  cases n.getLsbD i <;> cases m.getLsbD i <;> cases k.getLsbD i <;> cases c.getLsbD i <;> simp_all
theorem bv_m5 (n c : BitVec 64) : c &&& (n &&& ~~~ c) = 0#64 := by
  apply BitVec.eq_of_getLsbD_eq
  intro i hi
  simp only [BitVec.getLsbD_and, BitVec.getLsbD_not, BitVec.getLsbD_zero]
  cases n.getLsbD i <;> cases c.getLsbD i <;> simp_all
theorem bv_m6 (n m : BitVec 64) : (n &&& m) &&& ~~~ m = 0#64 := by
  apply BitVec.eq_of_getLsbD_eq
  intro i hi
  simp only [BitVec.getLsbD_and, BitVec.getLsbD_not, BitVec.getLsbD_zero]
  cases n.getLsbD i <;> cases m.getLsbD i <;> simp_all
end Go.Proofs.YthonajikgljgmaaGreat.Fx

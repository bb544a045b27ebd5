/-
  The laws SigStops and SigOnce: sets of bits.
-/
import Derived.Test.YtneeoicjipglkaaDoorSigL
import Derived.Test.YtneeoicjipglkaaDoorSigRow
namespace Go.Proofs.YtneeoicjipglkaaDoor.Slot
open Go Go.Proofs Go.Proofs.YtneeoicjipglkaaDoor.Fx
set_option maxRecDepth 100000
set_option linter.unusedVariables false
set_option linter.unusedSimpArgs false
set_option maxHeartbeats 8000000

/-- some bits, one behind the other -/
def orL : List Nat → BitVec 64
  | [] => 0#64
  | k :: l => bitN k ||| orL l
theorem orL_get : ∀ (l : List Nat) (j : Nat), j < 64 → (orL l).getLsbD j = decide (j ∈ l)
  | [], j, h => by simp [orL]
  | k :: l, j, h => by
    unfold orL
    rw [BitVec.getLsbD_or, bit_get, orL_get l j h, decide_eq_true h]
    by_cases e : j = k
    · subst e; simp
    · simp [e]
theorem orL_snoc (l : List Nat) (k : Nat) : orL (l ++ [k]) = orL l ||| bitN k := by
  apply BitVec.eq_of_getLsbD_eq
  intro j hj
  rw [orL_get _ j hj, BitVec.getLsbD_or, orL_get _ j hj, bit_get, decide_eq_true hj]
  by_cases e : j = k
  · subst e; simp
  · simp [e]
/-- none but those below nine -/
def Low8 (x : BitVec 64) : Prop := ∀ j, x.getLsbD j = true → 1 ≤ j ∧ j ≤ 8
theorem low8_zero : Low8 0#64 := fun j h => by simp at h
theorem low8_or {x : BitVec 64} {k : Nat} (h : Low8 x) (h1 : 1 ≤ k) (h8 : k ≤ 8) : Low8 (x ||| bitN k) := fun j hj => by
  rw [BitVec.getLsbD_or, bit_get] at hj
  by_cases e : j = k
  · omega
  · exact h j (by simpa [e] using hj)
theorem low8_510 (x : BitVec 64) : Low8 (x &&& 510#64) := fun j hj => by
  rw [BitVec.getLsbD_and] at hj
  have h2 : (510#64 : BitVec 64).getLsbD j = true := by cases hx : x.getLsbD j <;> simp_all
  by_cases h : j < 16
  · have : ∀ j : Fin 16, (510#64 : BitVec 64).getLsbD j.val = true → 1 ≤ j.val ∧ j.val ≤ 8 := by decide
    exact this ⟨j, h⟩ h2
  · have : (510#64 : BitVec 64).getLsbD j = false := by
      rw [BitVec.getLsbD]
      exact Nat.testBit_lt_two_pow (Nat.lt_of_lt_of_le (show 510 < 2 ^ 16 by decide) (Nat.pow_le_pow_right (by decide) (by omega)))
    rw [this] at h2; cases h2
theorem get510 {j : Nat} (h1 : 1 ≤ j) (h8 : j ≤ 8) : (510#64 : BitVec 64).getLsbD j = true := by
  have : ∀ j : Fin 16, 1 ≤ j.val → j.val ≤ 8 → (510#64 : BitVec 64).getLsbD j.val = true := by decide
  exact this ⟨j, by omega⟩ h1 h8
theorem orL_bits {x : BitVec 64} (h : Low8 x) : orL (bitsL x) = x := by
  apply BitVec.eq_of_getLsbD_eq
  intro j hj
  rw [orL_get _ j hj]
  cases hx : x.getLsbD j
  · exact decide_eq_false fun hm => by rw [(bitsL_mem.1 hm).2] at hx; cases hx
  · exact decide_eq_true (bitsL_mem.2 ⟨by have := (h j hx).2; omega, hx⟩)
theorem bits_len (x : BitVec 64) : (bitsL x).length ≤ 16 := Nat.le_trans (List.length_filter_le _ _) (by simp)
theorem low8_lt {x : BitVec 64} (h : Low8 x) : x.toNat < 512 := by
  have : x = x &&& 510#64 := by
    apply BitVec.eq_of_getLsbD_eq
    intro j hj
    rw [BitVec.getLsbD_and]
    cases hx : x.getLsbD j
    · rfl
    · rw [get510 (h j hx).1 (h j hx).2]; rfl
  rw [this, BitVec.toNat_and]
  have := @Nat.and_le_right x.toNat (510#64 : BitVec 64).toNat
  have h3 : (510#64 : BitVec 64).toNat = 510 := rfl
  omega
theorem open_low8 {p : Pi} (ha : Low8 p.a) : openP p = p.a &&& ~~~ p.b := by
  apply BitVec.eq_of_getLsbD_eq
  intro j hj
  rw [open_get, BitVec.getLsbD_and, BitVec.getLsbD_not, decide_eq_true hj]
  cases hx : p.a.getLsbD j
  · simp
  · have := ha j hx
    simp [this.1, show j ≤ 15 by omega]
/-- all that is pending is caught -/
theorem caught_low8 {p : Pi} (hs : p.s = 1) (ha : Low8 p.a) (hd : p.d = 510#64) : Caught p := by
  refine ⟨hs, ?_, fun k hk => .inl ?_⟩
  · rw [open_get]
    cases hx : p.a.getLsbD 9
    · simp
    · have := ha 9 hx; omega
  · rw [open_get] at hk
    have hx : p.a.getLsbD k = true := by cases hx : p.a.getLsbD k <;> simp_all
    rw [hd]; exact get510 (ha k hx).1 (ha k hx).2
theorem bits_filter {x d : BitVec 64} (h : ∀ k, x.getLsbD k = true → d.getLsbD k = true) : (bitsL x).filter (fun k => d.getLsbD k) = bitsL x := by
  rw [List.filter_eq_self]
  intro k hk
  exact h k (bitsL_mem.1 hk).2
theorem deliv_low8 {p : Pi} (hs : p.s = 1) (ha : Low8 p.a) (hd : p.d = 510#64) : delivN 16 p = ({ p with a := p.a &&& ~~~ (p.a &&& ~~~ p.b) }, bitsL (p.a &&& ~~~ p.b), 0) := by
  rw [caught_deliv 16 p (caught_low8 hs ha hd) (cnt_all p), open_low8 ha, bits_filter]
  intro k hk
  rw [BitVec.getLsbD_and] at hk
  have hx : p.a.getLsbD k = true := by cases hx : p.a.getLsbD k <;> simp_all
  rw [hd]; exact get510 (ha k hx).1 (ha k hx).2
theorem bv_self (x : BitVec 64) : x &&& ~~~ x = 0#64 := by
  apply BitVec.eq_of_getLsbD_eq
  intro j hj
  rw [BitVec.getLsbD_and, BitVec.getLsbD_not, BitVec.getLsbD_zero]
  cases x.getLsbD j <;> simp
theorem bv_but (x y : BitVec 64) : x &&& ~~~ (x &&& ~~~ y) = x &&& y := by
  apply BitVec.eq_of_getLsbD_eq
  intro j hj
  simp only [BitVec.getLsbD_and, BitVec.getLsbD_not, decide_eq_true hj, Bool.true_and]
  cases x.getLsbD j <;> cases y.getLsbD j <;> rfl
theorem bv_not0 (x : BitVec 64) : x &&& ~~~ 0#64 = x := by
  apply BitVec.eq_of_getLsbD_eq
  intro j hj
  rw [BitVec.getLsbD_and, BitVec.getLsbD_not, BitVec.getLsbD_zero, decide_eq_true hj]
  simp

/-- a raise of one that is not ignored -/
theorem raise_low {p : Pi} {k : Nat} (h8 : k ≤ 8) (hc : p.c = 0#64) : raiseN p k = { p with a := p.a ||| bitN k } := by
  refine pi_ext (raise_s h8) rfl rfl rfl ?_ rfl rfl rfl rfl
  rw [raise_a h8, if_pos (by rw [hc]; simp)]

/-! stops -/
def stP : Pi := { zeroP with s := 3, d := 510#64 }
def caP : Pi := { zeroP with s := 1, d := 510#64 }
theorem st_raise : delivN 16 (raiseN caP 14) = (stP, [], 0) := by
  have hn : nextN (raiseN caP 14) = 14 := by decide
  have hw : nextW (raiseN caP 14) = 3 := by decide
  rw [deliv_3 hw, hn]; rfl
theorem raise14_a (p : Pi) : (raiseN p 14).a = (p.a ||| bitN 14) &&& ~~~ 32768#64 := by
  show (if p.c.getLsbD 14 = false ∨ 14 = 9 ∨ 14 = 14 then p.a ||| bitN 14 else p.a) &&& ~~~ 32768#64 = _
  rw [if_pos (.inr (.inr rfl))]
theorem raise15_a {p : Pi} (hc : p.c = 0#64) : (raiseN p 15).a = (p.a ||| bitN 15) &&& ~~~ 16384#64 := by
  show (if p.c.getLsbD 15 = false ∨ 15 = 9 ∨ 15 = 14 then p.a ||| bitN 15 else p.a) &&& ~~~ 16384#64 = _
  rw [if_pos (.inl (by rw [hc]; simp))]
theorem st_go {A : BitVec 64} : raiseN (raiseN { stP with a := A } 14) 15 = { caP with a := (((A ||| bitN 14) &&& ~~~ 32768#64) ||| bitN 15) &&& ~~~ 16384#64 } :=
  pi_ext rfl rfl rfl rfl (by rw [raise15_a rfl, raise14_a]) rfl rfl rfl rfl
theorem st_go2 {A : BitVec 64} (h : Low8 A) : (((A ||| bitN 14) &&& ~~~ 32768#64) ||| bitN 15) &&& ~~~ 16384#64 = A ||| bitN 15 := by
  apply BitVec.eq_of_getLsbD_eq
  intro j hj
  simp only [BitVec.getLsbD_and, BitVec.getLsbD_or, BitVec.getLsbD_not, bit_get, decide_eq_true hj, Bool.true_and]
  rw [show (32768#64 : BitVec 64) = bitN 15 from rfl, show (16384#64 : BitVec 64) = bitN 14 from rfl, bit_get, bit_get, decide_eq_true hj]
  cases hx : A.getLsbD j
  · by_cases e : j = 14
    · subst e; decide
    · by_cases e2 : j = 15
      · subst e2; decide
      · simp [e, e2]
  · have := h j hx
    simp [show ¬ j = 14 by omega, show ¬ j = 15 by omega]
theorem st_open {A : BitVec 64} (h : Low8 A) : openP { caP with a := A ||| bitN 15 } = A ||| bitN 15 := by
  apply BitVec.eq_of_getLsbD_eq
  intro j hj
  rw [open_get]
  show (((A ||| bitN 15).getLsbD j && !(0#64 : BitVec 64).getLsbD j) && _) = _
  rw [BitVec.getLsbD_or, bit_get, BitVec.getLsbD_zero]
  cases hx : A.getLsbD j
  · by_cases e2 : j = 15
    · subst e2; decide
    · simp [e2]
  · have := h j hx
    simp [this.1, show j ≤ 15 by omega]
theorem st_deliv {A : BitVec 64} (h : Low8 A) : delivN 16 { caP with a := A ||| bitN 15 } = (caP, bitsL A, 0) := by
  have hC : Caught { caP with a := A ||| bitN 15 } := by
    refine ⟨rfl, ?_, fun k hk => ?_⟩
    · rw [st_open h, BitVec.getLsbD_or, bit_get]
      cases hx : A.getLsbD 9
      · decide
      · have := h 9 hx; omega
    · rw [st_open h, BitVec.getLsbD_or, bit_get] at hk
      cases hx : A.getLsbD k
      · rw [hx] at hk; simp at hk; exact .inr hk.2
      · exact .inl (get510 (h k hx).1 (h k hx).2)
  rw [caught_deliv 16 _ hC (cnt_all _), st_open h]
  have e1 : (A ||| bitN 15) &&& ~~~ (A ||| bitN 15) = 0#64 := bv_self _
  have e2 : (bitsL (A ||| bitN 15)).filter (fun k => (510#64 : BitVec 64).getLsbD k) = bitsL A := by
    unfold bitsL
    rw [List.filter_filter]
    refine List.filter_congr fun j hj => ?_
    rw [BitVec.getLsbD_or, bit_get]
    cases hx : A.getLsbD j
    · by_cases e : j = 15
      · subst e; decide
      · simp [e]
    · rw [get510 (h j hx).1 (h j hx).2]; rfl
  show ({ caP with a := (A ||| bitN 15) &&& ~~~ (A ||| bitN 15) }, (bitsL (A ||| bitN 15)).filter (fun k => (510#64 : BitVec 64).getLsbD k), 0) = _
  rw [e1, e2]; rfl
theorem st_bit {A : BitVec 64} (h : Low8 A) : (A ||| bitN 15).getLsbD 14 = false := by
  rw [BitVec.getLsbD_or, bit_get]
  cases hx : A.getLsbD 14
  · decide
  · have := h 14 hx; omega
theorem st_c : (raiseN caP 14).a = 16384#64 := rfl
end Go.Proofs.YtneeoicjipglkaaDoor.Slot

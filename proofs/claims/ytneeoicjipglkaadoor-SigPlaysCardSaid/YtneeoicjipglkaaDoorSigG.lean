/-
  Signals: trailing zeros; the next one.
-/
import Derived.Test.YtneeoicjipglkaaDoorSigF
namespace Go.Proofs.YtneeoicjipglkaaDoor.Slot
open Go Go.Proofs Go.Proofs.YtneeoicjipglkaaDoor.Fx
set_option maxRecDepth 100000
set_option linter.unusedVariables false
set_option linter.unusedSimpArgs false
set_option maxHeartbeats 4000000

/-- the table's place of a bit -/
def dix (k : Nat) : Nat := (2 ^ k * 285870213051353865) % 18446744073709551616 / 288230376151711744
theorem dix_lt (k : Nat) : dix k < 64 := by unfold dix; omega
/-- the table lies where it lay -/
def TabZ (w : World) : Prop := ∀ k : Nat, 1 ≤ k → k ≤ 15 → w.cell? ⟨1, dix k, none⟩ = some (.int .u8 k)
theorem TabZ.mono {w0 w : World} {L : List (Nat × Obj)} (h : TabZ w0) (H : Hp w0 L w) (hn : ∀ p ∈ L, w0.heap.size ≤ p.1) : TabZ w := fun k h1 h2 => H.cellN (h k h1 h2) hn

theorem u_wrap (x : BitVec 64) : IntKind.u64.wrap (x.toNat : Int) = (x.toNat : Int) := w_u64 (by have := x.isLt; omega)
theorem u_neg (x : BitVec 64) : IntKind.u64.wrap (0 - (x.toNat : Int)) = ((-x).toNat : Int) := by
  have hx := x.isLt
  rw [BitVec.toNat_neg]
  by_cases h : x.toNat = 0
  · rw [h]; rfl
  · show (0 - (x.toNat : Int)) % 18446744073709551616 = _
    omega
theorem u_and (x y : BitVec 64) : bitsOf .and .u64 (x.toNat : Int) (y.toNat : Int) = ((x &&& y).toNat : Int) := by
  show IntKind.u64.wrap ((BitVec.ofInt 64 (x.toNat : Int) &&& BitVec.ofInt 64 (y.toNat : Int)).toNat : Int) = _
  rw [BitVec.ofInt_natCast, BitVec.ofInt_natCast, BitVec.ofNat_toNat, BitVec.ofNat_toNat, BitVec.setWidth_eq, BitVec.setWidth_eq, u_wrap]
theorem u_bit {k : Nat} (h : k ≤ 15) : IntKind.u64.wrap (((bitN k).toNat : Int) * 285870213051353865) = (((2 ^ k * 285870213051353865) % 18446744073709551616 : Nat) : Int) := by
  have : ∀ k : Fin 16, IntKind.u64.wrap (((bitN k.val).toNat : Int) * 285870213051353865) = (((2 ^ k.val * 285870213051353865) % 18446744073709551616 : Nat) : Int) := by decide
  exact this ⟨k, by omega⟩
theorem u_shr {x : Nat} : ((x : Nat) : Int).fdiv (2 ^ (min (58 : Int).toNat IntKind.u64.bits)) = ((x / 288230376151711744 : Nat) : Int) := by
  rw [show (2 : Int) ^ (min (58 : Int).toNat IntKind.u64.bits) = 288230376151711744 from by decide, Int.fdiv_eq_ediv_of_nonneg _ (by decide)]
  omega
theorem low_ne {X : BitVec 64} {k : Nat} (h : IsLow X k) : ¬ (X.toNat : Int) = 0 := by
  intro e
  have : X = 0#64 := BitVec.eq_of_toNat_eq (by simpa using e)
  rw [this] at h
  have := h.1
  simp at this

section
variable {X : BitVec 64} {k : Nat} {w : World}
theorem tz64_ret (h : IsLow X k) (h1 : 1 ≤ k) (h15 : k ≤ 15) (hT : TabZ w) : Ret Tryd.prog 33 #[.int .u64 X.toNat] w fun v w' => v = I k ∧ Hp w [] w' := by
  refine Ret_of_W (args := [_]) Tryd.func33 rfl Tryd.ntmps33 Tryd.results33 (by simp) ?_
  have H := Hp.refl w
  have hd := dix_lt k
  refine W_seq ?_
  refine W_region_l ?_
  refine WL_stepM rfl (R_as) ?_
  refine WL_nil ?_
  refine W_seq ?_
  refine W_seq ?_
  refine W_region_l ?_
  refine WL_stepM rfl (R_mv) ?_
  refine WL_step rfl (R_eq_f rfl rfl (low_ne h)) ?_
  refine WL_nil ?_
  refine W_cond_f rfl ?_
  refine W_skip ?_
  refine W_seq ?_
  refine W_region_l ?_
  refine WL_stepM rfl (R_mv) ?_
  refine WL_stepM rfl (R_mv) ?_
  refine WL_step rfl (R_neg rfl (u_neg X)) ?_
  refine WL_step rfl (R_bits (r := ((bitN k).toNat : Int)) rfl rfl (by simp) ((u_and X (-X)).trans (by rw [low_and h (by omega)]))) ?_
  refine WL_step rfl (R_mul rfl rfl (u_bit h15)) ?_
  refine WL_step rfl (R_shr (r := ((dix k : Nat) : Int)) rfl rfl (by decide) u_shr) ?_
  refine WL_step rfl (R_indexAddrA (off' := dix k) Tryd.underlying69 Tryd.sizeOf5 rfl rfl (by omega) (by omega) (by omega)) ?_
  refine WL_step rfl (R_load_cell Tryd.isAgg5 rfl (H.cellN (hT k h1 h15) (by repeat' first | exact kNil | apply kCons | apply kApp | assumption | exact OwnS.keys (by assumption)))) ?_
  refine WL_step rfl (R_conv_int (r := (k : Int)) Tryd.underlying5 Tryd.underlying3 rfl (w_i64 (by omega))) ?_
  refine WL_stepM rfl (R_as) ?_
  refine WL_nil ?_
  refine W_ret ?_
  exact ⟨_, rfl, rfl, H⟩
theorem tz_ret (h : IsLow X k) (h1 : 1 ≤ k) (h15 : k ≤ 15) (hT : TabZ w) : Ret Tryd.prog 29 #[.int .u64 X.toNat] w fun v w' => v = I k ∧ Hp w [] w' := by
  refine Ret_of_W (args := [_]) Tryd.func29 rfl Tryd.ntmps29 Tryd.results29 (by simp) ?_
  have H := Hp.refl w
  refine W_seq ?_
  refine W_region_l ?_
  refine WL_stepM rfl (R_as) ?_
  refine WL_nil ?_
  refine W_seq ?_
  refine W_cond_f rfl ?_
  refine W_skip ?_
  refine W_seq ?_
  refine W_region_l ?_
  refine WL_stepM rfl (R_mv) ?_
  (refine WL_call rfl (R_call rfl Tryd.call33 rfl) (tz64_ret h h1 h15 (hT.mono H (by repeat' first | exact kNil | apply kCons | apply kApp | assumption | exact OwnS.keys (by assumption)))) ?_; rintro _ w11 ⟨rfl, H1⟩; replace H := H.seq0 H1; clear H1)
  refine WL_stepM rfl (R_as) ?_
  refine WL_nil ?_
  refine W_ret ?_
  exact ⟨_, rfl, rfl, H⟩
end

theorem open_small (p : Pi) : (openP p).toNat < 65536 := by
  have : openP p &&& ~~~ 65534#64 = 0#64 := by unfold openP; exact bv_m6 _ _
  have h2 := bv_lt this
  have : (65534#64 : BitVec 64).toNat = 65534 := rfl
  omega
theorem open_toInt (p : Pi) : (openP p).toInt = ((openP p).toNat : Int) := bv_small (open_small p)
theorem bit9_in (x : BitVec 64) : (x &&& 512#64).toInt = 0 ↔ x.getLsbD 9 = false := bit_in (k := 9) (by decide)

theorem what_cases {p : Pi} {k : Nat} : (p.d.getLsbD k = true ∧ whatN p k = 2) ∨ (p.d.getLsbD k = false ∧ k = 15 ∧ whatN p k = 1) ∨ (p.d.getLsbD k = false ∧ k ≠ 15 ∧ k = 14 ∧ whatN p k = 3) ∨ (p.d.getLsbD k = false ∧ k ≠ 15 ∧ k ≠ 14 ∧ whatN p k = 4) := by
  unfold whatN
  cases h : p.d.getLsbD k
  · by_cases h15 : k = 15
    · simp [h15]
    · by_cases h14 : k = 14
      · simp [h14]
      · simp [h15, h14]
  · simp

theorem sigNext_ret (p : Pi) {w : World} (hT : TabZ w) : Ret Tryd.prog 21 #[vP p] w fun v w' => v = .tuple #[I (nextN p), I (nextW p)] ∧ Hp w [] w' := by
  refine Ret_of_W (args := [_]) Tryd.func21 rfl Tryd.ntmps21 Tryd.results21 (by simp) ?_
  have H := Hp.refl w
  by_cases h0 : ¬ p.s = 1 ∨ openP p = 0#64
  · rw [show nextN p = 0 from nextN_zero.2 h0, show nextW p = 0 from nextW_zero.2 h0]
    by_cases hs : p.s = 1
    · have ho : openP p = 0#64 := by
        rcases h0 with h | h
        · exact (h hs).elim
        · exact h
      refine W_seq ?_
      refine W_region_l ?_
      (refine WL_effn rfl (E_boxP H rfl) ?_; clear H; intro c1 w3 hc1 H)
      refine WL_stepM rfl (R_as) ?_
      refine WL_stepM rfl (R_as) ?_
      refine WL_nil ?_
      refine W_seq ?_
      refine W_region_l ?_
      refine WL_step rfl (R_fieldAddr (off' := 4) Tryd.underlying25 rfl Tryd.sizeOf3 (by decide) rfl rfl) ?_
      refine WL_step rfl (R_load (v := I p.a.toInt) Tryd.isAgg3 rfl (H.get .here) rfl) ?_
      refine WL_step rfl (R_fieldAddr (off' := 5) Tryd.underlying25 rfl Tryd.sizeOf3 (by decide) rfl rfl) ?_
      refine WL_step rfl (R_load (v := I p.b.toInt) Tryd.isAgg3 rfl (H.get .here) rfl) ?_
      refine WL_step rfl (R_bits rfl rfl (by simp) (bv_andNot p.a p.b)) ?_
      refine WL_step rfl (R_bits (r := (openP p).toInt) rfl rfl (by simp) (bv_and _ 65534#64)) ?_
      refine WL_stepM rfl (R_as) ?_
      refine WL_nil ?_
      refine W_seq ?_
      refine W_block ?_
      refine W_seq ?_
      refine W_region_l ?_
      refine WL_step rfl (R_fieldAddr (off' := 0) Tryd.underlying25 rfl Tryd.sizeOf3 (by decide) rfl rfl) ?_
      refine WL_step rfl (R_load (v := I p.s) Tryd.isAgg3 rfl (H.get .here) rfl) ?_
      refine WL_step rfl (R_ne_f rfl rfl hs) ?_
      refine WL_stepM rfl (R_mv) ?_
      refine WL_guard_t rfl rfl ?_
      refine WL_stepM rfl (R_mv) ?_
      refine WL_guard_t rfl rfl ?_
      refine WL_step rfl (R_eq_t rfl rfl (bv_zero.2 ho)) ?_
      refine WL_stepM rfl (R_pk_f rfl) ?_
      refine WL_stepM rfl (R_as) ?_
      refine WL_nil ?_
      refine W_cond_t rfl ?_
      refine W_seq ?_
      refine W_region_l ?_
      refine WL_stepM rfl (R_as) ?_
      refine WL_stepM rfl (R_as) ?_
      refine WL_nil ?_
      refine W_ret ?_
      exact ⟨_, rfl, rfl, H.none (by repeat' first | exact kNil | apply kCons | apply kApp | assumption | exact OwnS.keys (by assumption))⟩
    · refine W_seq ?_
      refine W_region_l ?_
      (refine WL_effn rfl (E_boxP H rfl) ?_; clear H; intro c1 w3 hc1 H)
      refine WL_stepM rfl (R_as) ?_
      refine WL_stepM rfl (R_as) ?_
      refine WL_nil ?_
      refine W_seq ?_
      refine W_region_l ?_
      refine WL_step rfl (R_fieldAddr (off' := 4) Tryd.underlying25 rfl Tryd.sizeOf3 (by decide) rfl rfl) ?_
      refine WL_step rfl (R_load (v := I p.a.toInt) Tryd.isAgg3 rfl (H.get .here) rfl) ?_
      refine WL_step rfl (R_fieldAddr (off' := 5) Tryd.underlying25 rfl Tryd.sizeOf3 (by decide) rfl rfl) ?_
      refine WL_step rfl (R_load (v := I p.b.toInt) Tryd.isAgg3 rfl (H.get .here) rfl) ?_
      refine WL_step rfl (R_bits rfl rfl (by simp) (bv_andNot p.a p.b)) ?_
      refine WL_step rfl (R_bits (r := (openP p).toInt) rfl rfl (by simp) (bv_and _ 65534#64)) ?_
      refine WL_stepM rfl (R_as) ?_
      refine WL_nil ?_
      refine W_seq ?_
      refine W_block ?_
      refine W_seq ?_
      refine W_region_l ?_
      refine WL_step rfl (R_fieldAddr (off' := 0) Tryd.underlying25 rfl Tryd.sizeOf3 (by decide) rfl rfl) ?_
      refine WL_step rfl (R_load (v := I p.s) Tryd.isAgg3 rfl (H.get .here) rfl) ?_
      refine WL_step rfl (R_ne_t rfl rfl hs) ?_
      refine WL_stepM rfl (R_mv) ?_
      refine WL_guard_f rfl rfl (by decide) ?_
      refine WL_guard_f rfl rfl (by decide) ?_
      refine WL_stepM rfl (R_pk_t rfl) ?_
      refine WL_stepM rfl (R_as) ?_
      refine WL_nil ?_
      refine W_cond_t rfl ?_
      refine W_seq ?_
      refine W_region_l ?_
      refine WL_stepM rfl (R_as) ?_
      refine WL_stepM rfl (R_as) ?_
      refine WL_nil ?_
      refine W_ret ?_
      exact ⟨_, rfl, rfl, H.none (by repeat' first | exact kNil | apply kCons | apply kApp | assumption | exact OwnS.keys (by assumption))⟩
  · have hs : p.s = 1 := Classical.not_not.1 fun h => h0 (.inl h)
    have ho : ¬ openP p = 0#64 := fun h => h0 (.inr h)
    have hb := nextN_bits h0
    have hw : nextW p = whatN p (nextN p) := if_neg h0
    rw [hw]
    by_cases h9 : (openP p).getLsbD 9 = true
    · have hk : nextN p = 9 := by unfold nextN; rw [if_neg h0, if_pos h9]
      rw [hk] at hb ⊢
      have hwk := what_cases (p := p) (k := 9)
      refine W_seq ?_
      refine W_region_l ?_
      (refine WL_effn rfl (E_boxP H rfl) ?_; clear H; intro c1 w3 hc1 H)
      refine WL_stepM rfl (R_as) ?_
      refine WL_stepM rfl (R_as) ?_
      refine WL_nil ?_
      refine W_seq ?_
      refine W_region_l ?_
      refine WL_step rfl (R_fieldAddr (off' := 4) Tryd.underlying25 rfl Tryd.sizeOf3 (by decide) rfl rfl) ?_
      refine WL_step rfl (R_load (v := I p.a.toInt) Tryd.isAgg3 rfl (H.get .here) rfl) ?_
      refine WL_step rfl (R_fieldAddr (off' := 5) Tryd.underlying25 rfl Tryd.sizeOf3 (by decide) rfl rfl) ?_
      refine WL_step rfl (R_load (v := I p.b.toInt) Tryd.isAgg3 rfl (H.get .here) rfl) ?_
      refine WL_step rfl (R_bits rfl rfl (by simp) (bv_andNot p.a p.b)) ?_
      refine WL_step rfl (R_bits (r := (openP p).toInt) rfl rfl (by simp) (bv_and _ 65534#64)) ?_
      refine WL_stepM rfl (R_as) ?_
      refine WL_nil ?_
      refine W_seq ?_
      refine W_block ?_
      refine W_seq ?_
      refine W_region_l ?_
      refine WL_step rfl (R_fieldAddr (off' := 0) Tryd.underlying25 rfl Tryd.sizeOf3 (by decide) rfl rfl) ?_
      refine WL_step rfl (R_load (v := I p.s) Tryd.isAgg3 rfl (H.get .here) rfl) ?_
      refine WL_step rfl (R_ne_f rfl rfl hs) ?_
      refine WL_stepM rfl (R_mv) ?_
      refine WL_guard_t rfl rfl ?_
      refine WL_stepM rfl (R_mv) ?_
      refine WL_guard_t rfl rfl ?_
      refine WL_step rfl (R_eq_f rfl rfl (fun h => ho (bv_zero.1 h))) ?_
      refine WL_stepM rfl (R_pk_f rfl) ?_
      refine WL_stepM rfl (R_as) ?_
      refine WL_nil ?_
      refine W_cond_f rfl ?_
      refine W_seq ?_
      refine W_region_l ?_
      refine WL_stepM rfl (R_mv) ?_
      refine WL_step rfl (R_bits rfl rfl (by simp) (bv_and _ 512#64)) ?_
      refine WL_step rfl (R_ne_t rfl rfl (fun h => by rw [(bit9_in _).1 h] at h9; cases h9)) ?_
      refine WL_stepM rfl (R_as) ?_
      refine WL_nil ?_
      refine W_cond_t rfl ?_
      refine W_region_l ?_
      refine WL_stepM rfl (R_as) ?_
      refine WL_nil ?_
      refine W_seq ?_
      ((rcases hwk with ⟨hcb, hw4⟩ | ⟨hcb, hk5, hw4⟩ | ⟨hcb, hk5, hk4, hw4⟩ | ⟨hcb, hk5, hk4, hw4⟩ <;> rw [hw4])) <;> refine W_region_l ?_
      · refine WL_step rfl (R_fieldAddr (off' := 7) Tryd.underlying25 rfl Tryd.sizeOf3 (by decide) rfl rfl) ?_
        refine WL_step rfl (R_load (v := I p.d.toInt) Tryd.isAgg3 rfl (H.get .here) rfl) ?_
        refine WL_stepM rfl (R_mv) ?_
        refine WL_step rfl (R_conv_int (r := 9) Tryd.underlying3 Tryd.underlying31 rfl (by decide)) ?_
        refine WL_step rfl (R_shr (r := p.d.toInt / ((2 ^ 9 : Nat) : Int)) rfl rfl (by decide) (shr_k (k := 9) (by decide))) ?_
        refine WL_step rfl (R_bits (r := 1) rfl rfl (by simp) ((and_mask_i64 1 2 (by decide) rfl (by decide)).trans (by rw [bit_shr (by decide), hcb]; rfl))) ?_
        refine WL_step rfl (R_eq_t rfl rfl (by omega)) ?_
        refine WL_stepM rfl (R_as) ?_
        refine WL_nil ?_
        refine W_seq ?_
        refine W_block ?_
        refine W_seq ?_
        refine W_region_l ?_
        refine WL_stepM rfl (R_mv) ?_
        refine WL_stepM rfl (R_as) ?_
        refine WL_nil ?_
        refine W_cond_t rfl ?_
        refine W_seq ?_
        refine W_region_l ?_
        refine WL_stepM rfl (R_mv) ?_
        refine WL_stepM rfl (R_as) ?_
        refine WL_stepM rfl (R_as) ?_
        refine WL_nil ?_
        refine W_ret ?_
        exact ⟨_, rfl, rfl, H.none (by repeat' first | exact kNil | apply kCons | apply kApp | assumption | exact OwnS.keys (by assumption))⟩
      · refine WL_step rfl (R_fieldAddr (off' := 7) Tryd.underlying25 rfl Tryd.sizeOf3 (by decide) rfl rfl) ?_
        refine WL_step rfl (R_load (v := I p.d.toInt) Tryd.isAgg3 rfl (H.get .here) rfl) ?_
        refine WL_stepM rfl (R_mv) ?_
        refine WL_step rfl (R_conv_int (r := 9) Tryd.underlying3 Tryd.underlying31 rfl (by decide)) ?_
        refine WL_step rfl (R_shr (r := p.d.toInt / ((2 ^ 9 : Nat) : Int)) rfl rfl (by decide) (shr_k (k := 9) (by decide))) ?_
        refine WL_step rfl (R_bits (r := 0) rfl rfl (by simp) ((and_mask_i64 1 2 (by decide) rfl (by decide)).trans (by rw [bit_shr (by decide), hcb]; rfl))) ?_
        refine WL_step rfl (R_eq_t rfl rfl (by omega)) ?_
        refine WL_stepM rfl (R_as) ?_
        refine WL_nil ?_
        refine W_seq ?_
        refine W_block ?_
        refine W_seq ?_
        refine W_region_l ?_
        refine WL_stepM rfl (R_mv) ?_
        refine WL_stepM rfl (R_as) ?_
        refine WL_nil ?_
        refine W_cond_t rfl ?_
        refine W_seq ?_
        refine W_region_l ?_
        refine WL_stepM rfl (R_mv) ?_
        refine WL_stepM rfl (R_as) ?_
        refine WL_stepM rfl (R_as) ?_
        refine WL_nil ?_
        refine W_ret ?_
        exact (by omega : False).elim
      · refine WL_step rfl (R_fieldAddr (off' := 7) Tryd.underlying25 rfl Tryd.sizeOf3 (by decide) rfl rfl) ?_
        refine WL_step rfl (R_load (v := I p.d.toInt) Tryd.isAgg3 rfl (H.get .here) rfl) ?_
        refine WL_stepM rfl (R_mv) ?_
        refine WL_step rfl (R_conv_int (r := 9) Tryd.underlying3 Tryd.underlying31 rfl (by decide)) ?_
        refine WL_step rfl (R_shr (r := p.d.toInt / ((2 ^ 9 : Nat) : Int)) rfl rfl (by decide) (shr_k (k := 9) (by decide))) ?_
        refine WL_step rfl (R_bits (r := 0) rfl rfl (by simp) ((and_mask_i64 1 2 (by decide) rfl (by decide)).trans (by rw [bit_shr (by decide), hcb]; rfl))) ?_
        refine WL_step rfl (R_eq_t rfl rfl (by omega)) ?_
        refine WL_stepM rfl (R_as) ?_
        refine WL_nil ?_
        refine W_seq ?_
        refine W_block ?_
        refine W_seq ?_
        refine W_region_l ?_
        refine WL_stepM rfl (R_mv) ?_
        refine WL_stepM rfl (R_as) ?_
        refine WL_nil ?_
        refine W_cond_t rfl ?_
        refine W_seq ?_
        refine W_region_l ?_
        refine WL_stepM rfl (R_mv) ?_
        refine WL_stepM rfl (R_as) ?_
        refine WL_stepM rfl (R_as) ?_
        refine WL_nil ?_
        refine W_ret ?_
        exact (by omega : False).elim
      · refine WL_step rfl (R_fieldAddr (off' := 7) Tryd.underlying25 rfl Tryd.sizeOf3 (by decide) rfl rfl) ?_
        refine WL_step rfl (R_load (v := I p.d.toInt) Tryd.isAgg3 rfl (H.get .here) rfl) ?_
        refine WL_stepM rfl (R_mv) ?_
        refine WL_step rfl (R_conv_int (r := 9) Tryd.underlying3 Tryd.underlying31 rfl (by decide)) ?_
        refine WL_step rfl (R_shr (r := p.d.toInt / ((2 ^ 9 : Nat) : Int)) rfl rfl (by decide) (shr_k (k := 9) (by decide))) ?_
        refine WL_step rfl (R_bits (r := 0) rfl rfl (by simp) ((and_mask_i64 1 2 (by decide) rfl (by decide)).trans (by rw [bit_shr (by decide), hcb]; rfl))) ?_
        refine WL_step rfl (R_eq_f rfl rfl (by omega)) ?_
        refine WL_stepM rfl (R_as) ?_
        refine WL_nil ?_
        refine W_seq ?_
        refine W_block ?_
        refine W_seq ?_
        refine W_region_l ?_
        refine WL_stepM rfl (R_mv) ?_
        refine WL_stepM rfl (R_as) ?_
        refine WL_nil ?_
        refine W_cond_f rfl ?_
        refine W_seq ?_
        refine W_region_l ?_
        refine WL_stepM rfl (R_mv) ?_
        refine WL_step rfl (R_eq_f rfl rfl (by omega)) ?_
        refine WL_stepM rfl (R_as) ?_
        refine WL_nil ?_
        refine W_cond_f rfl ?_
        refine W_seq ?_
        refine W_region_l ?_
        refine WL_stepM rfl (R_mv) ?_
        refine WL_step rfl (R_eq_f rfl rfl (by omega)) ?_
        refine WL_stepM rfl (R_as) ?_
        refine WL_nil ?_
        refine W_cond_f rfl ?_
        refine W_skip ?_
        refine W_seq ?_
        refine W_region_l ?_
        refine WL_stepM rfl (R_mv) ?_
        refine WL_stepM rfl (R_as) ?_
        refine WL_stepM rfl (R_as) ?_
        refine WL_nil ?_
        refine W_ret ?_
        exact ⟨_, rfl, rfl, H.none (by repeat' first | exact kNil | apply kCons | apply kApp | assumption | exact OwnS.keys (by assumption))⟩
    · have hk : nextN p = lowFrom (openP p) 15 1 := by unfold nextN; rw [if_neg h0, if_neg h9]
      have hl := open_low ho
      rw [← hk] at hl
      obtain ⟨k, hk2⟩ : ∃ k, nextN p = k := ⟨_, rfl⟩
      rw [hk2] at hb hl ⊢
      have hwk := what_cases (p := p) (k := k)
      have h15 : k ≤ 15 := hb.2.1
      refine W_seq ?_
      refine W_region_l ?_
      (refine WL_effn rfl (E_boxP H rfl) ?_; clear H; intro c1 w3 hc1 H)
      refine WL_stepM rfl (R_as) ?_
      refine WL_stepM rfl (R_as) ?_
      refine WL_nil ?_
      refine W_seq ?_
      refine W_region_l ?_
      refine WL_step rfl (R_fieldAddr (off' := 4) Tryd.underlying25 rfl Tryd.sizeOf3 (by decide) rfl rfl) ?_
      refine WL_step rfl (R_load (v := I p.a.toInt) Tryd.isAgg3 rfl (H.get .here) rfl) ?_
      refine WL_step rfl (R_fieldAddr (off' := 5) Tryd.underlying25 rfl Tryd.sizeOf3 (by decide) rfl rfl) ?_
      refine WL_step rfl (R_load (v := I p.b.toInt) Tryd.isAgg3 rfl (H.get .here) rfl) ?_
      refine WL_step rfl (R_bits rfl rfl (by simp) (bv_andNot p.a p.b)) ?_
      refine WL_step rfl (R_bits (r := (openP p).toInt) rfl rfl (by simp) (bv_and _ 65534#64)) ?_
      refine WL_stepM rfl (R_as) ?_
      refine WL_nil ?_
      refine W_seq ?_
      refine W_block ?_
      refine W_seq ?_
      refine W_region_l ?_
      refine WL_step rfl (R_fieldAddr (off' := 0) Tryd.underlying25 rfl Tryd.sizeOf3 (by decide) rfl rfl) ?_
      refine WL_step rfl (R_load (v := I p.s) Tryd.isAgg3 rfl (H.get .here) rfl) ?_
      refine WL_step rfl (R_ne_f rfl rfl hs) ?_
      refine WL_stepM rfl (R_mv) ?_
      refine WL_guard_t rfl rfl ?_
      refine WL_stepM rfl (R_mv) ?_
      refine WL_guard_t rfl rfl ?_
      refine WL_step rfl (R_eq_f rfl rfl (fun h => ho (bv_zero.1 h))) ?_
      refine WL_stepM rfl (R_pk_f rfl) ?_
      refine WL_stepM rfl (R_as) ?_
      refine WL_nil ?_
      refine W_cond_f rfl ?_
      refine W_seq ?_
      refine W_region_l ?_
      refine WL_stepM rfl (R_mv) ?_
      refine WL_step rfl (R_bits rfl rfl (by simp) (bv_and _ 512#64)) ?_
      refine WL_step rfl (R_ne_f rfl rfl ((bit9_in _).2 (by simpa using h9))) ?_
      refine WL_stepM rfl (R_as) ?_
      refine WL_nil ?_
      refine W_cond_f rfl ?_
      refine W_region_l ?_
      refine WL_stepM rfl (R_mv) ?_
      refine WL_step rfl (R_conv_int (r := ((openP p).toNat : Int)) Tryd.underlying3 Tryd.underlying31 rfl (by rw [open_toInt]; exact u_wrap _)) ?_
      (refine WL_call rfl (R_call rfl Tryd.call29 rfl) (tz_ret hl.1 hl.2.1 hl.2.2 (hT.mono H (by repeat' first | exact kNil | apply kCons | apply kApp | assumption | exact OwnS.keys (by assumption)))) ?_; rintro _ w44 ⟨rfl, H1⟩; replace H := H.seq0 H1; clear H1)
      refine WL_stepM rfl (R_as) ?_
      refine WL_nil ?_
      refine W_seq ?_
      ((rcases hwk with ⟨hcb, hw4⟩ | ⟨hcb, hk5, hw4⟩ | ⟨hcb, hk5, hk4, hw4⟩ | ⟨hcb, hk5, hk4, hw4⟩ <;> rw [hw4])) <;> refine W_region_l ?_
      · refine WL_step rfl (R_fieldAddr (off' := 7) Tryd.underlying25 rfl Tryd.sizeOf3 (by decide) rfl rfl) ?_
        refine WL_step rfl (R_load (v := I p.d.toInt) Tryd.isAgg3 rfl (H.get .here) rfl) ?_
        refine WL_stepM rfl (R_mv) ?_
        refine WL_step rfl (R_conv_int Tryd.underlying3 Tryd.underlying31 rfl (w_u64 (by omega))) ?_
        refine WL_step rfl (R_shr (r := p.d.toInt / ((2 ^ k : Nat) : Int)) rfl rfl (by omega) (shr_k h15)) ?_
        refine WL_step rfl (R_bits (r := 1) rfl rfl (by simp) ((and_mask_i64 1 2 (by decide) rfl (by decide)).trans (by rw [bit_shr h15, hcb]; rfl))) ?_
        refine WL_step rfl (R_eq_t rfl rfl (by omega)) ?_
        refine WL_stepM rfl (R_as) ?_
        refine WL_nil ?_
        refine W_seq ?_
        refine W_block ?_
        refine W_seq ?_
        refine W_region_l ?_
        refine WL_stepM rfl (R_mv) ?_
        refine WL_stepM rfl (R_as) ?_
        refine WL_nil ?_
        refine W_cond_t rfl ?_
        refine W_seq ?_
        refine W_region_l ?_
        refine WL_stepM rfl (R_mv) ?_
        refine WL_stepM rfl (R_as) ?_
        refine WL_stepM rfl (R_as) ?_
        refine WL_nil ?_
        refine W_ret ?_
        exact ⟨_, rfl, rfl, H.none (by repeat' first | exact kNil | apply kCons | apply kApp | assumption | exact OwnS.keys (by assumption))⟩
      · refine WL_step rfl (R_fieldAddr (off' := 7) Tryd.underlying25 rfl Tryd.sizeOf3 (by decide) rfl rfl) ?_
        refine WL_step rfl (R_load (v := I p.d.toInt) Tryd.isAgg3 rfl (H.get .here) rfl) ?_
        refine WL_stepM rfl (R_mv) ?_
        refine WL_step rfl (R_conv_int Tryd.underlying3 Tryd.underlying31 rfl (w_u64 (by omega))) ?_
        refine WL_step rfl (R_shr (r := p.d.toInt / ((2 ^ k : Nat) : Int)) rfl rfl (by omega) (shr_k h15)) ?_
        refine WL_step rfl (R_bits (r := 0) rfl rfl (by simp) ((and_mask_i64 1 2 (by decide) rfl (by decide)).trans (by rw [bit_shr h15, hcb]; rfl))) ?_
        refine WL_step rfl (R_eq_f rfl rfl (by omega)) ?_
        refine WL_stepM rfl (R_as) ?_
        refine WL_nil ?_
        refine W_seq ?_
        refine W_block ?_
        refine W_seq ?_
        refine W_region_l ?_
        refine WL_stepM rfl (R_mv) ?_
        refine WL_stepM rfl (R_as) ?_
        refine WL_nil ?_
        refine W_cond_f rfl ?_
        refine W_seq ?_
        refine W_region_l ?_
        refine WL_stepM rfl (R_mv) ?_
        refine WL_step rfl (R_eq_t rfl rfl (by omega)) ?_
        refine WL_stepM rfl (R_as) ?_
        refine WL_nil ?_
        refine W_cond_t rfl ?_
        refine W_seq ?_
        refine W_region_l ?_
        refine WL_stepM rfl (R_mv) ?_
        refine WL_stepM rfl (R_as) ?_
        refine WL_stepM rfl (R_as) ?_
        refine WL_nil ?_
        refine W_ret ?_
        exact ⟨_, rfl, rfl, H.none (by repeat' first | exact kNil | apply kCons | apply kApp | assumption | exact OwnS.keys (by assumption))⟩
      · refine WL_step rfl (R_fieldAddr (off' := 7) Tryd.underlying25 rfl Tryd.sizeOf3 (by decide) rfl rfl) ?_
        refine WL_step rfl (R_load (v := I p.d.toInt) Tryd.isAgg3 rfl (H.get .here) rfl) ?_
        refine WL_stepM rfl (R_mv) ?_
        refine WL_step rfl (R_conv_int Tryd.underlying3 Tryd.underlying31 rfl (w_u64 (by omega))) ?_
        refine WL_step rfl (R_shr (r := p.d.toInt / ((2 ^ k : Nat) : Int)) rfl rfl (by omega) (shr_k h15)) ?_
        refine WL_step rfl (R_bits (r := 0) rfl rfl (by simp) ((and_mask_i64 1 2 (by decide) rfl (by decide)).trans (by rw [bit_shr h15, hcb]; rfl))) ?_
        refine WL_step rfl (R_eq_f rfl rfl (by omega)) ?_
        refine WL_stepM rfl (R_as) ?_
        refine WL_nil ?_
        refine W_seq ?_
        refine W_block ?_
        refine W_seq ?_
        refine W_region_l ?_
        refine WL_stepM rfl (R_mv) ?_
        refine WL_stepM rfl (R_as) ?_
        refine WL_nil ?_
        refine W_cond_f rfl ?_
        refine W_seq ?_
        refine W_region_l ?_
        refine WL_stepM rfl (R_mv) ?_
        refine WL_step rfl (R_eq_f rfl rfl (by omega)) ?_
        refine WL_stepM rfl (R_as) ?_
        refine WL_nil ?_
        refine W_cond_f rfl ?_
        refine W_seq ?_
        refine W_region_l ?_
        refine WL_stepM rfl (R_mv) ?_
        refine WL_step rfl (R_eq_t rfl rfl (by omega)) ?_
        refine WL_stepM rfl (R_as) ?_
        refine WL_nil ?_
        refine W_cond_t rfl ?_
        refine W_seq ?_
        refine W_region_l ?_
        refine WL_stepM rfl (R_mv) ?_
        refine WL_stepM rfl (R_as) ?_
        refine WL_stepM rfl (R_as) ?_
        refine WL_nil ?_
        refine W_ret ?_
        exact ⟨_, rfl, rfl, H.none (by repeat' first | exact kNil | apply kCons | apply kApp | assumption | exact OwnS.keys (by assumption))⟩
      · refine WL_step rfl (R_fieldAddr (off' := 7) Tryd.underlying25 rfl Tryd.sizeOf3 (by decide) rfl rfl) ?_
        refine WL_step rfl (R_load (v := I p.d.toInt) Tryd.isAgg3 rfl (H.get .here) rfl) ?_
        refine WL_stepM rfl (R_mv) ?_
        refine WL_step rfl (R_conv_int Tryd.underlying3 Tryd.underlying31 rfl (w_u64 (by omega))) ?_
        refine WL_step rfl (R_shr (r := p.d.toInt / ((2 ^ k : Nat) : Int)) rfl rfl (by omega) (shr_k h15)) ?_
        refine WL_step rfl (R_bits (r := 0) rfl rfl (by simp) ((and_mask_i64 1 2 (by decide) rfl (by decide)).trans (by rw [bit_shr h15, hcb]; rfl))) ?_
        refine WL_step rfl (R_eq_f rfl rfl (by omega)) ?_
        refine WL_stepM rfl (R_as) ?_
        refine WL_nil ?_
        refine W_seq ?_
        refine W_block ?_
        refine W_seq ?_
        refine W_region_l ?_
        refine WL_stepM rfl (R_mv) ?_
        refine WL_stepM rfl (R_as) ?_
        refine WL_nil ?_
        refine W_cond_f rfl ?_
        refine W_seq ?_
        refine W_region_l ?_
        refine WL_stepM rfl (R_mv) ?_
        refine WL_step rfl (R_eq_f rfl rfl (by omega)) ?_
        refine WL_stepM rfl (R_as) ?_
        refine WL_nil ?_
        refine W_cond_f rfl ?_
        refine W_seq ?_
        refine W_region_l ?_
        refine WL_stepM rfl (R_mv) ?_
        refine WL_step rfl (R_eq_f rfl rfl (by omega)) ?_
        refine WL_stepM rfl (R_as) ?_
        refine WL_nil ?_
        refine W_cond_f rfl ?_
        refine W_skip ?_
        refine W_seq ?_
        refine W_region_l ?_
        refine WL_stepM rfl (R_mv) ?_
        refine WL_stepM rfl (R_as) ?_
        refine WL_stepM rfl (R_as) ?_
        refine WL_nil ?_
        refine W_ret ?_
        exact ⟨_, rfl, rfl, H.none (by repeat' first | exact kNil | apply kCons | apply kApp | assumption | exact OwnS.keys (by assumption))⟩
end Go.Proofs.YtneeoicjipglkaaDoor.Slot

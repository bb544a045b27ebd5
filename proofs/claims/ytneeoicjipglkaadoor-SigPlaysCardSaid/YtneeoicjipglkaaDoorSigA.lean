/-
  Signals: which numbers are; the mask.
-/
import Derived.Test.YtneeoicjipglkaaDoorProcJ
namespace Go.Proofs.YtneeoicjipglkaaDoor.Slot
open Go Go.Proofs Go.Proofs.YtneeoicjipglkaaDoor.Fx
set_option maxRecDepth 100000
set_option linter.unusedVariables false
set_option linter.unusedSimpArgs false
set_option maxHeartbeats 2000000

theorem is_ret (n : Int) (w : World) : Ret Tryd.prog 26 #[I n] w fun v w' => v = .bool (decide (1 ≤ n ∧ n ≤ 15)) ∧ Hp w [] w' := by
  refine Ret_of_W (args := [_]) Tryd.func26 rfl Tryd.ntmps26 Tryd.results26 (by simp) ?_
  have H := Hp.refl w
  refine W_seq ?_
  refine W_region_l ?_
  refine WL_stepM rfl (R_as) ?_
  refine WL_nil ?_
  refine W_seq ?_
  refine W_region_l ?_
  refine WL_stepM rfl (R_mv) ?_
  refine WL_step rfl (R_ge rfl rfl) ?_
  refine WL_stepM rfl (R_mv) ?_
  apply WL_andK 3 5 8 [(6, 8)] H
  case hc => rfl
  case h1 =>
    intro h10
    refine WL_guard_t rfl rfl ?_
    refine WL_stepM rfl (R_mv) ?_
    refine WL_guard_t rfl rfl ?_
    refine WL_step rfl (R_le rfl rfl) ?_
    refine WL_stepM rfl (R_pk_t rfl) ?_
    refine WL_nil ?_
    exact ⟨(same_mov rfl (same_updo rfl (same_mov rfl Same.refl))), rfl, H⟩
  case h0 =>
    intro h10
    refine WL_guard_f rfl rfl (by decide) ?_
    refine WL_guard_f rfl rfl (by decide) ?_
    refine WL_stepM rfl (R_pk_f rfl) ?_
    refine WL_nil ?_
    exact ⟨(same_mov rfl (same_updo rfl (same_updo rfl Same.refl))), rfl, H⟩
  case h2 =>
    (clear H; intro E10 w10 H)
    refine WL_stepM rfl (R_as) ?_
    refine WL_nil ?_
    refine W_ret ?_
    exact ⟨_, rfl, congrArg Value.bool (decide_eq_decide.2 (by omega)), H⟩
theorem in_ret (n lo hi : Int) (w : World) : Ret Tryd.prog 28 #[I n, I lo, I hi] w fun v w' => v = .bool (decide (lo ≤ n ∧ n ≤ hi)) ∧ Hp w [] w' := by
  refine Ret_of_W (args := [_, _, _]) Tryd.func28 rfl Tryd.ntmps28 Tryd.results28 (by simp) ?_
  have H := Hp.refl w
  refine W_seq ?_
  refine W_region_l ?_
  refine WL_stepM rfl (R_as) ?_
  refine WL_nil ?_
  refine W_seq ?_
  refine W_region_l ?_
  refine WL_stepM rfl (R_mv) ?_
  refine WL_stepM rfl (R_mv) ?_
  refine WL_step rfl (R_ge rfl rfl) ?_
  refine WL_stepM rfl (R_mv) ?_
  apply WL_andK 4 10 14 [(11, 14)] H
  case hc => rfl
  case h1 =>
    intro h11
    refine WL_guard_t rfl rfl ?_
    refine WL_stepM rfl (R_mv) ?_
    refine WL_guard_t rfl rfl ?_
    refine WL_stepM rfl (R_mv) ?_
    refine WL_guard_t rfl rfl ?_
    refine WL_step rfl (R_le rfl rfl) ?_
    refine WL_stepM rfl (R_pk_t rfl) ?_
    refine WL_nil ?_
    exact ⟨(same_mov rfl (same_updo rfl (same_mov rfl (same_mov rfl Same.refl)))), rfl, H⟩
  case h0 =>
    intro h11
    refine WL_guard_f rfl rfl (by decide) ?_
    refine WL_guard_f rfl rfl (by decide) ?_
    refine WL_guard_f rfl rfl (by decide) ?_
    refine WL_stepM rfl (R_pk_f rfl) ?_
    refine WL_nil ?_
    exact ⟨(same_mov rfl (same_updo rfl (same_updo rfl (same_updo rfl Same.refl)))), rfl, H⟩
  case h2 =>
    (clear H; intro E11 w11 H)
    refine WL_stepM rfl (R_as) ?_
    refine WL_nil ?_
    refine W_ret ?_
    exact ⟨_, rfl, congrArg Value.bool (decide_eq_decide.2 (by omega)), H⟩

/-- the mask turned: what is, what was, what the call says -/
def maskP (p : Pi) (m : Int) : Pi × Int × Int := if m < 0 ∨ 65535 < m then (zeroP, 0, 122) else ({ p with b := (BitVec.ofInt 64 m &&& 65534#64) &&& ~~~ 16896#64 }, p.b.toInt, 0)
theorem mask_ret (p : Pi) (m : Int) (w : World) : Ret Tryd.prog 19 #[vP p, I m] w fun v w' => v = .tuple #[vP (maskP p m).1, I (maskP p m).2.1, I (maskP p m).2.2] ∧ Hp w [] w' := by
  refine Ret_of_WC (args := [_, _]) Tryd.func19 rfl Tryd.ntmps19 Tryd.results19 (by simp) ?_
  have H := Hp.refl w
  by_cases hm : m < 0 ∨ 65535 < m
  · rw [show maskP p m = (zeroP, 0, 122) from if_pos hm]
    refine W_seq ?_
    refine W_region_l ?_
    (refine WL_effn rfl (E_boxP H rfl) ?_; clear H; intro c2 w3 hc2 H)
    (refine WL_effn rfl (E_allocP H) ?_; clear H; intro c4 w4 hc4 H)
    refine WL_stepM rfl (R_as) ?_
    refine WL_stepM rfl (R_as) ?_
    refine WL_nil ?_
    refine W_seq ?_
    refine W_seq ?_
    refine W_region_l ?_
    refine WL_stepM rfl (R_mv) ?_
    refine WL_step rfl (R_lt rfl rfl) ?_
    refine WL_stepM rfl (R_mv) ?_
    apply WL_orK 3 10 13 [(11, 13)] H
    case hc => rfl
    case h1 =>
      intro h14
      refine WL_guard_t rfl rfl ?_
      refine WL_stepM rfl (R_mv) ?_
      refine WL_guard_t rfl rfl ?_
      refine WL_step rfl (R_gt rfl rfl) ?_
      refine WL_stepM rfl (R_pk_f rfl) ?_
      refine WL_nil ?_
      exact ⟨(same_mov rfl (same_updo rfl (same_mov rfl Same.refl))), rfl, H⟩
    case h0 =>
      intro h14
      refine WL_guard_f rfl rfl (by decide) ?_
      refine WL_guard_f rfl rfl (by decide) ?_
      refine WL_stepM rfl (R_pk_t rfl) ?_
      refine WL_nil ?_
      exact ⟨(same_mov rfl (same_updo rfl (same_updo rfl Same.refl))), rfl, H⟩
    case h2 =>
      (clear H; intro E14 w14 H)
      refine WL_nil ?_
      refine W_if rfl (fun h28 => ?_) (fun h28 => ?_)
      · refine W_seq ?_
        refine W_region_l ?_
        refine WL_step rfl R_zeroP ?_
        (refine WL_effu rfl (E_storeP (q := zeroP) H rfl rfl .here) ?_; clear H; intro w32 H)
        refine WL_stepM rfl (R_as) ?_
        refine WL_stepM rfl (R_as) ?_
        refine WL_nil ?_
        refine W_ret ?_
        exact ⟨_, ⟨_, _, rfl, ldP (p := zeroP) (H.get .here), rfl⟩, rfl, H.none (by repeat' first | exact kNil | apply kCons | apply kApp | assumption | exact OwnS.keys (by assumption))⟩
      · refine W_skip ?_
        refine W_seq ?_
        (exact (by omega : False).elim) <;> refine W_region_l ?_
  · rw [show maskP p m = ({ p with b := (BitVec.ofInt 64 m &&& 65534#64) &&& ~~~ 16896#64 }, p.b.toInt, 0) from if_neg hm]
    have hmm : m = (BitVec.ofInt 64 m).toInt := (bv_of (by omega) (by omega)).symm
    obtain ⟨x, hx⟩ : ∃ x, BitVec.ofInt 64 m = x := ⟨_, rfl⟩
    rw [hx] at hmm
    rw [hx]
    subst hmm
    refine W_seq ?_
    refine W_region_l ?_
    (refine WL_effn rfl (E_boxP H rfl) ?_; clear H; intro c2 w3 hc2 H)
    (refine WL_effn rfl (E_allocP H) ?_; clear H; intro c4 w4 hc4 H)
    refine WL_stepM rfl (R_as) ?_
    refine WL_stepM rfl (R_as) ?_
    refine WL_nil ?_
    refine W_seq ?_
    refine W_seq ?_
    refine W_region_l ?_
    refine WL_stepM rfl (R_mv) ?_
    refine WL_step rfl (R_lt_f rfl rfl (by omega)) ?_
    refine WL_stepM rfl (R_mv) ?_
    refine WL_guard_t rfl rfl ?_
    refine WL_stepM rfl (R_mv) ?_
    refine WL_guard_t rfl rfl ?_
    refine WL_step rfl (R_gt_f rfl rfl (by omega)) ?_
    refine WL_stepM rfl (R_pk_f rfl) ?_
    refine WL_nil ?_
    refine W_cond_f rfl ?_
    refine W_skip ?_
    refine W_seq ?_
    refine W_region_l ?_
    refine WL_step rfl (R_fieldAddr (off' := 5) Tryd.underlying25 rfl Tryd.sizeOf3 (by decide) rfl rfl) ?_
    refine WL_step rfl (R_load (v := I p.b.toInt) Tryd.isAgg3 rfl (H.get (.there .here)) rfl) ?_
    refine WL_stepM rfl (R_as) ?_
    refine WL_nil ?_
    refine W_seq ?_
    refine W_region_l ?_
    refine WL_stepM rfl (R_mv) ?_
    refine WL_step rfl (R_bits rfl rfl (by simp) (bv_and x 65534#64)) ?_
    refine WL_step rfl (R_bits rfl rfl (by simp) (bv_andNot (x &&& 65534#64) 16896#64)) ?_
    refine WL_step rfl (R_fieldAddr (off' := 5) Tryd.underlying25 rfl Tryd.sizeOf3 (by decide) rfl rfl) ?_
    (refine WL_effu rfl (E_store (v := I ((x &&& 65534#64) &&& ~~~ 16896#64).toInt) H Tryd.sizeOf3 rfl rfl rfl (.there .here) (by rw [piC_len]; omega)) ?_; clear H; intro w34 H; rw [set_b] at H)
    refine WL_nil ?_
    refine W_seq ?_
    refine W_region_l ?_
    refine WL_step rfl (R_loadP rfl (H.get (.there .here))) ?_
    refine WL_stepM rfl (R_mv) ?_
    (refine WL_effu rfl (E_storeP (q := { p with b := (x &&& 65534#64) &&& ~~~ 16896#64 }) H rfl rfl .here) ?_; clear H; intro w40 H)
    refine WL_stepM rfl (R_as) ?_
    refine WL_stepM rfl (R_as) ?_
    refine WL_nil ?_
    refine W_ret ?_
    exact ⟨_, ⟨_, _, rfl, ldP (p := { p with b := (x &&& 65534#64) &&& ~~~ 16896#64 }) (H.get .here), rfl⟩, rfl, H.none (by repeat' first | exact kNil | apply kCons | apply kApp | assumption | exact OwnS.keys (by assumption))⟩
theorem refMask_ret (p : Pi) (m : Int) (w : World) : Ret Tryd.prog 20 #[vP p, I m] w fun v w' => v = .tuple #[vP (maskP p m).1, I (maskP p m).2.1, I (maskP p m).2.2] ∧ Hp w [] w' := by
  refine Ret_of_WC (args := [_, _]) Tryd.func20 rfl Tryd.ntmps20 Tryd.results20 (by simp) ?_
  have H := Hp.refl w
  by_cases hm : m < 0 ∨ 65535 < m
  · rw [show maskP p m = (zeroP, 0, 122) from if_pos hm]
    refine W_seq ?_
    refine W_region_l ?_
    (refine WL_effn rfl (E_boxP H rfl) ?_; clear H; intro c2 w3 hc2 H)
    (refine WL_effn rfl (E_allocP H) ?_; clear H; intro c4 w4 hc4 H)
    refine WL_stepM rfl (R_as) ?_
    refine WL_stepM rfl (R_as) ?_
    refine WL_nil ?_
    refine W_seq ?_
    refine W_seq ?_
    refine W_region_l ?_
    refine WL_stepM rfl (R_mv) ?_
    refine WL_step rfl (R_lt rfl rfl) ?_
    refine WL_stepM rfl (R_mv) ?_
    apply WL_orK 3 10 13 [(11, 13)] H
    case hc => rfl
    case h1 =>
      intro h14
      refine WL_guard_t rfl rfl ?_
      refine WL_stepM rfl (R_mv) ?_
      refine WL_guard_t rfl rfl ?_
      refine WL_step rfl (R_gt rfl rfl) ?_
      refine WL_stepM rfl (R_pk_f rfl) ?_
      refine WL_nil ?_
      exact ⟨(same_mov rfl (same_updo rfl (same_mov rfl Same.refl))), rfl, H⟩
    case h0 =>
      intro h14
      refine WL_guard_f rfl rfl (by decide) ?_
      refine WL_guard_f rfl rfl (by decide) ?_
      refine WL_stepM rfl (R_pk_t rfl) ?_
      refine WL_nil ?_
      exact ⟨(same_mov rfl (same_updo rfl (same_updo rfl Same.refl))), rfl, H⟩
    case h2 =>
      (clear H; intro E14 w14 H)
      refine WL_nil ?_
      refine W_if rfl (fun h28 => ?_) (fun h28 => ?_)
      · refine W_seq ?_
        refine W_region_l ?_
        refine WL_step rfl R_zeroP ?_
        (refine WL_effu rfl (E_storeP (q := zeroP) H rfl rfl .here) ?_; clear H; intro w32 H)
        refine WL_stepM rfl (R_as) ?_
        refine WL_stepM rfl (R_as) ?_
        refine WL_nil ?_
        refine W_ret ?_
        exact ⟨_, ⟨_, _, rfl, ldP (p := zeroP) (H.get .here), rfl⟩, rfl, H.none (by repeat' first | exact kNil | apply kCons | apply kApp | assumption | exact OwnS.keys (by assumption))⟩
      · refine W_skip ?_
        refine W_seq ?_
        (exact (by omega : False).elim) <;> refine W_region_l ?_
  · rw [show maskP p m = ({ p with b := (BitVec.ofInt 64 m &&& 65534#64) &&& ~~~ 16896#64 }, p.b.toInt, 0) from if_neg hm]
    have hmm : m = (BitVec.ofInt 64 m).toInt := (bv_of (by omega) (by omega)).symm
    obtain ⟨x, hx⟩ : ∃ x, BitVec.ofInt 64 m = x := ⟨_, rfl⟩
    rw [hx] at hmm
    rw [hx]
    subst hmm
    refine W_seq ?_
    refine W_region_l ?_
    (refine WL_effn rfl (E_boxP H rfl) ?_; clear H; intro c2 w3 hc2 H)
    (refine WL_effn rfl (E_allocP H) ?_; clear H; intro c4 w4 hc4 H)
    refine WL_stepM rfl (R_as) ?_
    refine WL_stepM rfl (R_as) ?_
    refine WL_nil ?_
    refine W_seq ?_
    refine W_seq ?_
    refine W_region_l ?_
    refine WL_stepM rfl (R_mv) ?_
    refine WL_step rfl (R_lt_f rfl rfl (by omega)) ?_
    refine WL_stepM rfl (R_mv) ?_
    refine WL_guard_t rfl rfl ?_
    refine WL_stepM rfl (R_mv) ?_
    refine WL_guard_t rfl rfl ?_
    refine WL_step rfl (R_gt_f rfl rfl (by omega)) ?_
    refine WL_stepM rfl (R_pk_f rfl) ?_
    refine WL_nil ?_
    refine W_cond_f rfl ?_
    refine W_skip ?_
    refine W_seq ?_
    refine W_region_l ?_
    refine WL_step rfl (R_fieldAddr (off' := 5) Tryd.underlying25 rfl Tryd.sizeOf3 (by decide) rfl rfl) ?_
    refine WL_step rfl (R_load (v := I p.b.toInt) Tryd.isAgg3 rfl (H.get (.there .here)) rfl) ?_
    refine WL_stepM rfl (R_as) ?_
    refine WL_nil ?_
    refine W_seq ?_
    refine W_region_l ?_
    refine WL_stepM rfl (R_mv) ?_
    refine WL_step rfl (R_bits rfl rfl (by simp) (bv_and x 65534#64)) ?_
    refine WL_step rfl (R_bits rfl rfl (by simp) (bv_andNot (x &&& 65534#64) 16896#64)) ?_
    refine WL_step rfl (R_fieldAddr (off' := 5) Tryd.underlying25 rfl Tryd.sizeOf3 (by decide) rfl rfl) ?_
    (refine WL_effu rfl (E_store (v := I ((x &&& 65534#64) &&& ~~~ 16896#64).toInt) H Tryd.sizeOf3 rfl rfl rfl (.there .here) (by rw [piC_len]; omega)) ?_; clear H; intro w34 H; rw [set_b] at H)
    refine WL_nil ?_
    refine W_seq ?_
    refine W_region_l ?_
    refine WL_step rfl (R_loadP rfl (H.get (.there .here))) ?_
    refine WL_stepM rfl (R_mv) ?_
    (refine WL_effu rfl (E_storeP (q := { p with b := (x &&& 65534#64) &&& ~~~ 16896#64 }) H rfl rfl .here) ?_; clear H; intro w40 H)
    refine WL_stepM rfl (R_as) ?_
    refine WL_stepM rfl (R_as) ?_
    refine WL_nil ?_
    refine W_ret ?_
    exact ⟨_, ⟨_, _, rfl, ldP (p := { p with b := (x &&& 65534#64) &&& ~~~ 16896#64 }) (H.get .here), rfl⟩, rfl, H.none (by repeat' first | exact kNil | apply kCons | apply kApp | assumption | exact OwnS.keys (by assumption))⟩
end Go.Proofs.YtneeoicjipglkaaDoor.Slot

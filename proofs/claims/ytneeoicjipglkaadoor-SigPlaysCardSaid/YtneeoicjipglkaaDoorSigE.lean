/-
  Signals: one is raised, as the document has it.
-/
import Derived.Test.YtneeoicjipglkaaDoorSigD
namespace Go.Proofs.YtneeoicjipglkaaDoor.Slot
open Go Go.Proofs Go.Proofs.YtneeoicjipglkaaDoor.Fx
set_option maxRecDepth 100000
set_option linter.unusedVariables false
set_option linter.unusedSimpArgs false
set_option maxHeartbeats 8000000

theorem shr_k {x : Int} {k : Nat} (h : k ≤ 15) : x.fdiv (2 ^ (min (k : Int).toNat IntKind.i64.bits)) = x / ((2 ^ k : Nat) : Int) := by
  have e : min (k : Int).toNat IntKind.i64.bits = k := by
    show min (k : Int).toNat 64 = k
    omega
  rw [e, Int.fdiv_eq_ediv_of_nonneg _ (Int.pow_nonneg (by decide))]
  congr 1

theorem refRaise_no {p : Pi} {n : Int} (h : ¬ ((1 ≤ n ∧ n ≤ 15) ∧ (p.s = 1 ∨ p.s = 3))) (w : World) : Ret Tryd.prog 15 #[vP p, I n] w fun v w' => v = .tuple #[vP p, .bool false] ∧ Hp w [] w' := by
  refine Ret_of_WC (args := [_, _]) Tryd.func15 rfl Tryd.ntmps15 Tryd.results15 (by simp) ?_
  have H := Hp.refl w
  refine W_seq ?_
  refine W_region_l ?_
  (refine WL_effn rfl (E_boxP H rfl) ?_; clear H; intro c2 w3 hc2 H)
  (refine WL_effn rfl (E_allocP H) ?_; clear H; intro c4 w4 hc4 H)
  refine WL_stepM rfl (R_as) ?_
  refine WL_nil ?_
  refine W_seq ?_
  refine W_seq ?_
  refine W_region_l ?_
  refine WL_stepM rfl (R_mv) ?_
  (refine WL_call rfl (R_call rfl Tryd.call28 rfl) (in_ret _ _ _ _) ?_; rintro _ w11 ⟨rfl, H1⟩; replace H := H.seq0 H1; clear H1)
  refine WL_step rfl (R_not_d rfl) ?_
  refine WL_stepM rfl (R_mv) ?_
  apply WL_orK 9 9 18 [(10, 18)] H
  case hc => rfl
  case h1 =>
    intro h14
    refine WL_guard_t rfl rfl ?_
    refine WL_step rfl (R_fieldAddr (off' := 0) Tryd.underlying25 rfl Tryd.sizeOf3 (by decide) rfl rfl) ?_
    refine WL_guard_t rfl rfl ?_
    refine WL_step rfl (R_load (v := I p.s) Tryd.isAgg3 rfl (H.get (.there .here)) rfl) ?_
    refine WL_guard_t rfl rfl ?_
    refine WL_step rfl (R_ne rfl rfl) ?_
    refine WL_guard_t rfl rfl ?_
    refine WL_stepM rfl (R_mv) ?_
    apply WL_andK 4 13 17 [(14, 17)] H
    case hc => rfl
    case h1 =>
      intro h23
      refine WL_guard_t rfl rfl ?_
      refine WL_step rfl (R_fieldAddr (off' := 0) Tryd.underlying25 rfl Tryd.sizeOf3 (by decide) rfl rfl) ?_
      refine WL_guard_t rfl rfl ?_
      refine WL_step rfl (R_load (v := I p.s) Tryd.isAgg3 rfl (H.get (.there .here)) rfl) ?_
      refine WL_guard_t rfl rfl ?_
      refine WL_step rfl (R_ne rfl rfl) ?_
      refine WL_guard_t rfl rfl ?_
      refine WL_stepM rfl (R_pk_t rfl) ?_
      refine WL_nil ?_
      exact ⟨(same_mov rfl (same_updo rfl (same_updo rfl (same_updo rfl Same.refl)))), rfl, H⟩
    case h0 =>
      intro h23
      refine WL_guard_f rfl rfl (by decide) ?_
      refine WL_guard_f rfl rfl (by decide) ?_
      refine WL_guard_f rfl rfl (by decide) ?_
      refine WL_guard_t rfl rfl ?_
      refine WL_stepM rfl (R_pk_f rfl) ?_
      refine WL_nil ?_
      exact ⟨(same_mov rfl (same_updo rfl (same_updo rfl (same_updo rfl Same.refl)))), rfl, H⟩
    case h2 =>
      intro E23 w23 H
      refine WL_stepM rfl (R_pk_f rfl) ?_
      refine WL_nil ?_
      exact ⟨(same_mov rfl (same_in rfl (same_mov rfl (same_updo rfl (same_updo rfl (same_updo rfl Same.refl)))))), rfl, H⟩
  case h0 =>
    intro h14
    refine WL_guard_f rfl rfl (by decide) ?_
    refine WL_guard_f rfl rfl (by decide) ?_
    refine WL_guard_f rfl rfl (by decide) ?_
    refine WL_guard_f rfl rfl (by decide) ?_
    refine WL_guard_n rfl rfl ?_
    refine WL_guard_n rfl rfl ?_
    refine WL_guard_n rfl rfl ?_
    refine WL_guard_f rfl rfl (by decide) ?_
    refine WL_stepM rfl (R_pk_t rfl) ?_
    refine WL_nil ?_
    exact ⟨(same_mov rfl (same_updo rfl (same_updo rfl (same_updo rfl (same_updo rfl (same_updo rfl (same_updo rfl (same_updo rfl (same_updo rfl Same.refl))))))))), rfl, H⟩
  case h2 =>
    (clear H; intro E14 w14 H)
    refine WL_nil ?_
    refine W_if rfl (fun h56 => ?_) (fun h56 => ?_)
    · refine W_seq ?_
      refine W_region_l ?_
      refine WL_step rfl (R_loadP rfl (H.get (.there .here))) ?_
      (refine WL_effu rfl (E_storeP (q := p) H rfl rfl .here) ?_; clear H; intro w60 H)
      refine WL_stepM rfl (R_as) ?_
      refine WL_nil ?_
      refine W_ret ?_
      exact ⟨_, ⟨_, _, rfl, ldP (p := p) (H.get .here), rfl⟩, rfl, H.none (by repeat' first | exact kNil | apply kCons | apply kApp | assumption | exact OwnS.keys (by assumption))⟩
    · refine W_skip ?_
      refine W_seq ?_
      refine W_seq ?_
      (exact (by omega : False).elim) <;> refine W_region_l ?_

theorem refRaise_yes {p : Pi} {k : Nat} (h1 : 1 ≤ k) (h15 : k ≤ 15) (hs : p.s = 1 ∨ p.s = 3) (w : World) : Ret Tryd.prog 15 #[vP p, I k] w fun v w' => v = .tuple #[vP (raiseN p k), .bool true] ∧ Hp w [] w' := by
  refine Ret_of_WC (args := [_, _]) Tryd.func15 rfl Tryd.ntmps15 Tryd.results15 (by simp) ?_
  have H := Hp.refl w
  have hk4 : k = 9 ∨ k = 14 ∨ k = 15 ∨ (k ≠ 9 ∧ k ≠ 14 ∧ k ≠ 15) := by omega
  refine W_seq ?_
  refine W_region_l ?_
  (refine WL_effn rfl (E_boxP H rfl) ?_; clear H; intro c2 w3 hc2 H)
  (refine WL_effn rfl (E_allocP H) ?_; clear H; intro c4 w4 hc4 H)
  refine WL_stepM rfl (R_as) ?_
  refine WL_nil ?_
  refine W_seq ?_
  refine W_seq ?_
  refine W_region_l ?_
  refine WL_stepM rfl (R_mv) ?_
  (refine WL_call rfl (R_call rfl Tryd.call28 rfl) (in_ret _ _ _ _) ?_; rintro _ w11 ⟨rfl, H1⟩; replace H := H.seq0 H1; clear H1)
  refine WL_step rfl (R_not_d rfl) ?_
  refine WL_stepM rfl (R_mv) ?_
  apply WL_orK 9 9 18 [(10, 18)] H
  case hc => rfl
  case h1 =>
    intro h14
    refine WL_guard_t rfl rfl ?_
    refine WL_step rfl (R_fieldAddr (off' := 0) Tryd.underlying25 rfl Tryd.sizeOf3 (by decide) rfl rfl) ?_
    refine WL_guard_t rfl rfl ?_
    refine WL_step rfl (R_load (v := I p.s) Tryd.isAgg3 rfl (H.get (.there .here)) rfl) ?_
    refine WL_guard_t rfl rfl ?_
    refine WL_step rfl (R_ne rfl rfl) ?_
    refine WL_guard_t rfl rfl ?_
    refine WL_stepM rfl (R_mv) ?_
    apply WL_andK 4 13 17 [(14, 17)] H
    case hc => rfl
    case h1 =>
      intro h23
      refine WL_guard_t rfl rfl ?_
      refine WL_step rfl (R_fieldAddr (off' := 0) Tryd.underlying25 rfl Tryd.sizeOf3 (by decide) rfl rfl) ?_
      refine WL_guard_t rfl rfl ?_
      refine WL_step rfl (R_load (v := I p.s) Tryd.isAgg3 rfl (H.get (.there .here)) rfl) ?_
      refine WL_guard_t rfl rfl ?_
      refine WL_step rfl (R_ne rfl rfl) ?_
      refine WL_guard_t rfl rfl ?_
      refine WL_stepM rfl (R_pk_t rfl) ?_
      refine WL_nil ?_
      exact ⟨(same_mov rfl (same_updo rfl (same_updo rfl (same_updo rfl Same.refl)))), rfl, H⟩
    case h0 =>
      intro h23
      refine WL_guard_f rfl rfl (by decide) ?_
      refine WL_guard_f rfl rfl (by decide) ?_
      refine WL_guard_f rfl rfl (by decide) ?_
      refine WL_guard_t rfl rfl ?_
      refine WL_stepM rfl (R_pk_f rfl) ?_
      refine WL_nil ?_
      exact ⟨(same_mov rfl (same_updo rfl (same_updo rfl (same_updo rfl Same.refl)))), rfl, H⟩
    case h2 =>
      intro E23 w23 H
      refine WL_stepM rfl (R_pk_f rfl) ?_
      refine WL_nil ?_
      exact ⟨(same_mov rfl (same_in rfl (same_mov rfl (same_updo rfl (same_updo rfl (same_updo rfl Same.refl)))))), rfl, H⟩
  case h0 =>
    intro h14
    refine WL_guard_f rfl rfl (by decide) ?_
    refine WL_guard_f rfl rfl (by decide) ?_
    refine WL_guard_f rfl rfl (by decide) ?_
    refine WL_guard_f rfl rfl (by decide) ?_
    refine WL_guard_n rfl rfl ?_
    refine WL_guard_n rfl rfl ?_
    refine WL_guard_n rfl rfl ?_
    refine WL_guard_f rfl rfl (by decide) ?_
    refine WL_stepM rfl (R_pk_t rfl) ?_
    refine WL_nil ?_
    exact ⟨(same_mov rfl (same_updo rfl (same_updo rfl (same_updo rfl (same_updo rfl (same_updo rfl (same_updo rfl (same_updo rfl (same_updo rfl Same.refl))))))))), rfl, H⟩
  case h2 =>
    (clear H; intro E14 w14 H)
    refine WL_nil ?_
    refine W_if rfl (fun h56 => ?_) (fun h56 => ?_)
    · refine W_seq ?_
      (exact (by omega : False).elim) <;> refine W_region_l ?_
    · refine W_skip ?_
      refine W_seq ?_
      refine W_seq ?_
      ((cases hcb : p.c.getLsbD k <;> rcases hk4 with hk9 | hk9 | hk9 | hk9 <;> rcases hs with hs | hs)) <;> refine W_region_l ?_
      · refine WL_step rfl (R_fieldAddr (off' := 6) Tryd.underlying25 rfl Tryd.sizeOf3 (by decide) rfl rfl) ?_
        refine WL_step rfl (R_load (v := I p.c.toInt) Tryd.isAgg3 rfl (H.get (.there .here)) rfl) ?_
        refine WL_stepM rfl (R_mv) ?_
        refine WL_step rfl (R_shr (r := p.c.toInt / ((2 ^ k : Nat) : Int)) rfl rfl (by omega) (shr_k h15)) ?_
        refine WL_step rfl (R_bits (r := 0) rfl rfl (by simp) ((and_mask_i64 1 2 (by decide) rfl (by decide)).trans (by rw [bit_shr h15, hcb]; rfl))) ?_
        refine WL_step rfl (R_eq_t rfl rfl rfl) ?_
        refine WL_stepM rfl (R_mv) ?_
        refine WL_guard_f rfl rfl (by decide) ?_
        refine WL_guard_f rfl rfl (by decide) ?_
        refine WL_stepM rfl (R_pk_t rfl) ?_
        refine WL_stepM rfl (R_mv) ?_
        refine WL_guard_f rfl rfl (by decide) ?_
        refine WL_guard_f rfl rfl (by decide) ?_
        refine WL_stepM rfl (R_pk_t rfl) ?_
        refine WL_nil ?_
        refine W_cond_t rfl ?_
        (refine W_draw (KH w [(c2, blk (piC p) 25)]) (fun i => Nat.ble 6 i) (by kernel_rfl) H ?_; clear H; intro w79 H)
        refine WA_take 0 rfl rfl rfl (by kernel_rfl) (by kernel_rfl) (H.kh (by simp) (by repeat' first | exact kNil | apply kCons | apply kApp | assumption | exact OwnS.keys (by assumption))) (fun _ hC => R_fieldAddr (off' := 4) Tryd.underlying25 rfl Tryd.sizeOf3 (by decide) rfl rfl) ?_
        refine WA_take 1 rfl rfl rfl (by kernel_rfl) (by kernel_rfl) (H.kh (by simp) (by repeat' first | exact kNil | apply kCons | apply kApp | assumption | exact OwnS.keys (by assumption))) (fun _ hC => R_load (v := I p.a.toInt) Tryd.isAgg3 rfl (hC.get .here) rfl) ?_
        refine WA_takeM 2 rfl rfl rfl (by kernel_rfl) (by kernel_rfl) (H.kh (by simp) (by repeat' first | exact kNil | apply kCons | apply kApp | assumption | exact OwnS.keys (by assumption))) (fun _ hC => R_mv) ?_
        refine WA_take 3 rfl rfl rfl (by kernel_rfl) (by kernel_rfl) (H.kh (by simp) (by repeat' first | exact kNil | apply kCons | apply kApp | assumption | exact OwnS.keys (by assumption))) (fun _ hC => R_shl (r := (bitN k).toInt) rfl rfl (by omega) (bit_shl h15)) ?_
        refine WA_take 4 rfl rfl rfl (by kernel_rfl) (by kernel_rfl) (H.kh (by simp) (by repeat' first | exact kNil | apply kCons | apply kApp | assumption | exact OwnS.keys (by assumption))) (fun _ hC => R_bits rfl rfl (by simp) (bv_or p.a (bitN k))) ?_
        refine WA_take 5 rfl rfl rfl (by kernel_rfl) (by kernel_rfl) (H.kh (by simp) (by repeat' first | exact kNil | apply kCons | apply kApp | assumption | exact OwnS.keys (by assumption))) (fun _ hC => R_fieldAddr (off' := 4) Tryd.underlying25 rfl Tryd.sizeOf3 (by decide) rfl rfl) ?_
        refine WA_one (i := 6) (by kernel_rfl) ?_
        (refine WI_effu rfl (.inl rfl) (E_store (v := I (p.a ||| bitN k).toInt) H Tryd.sizeOf3 rfl rfl rfl (.there .here) (by rw [piC_len]; omega)) (fun _ H => (by first | exact fun h => absurd h (by decide) | exact fun _ => H | exact fun _ => H.none (by repeat' first | exact kNil | apply kCons | apply kApp | assumption | exact OwnS.keys (by assumption)) | exact fun _ => H.dropN (by repeat' first | exact kNil | apply kCons | apply kApp | assumption | exact OwnS.keys (by assumption)) | exact fun _ => H.pop (by assumption) | exact fun _ => (H.pop (by assumption)).pop (by assumption) | exact fun _ => H.kp | exact fun _ => H.kp.tail | exact fun _ => H.kp.tail.tail | exact fun _ => H.kp.tail.tail.tail | exact fun _ => H.kp.sub (by simp) | exact fun _ => Kp.nil | exact fun _ => H.kh (by simp) (by repeat' first | exact kNil | apply kCons | apply kApp | assumption | exact OwnS.keys (by assumption)))) ?_; clear H; intro w87 H; rw [set_a] at H)
        refine WA_done (by kernel_rfl) ?_
        refine W_seq ?_
        refine W_seq ?_
        refine W_region_l ?_
        refine WL_step rfl (R_fieldAddr (off' := 0) Tryd.underlying25 rfl Tryd.sizeOf3 (by decide) rfl rfl) ?_
        refine WL_step rfl (R_load (v := I p.s) Tryd.isAgg3 rfl (H.get (.there .here)) rfl) ?_
        refine WL_step rfl (R_eq_f rfl rfl (by omega)) ?_
        refine WL_stepM rfl (R_mv) ?_
        refine WL_guard_f rfl rfl (by decide) ?_
        refine WL_guard_f rfl rfl (by decide) ?_
        refine WL_guard_f rfl rfl (by decide) ?_
        refine WL_guard_n rfl rfl ?_
        refine WL_guard_n rfl rfl ?_
        refine WL_guard_f rfl rfl (by decide) ?_
        refine WL_stepM rfl (R_pk_f rfl) ?_
        refine WL_nil ?_
        refine W_cond_f rfl ?_
        refine W_skip ?_
        refine W_seq ?_
        refine W_seq ?_
        refine W_region_l ?_
        refine WL_stepM rfl (R_mv) ?_
        refine WL_nil ?_
        refine W_block ?_
        refine W_seq ?_
        refine W_region_l ?_
        refine WL_step rfl (R_eq_f rfl rfl (by omega)) ?_
        refine WL_stepM rfl (R_as) ?_
        refine WL_nil ?_
        refine W_cond_f rfl ?_
        refine W_seq ?_
        refine W_region_l ?_
        refine WL_step rfl (R_eq_f rfl rfl (by omega)) ?_
        refine WL_stepM rfl (R_as) ?_
        refine WL_nil ?_
        refine W_cond_f rfl ?_
        refine W_skip ?_
        refine W_seq ?_
        refine W_region_l ?_
        refine WL_step rfl (R_loadP rfl (H.get (.there .here))) ?_
        (refine WL_effu rfl (E_storeP H rfl rfl .here) ?_; clear H; intro w128 H)
        refine WL_stepM rfl (R_as) ?_
        refine WL_nil ?_
        refine W_ret ?_
        exact ⟨_, ⟨_, _, rfl, ldP (H.get .here), rfl⟩, congrArg (fun q => Value.tuple #[vP q, .bool true]) (show _ = raiseN p k by refine pi_ext ?_ ?_ ?_ ?_ ?_ ?_ ?_ ?_ ?_ <;> first | rfl | (simp [raiseN, hcb, hs, hk9]; done) | (simp only [raiseN, hcb]; simp [hs, hk9]; done)), H.none (by repeat' first | exact kNil | apply kCons | apply kApp | assumption | exact OwnS.keys (by assumption))⟩
      · refine WL_step rfl (R_fieldAddr (off' := 6) Tryd.underlying25 rfl Tryd.sizeOf3 (by decide) rfl rfl) ?_
        refine WL_step rfl (R_load (v := I p.c.toInt) Tryd.isAgg3 rfl (H.get (.there .here)) rfl) ?_
        refine WL_stepM rfl (R_mv) ?_
        refine WL_step rfl (R_shr (r := p.c.toInt / ((2 ^ k : Nat) : Int)) rfl rfl (by omega) (shr_k h15)) ?_
        refine WL_step rfl (R_bits (r := 0) rfl rfl (by simp) ((and_mask_i64 1 2 (by decide) rfl (by decide)).trans (by rw [bit_shr h15, hcb]; rfl))) ?_
        refine WL_step rfl (R_eq_t rfl rfl rfl) ?_
        refine WL_stepM rfl (R_mv) ?_
        refine WL_guard_f rfl rfl (by decide) ?_
        refine WL_guard_f rfl rfl (by decide) ?_
        refine WL_stepM rfl (R_pk_t rfl) ?_
        refine WL_stepM rfl (R_mv) ?_
        refine WL_guard_f rfl rfl (by decide) ?_
        refine WL_guard_f rfl rfl (by decide) ?_
        refine WL_stepM rfl (R_pk_t rfl) ?_
        refine WL_nil ?_
        refine W_cond_t rfl ?_
        (refine W_draw (KH w [(c2, blk (piC p) 25)]) (fun i => Nat.ble 6 i) (by kernel_rfl) H ?_; clear H; intro w149 H)
        refine WA_take 0 rfl rfl rfl (by kernel_rfl) (by kernel_rfl) (H.kh (by simp) (by repeat' first | exact kNil | apply kCons | apply kApp | assumption | exact OwnS.keys (by assumption))) (fun _ hC => R_fieldAddr (off' := 4) Tryd.underlying25 rfl Tryd.sizeOf3 (by decide) rfl rfl) ?_
        refine WA_take 1 rfl rfl rfl (by kernel_rfl) (by kernel_rfl) (H.kh (by simp) (by repeat' first | exact kNil | apply kCons | apply kApp | assumption | exact OwnS.keys (by assumption))) (fun _ hC => R_load (v := I p.a.toInt) Tryd.isAgg3 rfl (hC.get .here) rfl) ?_
        refine WA_takeM 2 rfl rfl rfl (by kernel_rfl) (by kernel_rfl) (H.kh (by simp) (by repeat' first | exact kNil | apply kCons | apply kApp | assumption | exact OwnS.keys (by assumption))) (fun _ hC => R_mv) ?_
        refine WA_take 3 rfl rfl rfl (by kernel_rfl) (by kernel_rfl) (H.kh (by simp) (by repeat' first | exact kNil | apply kCons | apply kApp | assumption | exact OwnS.keys (by assumption))) (fun _ hC => R_shl (r := (bitN k).toInt) rfl rfl (by omega) (bit_shl h15)) ?_
        refine WA_take 4 rfl rfl rfl (by kernel_rfl) (by kernel_rfl) (H.kh (by simp) (by repeat' first | exact kNil | apply kCons | apply kApp | assumption | exact OwnS.keys (by assumption))) (fun _ hC => R_bits rfl rfl (by simp) (bv_or p.a (bitN k))) ?_
        refine WA_take 5 rfl rfl rfl (by kernel_rfl) (by kernel_rfl) (H.kh (by simp) (by repeat' first | exact kNil | apply kCons | apply kApp | assumption | exact OwnS.keys (by assumption))) (fun _ hC => R_fieldAddr (off' := 4) Tryd.underlying25 rfl Tryd.sizeOf3 (by decide) rfl rfl) ?_
        refine WA_one (i := 6) (by kernel_rfl) ?_
        (refine WI_effu rfl (.inl rfl) (E_store (v := I (p.a ||| bitN k).toInt) H Tryd.sizeOf3 rfl rfl rfl (.there .here) (by rw [piC_len]; omega)) (fun _ H => (by first | exact fun h => absurd h (by decide) | exact fun _ => H | exact fun _ => H.none (by repeat' first | exact kNil | apply kCons | apply kApp | assumption | exact OwnS.keys (by assumption)) | exact fun _ => H.dropN (by repeat' first | exact kNil | apply kCons | apply kApp | assumption | exact OwnS.keys (by assumption)) | exact fun _ => H.pop (by assumption) | exact fun _ => (H.pop (by assumption)).pop (by assumption) | exact fun _ => H.kp | exact fun _ => H.kp.tail | exact fun _ => H.kp.tail.tail | exact fun _ => H.kp.tail.tail.tail | exact fun _ => H.kp.sub (by simp) | exact fun _ => Kp.nil | exact fun _ => H.kh (by simp) (by repeat' first | exact kNil | apply kCons | apply kApp | assumption | exact OwnS.keys (by assumption)))) ?_; clear H; intro w157 H; rw [set_a] at H)
        refine WA_done (by kernel_rfl) ?_
        refine W_seq ?_
        refine W_seq ?_
        refine W_region_l ?_
        refine WL_step rfl (R_fieldAddr (off' := 0) Tryd.underlying25 rfl Tryd.sizeOf3 (by decide) rfl rfl) ?_
        refine WL_step rfl (R_load (v := I p.s) Tryd.isAgg3 rfl (H.get (.there .here)) rfl) ?_
        refine WL_step rfl (R_eq_t rfl rfl hs) ?_
        refine WL_stepM rfl (R_mv) ?_
        refine WL_guard_t rfl rfl ?_
        refine WL_stepM rfl (R_mv) ?_
        refine WL_guard_t rfl rfl ?_
        refine WL_step rfl (R_eq_f rfl rfl (by omega)) ?_
        refine WL_guard_t rfl rfl ?_
        refine WL_stepM rfl (R_mv) ?_
        refine WL_guard_t rfl rfl ?_
        refine WL_stepM rfl (R_mv) ?_
        refine WL_guard_t rfl rfl ?_
        refine WL_step rfl (R_eq_t rfl rfl (by omega)) ?_
        refine WL_guard_t rfl rfl ?_
        refine WL_stepM rfl (R_pk_f rfl) ?_
        refine WL_stepM rfl (R_pk_t rfl) ?_
        refine WL_nil ?_
        refine W_cond_t rfl ?_
        refine W_region_l ?_
        refine WL_step rfl (R_fieldAddr (off' := 0) Tryd.underlying25 rfl Tryd.sizeOf3 (by decide) rfl rfl) ?_
        (refine WL_effu rfl (E_store (v := I 1) H Tryd.sizeOf3 rfl rfl rfl (.there .here) (by rw [piC_len]; omega)) ?_; clear H; intro w183 H; rw [set_s] at H)
        refine WL_nil ?_
        refine W_seq ?_
        refine W_seq ?_
        refine W_region_l ?_
        refine WL_stepM rfl (R_mv) ?_
        refine WL_nil ?_
        refine W_block ?_
        refine W_seq ?_
        refine W_region_l ?_
        refine WL_step rfl (R_eq_f rfl rfl (by omega)) ?_
        refine WL_stepM rfl (R_as) ?_
        refine WL_nil ?_
        refine W_cond_f rfl ?_
        refine W_seq ?_
        refine W_region_l ?_
        refine WL_step rfl (R_eq_f rfl rfl (by omega)) ?_
        refine WL_stepM rfl (R_as) ?_
        refine WL_nil ?_
        refine W_cond_f rfl ?_
        refine W_skip ?_
        refine W_seq ?_
        refine W_region_l ?_
        refine WL_step rfl (R_loadP rfl (H.get (.there .here))) ?_
        (refine WL_effu rfl (E_storeP H rfl rfl .here) ?_; clear H; intro w207 H)
        refine WL_stepM rfl (R_as) ?_
        refine WL_nil ?_
        refine W_ret ?_
        exact ⟨_, ⟨_, _, rfl, ldP (H.get .here), rfl⟩, congrArg (fun q => Value.tuple #[vP q, .bool true]) (show _ = raiseN p k by refine pi_ext ?_ ?_ ?_ ?_ ?_ ?_ ?_ ?_ ?_ <;> first | rfl | (simp [raiseN, hcb, hs, hk9]; done) | (simp only [raiseN, hcb]; simp [hs, hk9]; done)), H.none (by repeat' first | exact kNil | apply kCons | apply kApp | assumption | exact OwnS.keys (by assumption))⟩
      · refine WL_step rfl (R_fieldAddr (off' := 6) Tryd.underlying25 rfl Tryd.sizeOf3 (by decide) rfl rfl) ?_
        refine WL_step rfl (R_load (v := I p.c.toInt) Tryd.isAgg3 rfl (H.get (.there .here)) rfl) ?_
        refine WL_stepM rfl (R_mv) ?_
        refine WL_step rfl (R_shr (r := p.c.toInt / ((2 ^ k : Nat) : Int)) rfl rfl (by omega) (shr_k h15)) ?_
        refine WL_step rfl (R_bits (r := 0) rfl rfl (by simp) ((and_mask_i64 1 2 (by decide) rfl (by decide)).trans (by rw [bit_shr h15, hcb]; rfl))) ?_
        refine WL_step rfl (R_eq_t rfl rfl rfl) ?_
        refine WL_stepM rfl (R_mv) ?_
        refine WL_guard_f rfl rfl (by decide) ?_
        refine WL_guard_f rfl rfl (by decide) ?_
        refine WL_stepM rfl (R_pk_t rfl) ?_
        refine WL_stepM rfl (R_mv) ?_
        refine WL_guard_f rfl rfl (by decide) ?_
        refine WL_guard_f rfl rfl (by decide) ?_
        refine WL_stepM rfl (R_pk_t rfl) ?_
        refine WL_nil ?_
        refine W_cond_t rfl ?_
        (refine W_draw (KH w [(c2, blk (piC p) 25)]) (fun i => Nat.ble 6 i) (by kernel_rfl) H ?_; clear H; intro w228 H)
        refine WA_take 0 rfl rfl rfl (by kernel_rfl) (by kernel_rfl) (H.kh (by simp) (by repeat' first | exact kNil | apply kCons | apply kApp | assumption | exact OwnS.keys (by assumption))) (fun _ hC => R_fieldAddr (off' := 4) Tryd.underlying25 rfl Tryd.sizeOf3 (by decide) rfl rfl) ?_
        refine WA_take 1 rfl rfl rfl (by kernel_rfl) (by kernel_rfl) (H.kh (by simp) (by repeat' first | exact kNil | apply kCons | apply kApp | assumption | exact OwnS.keys (by assumption))) (fun _ hC => R_load (v := I p.a.toInt) Tryd.isAgg3 rfl (hC.get .here) rfl) ?_
        refine WA_takeM 2 rfl rfl rfl (by kernel_rfl) (by kernel_rfl) (H.kh (by simp) (by repeat' first | exact kNil | apply kCons | apply kApp | assumption | exact OwnS.keys (by assumption))) (fun _ hC => R_mv) ?_
        refine WA_take 3 rfl rfl rfl (by kernel_rfl) (by kernel_rfl) (H.kh (by simp) (by repeat' first | exact kNil | apply kCons | apply kApp | assumption | exact OwnS.keys (by assumption))) (fun _ hC => R_shl (r := (bitN k).toInt) rfl rfl (by omega) (bit_shl h15)) ?_
        refine WA_take 4 rfl rfl rfl (by kernel_rfl) (by kernel_rfl) (H.kh (by simp) (by repeat' first | exact kNil | apply kCons | apply kApp | assumption | exact OwnS.keys (by assumption))) (fun _ hC => R_bits rfl rfl (by simp) (bv_or p.a (bitN k))) ?_
        refine WA_take 5 rfl rfl rfl (by kernel_rfl) (by kernel_rfl) (H.kh (by simp) (by repeat' first | exact kNil | apply kCons | apply kApp | assumption | exact OwnS.keys (by assumption))) (fun _ hC => R_fieldAddr (off' := 4) Tryd.underlying25 rfl Tryd.sizeOf3 (by decide) rfl rfl) ?_
        refine WA_one (i := 6) (by kernel_rfl) ?_
        (refine WI_effu rfl (.inl rfl) (E_store (v := I (p.a ||| bitN k).toInt) H Tryd.sizeOf3 rfl rfl rfl (.there .here) (by rw [piC_len]; omega)) (fun _ H => (by first | exact fun h => absurd h (by decide) | exact fun _ => H | exact fun _ => H.none (by repeat' first | exact kNil | apply kCons | apply kApp | assumption | exact OwnS.keys (by assumption)) | exact fun _ => H.dropN (by repeat' first | exact kNil | apply kCons | apply kApp | assumption | exact OwnS.keys (by assumption)) | exact fun _ => H.pop (by assumption) | exact fun _ => (H.pop (by assumption)).pop (by assumption) | exact fun _ => H.kp | exact fun _ => H.kp.tail | exact fun _ => H.kp.tail.tail | exact fun _ => H.kp.tail.tail.tail | exact fun _ => H.kp.sub (by simp) | exact fun _ => Kp.nil | exact fun _ => H.kh (by simp) (by repeat' first | exact kNil | apply kCons | apply kApp | assumption | exact OwnS.keys (by assumption)))) ?_; clear H; intro w236 H; rw [set_a] at H)
        refine WA_done (by kernel_rfl) ?_
        refine W_seq ?_
        refine W_seq ?_
        refine W_region_l ?_
        refine WL_step rfl (R_fieldAddr (off' := 0) Tryd.underlying25 rfl Tryd.sizeOf3 (by decide) rfl rfl) ?_
        refine WL_step rfl (R_load (v := I p.s) Tryd.isAgg3 rfl (H.get (.there .here)) rfl) ?_
        refine WL_step rfl (R_eq_f rfl rfl (by omega)) ?_
        refine WL_stepM rfl (R_mv) ?_
        refine WL_guard_f rfl rfl (by decide) ?_
        refine WL_guard_f rfl rfl (by decide) ?_
        refine WL_guard_f rfl rfl (by decide) ?_
        refine WL_guard_n rfl rfl ?_
        refine WL_guard_n rfl rfl ?_
        refine WL_guard_f rfl rfl (by decide) ?_
        refine WL_stepM rfl (R_pk_f rfl) ?_
        refine WL_nil ?_
        refine W_cond_f rfl ?_
        refine W_skip ?_
        refine W_seq ?_
        refine W_seq ?_
        refine W_region_l ?_
        refine WL_stepM rfl (R_mv) ?_
        refine WL_nil ?_
        refine W_block ?_
        refine W_seq ?_
        refine W_region_l ?_
        refine WL_step rfl (R_eq_f rfl rfl (by omega)) ?_
        refine WL_stepM rfl (R_as) ?_
        refine WL_nil ?_
        refine W_cond_f rfl ?_
        refine W_seq ?_
        refine W_region_l ?_
        refine WL_step rfl (R_eq_t rfl rfl (by omega)) ?_
        refine WL_stepM rfl (R_as) ?_
        refine WL_nil ?_
        refine W_cond_t rfl ?_
        refine W_region_l ?_
        refine WL_step rfl (R_fieldAddr (off' := 4) Tryd.underlying25 rfl Tryd.sizeOf3 (by decide) rfl rfl) ?_
        refine WL_step rfl (R_load (v := I (p.a ||| bitN k).toInt) Tryd.isAgg3 rfl (H.get (.there .here)) rfl) ?_
        refine WL_step rfl (R_bits rfl rfl (by simp) (bv_andNot _ 32768#64)) ?_
        refine WL_step rfl (R_fieldAddr (off' := 4) Tryd.underlying25 rfl Tryd.sizeOf3 (by decide) rfl rfl) ?_
        (refine WL_effu rfl (E_store (v := I ((p.a ||| bitN k) &&& ~~~ 32768#64).toInt) H Tryd.sizeOf3 rfl rfl rfl (.there .here) (by rw [piC_len]; omega)) ?_; clear H; intro w278 H; rw [set_a] at H)
        refine WL_nil ?_
        refine W_seq ?_
        refine W_region_l ?_
        refine WL_step rfl (R_loadP rfl (H.get (.there .here))) ?_
        (refine WL_effu rfl (E_storeP H rfl rfl .here) ?_; clear H; intro w283 H)
        refine WL_stepM rfl (R_as) ?_
        refine WL_nil ?_
        refine W_ret ?_
        exact ⟨_, ⟨_, _, rfl, ldP (H.get .here), rfl⟩, congrArg (fun q => Value.tuple #[vP q, .bool true]) (show _ = raiseN p k by refine pi_ext ?_ ?_ ?_ ?_ ?_ ?_ ?_ ?_ ?_ <;> first | rfl | (simp [raiseN, hcb, hs, hk9]; done) | (simp only [raiseN, hcb]; simp [hs, hk9]; done)), H.none (by repeat' first | exact kNil | apply kCons | apply kApp | assumption | exact OwnS.keys (by assumption))⟩
      · refine WL_step rfl (R_fieldAddr (off' := 6) Tryd.underlying25 rfl Tryd.sizeOf3 (by decide) rfl rfl) ?_
        refine WL_step rfl (R_load (v := I p.c.toInt) Tryd.isAgg3 rfl (H.get (.there .here)) rfl) ?_
        refine WL_stepM rfl (R_mv) ?_
        refine WL_step rfl (R_shr (r := p.c.toInt / ((2 ^ k : Nat) : Int)) rfl rfl (by omega) (shr_k h15)) ?_
        refine WL_step rfl (R_bits (r := 0) rfl rfl (by simp) ((and_mask_i64 1 2 (by decide) rfl (by decide)).trans (by rw [bit_shr h15, hcb]; rfl))) ?_
        refine WL_step rfl (R_eq_t rfl rfl rfl) ?_
        refine WL_stepM rfl (R_mv) ?_
        refine WL_guard_f rfl rfl (by decide) ?_
        refine WL_guard_f rfl rfl (by decide) ?_
        refine WL_stepM rfl (R_pk_t rfl) ?_
        refine WL_stepM rfl (R_mv) ?_
        refine WL_guard_f rfl rfl (by decide) ?_
        refine WL_guard_f rfl rfl (by decide) ?_
        refine WL_stepM rfl (R_pk_t rfl) ?_
        refine WL_nil ?_
        refine W_cond_t rfl ?_
        (refine W_draw (KH w [(c2, blk (piC p) 25)]) (fun i => Nat.ble 6 i) (by kernel_rfl) H ?_; clear H; intro w304 H)
        refine WA_take 0 rfl rfl rfl (by kernel_rfl) (by kernel_rfl) (H.kh (by simp) (by repeat' first | exact kNil | apply kCons | apply kApp | assumption | exact OwnS.keys (by assumption))) (fun _ hC => R_fieldAddr (off' := 4) Tryd.underlying25 rfl Tryd.sizeOf3 (by decide) rfl rfl) ?_
        refine WA_take 1 rfl rfl rfl (by kernel_rfl) (by kernel_rfl) (H.kh (by simp) (by repeat' first | exact kNil | apply kCons | apply kApp | assumption | exact OwnS.keys (by assumption))) (fun _ hC => R_load (v := I p.a.toInt) Tryd.isAgg3 rfl (hC.get .here) rfl) ?_
        refine WA_takeM 2 rfl rfl rfl (by kernel_rfl) (by kernel_rfl) (H.kh (by simp) (by repeat' first | exact kNil | apply kCons | apply kApp | assumption | exact OwnS.keys (by assumption))) (fun _ hC => R_mv) ?_
        refine WA_take 3 rfl rfl rfl (by kernel_rfl) (by kernel_rfl) (H.kh (by simp) (by repeat' first | exact kNil | apply kCons | apply kApp | assumption | exact OwnS.keys (by assumption))) (fun _ hC => R_shl (r := (bitN k).toInt) rfl rfl (by omega) (bit_shl h15)) ?_
        refine WA_take 4 rfl rfl rfl (by kernel_rfl) (by kernel_rfl) (H.kh (by simp) (by repeat' first | exact kNil | apply kCons | apply kApp | assumption | exact OwnS.keys (by assumption))) (fun _ hC => R_bits rfl rfl (by simp) (bv_or p.a (bitN k))) ?_
        refine WA_take 5 rfl rfl rfl (by kernel_rfl) (by kernel_rfl) (H.kh (by simp) (by repeat' first | exact kNil | apply kCons | apply kApp | assumption | exact OwnS.keys (by assumption))) (fun _ hC => R_fieldAddr (off' := 4) Tryd.underlying25 rfl Tryd.sizeOf3 (by decide) rfl rfl) ?_
        refine WA_one (i := 6) (by kernel_rfl) ?_
        (refine WI_effu rfl (.inl rfl) (E_store (v := I (p.a ||| bitN k).toInt) H Tryd.sizeOf3 rfl rfl rfl (.there .here) (by rw [piC_len]; omega)) (fun _ H => (by first | exact fun h => absurd h (by decide) | exact fun _ => H | exact fun _ => H.none (by repeat' first | exact kNil | apply kCons | apply kApp | assumption | exact OwnS.keys (by assumption)) | exact fun _ => H.dropN (by repeat' first | exact kNil | apply kCons | apply kApp | assumption | exact OwnS.keys (by assumption)) | exact fun _ => H.pop (by assumption) | exact fun _ => (H.pop (by assumption)).pop (by assumption) | exact fun _ => H.kp | exact fun _ => H.kp.tail | exact fun _ => H.kp.tail.tail | exact fun _ => H.kp.tail.tail.tail | exact fun _ => H.kp.sub (by simp) | exact fun _ => Kp.nil | exact fun _ => H.kh (by simp) (by repeat' first | exact kNil | apply kCons | apply kApp | assumption | exact OwnS.keys (by assumption)))) ?_; clear H; intro w312 H; rw [set_a] at H)
        refine WA_done (by kernel_rfl) ?_
        refine W_seq ?_
        refine W_seq ?_
        refine W_region_l ?_
        refine WL_step rfl (R_fieldAddr (off' := 0) Tryd.underlying25 rfl Tryd.sizeOf3 (by decide) rfl rfl) ?_
        refine WL_step rfl (R_load (v := I p.s) Tryd.isAgg3 rfl (H.get (.there .here)) rfl) ?_
        refine WL_step rfl (R_eq_t rfl rfl hs) ?_
        refine WL_stepM rfl (R_mv) ?_
        refine WL_guard_t rfl rfl ?_
        refine WL_stepM rfl (R_mv) ?_
        refine WL_guard_t rfl rfl ?_
        refine WL_step rfl (R_eq_f rfl rfl (by omega)) ?_
        refine WL_guard_t rfl rfl ?_
        refine WL_stepM rfl (R_mv) ?_
        refine WL_guard_t rfl rfl ?_
        refine WL_stepM rfl (R_mv) ?_
        refine WL_guard_t rfl rfl ?_
        refine WL_step rfl (R_eq_f rfl rfl (by omega)) ?_
        refine WL_guard_t rfl rfl ?_
        refine WL_stepM rfl (R_pk_f rfl) ?_
        refine WL_stepM rfl (R_pk_t rfl) ?_
        refine WL_nil ?_
        refine W_cond_f rfl ?_
        refine W_skip ?_
        refine W_seq ?_
        refine W_seq ?_
        refine W_region_l ?_
        refine WL_stepM rfl (R_mv) ?_
        refine WL_nil ?_
        refine W_block ?_
        refine W_seq ?_
        refine W_region_l ?_
        refine WL_step rfl (R_eq_f rfl rfl (by omega)) ?_
        refine WL_stepM rfl (R_as) ?_
        refine WL_nil ?_
        refine W_cond_f rfl ?_
        refine W_seq ?_
        refine W_region_l ?_
        refine WL_step rfl (R_eq_t rfl rfl (by omega)) ?_
        refine WL_stepM rfl (R_as) ?_
        refine WL_nil ?_
        refine W_cond_t rfl ?_
        refine W_region_l ?_
        refine WL_step rfl (R_fieldAddr (off' := 4) Tryd.underlying25 rfl Tryd.sizeOf3 (by decide) rfl rfl) ?_
        refine WL_step rfl (R_load (v := I (p.a ||| bitN k).toInt) Tryd.isAgg3 rfl (H.get (.there .here)) rfl) ?_
        refine WL_step rfl (R_bits rfl rfl (by simp) (bv_andNot _ 32768#64)) ?_
        refine WL_step rfl (R_fieldAddr (off' := 4) Tryd.underlying25 rfl Tryd.sizeOf3 (by decide) rfl rfl) ?_
        (refine WL_effu rfl (E_store (v := I ((p.a ||| bitN k) &&& ~~~ 32768#64).toInt) H Tryd.sizeOf3 rfl rfl rfl (.there .here) (by rw [piC_len]; omega)) ?_; clear H; intro w360 H; rw [set_a] at H)
        refine WL_nil ?_
        refine W_seq ?_
        refine W_region_l ?_
        refine WL_step rfl (R_loadP rfl (H.get (.there .here))) ?_
        (refine WL_effu rfl (E_storeP H rfl rfl .here) ?_; clear H; intro w365 H)
        refine WL_stepM rfl (R_as) ?_
        refine WL_nil ?_
        refine W_ret ?_
        exact ⟨_, ⟨_, _, rfl, ldP (H.get .here), rfl⟩, congrArg (fun q => Value.tuple #[vP q, .bool true]) (show _ = raiseN p k by refine pi_ext ?_ ?_ ?_ ?_ ?_ ?_ ?_ ?_ ?_ <;> first | rfl | (simp [raiseN, hcb, hs, hk9]; done) | (simp only [raiseN, hcb]; simp [hs, hk9]; done)), H.none (by repeat' first | exact kNil | apply kCons | apply kApp | assumption | exact OwnS.keys (by assumption))⟩
      · refine WL_step rfl (R_fieldAddr (off' := 6) Tryd.underlying25 rfl Tryd.sizeOf3 (by decide) rfl rfl) ?_
        refine WL_step rfl (R_load (v := I p.c.toInt) Tryd.isAgg3 rfl (H.get (.there .here)) rfl) ?_
        refine WL_stepM rfl (R_mv) ?_
        refine WL_step rfl (R_shr (r := p.c.toInt / ((2 ^ k : Nat) : Int)) rfl rfl (by omega) (shr_k h15)) ?_
        refine WL_step rfl (R_bits (r := 0) rfl rfl (by simp) ((and_mask_i64 1 2 (by decide) rfl (by decide)).trans (by rw [bit_shr h15, hcb]; rfl))) ?_
        refine WL_step rfl (R_eq_t rfl rfl rfl) ?_
        refine WL_stepM rfl (R_mv) ?_
        refine WL_guard_f rfl rfl (by decide) ?_
        refine WL_guard_f rfl rfl (by decide) ?_
        refine WL_stepM rfl (R_pk_t rfl) ?_
        refine WL_stepM rfl (R_mv) ?_
        refine WL_guard_f rfl rfl (by decide) ?_
        refine WL_guard_f rfl rfl (by decide) ?_
        refine WL_stepM rfl (R_pk_t rfl) ?_
        refine WL_nil ?_
        refine W_cond_t rfl ?_
        (refine W_draw (KH w [(c2, blk (piC p) 25)]) (fun i => Nat.ble 6 i) (by kernel_rfl) H ?_; clear H; intro w386 H)
        refine WA_take 0 rfl rfl rfl (by kernel_rfl) (by kernel_rfl) (H.kh (by simp) (by repeat' first | exact kNil | apply kCons | apply kApp | assumption | exact OwnS.keys (by assumption))) (fun _ hC => R_fieldAddr (off' := 4) Tryd.underlying25 rfl Tryd.sizeOf3 (by decide) rfl rfl) ?_
        refine WA_take 1 rfl rfl rfl (by kernel_rfl) (by kernel_rfl) (H.kh (by simp) (by repeat' first | exact kNil | apply kCons | apply kApp | assumption | exact OwnS.keys (by assumption))) (fun _ hC => R_load (v := I p.a.toInt) Tryd.isAgg3 rfl (hC.get .here) rfl) ?_
        refine WA_takeM 2 rfl rfl rfl (by kernel_rfl) (by kernel_rfl) (H.kh (by simp) (by repeat' first | exact kNil | apply kCons | apply kApp | assumption | exact OwnS.keys (by assumption))) (fun _ hC => R_mv) ?_
        refine WA_take 3 rfl rfl rfl (by kernel_rfl) (by kernel_rfl) (H.kh (by simp) (by repeat' first | exact kNil | apply kCons | apply kApp | assumption | exact OwnS.keys (by assumption))) (fun _ hC => R_shl (r := (bitN k).toInt) rfl rfl (by omega) (bit_shl h15)) ?_
        refine WA_take 4 rfl rfl rfl (by kernel_rfl) (by kernel_rfl) (H.kh (by simp) (by repeat' first | exact kNil | apply kCons | apply kApp | assumption | exact OwnS.keys (by assumption))) (fun _ hC => R_bits rfl rfl (by simp) (bv_or p.a (bitN k))) ?_
        refine WA_take 5 rfl rfl rfl (by kernel_rfl) (by kernel_rfl) (H.kh (by simp) (by repeat' first | exact kNil | apply kCons | apply kApp | assumption | exact OwnS.keys (by assumption))) (fun _ hC => R_fieldAddr (off' := 4) Tryd.underlying25 rfl Tryd.sizeOf3 (by decide) rfl rfl) ?_
        refine WA_one (i := 6) (by kernel_rfl) ?_
        (refine WI_effu rfl (.inl rfl) (E_store (v := I (p.a ||| bitN k).toInt) H Tryd.sizeOf3 rfl rfl rfl (.there .here) (by rw [piC_len]; omega)) (fun _ H => (by first | exact fun h => absurd h (by decide) | exact fun _ => H | exact fun _ => H.none (by repeat' first | exact kNil | apply kCons | apply kApp | assumption | exact OwnS.keys (by assumption)) | exact fun _ => H.dropN (by repeat' first | exact kNil | apply kCons | apply kApp | assumption | exact OwnS.keys (by assumption)) | exact fun _ => H.pop (by assumption) | exact fun _ => (H.pop (by assumption)).pop (by assumption) | exact fun _ => H.kp | exact fun _ => H.kp.tail | exact fun _ => H.kp.tail.tail | exact fun _ => H.kp.tail.tail.tail | exact fun _ => H.kp.sub (by simp) | exact fun _ => Kp.nil | exact fun _ => H.kh (by simp) (by repeat' first | exact kNil | apply kCons | apply kApp | assumption | exact OwnS.keys (by assumption)))) ?_; clear H; intro w394 H; rw [set_a] at H)
        refine WA_done (by kernel_rfl) ?_
        refine W_seq ?_
        refine W_seq ?_
        refine W_region_l ?_
        refine WL_step rfl (R_fieldAddr (off' := 0) Tryd.underlying25 rfl Tryd.sizeOf3 (by decide) rfl rfl) ?_
        refine WL_step rfl (R_load (v := I p.s) Tryd.isAgg3 rfl (H.get (.there .here)) rfl) ?_
        refine WL_step rfl (R_eq_f rfl rfl (by omega)) ?_
        refine WL_stepM rfl (R_mv) ?_
        refine WL_guard_f rfl rfl (by decide) ?_
        refine WL_guard_f rfl rfl (by decide) ?_
        refine WL_guard_f rfl rfl (by decide) ?_
        refine WL_guard_n rfl rfl ?_
        refine WL_guard_n rfl rfl ?_
        refine WL_guard_f rfl rfl (by decide) ?_
        refine WL_stepM rfl (R_pk_f rfl) ?_
        refine WL_nil ?_
        refine W_cond_f rfl ?_
        refine W_skip ?_
        refine W_seq ?_
        refine W_seq ?_
        refine W_region_l ?_
        refine WL_stepM rfl (R_mv) ?_
        refine WL_nil ?_
        refine W_block ?_
        refine W_seq ?_
        refine W_region_l ?_
        refine WL_step rfl (R_eq_t rfl rfl (by omega)) ?_
        refine WL_stepM rfl (R_as) ?_
        refine WL_nil ?_
        refine W_cond_t rfl ?_
        refine W_region_l ?_
        refine WL_step rfl (R_fieldAddr (off' := 4) Tryd.underlying25 rfl Tryd.sizeOf3 (by decide) rfl rfl) ?_
        refine WL_step rfl (R_load (v := I (p.a ||| bitN k).toInt) Tryd.isAgg3 rfl (H.get (.there .here)) rfl) ?_
        refine WL_step rfl (R_bits rfl rfl (by simp) (bv_andNot _ 16384#64)) ?_
        refine WL_step rfl (R_fieldAddr (off' := 4) Tryd.underlying25 rfl Tryd.sizeOf3 (by decide) rfl rfl) ?_
        (refine WL_effu rfl (E_store (v := I ((p.a ||| bitN k) &&& ~~~ 16384#64).toInt) H Tryd.sizeOf3 rfl rfl rfl (.there .here) (by rw [piC_len]; omega)) ?_; clear H; intro w430 H; rw [set_a] at H)
        refine WL_nil ?_
        refine W_seq ?_
        refine W_region_l ?_
        refine WL_step rfl (R_loadP rfl (H.get (.there .here))) ?_
        (refine WL_effu rfl (E_storeP H rfl rfl .here) ?_; clear H; intro w435 H)
        refine WL_stepM rfl (R_as) ?_
        refine WL_nil ?_
        refine W_ret ?_
        exact ⟨_, ⟨_, _, rfl, ldP (H.get .here), rfl⟩, congrArg (fun q => Value.tuple #[vP q, .bool true]) (show _ = raiseN p k by refine pi_ext ?_ ?_ ?_ ?_ ?_ ?_ ?_ ?_ ?_ <;> first | rfl | (simp [raiseN, hcb, hs, hk9]; done) | (simp only [raiseN, hcb]; simp [hs, hk9]; done)), H.none (by repeat' first | exact kNil | apply kCons | apply kApp | assumption | exact OwnS.keys (by assumption))⟩
      · refine WL_step rfl (R_fieldAddr (off' := 6) Tryd.underlying25 rfl Tryd.sizeOf3 (by decide) rfl rfl) ?_
        refine WL_step rfl (R_load (v := I p.c.toInt) Tryd.isAgg3 rfl (H.get (.there .here)) rfl) ?_
        refine WL_stepM rfl (R_mv) ?_
        refine WL_step rfl (R_shr (r := p.c.toInt / ((2 ^ k : Nat) : Int)) rfl rfl (by omega) (shr_k h15)) ?_
        refine WL_step rfl (R_bits (r := 0) rfl rfl (by simp) ((and_mask_i64 1 2 (by decide) rfl (by decide)).trans (by rw [bit_shr h15, hcb]; rfl))) ?_
        refine WL_step rfl (R_eq_t rfl rfl rfl) ?_
        refine WL_stepM rfl (R_mv) ?_
        refine WL_guard_f rfl rfl (by decide) ?_
        refine WL_guard_f rfl rfl (by decide) ?_
        refine WL_stepM rfl (R_pk_t rfl) ?_
        refine WL_stepM rfl (R_mv) ?_
        refine WL_guard_f rfl rfl (by decide) ?_
        refine WL_guard_f rfl rfl (by decide) ?_
        refine WL_stepM rfl (R_pk_t rfl) ?_
        refine WL_nil ?_
        refine W_cond_t rfl ?_
        (refine W_draw (KH w [(c2, blk (piC p) 25)]) (fun i => Nat.ble 6 i) (by kernel_rfl) H ?_; clear H; intro w456 H)
        refine WA_take 0 rfl rfl rfl (by kernel_rfl) (by kernel_rfl) (H.kh (by simp) (by repeat' first | exact kNil | apply kCons | apply kApp | assumption | exact OwnS.keys (by assumption))) (fun _ hC => R_fieldAddr (off' := 4) Tryd.underlying25 rfl Tryd.sizeOf3 (by decide) rfl rfl) ?_
        refine WA_take 1 rfl rfl rfl (by kernel_rfl) (by kernel_rfl) (H.kh (by simp) (by repeat' first | exact kNil | apply kCons | apply kApp | assumption | exact OwnS.keys (by assumption))) (fun _ hC => R_load (v := I p.a.toInt) Tryd.isAgg3 rfl (hC.get .here) rfl) ?_
        refine WA_takeM 2 rfl rfl rfl (by kernel_rfl) (by kernel_rfl) (H.kh (by simp) (by repeat' first | exact kNil | apply kCons | apply kApp | assumption | exact OwnS.keys (by assumption))) (fun _ hC => R_mv) ?_
        refine WA_take 3 rfl rfl rfl (by kernel_rfl) (by kernel_rfl) (H.kh (by simp) (by repeat' first | exact kNil | apply kCons | apply kApp | assumption | exact OwnS.keys (by assumption))) (fun _ hC => R_shl (r := (bitN k).toInt) rfl rfl (by omega) (bit_shl h15)) ?_
        refine WA_take 4 rfl rfl rfl (by kernel_rfl) (by kernel_rfl) (H.kh (by simp) (by repeat' first | exact kNil | apply kCons | apply kApp | assumption | exact OwnS.keys (by assumption))) (fun _ hC => R_bits rfl rfl (by simp) (bv_or p.a (bitN k))) ?_
        refine WA_take 5 rfl rfl rfl (by kernel_rfl) (by kernel_rfl) (H.kh (by simp) (by repeat' first | exact kNil | apply kCons | apply kApp | assumption | exact OwnS.keys (by assumption))) (fun _ hC => R_fieldAddr (off' := 4) Tryd.underlying25 rfl Tryd.sizeOf3 (by decide) rfl rfl) ?_
        refine WA_one (i := 6) (by kernel_rfl) ?_
        (refine WI_effu rfl (.inl rfl) (E_store (v := I (p.a ||| bitN k).toInt) H Tryd.sizeOf3 rfl rfl rfl (.there .here) (by rw [piC_len]; omega)) (fun _ H => (by first | exact fun h => absurd h (by decide) | exact fun _ => H | exact fun _ => H.none (by repeat' first | exact kNil | apply kCons | apply kApp | assumption | exact OwnS.keys (by assumption)) | exact fun _ => H.dropN (by repeat' first | exact kNil | apply kCons | apply kApp | assumption | exact OwnS.keys (by assumption)) | exact fun _ => H.pop (by assumption) | exact fun _ => (H.pop (by assumption)).pop (by assumption) | exact fun _ => H.kp | exact fun _ => H.kp.tail | exact fun _ => H.kp.tail.tail | exact fun _ => H.kp.tail.tail.tail | exact fun _ => H.kp.sub (by simp) | exact fun _ => Kp.nil | exact fun _ => H.kh (by simp) (by repeat' first | exact kNil | apply kCons | apply kApp | assumption | exact OwnS.keys (by assumption)))) ?_; clear H; intro w464 H; rw [set_a] at H)
        refine WA_done (by kernel_rfl) ?_
        refine W_seq ?_
        refine W_seq ?_
        refine W_region_l ?_
        refine WL_step rfl (R_fieldAddr (off' := 0) Tryd.underlying25 rfl Tryd.sizeOf3 (by decide) rfl rfl) ?_
        refine WL_step rfl (R_load (v := I p.s) Tryd.isAgg3 rfl (H.get (.there .here)) rfl) ?_
        refine WL_step rfl (R_eq_t rfl rfl hs) ?_
        refine WL_stepM rfl (R_mv) ?_
        refine WL_guard_t rfl rfl ?_
        refine WL_stepM rfl (R_mv) ?_
        refine WL_guard_t rfl rfl ?_
        refine WL_step rfl (R_eq_t rfl rfl (by omega)) ?_
        refine WL_guard_t rfl rfl ?_
        refine WL_stepM rfl (R_mv) ?_
        refine WL_guard_f rfl rfl (by decide) ?_
        refine WL_guard_f rfl rfl (by decide) ?_
        refine WL_guard_t rfl rfl ?_
        refine WL_stepM rfl (R_pk_t rfl) ?_
        refine WL_stepM rfl (R_pk_t rfl) ?_
        refine WL_nil ?_
        refine W_cond_t rfl ?_
        refine W_region_l ?_
        refine WL_step rfl (R_fieldAddr (off' := 0) Tryd.underlying25 rfl Tryd.sizeOf3 (by decide) rfl rfl) ?_
        (refine WL_effu rfl (E_store (v := I 1) H Tryd.sizeOf3 rfl rfl rfl (.there .here) (by rw [piC_len]; omega)) ?_; clear H; intro w488 H; rw [set_s] at H)
        refine WL_nil ?_
        refine W_seq ?_
        refine W_seq ?_
        refine W_region_l ?_
        refine WL_stepM rfl (R_mv) ?_
        refine WL_nil ?_
        refine W_block ?_
        refine W_seq ?_
        refine W_region_l ?_
        refine WL_step rfl (R_eq_t rfl rfl (by omega)) ?_
        refine WL_stepM rfl (R_as) ?_
        refine WL_nil ?_
        refine W_cond_t rfl ?_
        refine W_region_l ?_
        refine WL_step rfl (R_fieldAddr (off' := 4) Tryd.underlying25 rfl Tryd.sizeOf3 (by decide) rfl rfl) ?_
        refine WL_step rfl (R_load (v := I (p.a ||| bitN k).toInt) Tryd.isAgg3 rfl (H.get (.there .here)) rfl) ?_
        refine WL_step rfl (R_bits rfl rfl (by simp) (bv_andNot _ 16384#64)) ?_
        refine WL_step rfl (R_fieldAddr (off' := 4) Tryd.underlying25 rfl Tryd.sizeOf3 (by decide) rfl rfl) ?_
        (refine WL_effu rfl (E_store (v := I ((p.a ||| bitN k) &&& ~~~ 16384#64).toInt) H Tryd.sizeOf3 rfl rfl rfl (.there .here) (by rw [piC_len]; omega)) ?_; clear H; intro w507 H; rw [set_a] at H)
        refine WL_nil ?_
        refine W_seq ?_
        refine W_region_l ?_
        refine WL_step rfl (R_loadP rfl (H.get (.there .here))) ?_
        (refine WL_effu rfl (E_storeP H rfl rfl .here) ?_; clear H; intro w512 H)
        refine WL_stepM rfl (R_as) ?_
        refine WL_nil ?_
        refine W_ret ?_
        exact ⟨_, ⟨_, _, rfl, ldP (H.get .here), rfl⟩, congrArg (fun q => Value.tuple #[vP q, .bool true]) (show _ = raiseN p k by refine pi_ext ?_ ?_ ?_ ?_ ?_ ?_ ?_ ?_ ?_ <;> first | rfl | (simp [raiseN, hcb, hs, hk9]; done) | (simp only [raiseN, hcb]; simp [hs, hk9]; done)), H.none (by repeat' first | exact kNil | apply kCons | apply kApp | assumption | exact OwnS.keys (by assumption))⟩
      · refine WL_step rfl (R_fieldAddr (off' := 6) Tryd.underlying25 rfl Tryd.sizeOf3 (by decide) rfl rfl) ?_
        refine WL_step rfl (R_load (v := I p.c.toInt) Tryd.isAgg3 rfl (H.get (.there .here)) rfl) ?_
        refine WL_stepM rfl (R_mv) ?_
        refine WL_step rfl (R_shr (r := p.c.toInt / ((2 ^ k : Nat) : Int)) rfl rfl (by omega) (shr_k h15)) ?_
        refine WL_step rfl (R_bits (r := 0) rfl rfl (by simp) ((and_mask_i64 1 2 (by decide) rfl (by decide)).trans (by rw [bit_shr h15, hcb]; rfl))) ?_
        refine WL_step rfl (R_eq_t rfl rfl rfl) ?_
        refine WL_stepM rfl (R_mv) ?_
        refine WL_guard_f rfl rfl (by decide) ?_
        refine WL_guard_f rfl rfl (by decide) ?_
        refine WL_stepM rfl (R_pk_t rfl) ?_
        refine WL_stepM rfl (R_mv) ?_
        refine WL_guard_f rfl rfl (by decide) ?_
        refine WL_guard_f rfl rfl (by decide) ?_
        refine WL_stepM rfl (R_pk_t rfl) ?_
        refine WL_nil ?_
        refine W_cond_t rfl ?_
        (refine W_draw (KH w [(c2, blk (piC p) 25)]) (fun i => Nat.ble 6 i) (by kernel_rfl) H ?_; clear H; intro w533 H)
        refine WA_take 0 rfl rfl rfl (by kernel_rfl) (by kernel_rfl) (H.kh (by simp) (by repeat' first | exact kNil | apply kCons | apply kApp | assumption | exact OwnS.keys (by assumption))) (fun _ hC => R_fieldAddr (off' := 4) Tryd.underlying25 rfl Tryd.sizeOf3 (by decide) rfl rfl) ?_
        refine WA_take 1 rfl rfl rfl (by kernel_rfl) (by kernel_rfl) (H.kh (by simp) (by repeat' first | exact kNil | apply kCons | apply kApp | assumption | exact OwnS.keys (by assumption))) (fun _ hC => R_load (v := I p.a.toInt) Tryd.isAgg3 rfl (hC.get .here) rfl) ?_
        refine WA_takeM 2 rfl rfl rfl (by kernel_rfl) (by kernel_rfl) (H.kh (by simp) (by repeat' first | exact kNil | apply kCons | apply kApp | assumption | exact OwnS.keys (by assumption))) (fun _ hC => R_mv) ?_
        refine WA_take 3 rfl rfl rfl (by kernel_rfl) (by kernel_rfl) (H.kh (by simp) (by repeat' first | exact kNil | apply kCons | apply kApp | assumption | exact OwnS.keys (by assumption))) (fun _ hC => R_shl (r := (bitN k).toInt) rfl rfl (by omega) (bit_shl h15)) ?_
        refine WA_take 4 rfl rfl rfl (by kernel_rfl) (by kernel_rfl) (H.kh (by simp) (by repeat' first | exact kNil | apply kCons | apply kApp | assumption | exact OwnS.keys (by assumption))) (fun _ hC => R_bits rfl rfl (by simp) (bv_or p.a (bitN k))) ?_
        refine WA_take 5 rfl rfl rfl (by kernel_rfl) (by kernel_rfl) (H.kh (by simp) (by repeat' first | exact kNil | apply kCons | apply kApp | assumption | exact OwnS.keys (by assumption))) (fun _ hC => R_fieldAddr (off' := 4) Tryd.underlying25 rfl Tryd.sizeOf3 (by decide) rfl rfl) ?_
        refine WA_one (i := 6) (by kernel_rfl) ?_
        (refine WI_effu rfl (.inl rfl) (E_store (v := I (p.a ||| bitN k).toInt) H Tryd.sizeOf3 rfl rfl rfl (.there .here) (by rw [piC_len]; omega)) (fun _ H => (by first | exact fun h => absurd h (by decide) | exact fun _ => H | exact fun _ => H.none (by repeat' first | exact kNil | apply kCons | apply kApp | assumption | exact OwnS.keys (by assumption)) | exact fun _ => H.dropN (by repeat' first | exact kNil | apply kCons | apply kApp | assumption | exact OwnS.keys (by assumption)) | exact fun _ => H.pop (by assumption) | exact fun _ => (H.pop (by assumption)).pop (by assumption) | exact fun _ => H.kp | exact fun _ => H.kp.tail | exact fun _ => H.kp.tail.tail | exact fun _ => H.kp.tail.tail.tail | exact fun _ => H.kp.sub (by simp) | exact fun _ => Kp.nil | exact fun _ => H.kh (by simp) (by repeat' first | exact kNil | apply kCons | apply kApp | assumption | exact OwnS.keys (by assumption)))) ?_; clear H; intro w541 H; rw [set_a] at H)
        refine WA_done (by kernel_rfl) ?_
        refine W_seq ?_
        refine W_seq ?_
        refine W_region_l ?_
        refine WL_step rfl (R_fieldAddr (off' := 0) Tryd.underlying25 rfl Tryd.sizeOf3 (by decide) rfl rfl) ?_
        refine WL_step rfl (R_load (v := I p.s) Tryd.isAgg3 rfl (H.get (.there .here)) rfl) ?_
        refine WL_step rfl (R_eq_f rfl rfl (by omega)) ?_
        refine WL_stepM rfl (R_mv) ?_
        refine WL_guard_f rfl rfl (by decide) ?_
        refine WL_guard_f rfl rfl (by decide) ?_
        refine WL_guard_f rfl rfl (by decide) ?_
        refine WL_guard_n rfl rfl ?_
        refine WL_guard_n rfl rfl ?_
        refine WL_guard_f rfl rfl (by decide) ?_
        refine WL_stepM rfl (R_pk_f rfl) ?_
        refine WL_nil ?_
        refine W_cond_f rfl ?_
        refine W_skip ?_
        refine W_seq ?_
        refine W_seq ?_
        refine W_region_l ?_
        refine WL_stepM rfl (R_mv) ?_
        refine WL_nil ?_
        refine W_block ?_
        refine W_seq ?_
        refine W_region_l ?_
        refine WL_step rfl (R_eq_f rfl rfl (by omega)) ?_
        refine WL_stepM rfl (R_as) ?_
        refine WL_nil ?_
        refine W_cond_f rfl ?_
        refine W_seq ?_
        refine W_region_l ?_
        refine WL_step rfl (R_eq_f rfl rfl (by omega)) ?_
        refine WL_stepM rfl (R_as) ?_
        refine WL_nil ?_
        refine W_cond_f rfl ?_
        refine W_skip ?_
        refine W_seq ?_
        refine W_region_l ?_
        refine WL_step rfl (R_loadP rfl (H.get (.there .here))) ?_
        (refine WL_effu rfl (E_storeP H rfl rfl .here) ?_; clear H; intro w582 H)
        refine WL_stepM rfl (R_as) ?_
        refine WL_nil ?_
        refine W_ret ?_
        exact ⟨_, ⟨_, _, rfl, ldP (H.get .here), rfl⟩, congrArg (fun q => Value.tuple #[vP q, .bool true]) (show _ = raiseN p k by refine pi_ext ?_ ?_ ?_ ?_ ?_ ?_ ?_ ?_ ?_ <;> first | rfl | (simp [raiseN, hcb, hs, hk9]; done) | (simp only [raiseN, hcb]; simp [hs, hk9]; done)), H.none (by repeat' first | exact kNil | apply kCons | apply kApp | assumption | exact OwnS.keys (by assumption))⟩
      · refine WL_step rfl (R_fieldAddr (off' := 6) Tryd.underlying25 rfl Tryd.sizeOf3 (by decide) rfl rfl) ?_
        refine WL_step rfl (R_load (v := I p.c.toInt) Tryd.isAgg3 rfl (H.get (.there .here)) rfl) ?_
        refine WL_stepM rfl (R_mv) ?_
        refine WL_step rfl (R_shr (r := p.c.toInt / ((2 ^ k : Nat) : Int)) rfl rfl (by omega) (shr_k h15)) ?_
        refine WL_step rfl (R_bits (r := 0) rfl rfl (by simp) ((and_mask_i64 1 2 (by decide) rfl (by decide)).trans (by rw [bit_shr h15, hcb]; rfl))) ?_
        refine WL_step rfl (R_eq_t rfl rfl rfl) ?_
        refine WL_stepM rfl (R_mv) ?_
        refine WL_guard_f rfl rfl (by decide) ?_
        refine WL_guard_f rfl rfl (by decide) ?_
        refine WL_stepM rfl (R_pk_t rfl) ?_
        refine WL_stepM rfl (R_mv) ?_
        refine WL_guard_f rfl rfl (by decide) ?_
        refine WL_guard_f rfl rfl (by decide) ?_
        refine WL_stepM rfl (R_pk_t rfl) ?_
        refine WL_nil ?_
        refine W_cond_t rfl ?_
        (refine W_draw (KH w [(c2, blk (piC p) 25)]) (fun i => Nat.ble 6 i) (by kernel_rfl) H ?_; clear H; intro w603 H)
        refine WA_take 0 rfl rfl rfl (by kernel_rfl) (by kernel_rfl) (H.kh (by simp) (by repeat' first | exact kNil | apply kCons | apply kApp | assumption | exact OwnS.keys (by assumption))) (fun _ hC => R_fieldAddr (off' := 4) Tryd.underlying25 rfl Tryd.sizeOf3 (by decide) rfl rfl) ?_
        refine WA_take 1 rfl rfl rfl (by kernel_rfl) (by kernel_rfl) (H.kh (by simp) (by repeat' first | exact kNil | apply kCons | apply kApp | assumption | exact OwnS.keys (by assumption))) (fun _ hC => R_load (v := I p.a.toInt) Tryd.isAgg3 rfl (hC.get .here) rfl) ?_
        refine WA_takeM 2 rfl rfl rfl (by kernel_rfl) (by kernel_rfl) (H.kh (by simp) (by repeat' first | exact kNil | apply kCons | apply kApp | assumption | exact OwnS.keys (by assumption))) (fun _ hC => R_mv) ?_
        refine WA_take 3 rfl rfl rfl (by kernel_rfl) (by kernel_rfl) (H.kh (by simp) (by repeat' first | exact kNil | apply kCons | apply kApp | assumption | exact OwnS.keys (by assumption))) (fun _ hC => R_shl (r := (bitN k).toInt) rfl rfl (by omega) (bit_shl h15)) ?_
        refine WA_take 4 rfl rfl rfl (by kernel_rfl) (by kernel_rfl) (H.kh (by simp) (by repeat' first | exact kNil | apply kCons | apply kApp | assumption | exact OwnS.keys (by assumption))) (fun _ hC => R_bits rfl rfl (by simp) (bv_or p.a (bitN k))) ?_
        refine WA_take 5 rfl rfl rfl (by kernel_rfl) (by kernel_rfl) (H.kh (by simp) (by repeat' first | exact kNil | apply kCons | apply kApp | assumption | exact OwnS.keys (by assumption))) (fun _ hC => R_fieldAddr (off' := 4) Tryd.underlying25 rfl Tryd.sizeOf3 (by decide) rfl rfl) ?_
        refine WA_one (i := 6) (by kernel_rfl) ?_
        (refine WI_effu rfl (.inl rfl) (E_store (v := I (p.a ||| bitN k).toInt) H Tryd.sizeOf3 rfl rfl rfl (.there .here) (by rw [piC_len]; omega)) (fun _ H => (by first | exact fun h => absurd h (by decide) | exact fun _ => H | exact fun _ => H.none (by repeat' first | exact kNil | apply kCons | apply kApp | assumption | exact OwnS.keys (by assumption)) | exact fun _ => H.dropN (by repeat' first | exact kNil | apply kCons | apply kApp | assumption | exact OwnS.keys (by assumption)) | exact fun _ => H.pop (by assumption) | exact fun _ => (H.pop (by assumption)).pop (by assumption) | exact fun _ => H.kp | exact fun _ => H.kp.tail | exact fun _ => H.kp.tail.tail | exact fun _ => H.kp.tail.tail.tail | exact fun _ => H.kp.sub (by simp) | exact fun _ => Kp.nil | exact fun _ => H.kh (by simp) (by repeat' first | exact kNil | apply kCons | apply kApp | assumption | exact OwnS.keys (by assumption)))) ?_; clear H; intro w611 H; rw [set_a] at H)
        refine WA_done (by kernel_rfl) ?_
        refine W_seq ?_
        refine W_seq ?_
        refine W_region_l ?_
        refine WL_step rfl (R_fieldAddr (off' := 0) Tryd.underlying25 rfl Tryd.sizeOf3 (by decide) rfl rfl) ?_
        refine WL_step rfl (R_load (v := I p.s) Tryd.isAgg3 rfl (H.get (.there .here)) rfl) ?_
        refine WL_step rfl (R_eq_t rfl rfl hs) ?_
        refine WL_stepM rfl (R_mv) ?_
        refine WL_guard_t rfl rfl ?_
        refine WL_stepM rfl (R_mv) ?_
        refine WL_guard_t rfl rfl ?_
        refine WL_step rfl (R_eq_f rfl rfl (by omega)) ?_
        refine WL_guard_t rfl rfl ?_
        refine WL_stepM rfl (R_mv) ?_
        refine WL_guard_t rfl rfl ?_
        refine WL_stepM rfl (R_mv) ?_
        refine WL_guard_t rfl rfl ?_
        refine WL_step rfl (R_eq_f rfl rfl (by omega)) ?_
        refine WL_guard_t rfl rfl ?_
        refine WL_stepM rfl (R_pk_f rfl) ?_
        refine WL_stepM rfl (R_pk_t rfl) ?_
        refine WL_nil ?_
        refine W_cond_f rfl ?_
        refine W_skip ?_
        refine W_seq ?_
        refine W_seq ?_
        refine W_region_l ?_
        refine WL_stepM rfl (R_mv) ?_
        refine WL_nil ?_
        refine W_block ?_
        refine W_seq ?_
        refine W_region_l ?_
        refine WL_step rfl (R_eq_f rfl rfl (by omega)) ?_
        refine WL_stepM rfl (R_as) ?_
        refine WL_nil ?_
        refine W_cond_f rfl ?_
        refine W_seq ?_
        refine W_region_l ?_
        refine WL_step rfl (R_eq_f rfl rfl (by omega)) ?_
        refine WL_stepM rfl (R_as) ?_
        refine WL_nil ?_
        refine W_cond_f rfl ?_
        refine W_skip ?_
        refine W_seq ?_
        refine W_region_l ?_
        refine WL_step rfl (R_loadP rfl (H.get (.there .here))) ?_
        (refine WL_effu rfl (E_storeP H rfl rfl .here) ?_; clear H; intro w658 H)
        refine WL_stepM rfl (R_as) ?_
        refine WL_nil ?_
        refine W_ret ?_
        exact ⟨_, ⟨_, _, rfl, ldP (H.get .here), rfl⟩, congrArg (fun q => Value.tuple #[vP q, .bool true]) (show _ = raiseN p k by refine pi_ext ?_ ?_ ?_ ?_ ?_ ?_ ?_ ?_ ?_ <;> first | rfl | (simp [raiseN, hcb, hs, hk9]; done) | (simp only [raiseN, hcb]; simp [hs, hk9]; done)), H.none (by repeat' first | exact kNil | apply kCons | apply kApp | assumption | exact OwnS.keys (by assumption))⟩
      · refine WL_step rfl (R_fieldAddr (off' := 6) Tryd.underlying25 rfl Tryd.sizeOf3 (by decide) rfl rfl) ?_
        refine WL_step rfl (R_load (v := I p.c.toInt) Tryd.isAgg3 rfl (H.get (.there .here)) rfl) ?_
        refine WL_stepM rfl (R_mv) ?_
        refine WL_step rfl (R_shr (r := p.c.toInt / ((2 ^ k : Nat) : Int)) rfl rfl (by omega) (shr_k h15)) ?_
        refine WL_step rfl (R_bits (r := 1) rfl rfl (by simp) ((and_mask_i64 1 2 (by decide) rfl (by decide)).trans (by rw [bit_shr h15, hcb]; rfl))) ?_
        refine WL_step rfl (R_eq_f rfl rfl (by decide)) ?_
        refine WL_stepM rfl (R_mv) ?_
        refine WL_guard_t rfl rfl ?_
        refine WL_stepM rfl (R_mv) ?_
        refine WL_guard_t rfl rfl ?_
        refine WL_step rfl (R_eq_t rfl rfl (by omega)) ?_
        refine WL_stepM rfl (R_pk_f rfl) ?_
        refine WL_stepM rfl (R_mv) ?_
        refine WL_guard_f rfl rfl (by decide) ?_
        refine WL_guard_f rfl rfl (by decide) ?_
        refine WL_stepM rfl (R_pk_t rfl) ?_
        refine WL_nil ?_
        refine W_cond_t rfl ?_
        (refine W_draw (KH w [(c2, blk (piC p) 25)]) (fun i => Nat.ble 6 i) (by kernel_rfl) H ?_; clear H; intro w681 H)
        refine WA_take 0 rfl rfl rfl (by kernel_rfl) (by kernel_rfl) (H.kh (by simp) (by repeat' first | exact kNil | apply kCons | apply kApp | assumption | exact OwnS.keys (by assumption))) (fun _ hC => R_fieldAddr (off' := 4) Tryd.underlying25 rfl Tryd.sizeOf3 (by decide) rfl rfl) ?_
        refine WA_take 1 rfl rfl rfl (by kernel_rfl) (by kernel_rfl) (H.kh (by simp) (by repeat' first | exact kNil | apply kCons | apply kApp | assumption | exact OwnS.keys (by assumption))) (fun _ hC => R_load (v := I p.a.toInt) Tryd.isAgg3 rfl (hC.get .here) rfl) ?_
        refine WA_takeM 2 rfl rfl rfl (by kernel_rfl) (by kernel_rfl) (H.kh (by simp) (by repeat' first | exact kNil | apply kCons | apply kApp | assumption | exact OwnS.keys (by assumption))) (fun _ hC => R_mv) ?_
        refine WA_take 3 rfl rfl rfl (by kernel_rfl) (by kernel_rfl) (H.kh (by simp) (by repeat' first | exact kNil | apply kCons | apply kApp | assumption | exact OwnS.keys (by assumption))) (fun _ hC => R_shl (r := (bitN k).toInt) rfl rfl (by omega) (bit_shl h15)) ?_
        refine WA_take 4 rfl rfl rfl (by kernel_rfl) (by kernel_rfl) (H.kh (by simp) (by repeat' first | exact kNil | apply kCons | apply kApp | assumption | exact OwnS.keys (by assumption))) (fun _ hC => R_bits rfl rfl (by simp) (bv_or p.a (bitN k))) ?_
        refine WA_take 5 rfl rfl rfl (by kernel_rfl) (by kernel_rfl) (H.kh (by simp) (by repeat' first | exact kNil | apply kCons | apply kApp | assumption | exact OwnS.keys (by assumption))) (fun _ hC => R_fieldAddr (off' := 4) Tryd.underlying25 rfl Tryd.sizeOf3 (by decide) rfl rfl) ?_
        refine WA_one (i := 6) (by kernel_rfl) ?_
        (refine WI_effu rfl (.inl rfl) (E_store (v := I (p.a ||| bitN k).toInt) H Tryd.sizeOf3 rfl rfl rfl (.there .here) (by rw [piC_len]; omega)) (fun _ H => (by first | exact fun h => absurd h (by decide) | exact fun _ => H | exact fun _ => H.none (by repeat' first | exact kNil | apply kCons | apply kApp | assumption | exact OwnS.keys (by assumption)) | exact fun _ => H.dropN (by repeat' first | exact kNil | apply kCons | apply kApp | assumption | exact OwnS.keys (by assumption)) | exact fun _ => H.pop (by assumption) | exact fun _ => (H.pop (by assumption)).pop (by assumption) | exact fun _ => H.kp | exact fun _ => H.kp.tail | exact fun _ => H.kp.tail.tail | exact fun _ => H.kp.tail.tail.tail | exact fun _ => H.kp.sub (by simp) | exact fun _ => Kp.nil | exact fun _ => H.kh (by simp) (by repeat' first | exact kNil | apply kCons | apply kApp | assumption | exact OwnS.keys (by assumption)))) ?_; clear H; intro w689 H; rw [set_a] at H)
        refine WA_done (by kernel_rfl) ?_
        refine W_seq ?_
        refine W_seq ?_
        refine W_region_l ?_
        refine WL_step rfl (R_fieldAddr (off' := 0) Tryd.underlying25 rfl Tryd.sizeOf3 (by decide) rfl rfl) ?_
        refine WL_step rfl (R_load (v := I p.s) Tryd.isAgg3 rfl (H.get (.there .here)) rfl) ?_
        refine WL_step rfl (R_eq_f rfl rfl (by omega)) ?_
        refine WL_stepM rfl (R_mv) ?_
        refine WL_guard_f rfl rfl (by decide) ?_
        refine WL_guard_f rfl rfl (by decide) ?_
        refine WL_guard_f rfl rfl (by decide) ?_
        refine WL_guard_n rfl rfl ?_
        refine WL_guard_n rfl rfl ?_
        refine WL_guard_f rfl rfl (by decide) ?_
        refine WL_stepM rfl (R_pk_f rfl) ?_
        refine WL_nil ?_
        refine W_cond_f rfl ?_
        refine W_skip ?_
        refine W_seq ?_
        refine W_seq ?_
        refine W_region_l ?_
        refine WL_stepM rfl (R_mv) ?_
        refine WL_nil ?_
        refine W_block ?_
        refine W_seq ?_
        refine W_region_l ?_
        refine WL_step rfl (R_eq_f rfl rfl (by omega)) ?_
        refine WL_stepM rfl (R_as) ?_
        refine WL_nil ?_
        refine W_cond_f rfl ?_
        refine W_seq ?_
        refine W_region_l ?_
        refine WL_step rfl (R_eq_f rfl rfl (by omega)) ?_
        refine WL_stepM rfl (R_as) ?_
        refine WL_nil ?_
        refine W_cond_f rfl ?_
        refine W_skip ?_
        refine W_seq ?_
        refine W_region_l ?_
        refine WL_step rfl (R_loadP rfl (H.get (.there .here))) ?_
        (refine WL_effu rfl (E_storeP H rfl rfl .here) ?_; clear H; intro w730 H)
        refine WL_stepM rfl (R_as) ?_
        refine WL_nil ?_
        refine W_ret ?_
        exact ⟨_, ⟨_, _, rfl, ldP (H.get .here), rfl⟩, congrArg (fun q => Value.tuple #[vP q, .bool true]) (show _ = raiseN p k by refine pi_ext ?_ ?_ ?_ ?_ ?_ ?_ ?_ ?_ ?_ <;> first | rfl | (simp [raiseN, hcb, hs, hk9]; done) | (simp only [raiseN, hcb]; simp [hs, hk9]; done)), H.none (by repeat' first | exact kNil | apply kCons | apply kApp | assumption | exact OwnS.keys (by assumption))⟩
      · refine WL_step rfl (R_fieldAddr (off' := 6) Tryd.underlying25 rfl Tryd.sizeOf3 (by decide) rfl rfl) ?_
        refine WL_step rfl (R_load (v := I p.c.toInt) Tryd.isAgg3 rfl (H.get (.there .here)) rfl) ?_
        refine WL_stepM rfl (R_mv) ?_
        refine WL_step rfl (R_shr (r := p.c.toInt / ((2 ^ k : Nat) : Int)) rfl rfl (by omega) (shr_k h15)) ?_
        refine WL_step rfl (R_bits (r := 1) rfl rfl (by simp) ((and_mask_i64 1 2 (by decide) rfl (by decide)).trans (by rw [bit_shr h15, hcb]; rfl))) ?_
        refine WL_step rfl (R_eq_f rfl rfl (by decide)) ?_
        refine WL_stepM rfl (R_mv) ?_
        refine WL_guard_t rfl rfl ?_
        refine WL_stepM rfl (R_mv) ?_
        refine WL_guard_t rfl rfl ?_
        refine WL_step rfl (R_eq_t rfl rfl (by omega)) ?_
        refine WL_stepM rfl (R_pk_f rfl) ?_
        refine WL_stepM rfl (R_mv) ?_
        refine WL_guard_f rfl rfl (by decide) ?_
        refine WL_guard_f rfl rfl (by decide) ?_
        refine WL_stepM rfl (R_pk_t rfl) ?_
        refine WL_nil ?_
        refine W_cond_t rfl ?_
        (refine W_draw (KH w [(c2, blk (piC p) 25)]) (fun i => Nat.ble 6 i) (by kernel_rfl) H ?_; clear H; intro w753 H)
        refine WA_take 0 rfl rfl rfl (by kernel_rfl) (by kernel_rfl) (H.kh (by simp) (by repeat' first | exact kNil | apply kCons | apply kApp | assumption | exact OwnS.keys (by assumption))) (fun _ hC => R_fieldAddr (off' := 4) Tryd.underlying25 rfl Tryd.sizeOf3 (by decide) rfl rfl) ?_
        refine WA_take 1 rfl rfl rfl (by kernel_rfl) (by kernel_rfl) (H.kh (by simp) (by repeat' first | exact kNil | apply kCons | apply kApp | assumption | exact OwnS.keys (by assumption))) (fun _ hC => R_load (v := I p.a.toInt) Tryd.isAgg3 rfl (hC.get .here) rfl) ?_
        refine WA_takeM 2 rfl rfl rfl (by kernel_rfl) (by kernel_rfl) (H.kh (by simp) (by repeat' first | exact kNil | apply kCons | apply kApp | assumption | exact OwnS.keys (by assumption))) (fun _ hC => R_mv) ?_
        refine WA_take 3 rfl rfl rfl (by kernel_rfl) (by kernel_rfl) (H.kh (by simp) (by repeat' first | exact kNil | apply kCons | apply kApp | assumption | exact OwnS.keys (by assumption))) (fun _ hC => R_shl (r := (bitN k).toInt) rfl rfl (by omega) (bit_shl h15)) ?_
        refine WA_take 4 rfl rfl rfl (by kernel_rfl) (by kernel_rfl) (H.kh (by simp) (by repeat' first | exact kNil | apply kCons | apply kApp | assumption | exact OwnS.keys (by assumption))) (fun _ hC => R_bits rfl rfl (by simp) (bv_or p.a (bitN k))) ?_
        refine WA_take 5 rfl rfl rfl (by kernel_rfl) (by kernel_rfl) (H.kh (by simp) (by repeat' first | exact kNil | apply kCons | apply kApp | assumption | exact OwnS.keys (by assumption))) (fun _ hC => R_fieldAddr (off' := 4) Tryd.underlying25 rfl Tryd.sizeOf3 (by decide) rfl rfl) ?_
        refine WA_one (i := 6) (by kernel_rfl) ?_
        (refine WI_effu rfl (.inl rfl) (E_store (v := I (p.a ||| bitN k).toInt) H Tryd.sizeOf3 rfl rfl rfl (.there .here) (by rw [piC_len]; omega)) (fun _ H => (by first | exact fun h => absurd h (by decide) | exact fun _ => H | exact fun _ => H.none (by repeat' first | exact kNil | apply kCons | apply kApp | assumption | exact OwnS.keys (by assumption)) | exact fun _ => H.dropN (by repeat' first | exact kNil | apply kCons | apply kApp | assumption | exact OwnS.keys (by assumption)) | exact fun _ => H.pop (by assumption) | exact fun _ => (H.pop (by assumption)).pop (by assumption) | exact fun _ => H.kp | exact fun _ => H.kp.tail | exact fun _ => H.kp.tail.tail | exact fun _ => H.kp.tail.tail.tail | exact fun _ => H.kp.sub (by simp) | exact fun _ => Kp.nil | exact fun _ => H.kh (by simp) (by repeat' first | exact kNil | apply kCons | apply kApp | assumption | exact OwnS.keys (by assumption)))) ?_; clear H; intro w761 H; rw [set_a] at H)
        refine WA_done (by kernel_rfl) ?_
        refine W_seq ?_
        refine W_seq ?_
        refine W_region_l ?_
        refine WL_step rfl (R_fieldAddr (off' := 0) Tryd.underlying25 rfl Tryd.sizeOf3 (by decide) rfl rfl) ?_
        refine WL_step rfl (R_load (v := I p.s) Tryd.isAgg3 rfl (H.get (.there .here)) rfl) ?_
        refine WL_step rfl (R_eq_t rfl rfl hs) ?_
        refine WL_stepM rfl (R_mv) ?_
        refine WL_guard_t rfl rfl ?_
        refine WL_stepM rfl (R_mv) ?_
        refine WL_guard_t rfl rfl ?_
        refine WL_step rfl (R_eq_f rfl rfl (by omega)) ?_
        refine WL_guard_t rfl rfl ?_
        refine WL_stepM rfl (R_mv) ?_
        refine WL_guard_t rfl rfl ?_
        refine WL_stepM rfl (R_mv) ?_
        refine WL_guard_t rfl rfl ?_
        refine WL_step rfl (R_eq_t rfl rfl (by omega)) ?_
        refine WL_guard_t rfl rfl ?_
        refine WL_stepM rfl (R_pk_f rfl) ?_
        refine WL_stepM rfl (R_pk_t rfl) ?_
        refine WL_nil ?_
        refine W_cond_t rfl ?_
        refine W_region_l ?_
        refine WL_step rfl (R_fieldAddr (off' := 0) Tryd.underlying25 rfl Tryd.sizeOf3 (by decide) rfl rfl) ?_
        (refine WL_effu rfl (E_store (v := I 1) H Tryd.sizeOf3 rfl rfl rfl (.there .here) (by rw [piC_len]; omega)) ?_; clear H; intro w787 H; rw [set_s] at H)
        refine WL_nil ?_
        refine W_seq ?_
        refine W_seq ?_
        refine W_region_l ?_
        refine WL_stepM rfl (R_mv) ?_
        refine WL_nil ?_
        refine W_block ?_
        refine W_seq ?_
        refine W_region_l ?_
        refine WL_step rfl (R_eq_f rfl rfl (by omega)) ?_
        refine WL_stepM rfl (R_as) ?_
        refine WL_nil ?_
        refine W_cond_f rfl ?_
        refine W_seq ?_
        refine W_region_l ?_
        refine WL_step rfl (R_eq_f rfl rfl (by omega)) ?_
        refine WL_stepM rfl (R_as) ?_
        refine WL_nil ?_
        refine W_cond_f rfl ?_
        refine W_skip ?_
        refine W_seq ?_
        refine W_region_l ?_
        refine WL_step rfl (R_loadP rfl (H.get (.there .here))) ?_
        (refine WL_effu rfl (E_storeP H rfl rfl .here) ?_; clear H; intro w811 H)
        refine WL_stepM rfl (R_as) ?_
        refine WL_nil ?_
        refine W_ret ?_
        exact ⟨_, ⟨_, _, rfl, ldP (H.get .here), rfl⟩, congrArg (fun q => Value.tuple #[vP q, .bool true]) (show _ = raiseN p k by refine pi_ext ?_ ?_ ?_ ?_ ?_ ?_ ?_ ?_ ?_ <;> first | rfl | (simp [raiseN, hcb, hs, hk9]; done) | (simp only [raiseN, hcb]; simp [hs, hk9]; done)), H.none (by repeat' first | exact kNil | apply kCons | apply kApp | assumption | exact OwnS.keys (by assumption))⟩
      · refine WL_step rfl (R_fieldAddr (off' := 6) Tryd.underlying25 rfl Tryd.sizeOf3 (by decide) rfl rfl) ?_
        refine WL_step rfl (R_load (v := I p.c.toInt) Tryd.isAgg3 rfl (H.get (.there .here)) rfl) ?_
        refine WL_stepM rfl (R_mv) ?_
        refine WL_step rfl (R_shr (r := p.c.toInt / ((2 ^ k : Nat) : Int)) rfl rfl (by omega) (shr_k h15)) ?_
        refine WL_step rfl (R_bits (r := 1) rfl rfl (by simp) ((and_mask_i64 1 2 (by decide) rfl (by decide)).trans (by rw [bit_shr h15, hcb]; rfl))) ?_
        refine WL_step rfl (R_eq_f rfl rfl (by decide)) ?_
        refine WL_stepM rfl (R_mv) ?_
        refine WL_guard_t rfl rfl ?_
        refine WL_stepM rfl (R_mv) ?_
        refine WL_guard_t rfl rfl ?_
        refine WL_step rfl (R_eq_f rfl rfl (by omega)) ?_
        refine WL_stepM rfl (R_pk_f rfl) ?_
        refine WL_stepM rfl (R_mv) ?_
        refine WL_guard_t rfl rfl ?_
        refine WL_stepM rfl (R_mv) ?_
        refine WL_guard_t rfl rfl ?_
        refine WL_step rfl (R_eq_t rfl rfl (by omega)) ?_
        refine WL_stepM rfl (R_pk_f rfl) ?_
        refine WL_nil ?_
        refine W_cond_t rfl ?_
        (refine W_draw (KH w [(c2, blk (piC p) 25)]) (fun i => Nat.ble 6 i) (by kernel_rfl) H ?_; clear H; intro w836 H)
        refine WA_take 0 rfl rfl rfl (by kernel_rfl) (by kernel_rfl) (H.kh (by simp) (by repeat' first | exact kNil | apply kCons | apply kApp | assumption | exact OwnS.keys (by assumption))) (fun _ hC => R_fieldAddr (off' := 4) Tryd.underlying25 rfl Tryd.sizeOf3 (by decide) rfl rfl) ?_
        refine WA_take 1 rfl rfl rfl (by kernel_rfl) (by kernel_rfl) (H.kh (by simp) (by repeat' first | exact kNil | apply kCons | apply kApp | assumption | exact OwnS.keys (by assumption))) (fun _ hC => R_load (v := I p.a.toInt) Tryd.isAgg3 rfl (hC.get .here) rfl) ?_
        refine WA_takeM 2 rfl rfl rfl (by kernel_rfl) (by kernel_rfl) (H.kh (by simp) (by repeat' first | exact kNil | apply kCons | apply kApp | assumption | exact OwnS.keys (by assumption))) (fun _ hC => R_mv) ?_
        refine WA_take 3 rfl rfl rfl (by kernel_rfl) (by kernel_rfl) (H.kh (by simp) (by repeat' first | exact kNil | apply kCons | apply kApp | assumption | exact OwnS.keys (by assumption))) (fun _ hC => R_shl (r := (bitN k).toInt) rfl rfl (by omega) (bit_shl h15)) ?_
        refine WA_take 4 rfl rfl rfl (by kernel_rfl) (by kernel_rfl) (H.kh (by simp) (by repeat' first | exact kNil | apply kCons | apply kApp | assumption | exact OwnS.keys (by assumption))) (fun _ hC => R_bits rfl rfl (by simp) (bv_or p.a (bitN k))) ?_
        refine WA_take 5 rfl rfl rfl (by kernel_rfl) (by kernel_rfl) (H.kh (by simp) (by repeat' first | exact kNil | apply kCons | apply kApp | assumption | exact OwnS.keys (by assumption))) (fun _ hC => R_fieldAddr (off' := 4) Tryd.underlying25 rfl Tryd.sizeOf3 (by decide) rfl rfl) ?_
        refine WA_one (i := 6) (by kernel_rfl) ?_
        (refine WI_effu rfl (.inl rfl) (E_store (v := I (p.a ||| bitN k).toInt) H Tryd.sizeOf3 rfl rfl rfl (.there .here) (by rw [piC_len]; omega)) (fun _ H => (by first | exact fun h => absurd h (by decide) | exact fun _ => H | exact fun _ => H.none (by repeat' first | exact kNil | apply kCons | apply kApp | assumption | exact OwnS.keys (by assumption)) | exact fun _ => H.dropN (by repeat' first | exact kNil | apply kCons | apply kApp | assumption | exact OwnS.keys (by assumption)) | exact fun _ => H.pop (by assumption) | exact fun _ => (H.pop (by assumption)).pop (by assumption) | exact fun _ => H.kp | exact fun _ => H.kp.tail | exact fun _ => H.kp.tail.tail | exact fun _ => H.kp.tail.tail.tail | exact fun _ => H.kp.sub (by simp) | exact fun _ => Kp.nil | exact fun _ => H.kh (by simp) (by repeat' first | exact kNil | apply kCons | apply kApp | assumption | exact OwnS.keys (by assumption)))) ?_; clear H; intro w844 H; rw [set_a] at H)
        refine WA_done (by kernel_rfl) ?_
        refine W_seq ?_
        refine W_seq ?_
        refine W_region_l ?_
        refine WL_step rfl (R_fieldAddr (off' := 0) Tryd.underlying25 rfl Tryd.sizeOf3 (by decide) rfl rfl) ?_
        refine WL_step rfl (R_load (v := I p.s) Tryd.isAgg3 rfl (H.get (.there .here)) rfl) ?_
        refine WL_step rfl (R_eq_f rfl rfl (by omega)) ?_
        refine WL_stepM rfl (R_mv) ?_
        refine WL_guard_f rfl rfl (by decide) ?_
        refine WL_guard_f rfl rfl (by decide) ?_
        refine WL_guard_f rfl rfl (by decide) ?_
        refine WL_guard_n rfl rfl ?_
        refine WL_guard_n rfl rfl ?_
        refine WL_guard_f rfl rfl (by decide) ?_
        refine WL_stepM rfl (R_pk_f rfl) ?_
        refine WL_nil ?_
        refine W_cond_f rfl ?_
        refine W_skip ?_
        refine W_seq ?_
        refine W_seq ?_
        refine W_region_l ?_
        refine WL_stepM rfl (R_mv) ?_
        refine WL_nil ?_
        refine W_block ?_
        refine W_seq ?_
        refine W_region_l ?_
        refine WL_step rfl (R_eq_f rfl rfl (by omega)) ?_
        refine WL_stepM rfl (R_as) ?_
        refine WL_nil ?_
        refine W_cond_f rfl ?_
        refine W_seq ?_
        refine W_region_l ?_
        refine WL_step rfl (R_eq_t rfl rfl (by omega)) ?_
        refine WL_stepM rfl (R_as) ?_
        refine WL_nil ?_
        refine W_cond_t rfl ?_
        refine W_region_l ?_
        refine WL_step rfl (R_fieldAddr (off' := 4) Tryd.underlying25 rfl Tryd.sizeOf3 (by decide) rfl rfl) ?_
        refine WL_step rfl (R_load (v := I (p.a ||| bitN k).toInt) Tryd.isAgg3 rfl (H.get (.there .here)) rfl) ?_
        refine WL_step rfl (R_bits rfl rfl (by simp) (bv_andNot _ 32768#64)) ?_
        refine WL_step rfl (R_fieldAddr (off' := 4) Tryd.underlying25 rfl Tryd.sizeOf3 (by decide) rfl rfl) ?_
        (refine WL_effu rfl (E_store (v := I ((p.a ||| bitN k) &&& ~~~ 32768#64).toInt) H Tryd.sizeOf3 rfl rfl rfl (.there .here) (by rw [piC_len]; omega)) ?_; clear H; intro w886 H; rw [set_a] at H)
        refine WL_nil ?_
        refine W_seq ?_
        refine W_region_l ?_
        refine WL_step rfl (R_loadP rfl (H.get (.there .here))) ?_
        (refine WL_effu rfl (E_storeP H rfl rfl .here) ?_; clear H; intro w891 H)
        refine WL_stepM rfl (R_as) ?_
        refine WL_nil ?_
        refine W_ret ?_
        exact ⟨_, ⟨_, _, rfl, ldP (H.get .here), rfl⟩, congrArg (fun q => Value.tuple #[vP q, .bool true]) (show _ = raiseN p k by refine pi_ext ?_ ?_ ?_ ?_ ?_ ?_ ?_ ?_ ?_ <;> first | rfl | (simp [raiseN, hcb, hs, hk9]; done) | (simp only [raiseN, hcb]; simp [hs, hk9]; done)), H.none (by repeat' first | exact kNil | apply kCons | apply kApp | assumption | exact OwnS.keys (by assumption))⟩
      · refine WL_step rfl (R_fieldAddr (off' := 6) Tryd.underlying25 rfl Tryd.sizeOf3 (by decide) rfl rfl) ?_
        refine WL_step rfl (R_load (v := I p.c.toInt) Tryd.isAgg3 rfl (H.get (.there .here)) rfl) ?_
        refine WL_stepM rfl (R_mv) ?_
        refine WL_step rfl (R_shr (r := p.c.toInt / ((2 ^ k : Nat) : Int)) rfl rfl (by omega) (shr_k h15)) ?_
        refine WL_step rfl (R_bits (r := 1) rfl rfl (by simp) ((and_mask_i64 1 2 (by decide) rfl (by decide)).trans (by rw [bit_shr h15, hcb]; rfl))) ?_
        refine WL_step rfl (R_eq_f rfl rfl (by decide)) ?_
        refine WL_stepM rfl (R_mv) ?_
        refine WL_guard_t rfl rfl ?_
        refine WL_stepM rfl (R_mv) ?_
        refine WL_guard_t rfl rfl ?_
        refine WL_step rfl (R_eq_f rfl rfl (by omega)) ?_
        refine WL_stepM rfl (R_pk_f rfl) ?_
        refine WL_stepM rfl (R_mv) ?_
        refine WL_guard_t rfl rfl ?_
        refine WL_stepM rfl (R_mv) ?_
        refine WL_guard_t rfl rfl ?_
        refine WL_step rfl (R_eq_t rfl rfl (by omega)) ?_
        refine WL_stepM rfl (R_pk_f rfl) ?_
        refine WL_nil ?_
        refine W_cond_t rfl ?_
        (refine W_draw (KH w [(c2, blk (piC p) 25)]) (fun i => Nat.ble 6 i) (by kernel_rfl) H ?_; clear H; intro w916 H)
        refine WA_take 0 rfl rfl rfl (by kernel_rfl) (by kernel_rfl) (H.kh (by simp) (by repeat' first | exact kNil | apply kCons | apply kApp | assumption | exact OwnS.keys (by assumption))) (fun _ hC => R_fieldAddr (off' := 4) Tryd.underlying25 rfl Tryd.sizeOf3 (by decide) rfl rfl) ?_
        refine WA_take 1 rfl rfl rfl (by kernel_rfl) (by kernel_rfl) (H.kh (by simp) (by repeat' first | exact kNil | apply kCons | apply kApp | assumption | exact OwnS.keys (by assumption))) (fun _ hC => R_load (v := I p.a.toInt) Tryd.isAgg3 rfl (hC.get .here) rfl) ?_
        refine WA_takeM 2 rfl rfl rfl (by kernel_rfl) (by kernel_rfl) (H.kh (by simp) (by repeat' first | exact kNil | apply kCons | apply kApp | assumption | exact OwnS.keys (by assumption))) (fun _ hC => R_mv) ?_
        refine WA_take 3 rfl rfl rfl (by kernel_rfl) (by kernel_rfl) (H.kh (by simp) (by repeat' first | exact kNil | apply kCons | apply kApp | assumption | exact OwnS.keys (by assumption))) (fun _ hC => R_shl (r := (bitN k).toInt) rfl rfl (by omega) (bit_shl h15)) ?_
        refine WA_take 4 rfl rfl rfl (by kernel_rfl) (by kernel_rfl) (H.kh (by simp) (by repeat' first | exact kNil | apply kCons | apply kApp | assumption | exact OwnS.keys (by assumption))) (fun _ hC => R_bits rfl rfl (by simp) (bv_or p.a (bitN k))) ?_
        refine WA_take 5 rfl rfl rfl (by kernel_rfl) (by kernel_rfl) (H.kh (by simp) (by repeat' first | exact kNil | apply kCons | apply kApp | assumption | exact OwnS.keys (by assumption))) (fun _ hC => R_fieldAddr (off' := 4) Tryd.underlying25 rfl Tryd.sizeOf3 (by decide) rfl rfl) ?_
        refine WA_one (i := 6) (by kernel_rfl) ?_
        (refine WI_effu rfl (.inl rfl) (E_store (v := I (p.a ||| bitN k).toInt) H Tryd.sizeOf3 rfl rfl rfl (.there .here) (by rw [piC_len]; omega)) (fun _ H => (by first | exact fun h => absurd h (by decide) | exact fun _ => H | exact fun _ => H.none (by repeat' first | exact kNil | apply kCons | apply kApp | assumption | exact OwnS.keys (by assumption)) | exact fun _ => H.dropN (by repeat' first | exact kNil | apply kCons | apply kApp | assumption | exact OwnS.keys (by assumption)) | exact fun _ => H.pop (by assumption) | exact fun _ => (H.pop (by assumption)).pop (by assumption) | exact fun _ => H.kp | exact fun _ => H.kp.tail | exact fun _ => H.kp.tail.tail | exact fun _ => H.kp.tail.tail.tail | exact fun _ => H.kp.sub (by simp) | exact fun _ => Kp.nil | exact fun _ => H.kh (by simp) (by repeat' first | exact kNil | apply kCons | apply kApp | assumption | exact OwnS.keys (by assumption)))) ?_; clear H; intro w924 H; rw [set_a] at H)
        refine WA_done (by kernel_rfl) ?_
        refine W_seq ?_
        refine W_seq ?_
        refine W_region_l ?_
        refine WL_step rfl (R_fieldAddr (off' := 0) Tryd.underlying25 rfl Tryd.sizeOf3 (by decide) rfl rfl) ?_
        refine WL_step rfl (R_load (v := I p.s) Tryd.isAgg3 rfl (H.get (.there .here)) rfl) ?_
        refine WL_step rfl (R_eq_t rfl rfl hs) ?_
        refine WL_stepM rfl (R_mv) ?_
        refine WL_guard_t rfl rfl ?_
        refine WL_stepM rfl (R_mv) ?_
        refine WL_guard_t rfl rfl ?_
        refine WL_step rfl (R_eq_f rfl rfl (by omega)) ?_
        refine WL_guard_t rfl rfl ?_
        refine WL_stepM rfl (R_mv) ?_
        refine WL_guard_t rfl rfl ?_
        refine WL_stepM rfl (R_mv) ?_
        refine WL_guard_t rfl rfl ?_
        refine WL_step rfl (R_eq_f rfl rfl (by omega)) ?_
        refine WL_guard_t rfl rfl ?_
        refine WL_stepM rfl (R_pk_f rfl) ?_
        refine WL_stepM rfl (R_pk_t rfl) ?_
        refine WL_nil ?_
        refine W_cond_f rfl ?_
        refine W_skip ?_
        refine W_seq ?_
        refine W_seq ?_
        refine W_region_l ?_
        refine WL_stepM rfl (R_mv) ?_
        refine WL_nil ?_
        refine W_block ?_
        refine W_seq ?_
        refine W_region_l ?_
        refine WL_step rfl (R_eq_f rfl rfl (by omega)) ?_
        refine WL_stepM rfl (R_as) ?_
        refine WL_nil ?_
        refine W_cond_f rfl ?_
        refine W_seq ?_
        refine W_region_l ?_
        refine WL_step rfl (R_eq_t rfl rfl (by omega)) ?_
        refine WL_stepM rfl (R_as) ?_
        refine WL_nil ?_
        refine W_cond_t rfl ?_
        refine W_region_l ?_
        refine WL_step rfl (R_fieldAddr (off' := 4) Tryd.underlying25 rfl Tryd.sizeOf3 (by decide) rfl rfl) ?_
        refine WL_step rfl (R_load (v := I (p.a ||| bitN k).toInt) Tryd.isAgg3 rfl (H.get (.there .here)) rfl) ?_
        refine WL_step rfl (R_bits rfl rfl (by simp) (bv_andNot _ 32768#64)) ?_
        refine WL_step rfl (R_fieldAddr (off' := 4) Tryd.underlying25 rfl Tryd.sizeOf3 (by decide) rfl rfl) ?_
        (refine WL_effu rfl (E_store (v := I ((p.a ||| bitN k) &&& ~~~ 32768#64).toInt) H Tryd.sizeOf3 rfl rfl rfl (.there .here) (by rw [piC_len]; omega)) ?_; clear H; intro w972 H; rw [set_a] at H)
        refine WL_nil ?_
        refine W_seq ?_
        refine W_region_l ?_
        refine WL_step rfl (R_loadP rfl (H.get (.there .here))) ?_
        (refine WL_effu rfl (E_storeP H rfl rfl .here) ?_; clear H; intro w977 H)
        refine WL_stepM rfl (R_as) ?_
        refine WL_nil ?_
        refine W_ret ?_
        exact ⟨_, ⟨_, _, rfl, ldP (H.get .here), rfl⟩, congrArg (fun q => Value.tuple #[vP q, .bool true]) (show _ = raiseN p k by refine pi_ext ?_ ?_ ?_ ?_ ?_ ?_ ?_ ?_ ?_ <;> first | rfl | (simp [raiseN, hcb, hs, hk9]; done) | (simp only [raiseN, hcb]; simp [hs, hk9]; done)), H.none (by repeat' first | exact kNil | apply kCons | apply kApp | assumption | exact OwnS.keys (by assumption))⟩
      · refine WL_step rfl (R_fieldAddr (off' := 6) Tryd.underlying25 rfl Tryd.sizeOf3 (by decide) rfl rfl) ?_
        refine WL_step rfl (R_load (v := I p.c.toInt) Tryd.isAgg3 rfl (H.get (.there .here)) rfl) ?_
        refine WL_stepM rfl (R_mv) ?_
        refine WL_step rfl (R_shr (r := p.c.toInt / ((2 ^ k : Nat) : Int)) rfl rfl (by omega) (shr_k h15)) ?_
        refine WL_step rfl (R_bits (r := 1) rfl rfl (by simp) ((and_mask_i64 1 2 (by decide) rfl (by decide)).trans (by rw [bit_shr h15, hcb]; rfl))) ?_
        refine WL_step rfl (R_eq_f rfl rfl (by decide)) ?_
        refine WL_stepM rfl (R_mv) ?_
        refine WL_guard_t rfl rfl ?_
        refine WL_stepM rfl (R_mv) ?_
        refine WL_guard_t rfl rfl ?_
        refine WL_step rfl (R_eq_f rfl rfl (by omega)) ?_
        refine WL_stepM rfl (R_pk_f rfl) ?_
        refine WL_stepM rfl (R_mv) ?_
        refine WL_guard_t rfl rfl ?_
        refine WL_stepM rfl (R_mv) ?_
        refine WL_guard_t rfl rfl ?_
        refine WL_step rfl (R_eq_f rfl rfl (by omega)) ?_
        refine WL_stepM rfl (R_pk_f rfl) ?_
        refine WL_nil ?_
        refine W_cond_f rfl ?_
        refine W_skip ?_
        refine W_seq ?_
        refine W_seq ?_
        refine W_region_l ?_
        refine WL_step rfl (R_fieldAddr (off' := 0) Tryd.underlying25 rfl Tryd.sizeOf3 (by decide) rfl rfl) ?_
        refine WL_step rfl (R_load (v := I p.s) Tryd.isAgg3 rfl (H.get (.there .here)) rfl) ?_
        refine WL_step rfl (R_eq_f rfl rfl (by omega)) ?_
        refine WL_stepM rfl (R_mv) ?_
        refine WL_guard_f rfl rfl (by decide) ?_
        refine WL_guard_f rfl rfl (by decide) ?_
        refine WL_guard_f rfl rfl (by decide) ?_
        refine WL_guard_n rfl rfl ?_
        refine WL_guard_n rfl rfl ?_
        refine WL_guard_f rfl rfl (by decide) ?_
        refine WL_stepM rfl (R_pk_f rfl) ?_
        refine WL_nil ?_
        refine W_cond_f rfl ?_
        refine W_skip ?_
        refine W_seq ?_
        refine W_seq ?_
        refine W_region_l ?_
        refine WL_stepM rfl (R_mv) ?_
        refine WL_nil ?_
        refine W_block ?_
        refine W_seq ?_
        refine W_region_l ?_
        refine WL_step rfl (R_eq_t rfl rfl (by omega)) ?_
        refine WL_stepM rfl (R_as) ?_
        refine WL_nil ?_
        refine W_cond_t rfl ?_
        refine W_region_l ?_
        refine WL_step rfl (R_fieldAddr (off' := 4) Tryd.underlying25 rfl Tryd.sizeOf3 (by decide) rfl rfl) ?_
        refine WL_step rfl (R_load (v := I p.a.toInt) Tryd.isAgg3 rfl (H.get (.there .here)) rfl) ?_
        refine WL_step rfl (R_bits rfl rfl (by simp) (bv_andNot _ 16384#64)) ?_
        refine WL_step rfl (R_fieldAddr (off' := 4) Tryd.underlying25 rfl Tryd.sizeOf3 (by decide) rfl rfl) ?_
        (refine WL_effu rfl (E_store (v := I (p.a &&& ~~~ 16384#64).toInt) H Tryd.sizeOf3 rfl rfl rfl (.there .here) (by rw [piC_len]; omega)) ?_; clear H; intro w1037 H; rw [set_a] at H)
        refine WL_nil ?_
        refine W_seq ?_
        refine W_region_l ?_
        refine WL_step rfl (R_loadP rfl (H.get (.there .here))) ?_
        (refine WL_effu rfl (E_storeP H rfl rfl .here) ?_; clear H; intro w1042 H)
        refine WL_stepM rfl (R_as) ?_
        refine WL_nil ?_
        refine W_ret ?_
        exact ⟨_, ⟨_, _, rfl, ldP (H.get .here), rfl⟩, congrArg (fun q => Value.tuple #[vP q, .bool true]) (show _ = raiseN p k by refine pi_ext ?_ ?_ ?_ ?_ ?_ ?_ ?_ ?_ ?_ <;> first | rfl | (simp [raiseN, hcb, hs, hk9]; done) | (simp only [raiseN, hcb]; simp [hs, hk9]; done)), H.none (by repeat' first | exact kNil | apply kCons | apply kApp | assumption | exact OwnS.keys (by assumption))⟩
      · refine WL_step rfl (R_fieldAddr (off' := 6) Tryd.underlying25 rfl Tryd.sizeOf3 (by decide) rfl rfl) ?_
        refine WL_step rfl (R_load (v := I p.c.toInt) Tryd.isAgg3 rfl (H.get (.there .here)) rfl) ?_
        refine WL_stepM rfl (R_mv) ?_
        refine WL_step rfl (R_shr (r := p.c.toInt / ((2 ^ k : Nat) : Int)) rfl rfl (by omega) (shr_k h15)) ?_
        refine WL_step rfl (R_bits (r := 1) rfl rfl (by simp) ((and_mask_i64 1 2 (by decide) rfl (by decide)).trans (by rw [bit_shr h15, hcb]; rfl))) ?_
        refine WL_step rfl (R_eq_f rfl rfl (by decide)) ?_
        refine WL_stepM rfl (R_mv) ?_
        refine WL_guard_t rfl rfl ?_
        refine WL_stepM rfl (R_mv) ?_
        refine WL_guard_t rfl rfl ?_
        refine WL_step rfl (R_eq_f rfl rfl (by omega)) ?_
        refine WL_stepM rfl (R_pk_f rfl) ?_
        refine WL_stepM rfl (R_mv) ?_
        refine WL_guard_t rfl rfl ?_
        refine WL_stepM rfl (R_mv) ?_
        refine WL_guard_t rfl rfl ?_
        refine WL_step rfl (R_eq_f rfl rfl (by omega)) ?_
        refine WL_stepM rfl (R_pk_f rfl) ?_
        refine WL_nil ?_
        refine W_cond_f rfl ?_
        refine W_skip ?_
        refine W_seq ?_
        refine W_seq ?_
        refine W_region_l ?_
        refine WL_step rfl (R_fieldAddr (off' := 0) Tryd.underlying25 rfl Tryd.sizeOf3 (by decide) rfl rfl) ?_
        refine WL_step rfl (R_load (v := I p.s) Tryd.isAgg3 rfl (H.get (.there .here)) rfl) ?_
        refine WL_step rfl (R_eq_t rfl rfl hs) ?_
        refine WL_stepM rfl (R_mv) ?_
        refine WL_guard_t rfl rfl ?_
        refine WL_stepM rfl (R_mv) ?_
        refine WL_guard_t rfl rfl ?_
        refine WL_step rfl (R_eq_t rfl rfl (by omega)) ?_
        refine WL_guard_t rfl rfl ?_
        refine WL_stepM rfl (R_mv) ?_
        refine WL_guard_f rfl rfl (by decide) ?_
        refine WL_guard_f rfl rfl (by decide) ?_
        refine WL_guard_t rfl rfl ?_
        refine WL_stepM rfl (R_pk_t rfl) ?_
        refine WL_stepM rfl (R_pk_t rfl) ?_
        refine WL_nil ?_
        refine W_cond_t rfl ?_
        refine W_region_l ?_
        refine WL_step rfl (R_fieldAddr (off' := 0) Tryd.underlying25 rfl Tryd.sizeOf3 (by decide) rfl rfl) ?_
        (refine WL_effu rfl (E_store (v := I 1) H Tryd.sizeOf3 rfl rfl rfl (.there .here) (by rw [piC_len]; omega)) ?_; clear H; intro w1090 H; rw [set_s] at H)
        refine WL_nil ?_
        refine W_seq ?_
        refine W_seq ?_
        refine W_region_l ?_
        refine WL_stepM rfl (R_mv) ?_
        refine WL_nil ?_
        refine W_block ?_
        refine W_seq ?_
        refine W_region_l ?_
        refine WL_step rfl (R_eq_t rfl rfl (by omega)) ?_
        refine WL_stepM rfl (R_as) ?_
        refine WL_nil ?_
        refine W_cond_t rfl ?_
        refine W_region_l ?_
        refine WL_step rfl (R_fieldAddr (off' := 4) Tryd.underlying25 rfl Tryd.sizeOf3 (by decide) rfl rfl) ?_
        refine WL_step rfl (R_load (v := I p.a.toInt) Tryd.isAgg3 rfl (H.get (.there .here)) rfl) ?_
        refine WL_step rfl (R_bits rfl rfl (by simp) (bv_andNot _ 16384#64)) ?_
        refine WL_step rfl (R_fieldAddr (off' := 4) Tryd.underlying25 rfl Tryd.sizeOf3 (by decide) rfl rfl) ?_
        (refine WL_effu rfl (E_store (v := I (p.a &&& ~~~ 16384#64).toInt) H Tryd.sizeOf3 rfl rfl rfl (.there .here) (by rw [piC_len]; omega)) ?_; clear H; intro w1109 H; rw [set_a] at H)
        refine WL_nil ?_
        refine W_seq ?_
        refine W_region_l ?_
        refine WL_step rfl (R_loadP rfl (H.get (.there .here))) ?_
        (refine WL_effu rfl (E_storeP H rfl rfl .here) ?_; clear H; intro w1114 H)
        refine WL_stepM rfl (R_as) ?_
        refine WL_nil ?_
        refine W_ret ?_
        exact ⟨_, ⟨_, _, rfl, ldP (H.get .here), rfl⟩, congrArg (fun q => Value.tuple #[vP q, .bool true]) (show _ = raiseN p k by refine pi_ext ?_ ?_ ?_ ?_ ?_ ?_ ?_ ?_ ?_ <;> first | rfl | (simp [raiseN, hcb, hs, hk9]; done) | (simp only [raiseN, hcb]; simp [hs, hk9]; done)), H.none (by repeat' first | exact kNil | apply kCons | apply kApp | assumption | exact OwnS.keys (by assumption))⟩
      · refine WL_step rfl (R_fieldAddr (off' := 6) Tryd.underlying25 rfl Tryd.sizeOf3 (by decide) rfl rfl) ?_
        refine WL_step rfl (R_load (v := I p.c.toInt) Tryd.isAgg3 rfl (H.get (.there .here)) rfl) ?_
        refine WL_stepM rfl (R_mv) ?_
        refine WL_step rfl (R_shr (r := p.c.toInt / ((2 ^ k : Nat) : Int)) rfl rfl (by omega) (shr_k h15)) ?_
        refine WL_step rfl (R_bits (r := 1) rfl rfl (by simp) ((and_mask_i64 1 2 (by decide) rfl (by decide)).trans (by rw [bit_shr h15, hcb]; rfl))) ?_
        refine WL_step rfl (R_eq_f rfl rfl (by decide)) ?_
        refine WL_stepM rfl (R_mv) ?_
        refine WL_guard_t rfl rfl ?_
        refine WL_stepM rfl (R_mv) ?_
        refine WL_guard_t rfl rfl ?_
        refine WL_step rfl (R_eq_f rfl rfl (by omega)) ?_
        refine WL_stepM rfl (R_pk_f rfl) ?_
        refine WL_stepM rfl (R_mv) ?_
        refine WL_guard_t rfl rfl ?_
        refine WL_stepM rfl (R_mv) ?_
        refine WL_guard_t rfl rfl ?_
        refine WL_step rfl (R_eq_f rfl rfl (by omega)) ?_
        refine WL_stepM rfl (R_pk_f rfl) ?_
        refine WL_nil ?_
        refine W_cond_f rfl ?_
        refine W_skip ?_
        refine W_seq ?_
        refine W_seq ?_
        refine W_region_l ?_
        refine WL_step rfl (R_fieldAddr (off' := 0) Tryd.underlying25 rfl Tryd.sizeOf3 (by decide) rfl rfl) ?_
        refine WL_step rfl (R_load (v := I p.s) Tryd.isAgg3 rfl (H.get (.there .here)) rfl) ?_
        refine WL_step rfl (R_eq_f rfl rfl (by omega)) ?_
        refine WL_stepM rfl (R_mv) ?_
        refine WL_guard_f rfl rfl (by decide) ?_
        refine WL_guard_f rfl rfl (by decide) ?_
        refine WL_guard_f rfl rfl (by decide) ?_
        refine WL_guard_n rfl rfl ?_
        refine WL_guard_n rfl rfl ?_
        refine WL_guard_f rfl rfl (by decide) ?_
        refine WL_stepM rfl (R_pk_f rfl) ?_
        refine WL_nil ?_
        refine W_cond_f rfl ?_
        refine W_skip ?_
        refine W_seq ?_
        refine W_seq ?_
        refine W_region_l ?_
        refine WL_stepM rfl (R_mv) ?_
        refine WL_nil ?_
        refine W_block ?_
        refine W_seq ?_
        refine W_region_l ?_
        refine WL_step rfl (R_eq_f rfl rfl (by omega)) ?_
        refine WL_stepM rfl (R_as) ?_
        refine WL_nil ?_
        refine W_cond_f rfl ?_
        refine W_seq ?_
        refine W_region_l ?_
        refine WL_step rfl (R_eq_f rfl rfl (by omega)) ?_
        refine WL_stepM rfl (R_as) ?_
        refine WL_nil ?_
        refine W_cond_f rfl ?_
        refine W_skip ?_
        refine W_seq ?_
        refine W_region_l ?_
        refine WL_step rfl (R_loadP rfl (H.get (.there .here))) ?_
        (refine WL_effu rfl (E_storeP H rfl rfl .here) ?_; clear H; intro w1179 H)
        refine WL_stepM rfl (R_as) ?_
        refine WL_nil ?_
        refine W_ret ?_
        exact ⟨_, ⟨_, _, rfl, ldP (H.get .here), rfl⟩, congrArg (fun q => Value.tuple #[vP q, .bool true]) (show _ = raiseN p k by refine pi_ext ?_ ?_ ?_ ?_ ?_ ?_ ?_ ?_ ?_ <;> first | rfl | (simp [raiseN, hcb, hs, hk9]; done) | (simp only [raiseN, hcb]; simp [hs, hk9]; done)), H.none (by repeat' first | exact kNil | apply kCons | apply kApp | assumption | exact OwnS.keys (by assumption))⟩
      · refine WL_step rfl (R_fieldAddr (off' := 6) Tryd.underlying25 rfl Tryd.sizeOf3 (by decide) rfl rfl) ?_
        refine WL_step rfl (R_load (v := I p.c.toInt) Tryd.isAgg3 rfl (H.get (.there .here)) rfl) ?_
        refine WL_stepM rfl (R_mv) ?_
        refine WL_step rfl (R_shr (r := p.c.toInt / ((2 ^ k : Nat) : Int)) rfl rfl (by omega) (shr_k h15)) ?_
        refine WL_step rfl (R_bits (r := 1) rfl rfl (by simp) ((and_mask_i64 1 2 (by decide) rfl (by decide)).trans (by rw [bit_shr h15, hcb]; rfl))) ?_
        refine WL_step rfl (R_eq_f rfl rfl (by decide)) ?_
        refine WL_stepM rfl (R_mv) ?_
        refine WL_guard_t rfl rfl ?_
        refine WL_stepM rfl (R_mv) ?_
        refine WL_guard_t rfl rfl ?_
        refine WL_step rfl (R_eq_f rfl rfl (by omega)) ?_
        refine WL_stepM rfl (R_pk_f rfl) ?_
        refine WL_stepM rfl (R_mv) ?_
        refine WL_guard_t rfl rfl ?_
        refine WL_stepM rfl (R_mv) ?_
        refine WL_guard_t rfl rfl ?_
        refine WL_step rfl (R_eq_f rfl rfl (by omega)) ?_
        refine WL_stepM rfl (R_pk_f rfl) ?_
        refine WL_nil ?_
        refine W_cond_f rfl ?_
        refine W_skip ?_
        refine W_seq ?_
        refine W_seq ?_
        refine W_region_l ?_
        refine WL_step rfl (R_fieldAddr (off' := 0) Tryd.underlying25 rfl Tryd.sizeOf3 (by decide) rfl rfl) ?_
        refine WL_step rfl (R_load (v := I p.s) Tryd.isAgg3 rfl (H.get (.there .here)) rfl) ?_
        refine WL_step rfl (R_eq_t rfl rfl hs) ?_
        refine WL_stepM rfl (R_mv) ?_
        refine WL_guard_t rfl rfl ?_
        refine WL_stepM rfl (R_mv) ?_
        refine WL_guard_t rfl rfl ?_
        refine WL_step rfl (R_eq_f rfl rfl (by omega)) ?_
        refine WL_guard_t rfl rfl ?_
        refine WL_stepM rfl (R_mv) ?_
        refine WL_guard_t rfl rfl ?_
        refine WL_stepM rfl (R_mv) ?_
        refine WL_guard_t rfl rfl ?_
        refine WL_step rfl (R_eq_f rfl rfl (by omega)) ?_
        refine WL_guard_t rfl rfl ?_
        refine WL_stepM rfl (R_pk_f rfl) ?_
        refine WL_stepM rfl (R_pk_t rfl) ?_
        refine WL_nil ?_
        refine W_cond_f rfl ?_
        refine W_skip ?_
        refine W_seq ?_
        refine W_seq ?_
        refine W_region_l ?_
        refine WL_stepM rfl (R_mv) ?_
        refine WL_nil ?_
        refine W_block ?_
        refine W_seq ?_
        refine W_region_l ?_
        refine WL_step rfl (R_eq_f rfl rfl (by omega)) ?_
        refine WL_stepM rfl (R_as) ?_
        refine WL_nil ?_
        refine W_cond_f rfl ?_
        refine W_seq ?_
        refine W_region_l ?_
        refine WL_step rfl (R_eq_f rfl rfl (by omega)) ?_
        refine WL_stepM rfl (R_as) ?_
        refine WL_nil ?_
        refine W_cond_f rfl ?_
        refine W_skip ?_
        refine W_seq ?_
        refine W_region_l ?_
        refine WL_step rfl (R_loadP rfl (H.get (.there .here))) ?_
        (refine WL_effu rfl (E_storeP H rfl rfl .here) ?_; clear H; intro w1250 H)
        refine WL_stepM rfl (R_as) ?_
        refine WL_nil ?_
        refine W_ret ?_
        exact ⟨_, ⟨_, _, rfl, ldP (H.get .here), rfl⟩, congrArg (fun q => Value.tuple #[vP q, .bool true]) (show _ = raiseN p k by refine pi_ext ?_ ?_ ?_ ?_ ?_ ?_ ?_ ?_ ?_ <;> first | rfl | (simp [raiseN, hcb, hs, hk9]; done) | (simp only [raiseN, hcb]; simp [hs, hk9]; done)), H.none (by repeat' first | exact kNil | apply kCons | apply kApp | assumption | exact OwnS.keys (by assumption))⟩
end Go.Proofs.YtneeoicjipglkaaDoor.Slot

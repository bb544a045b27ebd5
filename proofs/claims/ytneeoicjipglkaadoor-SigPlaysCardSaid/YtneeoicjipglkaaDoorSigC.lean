/-
  Signals: one is raised.
-/
import Derived.Test.YtneeoicjipglkaaDoorSigB
namespace Go.Proofs.YtneeoicjipglkaaDoor.Slot
open Go Go.Proofs Go.Proofs.YtneeoicjipglkaaDoor.Fx
set_option maxRecDepth 100000
set_option linter.unusedVariables false
set_option linter.unusedSimpArgs false
set_option maxHeartbeats 8000000

theorem set_s (p : Pi) (x : Int) : (piC p).set 0 (I x) = piC { p with s := x } := rfl
/-- a process with one raised -/
def raiseN (p : Pi) (k : Nat) : Pi :=
  { p with
    s := if p.s = 3 ∧ (k = 15 ∨ k = 9) then 1 else p.s
    a := if k = 15 then (if p.c.getLsbD k = false ∨ k = 9 ∨ k = 14 then p.a ||| bitN k else p.a) &&& ~~~ 16384#64 else if k = 14 then (if p.c.getLsbD k = false ∨ k = 9 ∨ k = 14 then p.a ||| bitN k else p.a) &&& ~~~ 32768#64 else if p.c.getLsbD k = false ∨ k = 9 ∨ k = 14 then p.a ||| bitN k else p.a }

theorem raise_no {p : Pi} {n : Int} (h : ¬ ((1 ≤ n ∧ n ≤ 15) ∧ (p.s = 1 ∨ p.s = 3))) (w : World) : Ret Tryd.prog 9 #[vP p, I n] w fun v w' => v = .tuple #[vP p, .bool false] ∧ Hp w [] w' := by
  refine Ret_of_WC (args := [_, _]) Tryd.func9 rfl Tryd.ntmps9 Tryd.results9 (by simp) ?_
  have H := Hp.refl w
  refine W_seq ?_
  refine W_region_l ?_
  (refine WL_effn rfl (E_boxP H rfl) ?_; clear H; intro c2 w3 hc2 H)
  (refine WL_effn rfl (E_allocP H) ?_; clear H; intro c4 w4 hc4 H)
  refine WL_stepM rfl (R_as) ?_
  refine WL_nil ?_
  refine W_seq ?_
  refine W_seq ?_
  refine W_region_l ?_
  refine WL_stepM rfl (R_mv) ?_
  (refine WL_call rfl (R_call rfl Tryd.call26 rfl) (is_ret _ _) ?_; rintro _ w11 ⟨rfl, H1⟩; replace H := H.seq0 H1; clear H1)
  refine WL_step rfl (R_not_d rfl) ?_
  refine WL_stepM rfl (R_mv) ?_
  apply WL_orK 9 10 19 [(11, 19)] H
  case hc => rfl
  case h1 =>
    intro h14
    refine WL_guard_t rfl rfl ?_
    refine WL_step rfl (R_fieldAddr (off' := 0) Tryd.underlying25 rfl Tryd.sizeOf3 (by decide) rfl rfl) ?_
    refine WL_guard_t rfl rfl ?_
    refine WL_step rfl (R_load (v := I p.s) Tryd.isAgg3 rfl (H.get (.there .here)) rfl) ?_
    refine WL_guard_t rfl rfl ?_
    refine WL_step rfl (R_ne rfl rfl) ?_
    refine WL_guard_t rfl rfl ?_
    refine WL_stepM rfl (R_mv) ?_
    apply WL_andK 4 14 18 [(15, 18)] H
    case hc => rfl
    case h1 =>
      intro h23
      refine WL_guard_t rfl rfl ?_
      refine WL_step rfl (R_fieldAddr (off' := 0) Tryd.underlying25 rfl Tryd.sizeOf3 (by decide) rfl rfl) ?_
      refine WL_guard_t rfl rfl ?_
      refine WL_step rfl (R_load (v := I p.s) Tryd.isAgg3 rfl (H.get (.there .here)) rfl) ?_
      refine WL_guard_t rfl rfl ?_
      refine WL_step rfl (R_ne rfl rfl) ?_
      refine WL_guard_t rfl rfl ?_
      refine WL_stepM rfl (R_pk_t rfl) ?_
      refine WL_nil ?_
      exact ⟨(same_mov rfl (same_updo rfl (same_updo rfl (same_updo rfl Same.refl)))), rfl, H⟩
    case h0 =>
      intro h23
      refine WL_guard_f rfl rfl (by decide) ?_
      refine WL_guard_f rfl rfl (by decide) ?_
      refine WL_guard_f rfl rfl (by decide) ?_
      refine WL_guard_t rfl rfl ?_
      refine WL_stepM rfl (R_pk_f rfl) ?_
      refine WL_nil ?_
      exact ⟨(same_mov rfl (same_updo rfl (same_updo rfl (same_updo rfl Same.refl)))), rfl, H⟩
    case h2 =>
      intro E23 w23 H
      refine WL_stepM rfl (R_pk_f rfl) ?_
      refine WL_nil ?_
      exact ⟨(same_mov rfl (same_in rfl (same_mov rfl (same_updo rfl (same_updo rfl (same_updo rfl Same.refl)))))), rfl, H⟩
  case h0 =>
    intro h14
    refine WL_guard_f rfl rfl (by decide) ?_
    refine WL_guard_f rfl rfl (by decide) ?_
    refine WL_guard_f rfl rfl (by decide) ?_
    refine WL_guard_f rfl rfl (by decide) ?_
    refine WL_guard_n rfl rfl ?_
    refine WL_guard_n rfl rfl ?_
    refine WL_guard_n rfl rfl ?_
    refine WL_guard_f rfl rfl (by decide) ?_
    refine WL_stepM rfl (R_pk_t rfl) ?_
    refine WL_nil ?_
    exact ⟨(same_mov rfl (same_updo rfl (same_updo rfl (same_updo rfl (same_updo rfl (same_updo rfl (same_updo rfl (same_updo rfl (same_updo rfl Same.refl))))))))), rfl, H⟩
  case h2 =>
    (clear H; intro E14 w14 H)
    refine WL_nil ?_
    refine W_if rfl (fun h56 => ?_) (fun h56 => ?_)
    · refine W_seq ?_
      refine W_region_l ?_
      refine WL_step rfl (R_loadP rfl (H.get (.there .here))) ?_
      (refine WL_effu rfl (E_storeP (q := p) H rfl rfl .here) ?_; clear H; intro w60 H)
      refine WL_stepM rfl (R_as) ?_
      refine WL_nil ?_
      refine W_ret ?_
      exact ⟨_, ⟨_, _, rfl, ldP (p := p) (H.get .here), rfl⟩, rfl, H.none (by repeat' first | exact kNil | apply kCons | apply kApp | assumption | exact OwnS.keys (by assumption))⟩
    · refine W_skip ?_
      refine W_seq ?_
      (exact (by omega : False).elim) <;> refine W_region_l ?_

theorem raise_yes {p : Pi} {k : Nat} (h1 : 1 ≤ k) (h15 : k ≤ 15) (hs : p.s = 1 ∨ p.s = 3) (w : World) : Ret Tryd.prog 9 #[vP p, I k] w fun v w' => v = .tuple #[vP (raiseN p k), .bool true] ∧ Hp w [] w' := by
  refine Ret_of_WC (args := [_, _]) Tryd.func9 rfl Tryd.ntmps9 Tryd.results9 (by simp) ?_
  have H := Hp.refl w
  have hk4 : k = 9 ∨ k = 14 ∨ k = 15 ∨ (k ≠ 9 ∧ k ≠ 14 ∧ k ≠ 15) := by omega
  refine W_seq ?_
  refine W_region_l ?_
  (refine WL_effn rfl (E_boxP H rfl) ?_; clear H; intro c2 w3 hc2 H)
  (refine WL_effn rfl (E_allocP H) ?_; clear H; intro c4 w4 hc4 H)
  refine WL_stepM rfl (R_as) ?_
  refine WL_nil ?_
  refine W_seq ?_
  refine W_seq ?_
  refine W_region_l ?_
  refine WL_stepM rfl (R_mv) ?_
  (refine WL_call rfl (R_call rfl Tryd.call26 rfl) (is_ret _ _) ?_; rintro _ w11 ⟨rfl, H1⟩; replace H := H.seq0 H1; clear H1)
  refine WL_step rfl (R_not_d rfl) ?_
  refine WL_stepM rfl (R_mv) ?_
  apply WL_orK 9 10 19 [(11, 19)] H
  case hc => rfl
  case h1 =>
    intro h14
    refine WL_guard_t rfl rfl ?_
    refine WL_step rfl (R_fieldAddr (off' := 0) Tryd.underlying25 rfl Tryd.sizeOf3 (by decide) rfl rfl) ?_
    refine WL_guard_t rfl rfl ?_
    refine WL_step rfl (R_load (v := I p.s) Tryd.isAgg3 rfl (H.get (.there .here)) rfl) ?_
    refine WL_guard_t rfl rfl ?_
    refine WL_step rfl (R_ne rfl rfl) ?_
    refine WL_guard_t rfl rfl ?_
    refine WL_stepM rfl (R_mv) ?_
    apply WL_andK 4 14 18 [(15, 18)] H
    case hc => rfl
    case h1 =>
      intro h23
      refine WL_guard_t rfl rfl ?_
      refine WL_step rfl (R_fieldAddr (off' := 0) Tryd.underlying25 rfl Tryd.sizeOf3 (by decide) rfl rfl) ?_
      refine WL_guard_t rfl rfl ?_
      refine WL_step rfl (R_load (v := I p.s) Tryd.isAgg3 rfl (H.get (.there .here)) rfl) ?_
      refine WL_guard_t rfl rfl ?_
      refine WL_step rfl (R_ne rfl rfl) ?_
      refine WL_guard_t rfl rfl ?_
      refine WL_stepM rfl (R_pk_t rfl) ?_
      refine WL_nil ?_
      exact ⟨(same_mov rfl (same_updo rfl (same_updo rfl (same_updo rfl Same.refl)))), rfl, H⟩
    case h0 =>
      intro h23
      refine WL_guard_f rfl rfl (by decide) ?_
      refine WL_guard_f rfl rfl (by decide) ?_
      refine WL_guard_f rfl rfl (by decide) ?_
      refine WL_guard_t rfl rfl ?_
      refine WL_stepM rfl (R_pk_f rfl) ?_
      refine WL_nil ?_
      exact ⟨(same_mov rfl (same_updo rfl (same_updo rfl (same_updo rfl Same.refl)))), rfl, H⟩
    case h2 =>
      intro E23 w23 H
      refine WL_stepM rfl (R_pk_f rfl) ?_
      refine WL_nil ?_
      exact ⟨(same_mov rfl (same_in rfl (same_mov rfl (same_updo rfl (same_updo rfl (same_updo rfl Same.refl)))))), rfl, H⟩
  case h0 =>
    intro h14
    refine WL_guard_f rfl rfl (by decide) ?_
    refine WL_guard_f rfl rfl (by decide) ?_
    refine WL_guard_f rfl rfl (by decide) ?_
    refine WL_guard_f rfl rfl (by decide) ?_
    refine WL_guard_n rfl rfl ?_
    refine WL_guard_n rfl rfl ?_
    refine WL_guard_n rfl rfl ?_
    refine WL_guard_f rfl rfl (by decide) ?_
    refine WL_stepM rfl (R_pk_t rfl) ?_
    refine WL_nil ?_
    exact ⟨(same_mov rfl (same_updo rfl (same_updo rfl (same_updo rfl (same_updo rfl (same_updo rfl (same_updo rfl (same_updo rfl (same_updo rfl Same.refl))))))))), rfl, H⟩
  case h2 =>
    (clear H; intro E14 w14 H)
    refine WL_nil ?_
    refine W_if rfl (fun h56 => ?_) (fun h56 => ?_)
    · refine W_seq ?_
      (exact (by omega : False).elim) <;> refine W_region_l ?_
    · refine W_skip ?_
      refine W_seq ?_
      refine W_region_l ?_
      refine WL_stepM rfl (R_mv) ?_
      refine WL_step rfl (R_conv_int Tryd.underlying3 Tryd.underlying31 rfl (w_u64 (by omega))) ?_
      refine WL_step rfl (R_shl (r := (bitN k).toInt) rfl rfl (by omega) (bit_shl h15)) ?_
      refine WL_stepM rfl (R_as) ?_
      refine WL_nil ?_
      refine W_seq ?_
      refine W_seq ?_
      ((cases hcb : p.c.getLsbD k <;> rcases hk4 with hk9 | hk9 | hk9 | hk9 <;> rcases hs with hs | hs)) <;> refine W_region_l ?_
      · refine WL_step rfl (R_fieldAddr (off' := 6) Tryd.underlying25 rfl Tryd.sizeOf3 (by decide) rfl rfl) ?_
        refine WL_step rfl (R_load (v := I p.c.toInt) Tryd.isAgg3 rfl (H.get (.there .here)) rfl) ?_
        refine WL_stepM rfl (R_mv) ?_
        refine WL_step rfl (R_bits rfl rfl (by simp) (bv_and p.c (bitN k))) ?_
        refine WL_step rfl (R_eq_t rfl rfl ((bit_in h15).2 hcb)) ?_
        refine WL_stepM rfl (R_mv) ?_
        refine WL_guard_f rfl rfl (by decide) ?_
        refine WL_guard_f rfl rfl (by decide) ?_
        refine WL_guard_f rfl rfl (by decide) ?_
        refine WL_stepM rfl (R_pk_t rfl) ?_
        refine WL_nil ?_
        refine W_cond_t rfl ?_
        refine W_region_l ?_
        refine WL_step rfl (R_fieldAddr (off' := 4) Tryd.underlying25 rfl Tryd.sizeOf3 (by decide) rfl rfl) ?_
        refine WL_step rfl (R_load (v := I p.a.toInt) Tryd.isAgg3 rfl (H.get (.there .here)) rfl) ?_
        refine WL_stepM rfl (R_mv) ?_
        refine WL_step rfl (R_bits rfl rfl (by simp) (bv_or p.a (bitN k))) ?_
        refine WL_step rfl (R_fieldAddr (off' := 4) Tryd.underlying25 rfl Tryd.sizeOf3 (by decide) rfl rfl) ?_
        (refine WL_effu rfl (E_store (v := I (p.a ||| bitN k).toInt) H Tryd.sizeOf3 rfl rfl rfl (.there .here) (by rw [piC_len]; omega)) ?_; clear H; intro w88 H; rw [set_a] at H)
        refine WL_nil ?_
        refine W_seq ?_
        refine W_seq ?_
        refine W_region_l ?_
        refine WL_stepM rfl (R_mv) ?_
        refine WL_step rfl (R_eq_t rfl rfl ((bit_9 h15).2 (by omega))) ?_
        refine WL_stepM rfl (R_mv) ?_
        refine WL_guard_f rfl rfl (by decide) ?_
        refine WL_guard_f rfl rfl (by decide) ?_
        refine WL_stepM rfl (R_pk_t rfl) ?_
        refine WL_stepM rfl (R_mv) ?_
        refine WL_guard_t rfl rfl ?_
        refine WL_step rfl (R_fieldAddr (off' := 0) Tryd.underlying25 rfl Tryd.sizeOf3 (by decide) rfl rfl) ?_
        refine WL_guard_t rfl rfl ?_
        refine WL_step rfl (R_load (v := I p.s) Tryd.isAgg3 rfl (H.get (.there .here)) rfl) ?_
        refine WL_guard_t rfl rfl ?_
        refine WL_step rfl (R_eq_f rfl rfl (by omega)) ?_
        refine WL_stepM rfl (R_pk_t rfl) ?_
        refine WL_nil ?_
        refine W_cond_f rfl ?_
        refine W_skip ?_
        refine W_seq ?_
        refine W_seq ?_
        refine W_region_l ?_
        refine WL_stepM rfl (R_mv) ?_
        refine WL_nil ?_
        refine W_block ?_
        refine W_seq ?_
        refine W_region_l ?_
        refine WL_step rfl (R_eq_f rfl rfl (fun h => absurd ((bit_15 h15).1 h) (by omega))) ?_
        refine WL_stepM rfl (R_as) ?_
        refine WL_nil ?_
        refine W_cond_f rfl ?_
        refine W_seq ?_
        refine W_region_l ?_
        refine WL_step rfl (R_eq_f rfl rfl (fun h => absurd ((bit_14 h15).1 h) (by omega))) ?_
        refine WL_stepM rfl (R_as) ?_
        refine WL_nil ?_
        refine W_cond_f rfl ?_
        refine W_skip ?_
        refine W_seq ?_
        refine W_region_l ?_
        refine WL_step rfl (R_loadP rfl (H.get (.there .here))) ?_
        (refine WL_effu rfl (E_storeP H rfl rfl .here) ?_; clear H; intro w132 H)
        refine WL_stepM rfl (R_as) ?_
        refine WL_nil ?_
        refine W_ret ?_
        exact ⟨_, ⟨_, _, rfl, ldP (H.get .here), rfl⟩, congrArg (fun q => Value.tuple #[vP q, .bool true]) (show _ = raiseN p k by refine pi_ext ?_ ?_ ?_ ?_ ?_ ?_ ?_ ?_ ?_ <;> first | rfl | (simp [raiseN, hcb, hs, hk9]; done) | (simp only [raiseN, hcb]; simp [hs, hk9]; done)), H.none (by repeat' first | exact kNil | apply kCons | apply kApp | assumption | exact OwnS.keys (by assumption))⟩
      · refine WL_step rfl (R_fieldAddr (off' := 6) Tryd.underlying25 rfl Tryd.sizeOf3 (by decide) rfl rfl) ?_
        refine WL_step rfl (R_load (v := I p.c.toInt) Tryd.isAgg3 rfl (H.get (.there .here)) rfl) ?_
        refine WL_stepM rfl (R_mv) ?_
        refine WL_step rfl (R_bits rfl rfl (by simp) (bv_and p.c (bitN k))) ?_
        refine WL_step rfl (R_eq_t rfl rfl ((bit_in h15).2 hcb)) ?_
        refine WL_stepM rfl (R_mv) ?_
        refine WL_guard_f rfl rfl (by decide) ?_
        refine WL_guard_f rfl rfl (by decide) ?_
        refine WL_guard_f rfl rfl (by decide) ?_
        refine WL_stepM rfl (R_pk_t rfl) ?_
        refine WL_nil ?_
        refine W_cond_t rfl ?_
        refine W_region_l ?_
        refine WL_step rfl (R_fieldAddr (off' := 4) Tryd.underlying25 rfl Tryd.sizeOf3 (by decide) rfl rfl) ?_
        refine WL_step rfl (R_load (v := I p.a.toInt) Tryd.isAgg3 rfl (H.get (.there .here)) rfl) ?_
        refine WL_stepM rfl (R_mv) ?_
        refine WL_step rfl (R_bits rfl rfl (by simp) (bv_or p.a (bitN k))) ?_
        refine WL_step rfl (R_fieldAddr (off' := 4) Tryd.underlying25 rfl Tryd.sizeOf3 (by decide) rfl rfl) ?_
        (refine WL_effu rfl (E_store (v := I (p.a ||| bitN k).toInt) H Tryd.sizeOf3 rfl rfl rfl (.there .here) (by rw [piC_len]; omega)) ?_; clear H; intro w155 H; rw [set_a] at H)
        refine WL_nil ?_
        refine W_seq ?_
        refine W_seq ?_
        refine W_region_l ?_
        refine WL_stepM rfl (R_mv) ?_
        refine WL_step rfl (R_eq_t rfl rfl ((bit_9 h15).2 (by omega))) ?_
        refine WL_stepM rfl (R_mv) ?_
        refine WL_guard_f rfl rfl (by decide) ?_
        refine WL_guard_f rfl rfl (by decide) ?_
        refine WL_stepM rfl (R_pk_t rfl) ?_
        refine WL_stepM rfl (R_mv) ?_
        refine WL_guard_t rfl rfl ?_
        refine WL_step rfl (R_fieldAddr (off' := 0) Tryd.underlying25 rfl Tryd.sizeOf3 (by decide) rfl rfl) ?_
        refine WL_guard_t rfl rfl ?_
        refine WL_step rfl (R_load (v := I p.s) Tryd.isAgg3 rfl (H.get (.there .here)) rfl) ?_
        refine WL_guard_t rfl rfl ?_
        refine WL_step rfl (R_eq_t rfl rfl hs) ?_
        refine WL_stepM rfl (R_pk_t rfl) ?_
        refine WL_nil ?_
        refine W_cond_t rfl ?_
        refine W_region_l ?_
        refine WL_step rfl (R_fieldAddr (off' := 0) Tryd.underlying25 rfl Tryd.sizeOf3 (by decide) rfl rfl) ?_
        (refine WL_effu rfl (E_store (v := I 1) H Tryd.sizeOf3 rfl rfl rfl (.there .here) (by rw [piC_len]; omega)) ?_; clear H; intro w178 H; rw [set_s] at H)
        refine WL_nil ?_
        refine W_seq ?_
        refine W_seq ?_
        refine W_region_l ?_
        refine WL_stepM rfl (R_mv) ?_
        refine WL_nil ?_
        refine W_block ?_
        refine W_seq ?_
        refine W_region_l ?_
        refine WL_step rfl (R_eq_f rfl rfl (fun h => absurd ((bit_15 h15).1 h) (by omega))) ?_
        refine WL_stepM rfl (R_as) ?_
        refine WL_nil ?_
        refine W_cond_f rfl ?_
        refine W_seq ?_
        refine W_region_l ?_
        refine WL_step rfl (R_eq_f rfl rfl (fun h => absurd ((bit_14 h15).1 h) (by omega))) ?_
        refine WL_stepM rfl (R_as) ?_
        refine WL_nil ?_
        refine W_cond_f rfl ?_
        refine W_skip ?_
        refine W_seq ?_
        refine W_region_l ?_
        refine WL_step rfl (R_loadP rfl (H.get (.there .here))) ?_
        (refine WL_effu rfl (E_storeP H rfl rfl .here) ?_; clear H; intro w202 H)
        refine WL_stepM rfl (R_as) ?_
        refine WL_nil ?_
        refine W_ret ?_
        exact ⟨_, ⟨_, _, rfl, ldP (H.get .here), rfl⟩, congrArg (fun q => Value.tuple #[vP q, .bool true]) (show _ = raiseN p k by refine pi_ext ?_ ?_ ?_ ?_ ?_ ?_ ?_ ?_ ?_ <;> first | rfl | (simp [raiseN, hcb, hs, hk9]; done) | (simp only [raiseN, hcb]; simp [hs, hk9]; done)), H.none (by repeat' first | exact kNil | apply kCons | apply kApp | assumption | exact OwnS.keys (by assumption))⟩
      · refine WL_step rfl (R_fieldAddr (off' := 6) Tryd.underlying25 rfl Tryd.sizeOf3 (by decide) rfl rfl) ?_
        refine WL_step rfl (R_load (v := I p.c.toInt) Tryd.isAgg3 rfl (H.get (.there .here)) rfl) ?_
        refine WL_stepM rfl (R_mv) ?_
        refine WL_step rfl (R_bits rfl rfl (by simp) (bv_and p.c (bitN k))) ?_
        refine WL_step rfl (R_eq_t rfl rfl ((bit_in h15).2 hcb)) ?_
        refine WL_stepM rfl (R_mv) ?_
        refine WL_guard_f rfl rfl (by decide) ?_
        refine WL_guard_f rfl rfl (by decide) ?_
        refine WL_guard_f rfl rfl (by decide) ?_
        refine WL_stepM rfl (R_pk_t rfl) ?_
        refine WL_nil ?_
        refine W_cond_t rfl ?_
        refine W_region_l ?_
        refine WL_step rfl (R_fieldAddr (off' := 4) Tryd.underlying25 rfl Tryd.sizeOf3 (by decide) rfl rfl) ?_
        refine WL_step rfl (R_load (v := I p.a.toInt) Tryd.isAgg3 rfl (H.get (.there .here)) rfl) ?_
        refine WL_stepM rfl (R_mv) ?_
        refine WL_step rfl (R_bits rfl rfl (by simp) (bv_or p.a (bitN k))) ?_
        refine WL_step rfl (R_fieldAddr (off' := 4) Tryd.underlying25 rfl Tryd.sizeOf3 (by decide) rfl rfl) ?_
        (refine WL_effu rfl (E_store (v := I (p.a ||| bitN k).toInt) H Tryd.sizeOf3 rfl rfl rfl (.there .here) (by rw [piC_len]; omega)) ?_; clear H; intro w225 H; rw [set_a] at H)
        refine WL_nil ?_
        refine W_seq ?_
        refine W_seq ?_
        refine W_region_l ?_
        refine WL_stepM rfl (R_mv) ?_
        refine WL_step rfl (R_eq_f rfl rfl (fun h => absurd ((bit_9 h15).1 h) (by omega))) ?_
        refine WL_stepM rfl (R_mv) ?_
        refine WL_guard_t rfl rfl ?_
        refine WL_stepM rfl (R_mv) ?_
        refine WL_guard_t rfl rfl ?_
        refine WL_step rfl (R_eq_f rfl rfl (fun h => absurd ((bit_15 h15).1 h) (by omega))) ?_
        refine WL_stepM rfl (R_pk_f rfl) ?_
        refine WL_stepM rfl (R_mv) ?_
        refine WL_guard_f rfl rfl (by decide) ?_
        refine WL_guard_f rfl rfl (by decide) ?_
        refine WL_guard_f rfl rfl (by decide) ?_
        refine WL_stepM rfl (R_pk_f rfl) ?_
        refine WL_nil ?_
        refine W_cond_f rfl ?_
        refine W_skip ?_
        refine W_seq ?_
        refine W_seq ?_
        refine W_region_l ?_
        refine WL_stepM rfl (R_mv) ?_
        refine WL_nil ?_
        refine W_block ?_
        refine W_seq ?_
        refine W_region_l ?_
        refine WL_step rfl (R_eq_f rfl rfl (fun h => absurd ((bit_15 h15).1 h) (by omega))) ?_
        refine WL_stepM rfl (R_as) ?_
        refine WL_nil ?_
        refine W_cond_f rfl ?_
        refine W_seq ?_
        refine W_region_l ?_
        refine WL_step rfl (R_eq_t rfl rfl ((bit_14 h15).2 (by omega))) ?_
        refine WL_stepM rfl (R_as) ?_
        refine WL_nil ?_
        refine W_cond_t rfl ?_
        refine W_region_l ?_
        refine WL_step rfl (R_fieldAddr (off' := 4) Tryd.underlying25 rfl Tryd.sizeOf3 (by decide) rfl rfl) ?_
        refine WL_step rfl (R_load (v := I (p.a ||| bitN k).toInt) Tryd.isAgg3 rfl (H.get (.there .here)) rfl) ?_
        refine WL_step rfl (R_bits rfl rfl (by simp) (bv_andNot _ 32768#64)) ?_
        refine WL_step rfl (R_fieldAddr (off' := 4) Tryd.underlying25 rfl Tryd.sizeOf3 (by decide) rfl rfl) ?_
        (refine WL_effu rfl (E_store (v := I ((p.a ||| bitN k) &&& ~~~ 32768#64).toInt) H Tryd.sizeOf3 rfl rfl rfl (.there .here) (by rw [piC_len]; omega)) ?_; clear H; intro w269 H; rw [set_a] at H)
        refine WL_nil ?_
        refine W_seq ?_
        refine W_region_l ?_
        refine WL_step rfl (R_loadP rfl (H.get (.there .here))) ?_
        (refine WL_effu rfl (E_storeP H rfl rfl .here) ?_; clear H; intro w274 H)
        refine WL_stepM rfl (R_as) ?_
        refine WL_nil ?_
        refine W_ret ?_
        exact ⟨_, ⟨_, _, rfl, ldP (H.get .here), rfl⟩, congrArg (fun q => Value.tuple #[vP q, .bool true]) (show _ = raiseN p k by refine pi_ext ?_ ?_ ?_ ?_ ?_ ?_ ?_ ?_ ?_ <;> first | rfl | (simp [raiseN, hcb, hs, hk9]; done) | (simp only [raiseN, hcb]; simp [hs, hk9]; done)), H.none (by repeat' first | exact kNil | apply kCons | apply kApp | assumption | exact OwnS.keys (by assumption))⟩
      · refine WL_step rfl (R_fieldAddr (off' := 6) Tryd.underlying25 rfl Tryd.sizeOf3 (by decide) rfl rfl) ?_
        refine WL_step rfl (R_load (v := I p.c.toInt) Tryd.isAgg3 rfl (H.get (.there .here)) rfl) ?_
        refine WL_stepM rfl (R_mv) ?_
        refine WL_step rfl (R_bits rfl rfl (by simp) (bv_and p.c (bitN k))) ?_
        refine WL_step rfl (R_eq_t rfl rfl ((bit_in h15).2 hcb)) ?_
        refine WL_stepM rfl (R_mv) ?_
        refine WL_guard_f rfl rfl (by decide) ?_
        refine WL_guard_f rfl rfl (by decide) ?_
        refine WL_guard_f rfl rfl (by decide) ?_
        refine WL_stepM rfl (R_pk_t rfl) ?_
        refine WL_nil ?_
        refine W_cond_t rfl ?_
        refine W_region_l ?_
        refine WL_step rfl (R_fieldAddr (off' := 4) Tryd.underlying25 rfl Tryd.sizeOf3 (by decide) rfl rfl) ?_
        refine WL_step rfl (R_load (v := I p.a.toInt) Tryd.isAgg3 rfl (H.get (.there .here)) rfl) ?_
        refine WL_stepM rfl (R_mv) ?_
        refine WL_step rfl (R_bits rfl rfl (by simp) (bv_or p.a (bitN k))) ?_
        refine WL_step rfl (R_fieldAddr (off' := 4) Tryd.underlying25 rfl Tryd.sizeOf3 (by decide) rfl rfl) ?_
        (refine WL_effu rfl (E_store (v := I (p.a ||| bitN k).toInt) H Tryd.sizeOf3 rfl rfl rfl (.there .here) (by rw [piC_len]; omega)) ?_; clear H; intro w297 H; rw [set_a] at H)
        refine WL_nil ?_
        refine W_seq ?_
        refine W_seq ?_
        refine W_region_l ?_
        refine WL_stepM rfl (R_mv) ?_
        refine WL_step rfl (R_eq_f rfl rfl (fun h => absurd ((bit_9 h15).1 h) (by omega))) ?_
        refine WL_stepM rfl (R_mv) ?_
        refine WL_guard_t rfl rfl ?_
        refine WL_stepM rfl (R_mv) ?_
        refine WL_guard_t rfl rfl ?_
        refine WL_step rfl (R_eq_f rfl rfl (fun h => absurd ((bit_15 h15).1 h) (by omega))) ?_
        refine WL_stepM rfl (R_pk_f rfl) ?_
        refine WL_stepM rfl (R_mv) ?_
        refine WL_guard_f rfl rfl (by decide) ?_
        refine WL_guard_f rfl rfl (by decide) ?_
        refine WL_guard_f rfl rfl (by decide) ?_
        refine WL_stepM rfl (R_pk_f rfl) ?_
        refine WL_nil ?_
        refine W_cond_f rfl ?_
        refine W_skip ?_
        refine W_seq ?_
        refine W_seq ?_
        refine W_region_l ?_
        refine WL_stepM rfl (R_mv) ?_
        refine WL_nil ?_
        refine W_block ?_
        refine W_seq ?_
        refine W_region_l ?_
        refine WL_step rfl (R_eq_f rfl rfl (fun h => absurd ((bit_15 h15).1 h) (by omega))) ?_
        refine WL_stepM rfl (R_as) ?_
        refine WL_nil ?_
        refine W_cond_f rfl ?_
        refine W_seq ?_
        refine W_region_l ?_
        refine WL_step rfl (R_eq_t rfl rfl ((bit_14 h15).2 (by omega))) ?_
        refine WL_stepM rfl (R_as) ?_
        refine WL_nil ?_
        refine W_cond_t rfl ?_
        refine W_region_l ?_
        refine WL_step rfl (R_fieldAddr (off' := 4) Tryd.underlying25 rfl Tryd.sizeOf3 (by decide) rfl rfl) ?_
        refine WL_step rfl (R_load (v := I (p.a ||| bitN k).toInt) Tryd.isAgg3 rfl (H.get (.there .here)) rfl) ?_
        refine WL_step rfl (R_bits rfl rfl (by simp) (bv_andNot _ 32768#64)) ?_
        refine WL_step rfl (R_fieldAddr (off' := 4) Tryd.underlying25 rfl Tryd.sizeOf3 (by decide) rfl rfl) ?_
        (refine WL_effu rfl (E_store (v := I ((p.a ||| bitN k) &&& ~~~ 32768#64).toInt) H Tryd.sizeOf3 rfl rfl rfl (.there .here) (by rw [piC_len]; omega)) ?_; clear H; intro w341 H; rw [set_a] at H)
        refine WL_nil ?_
        refine W_seq ?_
        refine W_region_l ?_
        refine WL_step rfl (R_loadP rfl (H.get (.there .here))) ?_
        (refine WL_effu rfl (E_storeP H rfl rfl .here) ?_; clear H; intro w346 H)
        refine WL_stepM rfl (R_as) ?_
        refine WL_nil ?_
        refine W_ret ?_
        exact ⟨_, ⟨_, _, rfl, ldP (H.get .here), rfl⟩, congrArg (fun q => Value.tuple #[vP q, .bool true]) (show _ = raiseN p k by refine pi_ext ?_ ?_ ?_ ?_ ?_ ?_ ?_ ?_ ?_ <;> first | rfl | (simp [raiseN, hcb, hs, hk9]; done) | (simp only [raiseN, hcb]; simp [hs, hk9]; done)), H.none (by repeat' first | exact kNil | apply kCons | apply kApp | assumption | exact OwnS.keys (by assumption))⟩
      · refine WL_step rfl (R_fieldAddr (off' := 6) Tryd.underlying25 rfl Tryd.sizeOf3 (by decide) rfl rfl) ?_
        refine WL_step rfl (R_load (v := I p.c.toInt) Tryd.isAgg3 rfl (H.get (.there .here)) rfl) ?_
        refine WL_stepM rfl (R_mv) ?_
        refine WL_step rfl (R_bits rfl rfl (by simp) (bv_and p.c (bitN k))) ?_
        refine WL_step rfl (R_eq_t rfl rfl ((bit_in h15).2 hcb)) ?_
        refine WL_stepM rfl (R_mv) ?_
        refine WL_guard_f rfl rfl (by decide) ?_
        refine WL_guard_f rfl rfl (by decide) ?_
        refine WL_guard_f rfl rfl (by decide) ?_
        refine WL_stepM rfl (R_pk_t rfl) ?_
        refine WL_nil ?_
        refine W_cond_t rfl ?_
        refine W_region_l ?_
        refine WL_step rfl (R_fieldAddr (off' := 4) Tryd.underlying25 rfl Tryd.sizeOf3 (by decide) rfl rfl) ?_
        refine WL_step rfl (R_load (v := I p.a.toInt) Tryd.isAgg3 rfl (H.get (.there .here)) rfl) ?_
        refine WL_stepM rfl (R_mv) ?_
        refine WL_step rfl (R_bits rfl rfl (by simp) (bv_or p.a (bitN k))) ?_
        refine WL_step rfl (R_fieldAddr (off' := 4) Tryd.underlying25 rfl Tryd.sizeOf3 (by decide) rfl rfl) ?_
        (refine WL_effu rfl (E_store (v := I (p.a ||| bitN k).toInt) H Tryd.sizeOf3 rfl rfl rfl (.there .here) (by rw [piC_len]; omega)) ?_; clear H; intro w369 H; rw [set_a] at H)
        refine WL_nil ?_
        refine W_seq ?_
        refine W_seq ?_
        refine W_region_l ?_
        refine WL_stepM rfl (R_mv) ?_
        refine WL_step rfl (R_eq_f rfl rfl (fun h => absurd ((bit_9 h15).1 h) (by omega))) ?_
        refine WL_stepM rfl (R_mv) ?_
        refine WL_guard_t rfl rfl ?_
        refine WL_stepM rfl (R_mv) ?_
        refine WL_guard_t rfl rfl ?_
        refine WL_step rfl (R_eq_t rfl rfl ((bit_15 h15).2 (by omega))) ?_
        refine WL_stepM rfl (R_pk_f rfl) ?_
        refine WL_stepM rfl (R_mv) ?_
        refine WL_guard_t rfl rfl ?_
        refine WL_step rfl (R_fieldAddr (off' := 0) Tryd.underlying25 rfl Tryd.sizeOf3 (by decide) rfl rfl) ?_
        refine WL_guard_t rfl rfl ?_
        refine WL_step rfl (R_load (v := I p.s) Tryd.isAgg3 rfl (H.get (.there .here)) rfl) ?_
        refine WL_guard_t rfl rfl ?_
        refine WL_step rfl (R_eq_f rfl rfl (by omega)) ?_
        refine WL_stepM rfl (R_pk_t rfl) ?_
        refine WL_nil ?_
        refine W_cond_f rfl ?_
        refine W_skip ?_
        refine W_seq ?_
        refine W_seq ?_
        refine W_region_l ?_
        refine WL_stepM rfl (R_mv) ?_
        refine WL_nil ?_
        refine W_block ?_
        refine W_seq ?_
        refine W_region_l ?_
        refine WL_step rfl (R_eq_t rfl rfl ((bit_15 h15).2 (by omega))) ?_
        refine WL_stepM rfl (R_as) ?_
        refine WL_nil ?_
        refine W_cond_t rfl ?_
        refine W_region_l ?_
        refine WL_step rfl (R_fieldAddr (off' := 4) Tryd.underlying25 rfl Tryd.sizeOf3 (by decide) rfl rfl) ?_
        refine WL_step rfl (R_load (v := I (p.a ||| bitN k).toInt) Tryd.isAgg3 rfl (H.get (.there .here)) rfl) ?_
        refine WL_step rfl (R_bits rfl rfl (by simp) (bv_andNot _ 16384#64)) ?_
        refine WL_step rfl (R_fieldAddr (off' := 4) Tryd.underlying25 rfl Tryd.sizeOf3 (by decide) rfl rfl) ?_
        (refine WL_effu rfl (E_store (v := I ((p.a ||| bitN k) &&& ~~~ 16384#64).toInt) H Tryd.sizeOf3 rfl rfl rfl (.there .here) (by rw [piC_len]; omega)) ?_; clear H; intro w410 H; rw [set_a] at H)
        refine WL_nil ?_
        refine W_seq ?_
        refine W_region_l ?_
        refine WL_step rfl (R_loadP rfl (H.get (.there .here))) ?_
        (refine WL_effu rfl (E_storeP H rfl rfl .here) ?_; clear H; intro w415 H)
        refine WL_stepM rfl (R_as) ?_
        refine WL_nil ?_
        refine W_ret ?_
        exact ⟨_, ⟨_, _, rfl, ldP (H.get .here), rfl⟩, congrArg (fun q => Value.tuple #[vP q, .bool true]) (show _ = raiseN p k by refine pi_ext ?_ ?_ ?_ ?_ ?_ ?_ ?_ ?_ ?_ <;> first | rfl | (simp [raiseN, hcb, hs, hk9]; done) | (simp only [raiseN, hcb]; simp [hs, hk9]; done)), H.none (by repeat' first | exact kNil | apply kCons | apply kApp | assumption | exact OwnS.keys (by assumption))⟩
      · refine WL_step rfl (R_fieldAddr (off' := 6) Tryd.underlying25 rfl Tryd.sizeOf3 (by decide) rfl rfl) ?_
        refine WL_step rfl (R_load (v := I p.c.toInt) Tryd.isAgg3 rfl (H.get (.there .here)) rfl) ?_
        refine WL_stepM rfl (R_mv) ?_
        refine WL_step rfl (R_bits rfl rfl (by simp) (bv_and p.c (bitN k))) ?_
        refine WL_step rfl (R_eq_t rfl rfl ((bit_in h15).2 hcb)) ?_
        refine WL_stepM rfl (R_mv) ?_
        refine WL_guard_f rfl rfl (by decide) ?_
        refine WL_guard_f rfl rfl (by decide) ?_
        refine WL_guard_f rfl rfl (by decide) ?_
        refine WL_stepM rfl (R_pk_t rfl) ?_
        refine WL_nil ?_
        refine W_cond_t rfl ?_
        refine W_region_l ?_
        refine WL_step rfl (R_fieldAddr (off' := 4) Tryd.underlying25 rfl Tryd.sizeOf3 (by decide) rfl rfl) ?_
        refine WL_step rfl (R_load (v := I p.a.toInt) Tryd.isAgg3 rfl (H.get (.there .here)) rfl) ?_
        refine WL_stepM rfl (R_mv) ?_
        refine WL_step rfl (R_bits rfl rfl (by simp) (bv_or p.a (bitN k))) ?_
        refine WL_step rfl (R_fieldAddr (off' := 4) Tryd.underlying25 rfl Tryd.sizeOf3 (by decide) rfl rfl) ?_
        (refine WL_effu rfl (E_store (v := I (p.a ||| bitN k).toInt) H Tryd.sizeOf3 rfl rfl rfl (.there .here) (by rw [piC_len]; omega)) ?_; clear H; intro w438 H; rw [set_a] at H)
        refine WL_nil ?_
        refine W_seq ?_
        refine W_seq ?_
        refine W_region_l ?_
        refine WL_stepM rfl (R_mv) ?_
        refine WL_step rfl (R_eq_f rfl rfl (fun h => absurd ((bit_9 h15).1 h) (by omega))) ?_
        refine WL_stepM rfl (R_mv) ?_
        refine WL_guard_t rfl rfl ?_
        refine WL_stepM rfl (R_mv) ?_
        refine WL_guard_t rfl rfl ?_
        refine WL_step rfl (R_eq_t rfl rfl ((bit_15 h15).2 (by omega))) ?_
        refine WL_stepM rfl (R_pk_f rfl) ?_
        refine WL_stepM rfl (R_mv) ?_
        refine WL_guard_t rfl rfl ?_
        refine WL_step rfl (R_fieldAddr (off' := 0) Tryd.underlying25 rfl Tryd.sizeOf3 (by decide) rfl rfl) ?_
        refine WL_guard_t rfl rfl ?_
        refine WL_step rfl (R_load (v := I p.s) Tryd.isAgg3 rfl (H.get (.there .here)) rfl) ?_
        refine WL_guard_t rfl rfl ?_
        refine WL_step rfl (R_eq_t rfl rfl hs) ?_
        refine WL_stepM rfl (R_pk_t rfl) ?_
        refine WL_nil ?_
        refine W_cond_t rfl ?_
        refine W_region_l ?_
        refine WL_step rfl (R_fieldAddr (off' := 0) Tryd.underlying25 rfl Tryd.sizeOf3 (by decide) rfl rfl) ?_
        (refine WL_effu rfl (E_store (v := I 1) H Tryd.sizeOf3 rfl rfl rfl (.there .here) (by rw [piC_len]; omega)) ?_; clear H; intro w463 H; rw [set_s] at H)
        refine WL_nil ?_
        refine W_seq ?_
        refine W_seq ?_
        refine W_region_l ?_
        refine WL_stepM rfl (R_mv) ?_
        refine WL_nil ?_
        refine W_block ?_
        refine W_seq ?_
        refine W_region_l ?_
        refine WL_step rfl (R_eq_t rfl rfl ((bit_15 h15).2 (by omega))) ?_
        refine WL_stepM rfl (R_as) ?_
        refine WL_nil ?_
        refine W_cond_t rfl ?_
        refine W_region_l ?_
        refine WL_step rfl (R_fieldAddr (off' := 4) Tryd.underlying25 rfl Tryd.sizeOf3 (by decide) rfl rfl) ?_
        refine WL_step rfl (R_load (v := I (p.a ||| bitN k).toInt) Tryd.isAgg3 rfl (H.get (.there .here)) rfl) ?_
        refine WL_step rfl (R_bits rfl rfl (by simp) (bv_andNot _ 16384#64)) ?_
        refine WL_step rfl (R_fieldAddr (off' := 4) Tryd.underlying25 rfl Tryd.sizeOf3 (by decide) rfl rfl) ?_
        (refine WL_effu rfl (E_store (v := I ((p.a ||| bitN k) &&& ~~~ 16384#64).toInt) H Tryd.sizeOf3 rfl rfl rfl (.there .here) (by rw [piC_len]; omega)) ?_; clear H; intro w482 H; rw [set_a] at H)
        refine WL_nil ?_
        refine W_seq ?_
        refine W_region_l ?_
        refine WL_step rfl (R_loadP rfl (H.get (.there .here))) ?_
        (refine WL_effu rfl (E_storeP H rfl rfl .here) ?_; clear H; intro w487 H)
        refine WL_stepM rfl (R_as) ?_
        refine WL_nil ?_
        refine W_ret ?_
        exact ⟨_, ⟨_, _, rfl, ldP (H.get .here), rfl⟩, congrArg (fun q => Value.tuple #[vP q, .bool true]) (show _ = raiseN p k by refine pi_ext ?_ ?_ ?_ ?_ ?_ ?_ ?_ ?_ ?_ <;> first | rfl | (simp [raiseN, hcb, hs, hk9]; done) | (simp only [raiseN, hcb]; simp [hs, hk9]; done)), H.none (by repeat' first | exact kNil | apply kCons | apply kApp | assumption | exact OwnS.keys (by assumption))⟩
      · refine WL_step rfl (R_fieldAddr (off' := 6) Tryd.underlying25 rfl Tryd.sizeOf3 (by decide) rfl rfl) ?_
        refine WL_step rfl (R_load (v := I p.c.toInt) Tryd.isAgg3 rfl (H.get (.there .here)) rfl) ?_
        refine WL_stepM rfl (R_mv) ?_
        refine WL_step rfl (R_bits rfl rfl (by simp) (bv_and p.c (bitN k))) ?_
        refine WL_step rfl (R_eq_t rfl rfl ((bit_in h15).2 hcb)) ?_
        refine WL_stepM rfl (R_mv) ?_
        refine WL_guard_f rfl rfl (by decide) ?_
        refine WL_guard_f rfl rfl (by decide) ?_
        refine WL_guard_f rfl rfl (by decide) ?_
        refine WL_stepM rfl (R_pk_t rfl) ?_
        refine WL_nil ?_
        refine W_cond_t rfl ?_
        refine W_region_l ?_
        refine WL_step rfl (R_fieldAddr (off' := 4) Tryd.underlying25 rfl Tryd.sizeOf3 (by decide) rfl rfl) ?_
        refine WL_step rfl (R_load (v := I p.a.toInt) Tryd.isAgg3 rfl (H.get (.there .here)) rfl) ?_
        refine WL_stepM rfl (R_mv) ?_
        refine WL_step rfl (R_bits rfl rfl (by simp) (bv_or p.a (bitN k))) ?_
        refine WL_step rfl (R_fieldAddr (off' := 4) Tryd.underlying25 rfl Tryd.sizeOf3 (by decide) rfl rfl) ?_
        (refine WL_effu rfl (E_store (v := I (p.a ||| bitN k).toInt) H Tryd.sizeOf3 rfl rfl rfl (.there .here) (by rw [piC_len]; omega)) ?_; clear H; intro w510 H; rw [set_a] at H)
        refine WL_nil ?_
        refine W_seq ?_
        refine W_seq ?_
        refine W_region_l ?_
        refine WL_stepM rfl (R_mv) ?_
        refine WL_step rfl (R_eq_f rfl rfl (fun h => absurd ((bit_9 h15).1 h) (by omega))) ?_
        refine WL_stepM rfl (R_mv) ?_
        refine WL_guard_t rfl rfl ?_
        refine WL_stepM rfl (R_mv) ?_
        refine WL_guard_t rfl rfl ?_
        refine WL_step rfl (R_eq_f rfl rfl (fun h => absurd ((bit_15 h15).1 h) (by omega))) ?_
        refine WL_stepM rfl (R_pk_f rfl) ?_
        refine WL_stepM rfl (R_mv) ?_
        refine WL_guard_f rfl rfl (by decide) ?_
        refine WL_guard_f rfl rfl (by decide) ?_
        refine WL_guard_f rfl rfl (by decide) ?_
        refine WL_stepM rfl (R_pk_f rfl) ?_
        refine WL_nil ?_
        refine W_cond_f rfl ?_
        refine W_skip ?_
        refine W_seq ?_
        refine W_seq ?_
        refine W_region_l ?_
        refine WL_stepM rfl (R_mv) ?_
        refine WL_nil ?_
        refine W_block ?_
        refine W_seq ?_
        refine W_region_l ?_
        refine WL_step rfl (R_eq_f rfl rfl (fun h => absurd ((bit_15 h15).1 h) (by omega))) ?_
        refine WL_stepM rfl (R_as) ?_
        refine WL_nil ?_
        refine W_cond_f rfl ?_
        refine W_seq ?_
        refine W_region_l ?_
        refine WL_step rfl (R_eq_f rfl rfl (fun h => absurd ((bit_14 h15).1 h) (by omega))) ?_
        refine WL_stepM rfl (R_as) ?_
        refine WL_nil ?_
        refine W_cond_f rfl ?_
        refine W_skip ?_
        refine W_seq ?_
        refine W_region_l ?_
        refine WL_step rfl (R_loadP rfl (H.get (.there .here))) ?_
        (refine WL_effu rfl (E_storeP H rfl rfl .here) ?_; clear H; intro w553 H)
        refine WL_stepM rfl (R_as) ?_
        refine WL_nil ?_
        refine W_ret ?_
        exact ⟨_, ⟨_, _, rfl, ldP (H.get .here), rfl⟩, congrArg (fun q => Value.tuple #[vP q, .bool true]) (show _ = raiseN p k by refine pi_ext ?_ ?_ ?_ ?_ ?_ ?_ ?_ ?_ ?_ <;> first | rfl | (simp [raiseN, hcb, hs, hk9]; done) | (simp only [raiseN, hcb]; simp [hs, hk9]; done)), H.none (by repeat' first | exact kNil | apply kCons | apply kApp | assumption | exact OwnS.keys (by assumption))⟩
      · refine WL_step rfl (R_fieldAddr (off' := 6) Tryd.underlying25 rfl Tryd.sizeOf3 (by decide) rfl rfl) ?_
        refine WL_step rfl (R_load (v := I p.c.toInt) Tryd.isAgg3 rfl (H.get (.there .here)) rfl) ?_
        refine WL_stepM rfl (R_mv) ?_
        refine WL_step rfl (R_bits rfl rfl (by simp) (bv_and p.c (bitN k))) ?_
        refine WL_step rfl (R_eq_t rfl rfl ((bit_in h15).2 hcb)) ?_
        refine WL_stepM rfl (R_mv) ?_
        refine WL_guard_f rfl rfl (by decide) ?_
        refine WL_guard_f rfl rfl (by decide) ?_
        refine WL_guard_f rfl rfl (by decide) ?_
        refine WL_stepM rfl (R_pk_t rfl) ?_
        refine WL_nil ?_
        refine W_cond_t rfl ?_
        refine W_region_l ?_
        refine WL_step rfl (R_fieldAddr (off' := 4) Tryd.underlying25 rfl Tryd.sizeOf3 (by decide) rfl rfl) ?_
        refine WL_step rfl (R_load (v := I p.a.toInt) Tryd.isAgg3 rfl (H.get (.there .here)) rfl) ?_
        refine WL_stepM rfl (R_mv) ?_
        refine WL_step rfl (R_bits rfl rfl (by simp) (bv_or p.a (bitN k))) ?_
        refine WL_step rfl (R_fieldAddr (off' := 4) Tryd.underlying25 rfl Tryd.sizeOf3 (by decide) rfl rfl) ?_
        (refine WL_effu rfl (E_store (v := I (p.a ||| bitN k).toInt) H Tryd.sizeOf3 rfl rfl rfl (.there .here) (by rw [piC_len]; omega)) ?_; clear H; intro w576 H; rw [set_a] at H)
        refine WL_nil ?_
        refine W_seq ?_
        refine W_seq ?_
        refine W_region_l ?_
        refine WL_stepM rfl (R_mv) ?_
        refine WL_step rfl (R_eq_f rfl rfl (fun h => absurd ((bit_9 h15).1 h) (by omega))) ?_
        refine WL_stepM rfl (R_mv) ?_
        refine WL_guard_t rfl rfl ?_
        refine WL_stepM rfl (R_mv) ?_
        refine WL_guard_t rfl rfl ?_
        refine WL_step rfl (R_eq_f rfl rfl (fun h => absurd ((bit_15 h15).1 h) (by omega))) ?_
        refine WL_stepM rfl (R_pk_f rfl) ?_
        refine WL_stepM rfl (R_mv) ?_
        refine WL_guard_f rfl rfl (by decide) ?_
        refine WL_guard_f rfl rfl (by decide) ?_
        refine WL_guard_f rfl rfl (by decide) ?_
        refine WL_stepM rfl (R_pk_f rfl) ?_
        refine WL_nil ?_
        refine W_cond_f rfl ?_
        refine W_skip ?_
        refine W_seq ?_
        refine W_seq ?_
        refine W_region_l ?_
        refine WL_stepM rfl (R_mv) ?_
        refine WL_nil ?_
        refine W_block ?_
        refine W_seq ?_
        refine W_region_l ?_
        refine WL_step rfl (R_eq_f rfl rfl (fun h => absurd ((bit_15 h15).1 h) (by omega))) ?_
        refine WL_stepM rfl (R_as) ?_
        refine WL_nil ?_
        refine W_cond_f rfl ?_
        refine W_seq ?_
        refine W_region_l ?_
        refine WL_step rfl (R_eq_f rfl rfl (fun h => absurd ((bit_14 h15).1 h) (by omega))) ?_
        refine WL_stepM rfl (R_as) ?_
        refine WL_nil ?_
        refine W_cond_f rfl ?_
        refine W_skip ?_
        refine W_seq ?_
        refine W_region_l ?_
        refine WL_step rfl (R_loadP rfl (H.get (.there .here))) ?_
        (refine WL_effu rfl (E_storeP H rfl rfl .here) ?_; clear H; intro w619 H)
        refine WL_stepM rfl (R_as) ?_
        refine WL_nil ?_
        refine W_ret ?_
        exact ⟨_, ⟨_, _, rfl, ldP (H.get .here), rfl⟩, congrArg (fun q => Value.tuple #[vP q, .bool true]) (show _ = raiseN p k by refine pi_ext ?_ ?_ ?_ ?_ ?_ ?_ ?_ ?_ ?_ <;> first | rfl | (simp [raiseN, hcb, hs, hk9]; done) | (simp only [raiseN, hcb]; simp [hs, hk9]; done)), H.none (by repeat' first | exact kNil | apply kCons | apply kApp | assumption | exact OwnS.keys (by assumption))⟩
      · refine WL_step rfl (R_fieldAddr (off' := 6) Tryd.underlying25 rfl Tryd.sizeOf3 (by decide) rfl rfl) ?_
        refine WL_step rfl (R_load (v := I p.c.toInt) Tryd.isAgg3 rfl (H.get (.there .here)) rfl) ?_
        refine WL_stepM rfl (R_mv) ?_
        refine WL_step rfl (R_bits rfl rfl (by simp) (bv_and p.c (bitN k))) ?_
        refine WL_step rfl (R_eq_f rfl rfl (fun h => by have h2 := (bit_in h15).1 h; rw [hcb] at h2; cases h2)) ?_
        refine WL_stepM rfl (R_mv) ?_
        refine WL_guard_t rfl rfl ?_
        refine WL_stepM rfl (R_mv) ?_
        refine WL_guard_t rfl rfl ?_
        refine WL_step rfl (R_bits rfl rfl (by simp) (bv_and (bitN k) 16896#64)) ?_
        refine WL_guard_t rfl rfl ?_
        refine WL_step rfl (R_ne_t rfl rfl ((bit_hard h15).2 (by omega))) ?_
        refine WL_stepM rfl (R_pk_f rfl) ?_
        refine WL_nil ?_
        refine W_cond_t rfl ?_
        refine W_region_l ?_
        refine WL_step rfl (R_fieldAddr (off' := 4) Tryd.underlying25 rfl Tryd.sizeOf3 (by decide) rfl rfl) ?_
        refine WL_step rfl (R_load (v := I p.a.toInt) Tryd.isAgg3 rfl (H.get (.there .here)) rfl) ?_
        refine WL_stepM rfl (R_mv) ?_
        refine WL_step rfl (R_bits rfl rfl (by simp) (bv_or p.a (bitN k))) ?_
        refine WL_step rfl (R_fieldAddr (off' := 4) Tryd.underlying25 rfl Tryd.sizeOf3 (by decide) rfl rfl) ?_
        (refine WL_effu rfl (E_store (v := I (p.a ||| bitN k).toInt) H Tryd.sizeOf3 rfl rfl rfl (.there .here) (by rw [piC_len]; omega)) ?_; clear H; intro w645 H; rw [set_a] at H)
        refine WL_nil ?_
        refine W_seq ?_
        refine W_seq ?_
        refine W_region_l ?_
        refine WL_stepM rfl (R_mv) ?_
        refine WL_step rfl (R_eq_t rfl rfl ((bit_9 h15).2 (by omega))) ?_
        refine WL_stepM rfl (R_mv) ?_
        refine WL_guard_f rfl rfl (by decide) ?_
        refine WL_guard_f rfl rfl (by decide) ?_
        refine WL_stepM rfl (R_pk_t rfl) ?_
        refine WL_stepM rfl (R_mv) ?_
        refine WL_guard_t rfl rfl ?_
        refine WL_step rfl (R_fieldAddr (off' := 0) Tryd.underlying25 rfl Tryd.sizeOf3 (by decide) rfl rfl) ?_
        refine WL_guard_t rfl rfl ?_
        refine WL_step rfl (R_load (v := I p.s) Tryd.isAgg3 rfl (H.get (.there .here)) rfl) ?_
        refine WL_guard_t rfl rfl ?_
        refine WL_step rfl (R_eq_f rfl rfl (by omega)) ?_
        refine WL_stepM rfl (R_pk_t rfl) ?_
        refine WL_nil ?_
        refine W_cond_f rfl ?_
        refine W_skip ?_
        refine W_seq ?_
        refine W_seq ?_
        refine W_region_l ?_
        refine WL_stepM rfl (R_mv) ?_
        refine WL_nil ?_
        refine W_block ?_
        refine W_seq ?_
        refine W_region_l ?_
        refine WL_step rfl (R_eq_f rfl rfl (fun h => absurd ((bit_15 h15).1 h) (by omega))) ?_
        refine WL_stepM rfl (R_as) ?_
        refine WL_nil ?_
        refine W_cond_f rfl ?_
        refine W_seq ?_
        refine W_region_l ?_
        refine WL_step rfl (R_eq_f rfl rfl (fun h => absurd ((bit_14 h15).1 h) (by omega))) ?_
        refine WL_stepM rfl (R_as) ?_
        refine WL_nil ?_
        refine W_cond_f rfl ?_
        refine W_skip ?_
        refine W_seq ?_
        refine W_region_l ?_
        refine WL_step rfl (R_loadP rfl (H.get (.there .here))) ?_
        (refine WL_effu rfl (E_storeP H rfl rfl .here) ?_; clear H; intro w689 H)
        refine WL_stepM rfl (R_as) ?_
        refine WL_nil ?_
        refine W_ret ?_
        exact ⟨_, ⟨_, _, rfl, ldP (H.get .here), rfl⟩, congrArg (fun q => Value.tuple #[vP q, .bool true]) (show _ = raiseN p k by refine pi_ext ?_ ?_ ?_ ?_ ?_ ?_ ?_ ?_ ?_ <;> first | rfl | (simp [raiseN, hcb, hs, hk9]; done) | (simp only [raiseN, hcb]; simp [hs, hk9]; done)), H.none (by repeat' first | exact kNil | apply kCons | apply kApp | assumption | exact OwnS.keys (by assumption))⟩
      · refine WL_step rfl (R_fieldAddr (off' := 6) Tryd.underlying25 rfl Tryd.sizeOf3 (by decide) rfl rfl) ?_
        refine WL_step rfl (R_load (v := I p.c.toInt) Tryd.isAgg3 rfl (H.get (.there .here)) rfl) ?_
        refine WL_stepM rfl (R_mv) ?_
        refine WL_step rfl (R_bits rfl rfl (by simp) (bv_and p.c (bitN k))) ?_
        refine WL_step rfl (R_eq_f rfl rfl (fun h => by have h2 := (bit_in h15).1 h; rw [hcb] at h2; cases h2)) ?_
        refine WL_stepM rfl (R_mv) ?_
        refine WL_guard_t rfl rfl ?_
        refine WL_stepM rfl (R_mv) ?_
        refine WL_guard_t rfl rfl ?_
        refine WL_step rfl (R_bits rfl rfl (by simp) (bv_and (bitN k) 16896#64)) ?_
        refine WL_guard_t rfl rfl ?_
        refine WL_step rfl (R_ne_t rfl rfl ((bit_hard h15).2 (by omega))) ?_
        refine WL_stepM rfl (R_pk_f rfl) ?_
        refine WL_nil ?_
        refine W_cond_t rfl ?_
        refine W_region_l ?_
        refine WL_step rfl (R_fieldAddr (off' := 4) Tryd.underlying25 rfl Tryd.sizeOf3 (by decide) rfl rfl) ?_
        refine WL_step rfl (R_load (v := I p.a.toInt) Tryd.isAgg3 rfl (H.get (.there .here)) rfl) ?_
        refine WL_stepM rfl (R_mv) ?_
        refine WL_step rfl (R_bits rfl rfl (by simp) (bv_or p.a (bitN k))) ?_
        refine WL_step rfl (R_fieldAddr (off' := 4) Tryd.underlying25 rfl Tryd.sizeOf3 (by decide) rfl rfl) ?_
        (refine WL_effu rfl (E_store (v := I (p.a ||| bitN k).toInt) H Tryd.sizeOf3 rfl rfl rfl (.there .here) (by rw [piC_len]; omega)) ?_; clear H; intro w715 H; rw [set_a] at H)
        refine WL_nil ?_
        refine W_seq ?_
        refine W_seq ?_
        refine W_region_l ?_
        refine WL_stepM rfl (R_mv) ?_
        refine WL_step rfl (R_eq_t rfl rfl ((bit_9 h15).2 (by omega))) ?_
        refine WL_stepM rfl (R_mv) ?_
        refine WL_guard_f rfl rfl (by decide) ?_
        refine WL_guard_f rfl rfl (by decide) ?_
        refine WL_stepM rfl (R_pk_t rfl) ?_
        refine WL_stepM rfl (R_mv) ?_
        refine WL_guard_t rfl rfl ?_
        refine WL_step rfl (R_fieldAddr (off' := 0) Tryd.underlying25 rfl Tryd.sizeOf3 (by decide) rfl rfl) ?_
        refine WL_guard_t rfl rfl ?_
        refine WL_step rfl (R_load (v := I p.s) Tryd.isAgg3 rfl (H.get (.there .here)) rfl) ?_
        refine WL_guard_t rfl rfl ?_
        refine WL_step rfl (R_eq_t rfl rfl hs) ?_
        refine WL_stepM rfl (R_pk_t rfl) ?_
        refine WL_nil ?_
        refine W_cond_t rfl ?_
        refine W_region_l ?_
        refine WL_step rfl (R_fieldAddr (off' := 0) Tryd.underlying25 rfl Tryd.sizeOf3 (by decide) rfl rfl) ?_
        (refine WL_effu rfl (E_store (v := I 1) H Tryd.sizeOf3 rfl rfl rfl (.there .here) (by rw [piC_len]; omega)) ?_; clear H; intro w738 H; rw [set_s] at H)
        refine WL_nil ?_
        refine W_seq ?_
        refine W_seq ?_
        refine W_region_l ?_
        refine WL_stepM rfl (R_mv) ?_
        refine WL_nil ?_
        refine W_block ?_
        refine W_seq ?_
        refine W_region_l ?_
        refine WL_step rfl (R_eq_f rfl rfl (fun h => absurd ((bit_15 h15).1 h) (by omega))) ?_
        refine WL_stepM rfl (R_as) ?_
        refine WL_nil ?_
        refine W_cond_f rfl ?_
        refine W_seq ?_
        refine W_region_l ?_
        refine WL_step rfl (R_eq_f rfl rfl (fun h => absurd ((bit_14 h15).1 h) (by omega))) ?_
        refine WL_stepM rfl (R_as) ?_
        refine WL_nil ?_
        refine W_cond_f rfl ?_
        refine W_skip ?_
        refine W_seq ?_
        refine W_region_l ?_
        refine WL_step rfl (R_loadP rfl (H.get (.there .here))) ?_
        (refine WL_effu rfl (E_storeP H rfl rfl .here) ?_; clear H; intro w762 H)
        refine WL_stepM rfl (R_as) ?_
        refine WL_nil ?_
        refine W_ret ?_
        exact ⟨_, ⟨_, _, rfl, ldP (H.get .here), rfl⟩, congrArg (fun q => Value.tuple #[vP q, .bool true]) (show _ = raiseN p k by refine pi_ext ?_ ?_ ?_ ?_ ?_ ?_ ?_ ?_ ?_ <;> first | rfl | (simp [raiseN, hcb, hs, hk9]; done) | (simp only [raiseN, hcb]; simp [hs, hk9]; done)), H.none (by repeat' first | exact kNil | apply kCons | apply kApp | assumption | exact OwnS.keys (by assumption))⟩
      · refine WL_step rfl (R_fieldAddr (off' := 6) Tryd.underlying25 rfl Tryd.sizeOf3 (by decide) rfl rfl) ?_
        refine WL_step rfl (R_load (v := I p.c.toInt) Tryd.isAgg3 rfl (H.get (.there .here)) rfl) ?_
        refine WL_stepM rfl (R_mv) ?_
        refine WL_step rfl (R_bits rfl rfl (by simp) (bv_and p.c (bitN k))) ?_
        refine WL_step rfl (R_eq_f rfl rfl (fun h => by have h2 := (bit_in h15).1 h; rw [hcb] at h2; cases h2)) ?_
        refine WL_stepM rfl (R_mv) ?_
        refine WL_guard_t rfl rfl ?_
        refine WL_stepM rfl (R_mv) ?_
        refine WL_guard_t rfl rfl ?_
        refine WL_step rfl (R_bits rfl rfl (by simp) (bv_and (bitN k) 16896#64)) ?_
        refine WL_guard_t rfl rfl ?_
        refine WL_step rfl (R_ne_t rfl rfl ((bit_hard h15).2 (by omega))) ?_
        refine WL_stepM rfl (R_pk_f rfl) ?_
        refine WL_nil ?_
        refine W_cond_t rfl ?_
        refine W_region_l ?_
        refine WL_step rfl (R_fieldAddr (off' := 4) Tryd.underlying25 rfl Tryd.sizeOf3 (by decide) rfl rfl) ?_
        refine WL_step rfl (R_load (v := I p.a.toInt) Tryd.isAgg3 rfl (H.get (.there .here)) rfl) ?_
        refine WL_stepM rfl (R_mv) ?_
        refine WL_step rfl (R_bits rfl rfl (by simp) (bv_or p.a (bitN k))) ?_
        refine WL_step rfl (R_fieldAddr (off' := 4) Tryd.underlying25 rfl Tryd.sizeOf3 (by decide) rfl rfl) ?_
        (refine WL_effu rfl (E_store (v := I (p.a ||| bitN k).toInt) H Tryd.sizeOf3 rfl rfl rfl (.there .here) (by rw [piC_len]; omega)) ?_; clear H; intro w788 H; rw [set_a] at H)
        refine WL_nil ?_
        refine W_seq ?_
        refine W_seq ?_
        refine W_region_l ?_
        refine WL_stepM rfl (R_mv) ?_
        refine WL_step rfl (R_eq_f rfl rfl (fun h => absurd ((bit_9 h15).1 h) (by omega))) ?_
        refine WL_stepM rfl (R_mv) ?_
        refine WL_guard_t rfl rfl ?_
        refine WL_stepM rfl (R_mv) ?_
        refine WL_guard_t rfl rfl ?_
        refine WL_step rfl (R_eq_f rfl rfl (fun h => absurd ((bit_15 h15).1 h) (by omega))) ?_
        refine WL_stepM rfl (R_pk_f rfl) ?_
        refine WL_stepM rfl (R_mv) ?_
        refine WL_guard_f rfl rfl (by decide) ?_
        refine WL_guard_f rfl rfl (by decide) ?_
        refine WL_guard_f rfl rfl (by decide) ?_
        refine WL_stepM rfl (R_pk_f rfl) ?_
        refine WL_nil ?_
        refine W_cond_f rfl ?_
        refine W_skip ?_
        refine W_seq ?_
        refine W_seq ?_
        refine W_region_l ?_
        refine WL_stepM rfl (R_mv) ?_
        refine WL_nil ?_
        refine W_block ?_
        refine W_seq ?_
        refine W_region_l ?_
        refine WL_step rfl (R_eq_f rfl rfl (fun h => absurd ((bit_15 h15).1 h) (by omega))) ?_
        refine WL_stepM rfl (R_as) ?_
        refine WL_nil ?_
        refine W_cond_f rfl ?_
        refine W_seq ?_
        refine W_region_l ?_
        refine WL_step rfl (R_eq_t rfl rfl ((bit_14 h15).2 (by omega))) ?_
        refine WL_stepM rfl (R_as) ?_
        refine WL_nil ?_
        refine W_cond_t rfl ?_
        refine W_region_l ?_
        refine WL_step rfl (R_fieldAddr (off' := 4) Tryd.underlying25 rfl Tryd.sizeOf3 (by decide) rfl rfl) ?_
        refine WL_step rfl (R_load (v := I (p.a ||| bitN k).toInt) Tryd.isAgg3 rfl (H.get (.there .here)) rfl) ?_
        refine WL_step rfl (R_bits rfl rfl (by simp) (bv_andNot _ 32768#64)) ?_
        refine WL_step rfl (R_fieldAddr (off' := 4) Tryd.underlying25 rfl Tryd.sizeOf3 (by decide) rfl rfl) ?_
        (refine WL_effu rfl (E_store (v := I ((p.a ||| bitN k) &&& ~~~ 32768#64).toInt) H Tryd.sizeOf3 rfl rfl rfl (.there .here) (by rw [piC_len]; omega)) ?_; clear H; intro w832 H; rw [set_a] at H)
        refine WL_nil ?_
        refine W_seq ?_
        refine W_region_l ?_
        refine WL_step rfl (R_loadP rfl (H.get (.there .here))) ?_
        (refine WL_effu rfl (E_storeP H rfl rfl .here) ?_; clear H; intro w837 H)
        refine WL_stepM rfl (R_as) ?_
        refine WL_nil ?_
        refine W_ret ?_
        exact ⟨_, ⟨_, _, rfl, ldP (H.get .here), rfl⟩, congrArg (fun q => Value.tuple #[vP q, .bool true]) (show _ = raiseN p k by refine pi_ext ?_ ?_ ?_ ?_ ?_ ?_ ?_ ?_ ?_ <;> first | rfl | (simp [raiseN, hcb, hs, hk9]; done) | (simp only [raiseN, hcb]; simp [hs, hk9]; done)), H.none (by repeat' first | exact kNil | apply kCons | apply kApp | assumption | exact OwnS.keys (by assumption))⟩
      · refine WL_step rfl (R_fieldAddr (off' := 6) Tryd.underlying25 rfl Tryd.sizeOf3 (by decide) rfl rfl) ?_
        refine WL_step rfl (R_load (v := I p.c.toInt) Tryd.isAgg3 rfl (H.get (.there .here)) rfl) ?_
        refine WL_stepM rfl (R_mv) ?_
        refine WL_step rfl (R_bits rfl rfl (by simp) (bv_and p.c (bitN k))) ?_
        refine WL_step rfl (R_eq_f rfl rfl (fun h => by have h2 := (bit_in h15).1 h; rw [hcb] at h2; cases h2)) ?_
        refine WL_stepM rfl (R_mv) ?_
        refine WL_guard_t rfl rfl ?_
        refine WL_stepM rfl (R_mv) ?_
        refine WL_guard_t rfl rfl ?_
        refine WL_step rfl (R_bits rfl rfl (by simp) (bv_and (bitN k) 16896#64)) ?_
        refine WL_guard_t rfl rfl ?_
        refine WL_step rfl (R_ne_t rfl rfl ((bit_hard h15).2 (by omega))) ?_
        refine WL_stepM rfl (R_pk_f rfl) ?_
        refine WL_nil ?_
        refine W_cond_t rfl ?_
        refine W_region_l ?_
        refine WL_step rfl (R_fieldAddr (off' := 4) Tryd.underlying25 rfl Tryd.sizeOf3 (by decide) rfl rfl) ?_
        refine WL_step rfl (R_load (v := I p.a.toInt) Tryd.isAgg3 rfl (H.get (.there .here)) rfl) ?_
        refine WL_stepM rfl (R_mv) ?_
        refine WL_step rfl (R_bits rfl rfl (by simp) (bv_or p.a (bitN k))) ?_
        refine WL_step rfl (R_fieldAddr (off' := 4) Tryd.underlying25 rfl Tryd.sizeOf3 (by decide) rfl rfl) ?_
        (refine WL_effu rfl (E_store (v := I (p.a ||| bitN k).toInt) H Tryd.sizeOf3 rfl rfl rfl (.there .here) (by rw [piC_len]; omega)) ?_; clear H; intro w863 H; rw [set_a] at H)
        refine WL_nil ?_
        refine W_seq ?_
        refine W_seq ?_
        refine W_region_l ?_
        refine WL_stepM rfl (R_mv) ?_
        refine WL_step rfl (R_eq_f rfl rfl (fun h => absurd ((bit_9 h15).1 h) (by omega))) ?_
        refine WL_stepM rfl (R_mv) ?_
        refine WL_guard_t rfl rfl ?_
        refine WL_stepM rfl (R_mv) ?_
        refine WL_guard_t rfl rfl ?_
        refine WL_step rfl (R_eq_f rfl rfl (fun h => absurd ((bit_15 h15).1 h) (by omega))) ?_
        refine WL_stepM rfl (R_pk_f rfl) ?_
        refine WL_stepM rfl (R_mv) ?_
        refine WL_guard_f rfl rfl (by decide) ?_
        refine WL_guard_f rfl rfl (by decide) ?_
        refine WL_guard_f rfl rfl (by decide) ?_
        refine WL_stepM rfl (R_pk_f rfl) ?_
        refine WL_nil ?_
        refine W_cond_f rfl ?_
        refine W_skip ?_
        refine W_seq ?_
        refine W_seq ?_
        refine W_region_l ?_
        refine WL_stepM rfl (R_mv) ?_
        refine WL_nil ?_
        refine W_block ?_
        refine W_seq ?_
        refine W_region_l ?_
        refine WL_step rfl (R_eq_f rfl rfl (fun h => absurd ((bit_15 h15).1 h) (by omega))) ?_
        refine WL_stepM rfl (R_as) ?_
        refine WL_nil ?_
        refine W_cond_f rfl ?_
        refine W_seq ?_
        refine W_region_l ?_
        refine WL_step rfl (R_eq_t rfl rfl ((bit_14 h15).2 (by omega))) ?_
        refine WL_stepM rfl (R_as) ?_
        refine WL_nil ?_
        refine W_cond_t rfl ?_
        refine W_region_l ?_
        refine WL_step rfl (R_fieldAddr (off' := 4) Tryd.underlying25 rfl Tryd.sizeOf3 (by decide) rfl rfl) ?_
        refine WL_step rfl (R_load (v := I (p.a ||| bitN k).toInt) Tryd.isAgg3 rfl (H.get (.there .here)) rfl) ?_
        refine WL_step rfl (R_bits rfl rfl (by simp) (bv_andNot _ 32768#64)) ?_
        refine WL_step rfl (R_fieldAddr (off' := 4) Tryd.underlying25 rfl Tryd.sizeOf3 (by decide) rfl rfl) ?_
        (refine WL_effu rfl (E_store (v := I ((p.a ||| bitN k) &&& ~~~ 32768#64).toInt) H Tryd.sizeOf3 rfl rfl rfl (.there .here) (by rw [piC_len]; omega)) ?_; clear H; intro w907 H; rw [set_a] at H)
        refine WL_nil ?_
        refine W_seq ?_
        refine W_region_l ?_
        refine WL_step rfl (R_loadP rfl (H.get (.there .here))) ?_
        (refine WL_effu rfl (E_storeP H rfl rfl .here) ?_; clear H; intro w912 H)
        refine WL_stepM rfl (R_as) ?_
        refine WL_nil ?_
        refine W_ret ?_
        exact ⟨_, ⟨_, _, rfl, ldP (H.get .here), rfl⟩, congrArg (fun q => Value.tuple #[vP q, .bool true]) (show _ = raiseN p k by refine pi_ext ?_ ?_ ?_ ?_ ?_ ?_ ?_ ?_ ?_ <;> first | rfl | (simp [raiseN, hcb, hs, hk9]; done) | (simp only [raiseN, hcb]; simp [hs, hk9]; done)), H.none (by repeat' first | exact kNil | apply kCons | apply kApp | assumption | exact OwnS.keys (by assumption))⟩
      · refine WL_step rfl (R_fieldAddr (off' := 6) Tryd.underlying25 rfl Tryd.sizeOf3 (by decide) rfl rfl) ?_
        refine WL_step rfl (R_load (v := I p.c.toInt) Tryd.isAgg3 rfl (H.get (.there .here)) rfl) ?_
        refine WL_stepM rfl (R_mv) ?_
        refine WL_step rfl (R_bits rfl rfl (by simp) (bv_and p.c (bitN k))) ?_
        refine WL_step rfl (R_eq_f rfl rfl (fun h => by have h2 := (bit_in h15).1 h; rw [hcb] at h2; cases h2)) ?_
        refine WL_stepM rfl (R_mv) ?_
        refine WL_guard_t rfl rfl ?_
        refine WL_stepM rfl (R_mv) ?_
        refine WL_guard_t rfl rfl ?_
        refine WL_step rfl (R_bits rfl rfl (by simp) (bv_and (bitN k) 16896#64)) ?_
        refine WL_guard_t rfl rfl ?_
        refine WL_step rfl (R_ne_f rfl rfl (Classical.not_not.1 (fun h => absurd ((bit_hard h15).1 h) (by omega)))) ?_
        refine WL_stepM rfl (R_pk_f rfl) ?_
        refine WL_nil ?_
        refine W_cond_f rfl ?_
        refine W_skip ?_
        refine W_seq ?_
        refine W_seq ?_
        refine W_region_l ?_
        refine WL_stepM rfl (R_mv) ?_
        refine WL_step rfl (R_eq_f rfl rfl (fun h => absurd ((bit_9 h15).1 h) (by omega))) ?_
        refine WL_stepM rfl (R_mv) ?_
        refine WL_guard_t rfl rfl ?_
        refine WL_stepM rfl (R_mv) ?_
        refine WL_guard_t rfl rfl ?_
        refine WL_step rfl (R_eq_t rfl rfl ((bit_15 h15).2 (by omega))) ?_
        refine WL_stepM rfl (R_pk_f rfl) ?_
        refine WL_stepM rfl (R_mv) ?_
        refine WL_guard_t rfl rfl ?_
        refine WL_step rfl (R_fieldAddr (off' := 0) Tryd.underlying25 rfl Tryd.sizeOf3 (by decide) rfl rfl) ?_
        refine WL_guard_t rfl rfl ?_
        refine WL_step rfl (R_load (v := I p.s) Tryd.isAgg3 rfl (H.get (.there .here)) rfl) ?_
        refine WL_guard_t rfl rfl ?_
        refine WL_step rfl (R_eq_f rfl rfl (by omega)) ?_
        refine WL_stepM rfl (R_pk_t rfl) ?_
        refine WL_nil ?_
        refine W_cond_f rfl ?_
        refine W_skip ?_
        refine W_seq ?_
        refine W_seq ?_
        refine W_region_l ?_
        refine WL_stepM rfl (R_mv) ?_
        refine WL_nil ?_
        refine W_block ?_
        refine W_seq ?_
        refine W_region_l ?_
        refine WL_step rfl (R_eq_t rfl rfl ((bit_15 h15).2 (by omega))) ?_
        refine WL_stepM rfl (R_as) ?_
        refine WL_nil ?_
        refine W_cond_t rfl ?_
        refine W_region_l ?_
        refine WL_step rfl (R_fieldAddr (off' := 4) Tryd.underlying25 rfl Tryd.sizeOf3 (by decide) rfl rfl) ?_
        refine WL_step rfl (R_load (v := I p.a.toInt) Tryd.isAgg3 rfl (H.get (.there .here)) rfl) ?_
        refine WL_step rfl (R_bits rfl rfl (by simp) (bv_andNot _ 16384#64)) ?_
        refine WL_step rfl (R_fieldAddr (off' := 4) Tryd.underlying25 rfl Tryd.sizeOf3 (by decide) rfl rfl) ?_
        (refine WL_effu rfl (E_store (v := I (p.a &&& ~~~ 16384#64).toInt) H Tryd.sizeOf3 rfl rfl rfl (.there .here) (by rw [piC_len]; omega)) ?_; clear H; intro w972 H; rw [set_a] at H)
        refine WL_nil ?_
        refine W_seq ?_
        refine W_region_l ?_
        refine WL_step rfl (R_loadP rfl (H.get (.there .here))) ?_
        (refine WL_effu rfl (E_storeP H rfl rfl .here) ?_; clear H; intro w977 H)
        refine WL_stepM rfl (R_as) ?_
        refine WL_nil ?_
        refine W_ret ?_
        exact ⟨_, ⟨_, _, rfl, ldP (H.get .here), rfl⟩, congrArg (fun q => Value.tuple #[vP q, .bool true]) (show _ = raiseN p k by refine pi_ext ?_ ?_ ?_ ?_ ?_ ?_ ?_ ?_ ?_ <;> first | rfl | (simp [raiseN, hcb, hs, hk9]; done) | (simp only [raiseN, hcb]; simp [hs, hk9]; done)), H.none (by repeat' first | exact kNil | apply kCons | apply kApp | assumption | exact OwnS.keys (by assumption))⟩
      · refine WL_step rfl (R_fieldAddr (off' := 6) Tryd.underlying25 rfl Tryd.sizeOf3 (by decide) rfl rfl) ?_
        refine WL_step rfl (R_load (v := I p.c.toInt) Tryd.isAgg3 rfl (H.get (.there .here)) rfl) ?_
        refine WL_stepM rfl (R_mv) ?_
        refine WL_step rfl (R_bits rfl rfl (by simp) (bv_and p.c (bitN k))) ?_
        refine WL_step rfl (R_eq_f rfl rfl (fun h => by have h2 := (bit_in h15).1 h; rw [hcb] at h2; cases h2)) ?_
        refine WL_stepM rfl (R_mv) ?_
        refine WL_guard_t rfl rfl ?_
        refine WL_stepM rfl (R_mv) ?_
        refine WL_guard_t rfl rfl ?_
        refine WL_step rfl (R_bits rfl rfl (by simp) (bv_and (bitN k) 16896#64)) ?_
        refine WL_guard_t rfl rfl ?_
        refine WL_step rfl (R_ne_f rfl rfl (Classical.not_not.1 (fun h => absurd ((bit_hard h15).1 h) (by omega)))) ?_
        refine WL_stepM rfl (R_pk_f rfl) ?_
        refine WL_nil ?_
        refine W_cond_f rfl ?_
        refine W_skip ?_
        refine W_seq ?_
        refine W_seq ?_
        refine W_region_l ?_
        refine WL_stepM rfl (R_mv) ?_
        refine WL_step rfl (R_eq_f rfl rfl (fun h => absurd ((bit_9 h15).1 h) (by omega))) ?_
        refine WL_stepM rfl (R_mv) ?_
        refine WL_guard_t rfl rfl ?_
        refine WL_stepM rfl (R_mv) ?_
        refine WL_guard_t rfl rfl ?_
        refine WL_step rfl (R_eq_t rfl rfl ((bit_15 h15).2 (by omega))) ?_
        refine WL_stepM rfl (R_pk_f rfl) ?_
        refine WL_stepM rfl (R_mv) ?_
        refine WL_guard_t rfl rfl ?_
        refine WL_step rfl (R_fieldAddr (off' := 0) Tryd.underlying25 rfl Tryd.sizeOf3 (by decide) rfl rfl) ?_
        refine WL_guard_t rfl rfl ?_
        refine WL_step rfl (R_load (v := I p.s) Tryd.isAgg3 rfl (H.get (.there .here)) rfl) ?_
        refine WL_guard_t rfl rfl ?_
        refine WL_step rfl (R_eq_t rfl rfl hs) ?_
        refine WL_stepM rfl (R_pk_t rfl) ?_
        refine WL_nil ?_
        refine W_cond_t rfl ?_
        refine W_region_l ?_
        refine WL_step rfl (R_fieldAddr (off' := 0) Tryd.underlying25 rfl Tryd.sizeOf3 (by decide) rfl rfl) ?_
        (refine WL_effu rfl (E_store (v := I 1) H Tryd.sizeOf3 rfl rfl rfl (.there .here) (by rw [piC_len]; omega)) ?_; clear H; intro w1021 H; rw [set_s] at H)
        refine WL_nil ?_
        refine W_seq ?_
        refine W_seq ?_
        refine W_region_l ?_
        refine WL_stepM rfl (R_mv) ?_
        refine WL_nil ?_
        refine W_block ?_
        refine W_seq ?_
        refine W_region_l ?_
        refine WL_step rfl (R_eq_t rfl rfl ((bit_15 h15).2 (by omega))) ?_
        refine WL_stepM rfl (R_as) ?_
        refine WL_nil ?_
        refine W_cond_t rfl ?_
        refine W_region_l ?_
        refine WL_step rfl (R_fieldAddr (off' := 4) Tryd.underlying25 rfl Tryd.sizeOf3 (by decide) rfl rfl) ?_
        refine WL_step rfl (R_load (v := I p.a.toInt) Tryd.isAgg3 rfl (H.get (.there .here)) rfl) ?_
        refine WL_step rfl (R_bits rfl rfl (by simp) (bv_andNot _ 16384#64)) ?_
        refine WL_step rfl (R_fieldAddr (off' := 4) Tryd.underlying25 rfl Tryd.sizeOf3 (by decide) rfl rfl) ?_
        (refine WL_effu rfl (E_store (v := I (p.a &&& ~~~ 16384#64).toInt) H Tryd.sizeOf3 rfl rfl rfl (.there .here) (by rw [piC_len]; omega)) ?_; clear H; intro w1040 H; rw [set_a] at H)
        refine WL_nil ?_
        refine W_seq ?_
        refine W_region_l ?_
        refine WL_step rfl (R_loadP rfl (H.get (.there .here))) ?_
        (refine WL_effu rfl (E_storeP H rfl rfl .here) ?_; clear H; intro w1045 H)
        refine WL_stepM rfl (R_as) ?_
        refine WL_nil ?_
        refine W_ret ?_
        exact ⟨_, ⟨_, _, rfl, ldP (H.get .here), rfl⟩, congrArg (fun q => Value.tuple #[vP q, .bool true]) (show _ = raiseN p k by refine pi_ext ?_ ?_ ?_ ?_ ?_ ?_ ?_ ?_ ?_ <;> first | rfl | (simp [raiseN, hcb, hs, hk9]; done) | (simp only [raiseN, hcb]; simp [hs, hk9]; done)), H.none (by repeat' first | exact kNil | apply kCons | apply kApp | assumption | exact OwnS.keys (by assumption))⟩
      · refine WL_step rfl (R_fieldAddr (off' := 6) Tryd.underlying25 rfl Tryd.sizeOf3 (by decide) rfl rfl) ?_
        refine WL_step rfl (R_load (v := I p.c.toInt) Tryd.isAgg3 rfl (H.get (.there .here)) rfl) ?_
        refine WL_stepM rfl (R_mv) ?_
        refine WL_step rfl (R_bits rfl rfl (by simp) (bv_and p.c (bitN k))) ?_
        refine WL_step rfl (R_eq_f rfl rfl (fun h => by have h2 := (bit_in h15).1 h; rw [hcb] at h2; cases h2)) ?_
        refine WL_stepM rfl (R_mv) ?_
        refine WL_guard_t rfl rfl ?_
        refine WL_stepM rfl (R_mv) ?_
        refine WL_guard_t rfl rfl ?_
        refine WL_step rfl (R_bits rfl rfl (by simp) (bv_and (bitN k) 16896#64)) ?_
        refine WL_guard_t rfl rfl ?_
        refine WL_step rfl (R_ne_f rfl rfl (Classical.not_not.1 (fun h => absurd ((bit_hard h15).1 h) (by omega)))) ?_
        refine WL_stepM rfl (R_pk_f rfl) ?_
        refine WL_nil ?_
        refine W_cond_f rfl ?_
        refine W_skip ?_
        refine W_seq ?_
        refine W_seq ?_
        refine W_region_l ?_
        refine WL_stepM rfl (R_mv) ?_
        refine WL_step rfl (R_eq_f rfl rfl (fun h => absurd ((bit_9 h15).1 h) (by omega))) ?_
        refine WL_stepM rfl (R_mv) ?_
        refine WL_guard_t rfl rfl ?_
        refine WL_stepM rfl (R_mv) ?_
        refine WL_guard_t rfl rfl ?_
        refine WL_step rfl (R_eq_f rfl rfl (fun h => absurd ((bit_15 h15).1 h) (by omega))) ?_
        refine WL_stepM rfl (R_pk_f rfl) ?_
        refine WL_stepM rfl (R_mv) ?_
        refine WL_guard_f rfl rfl (by decide) ?_
        refine WL_guard_f rfl rfl (by decide) ?_
        refine WL_guard_f rfl rfl (by decide) ?_
        refine WL_stepM rfl (R_pk_f rfl) ?_
        refine WL_nil ?_
        refine W_cond_f rfl ?_
        refine W_skip ?_
        refine W_seq ?_
        refine W_seq ?_
        refine W_region_l ?_
        refine WL_stepM rfl (R_mv) ?_
        refine WL_nil ?_
        refine W_block ?_
        refine W_seq ?_
        refine W_region_l ?_
        refine WL_step rfl (R_eq_f rfl rfl (fun h => absurd ((bit_15 h15).1 h) (by omega))) ?_
        refine WL_stepM rfl (R_as) ?_
        refine WL_nil ?_
        refine W_cond_f rfl ?_
        refine W_seq ?_
        refine W_region_l ?_
        refine WL_step rfl (R_eq_f rfl rfl (fun h => absurd ((bit_14 h15).1 h) (by omega))) ?_
        refine WL_stepM rfl (R_as) ?_
        refine WL_nil ?_
        refine W_cond_f rfl ?_
        refine W_skip ?_
        refine W_seq ?_
        refine W_region_l ?_
        refine WL_step rfl (R_loadP rfl (H.get (.there .here))) ?_
        (refine WL_effu rfl (E_storeP H rfl rfl .here) ?_; clear H; intro w1107 H)
        refine WL_stepM rfl (R_as) ?_
        refine WL_nil ?_
        refine W_ret ?_
        exact ⟨_, ⟨_, _, rfl, ldP (H.get .here), rfl⟩, congrArg (fun q => Value.tuple #[vP q, .bool true]) (show _ = raiseN p k by refine pi_ext ?_ ?_ ?_ ?_ ?_ ?_ ?_ ?_ ?_ <;> first | rfl | (simp [raiseN, hcb, hs, hk9]; done) | (simp only [raiseN, hcb]; simp [hs, hk9]; done)), H.none (by repeat' first | exact kNil | apply kCons | apply kApp | assumption | exact OwnS.keys (by assumption))⟩
      · refine WL_step rfl (R_fieldAddr (off' := 6) Tryd.underlying25 rfl Tryd.sizeOf3 (by decide) rfl rfl) ?_
        refine WL_step rfl (R_load (v := I p.c.toInt) Tryd.isAgg3 rfl (H.get (.there .here)) rfl) ?_
        refine WL_stepM rfl (R_mv) ?_
        refine WL_step rfl (R_bits rfl rfl (by simp) (bv_and p.c (bitN k))) ?_
        refine WL_step rfl (R_eq_f rfl rfl (fun h => by have h2 := (bit_in h15).1 h; rw [hcb] at h2; cases h2)) ?_
        refine WL_stepM rfl (R_mv) ?_
        refine WL_guard_t rfl rfl ?_
        refine WL_stepM rfl (R_mv) ?_
        refine WL_guard_t rfl rfl ?_
        refine WL_step rfl (R_bits rfl rfl (by simp) (bv_and (bitN k) 16896#64)) ?_
        refine WL_guard_t rfl rfl ?_
        refine WL_step rfl (R_ne_f rfl rfl (Classical.not_not.1 (fun h => absurd ((bit_hard h15).1 h) (by omega)))) ?_
        refine WL_stepM rfl (R_pk_f rfl) ?_
        refine WL_nil ?_
        refine W_cond_f rfl ?_
        refine W_skip ?_
        refine W_seq ?_
        refine W_seq ?_
        refine W_region_l ?_
        refine WL_stepM rfl (R_mv) ?_
        refine WL_step rfl (R_eq_f rfl rfl (fun h => absurd ((bit_9 h15).1 h) (by omega))) ?_
        refine WL_stepM rfl (R_mv) ?_
        refine WL_guard_t rfl rfl ?_
        refine WL_stepM rfl (R_mv) ?_
        refine WL_guard_t rfl rfl ?_
        refine WL_step rfl (R_eq_f rfl rfl (fun h => absurd ((bit_15 h15).1 h) (by omega))) ?_
        refine WL_stepM rfl (R_pk_f rfl) ?_
        refine WL_stepM rfl (R_mv) ?_
        refine WL_guard_f rfl rfl (by decide) ?_
        refine WL_guard_f rfl rfl (by decide) ?_
        refine WL_guard_f rfl rfl (by decide) ?_
        refine WL_stepM rfl (R_pk_f rfl) ?_
        refine WL_nil ?_
        refine W_cond_f rfl ?_
        refine W_skip ?_
        refine W_seq ?_
        refine W_seq ?_
        refine W_region_l ?_
        refine WL_stepM rfl (R_mv) ?_
        refine WL_nil ?_
        refine W_block ?_
        refine W_seq ?_
        refine W_region_l ?_
        refine WL_step rfl (R_eq_f rfl rfl (fun h => absurd ((bit_15 h15).1 h) (by omega))) ?_
        refine WL_stepM rfl (R_as) ?_
        refine WL_nil ?_
        refine W_cond_f rfl ?_
        refine W_seq ?_
        refine W_region_l ?_
        refine WL_step rfl (R_eq_f rfl rfl (fun h => absurd ((bit_14 h15).1 h) (by omega))) ?_
        refine WL_stepM rfl (R_as) ?_
        refine WL_nil ?_
        refine W_cond_f rfl ?_
        refine W_skip ?_
        refine W_seq ?_
        refine W_region_l ?_
        refine WL_step rfl (R_loadP rfl (H.get (.there .here))) ?_
        (refine WL_effu rfl (E_storeP H rfl rfl .here) ?_; clear H; intro w1169 H)
        refine WL_stepM rfl (R_as) ?_
        refine WL_nil ?_
        refine W_ret ?_
        exact ⟨_, ⟨_, _, rfl, ldP (H.get .here), rfl⟩, congrArg (fun q => Value.tuple #[vP q, .bool true]) (show _ = raiseN p k by refine pi_ext ?_ ?_ ?_ ?_ ?_ ?_ ?_ ?_ ?_ <;> first | rfl | (simp [raiseN, hcb, hs, hk9]; done) | (simp only [raiseN, hcb]; simp [hs, hk9]; done)), H.none (by repeat' first | exact kNil | apply kCons | apply kApp | assumption | exact OwnS.keys (by assumption))⟩
end Go.Proofs.YtneeoicjipglkaaDoor.Slot

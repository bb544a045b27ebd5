/-
  Signals: what is done with one.
-/
import Derived.Test.YtneeoicjipglkaaDoorSigI
namespace Go.Proofs.YtneeoicjipglkaaDoor.Slot
open Go Go.Proofs Go.Proofs.YtneeoicjipglkaaDoor.Fx
set_option maxRecDepth 100000
set_option linter.unusedVariables false
set_option linter.unusedSimpArgs false
set_option maxHeartbeats 8000000

/-- what is done with a signal, turned -/
def handleN (p : Pi) (k : Nat) (how : Int) : Pi :=
  { p with
    a := if how = 1 then p.a &&& ~~~ bitN k else p.a
    c := if how = 1 then (p.c &&& ~~~ bitN k) ||| bitN k else p.c &&& ~~~ bitN k
    d := if how = 2 then (p.d &&& ~~~ bitN k) ||| bitN k else p.d &&& ~~~ bitN k }
def okH (n how : Int) : Prop := (1 ≤ n ∧ n ≤ 15) ∧ n ≠ 9 ∧ n ≠ 14 ∧ 0 ≤ how ∧ how ≤ 2
instance (n how : Int) : Decidable (okH n how) := by unfold okH; infer_instance

theorem handle_no {p : Pi} {n how : Int} (h : ¬ okH n how) (w : World) : Ret Tryd.prog 14 #[vP p, I n, I how] w fun v w' => v = .tuple #[vP zeroP, I 122] ∧ Hp w [] w' := by
  refine Ret_of_WC (args := [_, _, _]) Tryd.func14 rfl Tryd.ntmps14 Tryd.results14 (by simp) ?_
  have H := Hp.refl w
  unfold okH at h
  by_cases hn : 1 ≤ n ∧ n ≤ 15
  · obtain ⟨k, rfl⟩ : ∃ k : Nat, n = k := ⟨n.toNat, by omega⟩
    have h15 : k ≤ 15 := by omega
    by_cases hh : k = 9 ∨ k = 14
    · refine W_seq ?_
      refine W_region_l ?_
      (refine WL_effn rfl (E_boxP H rfl) ?_; clear H; intro c3 w3 hc3 H)
      (refine WL_effn rfl (E_allocP H) ?_; clear H; intro c6 w4 hc6 H)
      refine WL_stepM rfl (R_as) ?_
      refine WL_nil ?_
      refine W_seq ?_
      refine W_seq ?_
      refine W_region_l ?_
      refine WL_stepM rfl (R_mv) ?_
      (refine WL_call rfl (R_call rfl Tryd.call26 rfl) (is_ret _ _) ?_; rintro _ w11 ⟨rfl, H1⟩; rw [decide_eq_true hn]; replace H := H.seq0 H1; clear H1)
      refine WL_step rfl (R_not_t rfl) ?_
      refine WL_stepM rfl (R_mv) ?_
      refine WL_guard_t rfl rfl ?_
      refine WL_stepM rfl (R_mv) ?_
      refine WL_guard_t rfl rfl ?_
      refine WL_step rfl (R_conv_int (r := (k : Int)) Tryd.underlying3 Tryd.underlying31 rfl (w_u64 (by omega))) ?_
      refine WL_guard_t rfl rfl ?_
      refine WL_step rfl (R_shl (r := (bitN k).toInt) rfl rfl (by omega) (bit_shl h15)) ?_
      refine WL_guard_t rfl rfl ?_
      refine WL_step rfl (R_bits rfl rfl (by simp) (bv_and (bitN k) 16896#64)) ?_
      refine WL_guard_t rfl rfl ?_
      refine WL_step rfl (R_ne_t rfl rfl ((bit_hard h15).2 hh)) ?_
      refine WL_stepM rfl (R_pk_f rfl) ?_
      refine WL_stepM rfl (R_mv) ?_
      refine WL_guard_f rfl rfl (by decide) ?_
      refine WL_guard_f rfl rfl (by decide) ?_
      refine WL_stepM rfl (R_pk_t rfl) ?_
      refine WL_stepM rfl (R_mv) ?_
      refine WL_guard_f rfl rfl (by decide) ?_
      refine WL_guard_f rfl rfl (by decide) ?_
      refine WL_stepM rfl (R_pk_t rfl) ?_
      refine WL_nil ?_
      refine W_cond_t rfl ?_
      refine W_seq ?_
      refine W_region_l ?_
      refine WL_step rfl R_zeroP ?_
      (refine WL_effu rfl (E_storeP (q := zeroP) H rfl rfl .here) ?_; clear H; intro w38 H)
      refine WL_stepM rfl (R_as) ?_
      refine WL_nil ?_
      refine W_ret ?_
      exact ⟨_, ⟨_, _, rfl, ldP (p := zeroP) (H.get .here), rfl⟩, rfl, H.none (by repeat' first | exact kNil | apply kCons | apply kApp | assumption | exact OwnS.keys (by assumption))⟩
    · refine W_seq ?_
      refine W_region_l ?_
      (refine WL_effn rfl (E_boxP H rfl) ?_; clear H; intro c3 w3 hc3 H)
      (refine WL_effn rfl (E_allocP H) ?_; clear H; intro c6 w4 hc6 H)
      refine WL_stepM rfl (R_as) ?_
      refine WL_nil ?_
      refine W_seq ?_
      refine W_seq ?_
      refine W_region_l ?_
      refine WL_stepM rfl (R_mv) ?_
      (refine WL_call rfl (R_call rfl Tryd.call26 rfl) (is_ret _ _) ?_; rintro _ w11 ⟨rfl, H1⟩; rw [decide_eq_true hn]; replace H := H.seq0 H1; clear H1)
      refine WL_step rfl (R_not_t rfl) ?_
      refine WL_stepM rfl (R_mv) ?_
      refine WL_guard_t rfl rfl ?_
      refine WL_stepM rfl (R_mv) ?_
      refine WL_guard_t rfl rfl ?_
      refine WL_step rfl (R_conv_int (r := (k : Int)) Tryd.underlying3 Tryd.underlying31 rfl (w_u64 (by omega))) ?_
      refine WL_guard_t rfl rfl ?_
      refine WL_step rfl (R_shl (r := (bitN k).toInt) rfl rfl (by omega) (bit_shl h15)) ?_
      refine WL_guard_t rfl rfl ?_
      refine WL_step rfl (R_bits rfl rfl (by simp) (bv_and (bitN k) 16896#64)) ?_
      refine WL_guard_t rfl rfl ?_
      refine WL_step rfl (R_ne_f rfl rfl (Classical.not_not.1 (fun h => hh ((bit_hard h15).1 h)))) ?_
      refine WL_stepM rfl (R_pk_f rfl) ?_
      refine WL_stepM rfl (R_mv) ?_
      refine WL_guard_t rfl rfl ?_
      refine WL_stepM rfl (R_mv) ?_
      refine WL_guard_t rfl rfl ?_
      refine WL_step rfl (R_lt rfl rfl) ?_
      refine WL_stepM rfl (R_pk_f rfl) ?_
      refine WL_stepM rfl (R_mv) ?_
      apply WL_orK 3 23 26 [(24, 26)] H
      case hc => rfl
      case h1 =>
        intro h32
        refine WL_guard_t rfl rfl ?_
        refine WL_stepM rfl (R_mv) ?_
        refine WL_guard_t rfl rfl ?_
        refine WL_step rfl (R_gt rfl rfl) ?_
        refine WL_stepM rfl (R_pk_f rfl) ?_
        refine WL_nil ?_
        exact ⟨(same_mov rfl (same_updo rfl (same_mov rfl Same.refl))), rfl, H⟩
      case h0 =>
        intro h32
        refine WL_guard_f rfl rfl (by decide) ?_
        refine WL_guard_f rfl rfl (by decide) ?_
        refine WL_stepM rfl (R_pk_t rfl) ?_
        refine WL_nil ?_
        exact ⟨(same_mov rfl (same_updo rfl (same_updo rfl Same.refl))), rfl, H⟩
      case h2 =>
        (clear H; intro E32 w32 H)
        refine WL_nil ?_
        refine W_if rfl (fun h46 => ?_) (fun h46 => ?_)
        · refine W_seq ?_
          refine W_region_l ?_
          refine WL_step rfl R_zeroP ?_
          (refine WL_effu rfl (E_storeP (q := zeroP) H rfl rfl .here) ?_; clear H; intro w50 H)
          refine WL_stepM rfl (R_as) ?_
          refine WL_nil ?_
          refine W_ret ?_
          exact ⟨_, ⟨_, _, rfl, ldP (p := zeroP) (H.get .here), rfl⟩, rfl, H.none (by repeat' first | exact kNil | apply kCons | apply kApp | assumption | exact OwnS.keys (by assumption))⟩
        · refine W_skip ?_
          refine W_seq ?_
          (exact (by omega : False).elim) <;> refine W_region_l ?_
  · refine W_seq ?_
    refine W_region_l ?_
    (refine WL_effn rfl (E_boxP H rfl) ?_; clear H; intro c3 w3 hc3 H)
    (refine WL_effn rfl (E_allocP H) ?_; clear H; intro c6 w4 hc6 H)
    refine WL_stepM rfl (R_as) ?_
    refine WL_nil ?_
    refine W_seq ?_
    refine W_seq ?_
    refine W_region_l ?_
    refine WL_stepM rfl (R_mv) ?_
    (refine WL_call rfl (R_call rfl Tryd.call26 rfl) (is_ret _ _) ?_; rintro _ w11 ⟨rfl, H1⟩; rw [decide_eq_false hn]; replace H := H.seq0 H1; clear H1)
    refine WL_step rfl (R_not_f rfl) ?_
    refine WL_stepM rfl (R_mv) ?_
    refine WL_guard_f rfl rfl (by decide) ?_
    refine WL_guard_f rfl rfl (by decide) ?_
    refine WL_guard_f rfl rfl (by decide) ?_
    refine WL_guard_f rfl rfl (by decide) ?_
    refine WL_guard_f rfl rfl (by decide) ?_
    refine WL_stepM rfl (R_pk_t rfl) ?_
    refine WL_stepM rfl (R_mv) ?_
    refine WL_guard_f rfl rfl (by decide) ?_
    refine WL_guard_f rfl rfl (by decide) ?_
    refine WL_stepM rfl (R_pk_t rfl) ?_
    refine WL_stepM rfl (R_mv) ?_
    refine WL_guard_f rfl rfl (by decide) ?_
    refine WL_guard_f rfl rfl (by decide) ?_
    refine WL_stepM rfl (R_pk_t rfl) ?_
    refine WL_nil ?_
    refine W_cond_t rfl ?_
    refine W_seq ?_
    refine W_region_l ?_
    refine WL_step rfl R_zeroP ?_
    (refine WL_effu rfl (E_storeP (q := zeroP) H rfl rfl .here) ?_; clear H; intro w33 H)
    refine WL_stepM rfl (R_as) ?_
    refine WL_nil ?_
    refine W_ret ?_
    exact ⟨_, ⟨_, _, rfl, ldP (p := zeroP) (H.get .here), rfl⟩, rfl, H.none (by repeat' first | exact kNil | apply kCons | apply kApp | assumption | exact OwnS.keys (by assumption))⟩

theorem refHandle_no {p : Pi} {n how : Int} (h : ¬ okH n how) (w : World) : Ret Tryd.prog 18 #[vP p, I n, I how] w fun v w' => v = .tuple #[vP zeroP, I 122] ∧ Hp w [] w' := by
  refine Ret_of_WC (args := [_, _, _]) Tryd.func18 rfl Tryd.ntmps18 Tryd.results18 (by simp) ?_
  have H := Hp.refl w
  unfold okH at h
  refine W_seq ?_
  refine W_region_l ?_
  (refine WL_effn rfl (E_boxP H rfl) ?_; clear H; intro c3 w3 hc3 H)
  (refine WL_effn rfl (E_allocP H) ?_; clear H; intro c6 w4 hc6 H)
  refine WL_stepM rfl (R_as) ?_
  refine WL_nil ?_
  refine W_seq ?_
  refine W_seq ?_
  refine W_region_l ?_
  refine WL_stepM rfl (R_mv) ?_
  (refine WL_call rfl (R_call rfl Tryd.call28 rfl) (in_ret _ _ _ _) ?_; rintro _ w11 ⟨rfl, H1⟩; replace H := H.seq0 H1; clear H1)
  refine WL_step rfl (R_not_d rfl) ?_
  refine WL_stepM rfl (R_mv) ?_
  apply WL_orK 3 11 14 [(12, 14)] H
  case hc => rfl
  case h1 =>
    intro h14
    refine WL_guard_t rfl rfl ?_
    refine WL_stepM rfl (R_mv) ?_
    refine WL_guard_t rfl rfl ?_
    refine WL_step rfl (R_eq rfl rfl) ?_
    refine WL_stepM rfl (R_pk_f rfl) ?_
    refine WL_nil ?_
    exact ⟨(same_mov rfl (same_updo rfl (same_mov rfl Same.refl))), rfl, H⟩
  case h0 =>
    intro h14
    refine WL_guard_f rfl rfl (by decide) ?_
    refine WL_guard_f rfl rfl (by decide) ?_
    refine WL_stepM rfl (R_pk_t rfl) ?_
    refine WL_nil ?_
    exact ⟨(same_mov rfl (same_updo rfl (same_updo rfl Same.refl))), rfl, H⟩
  case h2 =>
    (clear H; intro E14 w14 H)
    refine WL_stepM rfl (R_mv) ?_
    apply WL_orK 3 15 18 [(16, 18)] H
    case hc => rfl
    case h1 =>
      intro h28
      refine WL_guard_t rfl rfl ?_
      refine WL_stepM rfl (R_mv) ?_
      refine WL_guard_t rfl rfl ?_
      refine WL_step rfl (R_eq rfl rfl) ?_
      refine WL_stepM rfl (R_pk_f rfl) ?_
      refine WL_nil ?_
      exact ⟨(same_mov rfl (same_updo rfl (same_mov rfl Same.refl))), rfl, H⟩
    case h0 =>
      intro h28
      refine WL_guard_f rfl rfl (by decide) ?_
      refine WL_guard_f rfl rfl (by decide) ?_
      refine WL_stepM rfl (R_pk_t rfl) ?_
      refine WL_nil ?_
      exact ⟨(same_mov rfl (same_updo rfl (same_updo rfl Same.refl))), rfl, H⟩
    case h2 =>
      (clear H; intro E28 w28 H)
      refine WL_stepM rfl (R_mv) ?_
      apply WL_orK 4 19 23 [(20, 23)] H
      case hc => rfl
      case h1 =>
        intro h42
        refine WL_guard_t rfl rfl ?_
        refine WL_stepM rfl (R_mv) ?_
        refine WL_guard_t rfl rfl ?_
        (refine WL_call rfl (R_call rfl Tryd.call28 rfl) (in_ret _ _ _ _) ?_; rintro _ w46 ⟨rfl, H1⟩; replace H := H.seq0 H1; clear H1)
        refine WL_guard_t rfl rfl ?_
        refine WL_step rfl (R_not_d rfl) ?_
        refine WL_stepM rfl (R_pk_f rfl) ?_
        refine WL_nil ?_
        exact ⟨(same_mov rfl (same_updo rfl (same_updo rfl (same_mov rfl Same.refl)))), rfl, H⟩
      case h0 =>
        intro h42
        refine WL_guard_f rfl rfl (by decide) ?_
        refine WL_guard_f rfl rfl (by decide) ?_
        refine WL_guard_f rfl rfl (by decide) ?_
        refine WL_stepM rfl (R_pk_t rfl) ?_
        refine WL_nil ?_
        exact ⟨(same_mov rfl (same_updo rfl (same_updo rfl (same_updo rfl Same.refl)))), rfl, H⟩
      case h2 =>
        (clear H; intro E42 w42 H)
        refine WL_nil ?_
        refine W_if rfl (fun h59 => ?_) (fun h59 => ?_)
        · refine W_seq ?_
          refine W_region_l ?_
          refine WL_step rfl R_zeroP ?_
          (refine WL_effu rfl (E_storeP (q := zeroP) H rfl rfl .here) ?_; clear H; intro w63 H)
          refine WL_stepM rfl (R_as) ?_
          refine WL_nil ?_
          refine W_ret ?_
          exact ⟨_, ⟨_, _, rfl, ldP (p := zeroP) (H.get .here), rfl⟩, rfl, H.none (by repeat' first | exact kNil | apply kCons | apply kApp | assumption | exact OwnS.keys (by assumption))⟩
        · refine W_skip ?_
          refine W_seq ?_
          exact (by omega : False).elim

theorem handle_0 {p : Pi} {k : Nat} (h1 : 1 ≤ k) (h15 : k ≤ 15) (h9 : k ≠ 9) (h14 : k ≠ 14) (w : World) : Ret Tryd.prog 14 #[vP p, I k, I 0] w fun v w' => v = .tuple #[vP (handleN p k 0), I 0] ∧ Hp w [] w' := by
  refine Ret_of_WC (args := [_, _, _]) Tryd.func14 rfl Tryd.ntmps14 Tryd.results14 (by simp) ?_
  have H := Hp.refl w
  refine W_seq ?_
  refine W_region_l ?_
  (refine WL_effn rfl (E_boxP H rfl) ?_; clear H; intro c3 w3 hc3 H)
  (refine WL_effn rfl (E_allocP H) ?_; clear H; intro c6 w4 hc6 H)
  refine WL_stepM rfl (R_as) ?_
  refine WL_nil ?_
  refine W_seq ?_
  refine W_seq ?_
  refine W_region_l ?_
  refine WL_stepM rfl (R_mv) ?_
  (refine WL_call rfl (R_call rfl Tryd.call26 rfl) (is_ret _ _) ?_; rintro _ w11 ⟨rfl, H1⟩; rw [decide_eq_true (show 1 ≤ (k : Int) ∧ (k : Int) ≤ 15 by omega)]; replace H := H.seq0 H1; clear H1)
  refine WL_step rfl (R_not_t rfl) ?_
  refine WL_stepM rfl (R_mv) ?_
  refine WL_guard_t rfl rfl ?_
  refine WL_stepM rfl (R_mv) ?_
  refine WL_guard_t rfl rfl ?_
  refine WL_step rfl (R_conv_int (r := (k : Int)) Tryd.underlying3 Tryd.underlying31 rfl (w_u64 (by omega))) ?_
  refine WL_guard_t rfl rfl ?_
  refine WL_step rfl (R_shl (r := (bitN k).toInt) rfl rfl (by omega) (bit_shl h15)) ?_
  refine WL_guard_t rfl rfl ?_
  refine WL_step rfl (R_bits rfl rfl (by simp) (bv_and (bitN k) 16896#64)) ?_
  refine WL_guard_t rfl rfl ?_
  refine WL_step rfl (R_ne_f rfl rfl (Classical.not_not.1 (fun h => by have := (bit_hard h15).1 h; omega))) ?_
  refine WL_stepM rfl (R_pk_f rfl) ?_
  refine WL_stepM rfl (R_mv) ?_
  refine WL_guard_t rfl rfl ?_
  refine WL_stepM rfl (R_mv) ?_
  refine WL_guard_t rfl rfl ?_
  refine WL_step rfl (R_lt_f rfl rfl (by omega)) ?_
  refine WL_stepM rfl (R_pk_f rfl) ?_
  refine WL_stepM rfl (R_mv) ?_
  refine WL_guard_t rfl rfl ?_
  refine WL_stepM rfl (R_mv) ?_
  refine WL_guard_t rfl rfl ?_
  refine WL_step rfl (R_gt_f rfl rfl (by omega)) ?_
  refine WL_stepM rfl (R_pk_f rfl) ?_
  refine WL_nil ?_
  refine W_cond_f rfl ?_
  refine W_skip ?_
  refine W_seq ?_
  refine W_region_l ?_
  refine WL_stepM rfl (R_mv) ?_
  refine WL_step rfl (R_conv_int (r := (k : Int)) Tryd.underlying3 Tryd.underlying31 rfl (w_u64 (by omega))) ?_
  refine WL_step rfl (R_shl (r := (bitN k).toInt) rfl rfl (by omega) (bit_shl h15)) ?_
  refine WL_stepM rfl (R_as) ?_
  refine WL_nil ?_
  refine W_seq ?_
  ((have mk4 : True := trivial)) <;> refine W_region_l ?_
  refine WL_step rfl (R_fieldAddr (off' := 6) Tryd.underlying25 rfl Tryd.sizeOf3 (by decide) rfl rfl) ?_
  refine WL_step rfl (R_load (v := I p.c.toInt) Tryd.isAgg3 rfl (H.get (.there .here)) rfl) ?_
  refine WL_stepM rfl (R_mv) ?_
  refine WL_step rfl (R_bits rfl rfl (by simp) (bv_andNot p.c (bitN k))) ?_
  refine WL_step rfl (R_fieldAddr (off' := 6) Tryd.underlying25 rfl Tryd.sizeOf3 (by decide) rfl rfl) ?_
  (have _g := mk4; refine WL_effu rfl (E_store (v := I (p.c &&& ~~~ bitN k).toInt) H Tryd.sizeOf3 rfl rfl rfl (.there .here) (by rw [piC_len]; omega)) ?_; clear H; intro w54 H; rw [set_c] at H)
  refine WL_nil ?_
  refine W_seq ?_
  ((clear mk4; have mk5 : True := trivial)) <;> refine W_region_l ?_
  refine WL_step rfl (R_fieldAddr (off' := 7) Tryd.underlying25 rfl Tryd.sizeOf3 (by decide) rfl rfl) ?_
  refine WL_step rfl (R_load (v := I p.d.toInt) Tryd.isAgg3 rfl (H.get (.there .here)) rfl) ?_
  refine WL_stepM rfl (R_mv) ?_
  refine WL_step rfl (R_bits rfl rfl (by simp) (bv_andNot p.d (bitN k))) ?_
  refine WL_step rfl (R_fieldAddr (off' := 7) Tryd.underlying25 rfl Tryd.sizeOf3 (by decide) rfl rfl) ?_
  (have _g := mk5; refine WL_effu rfl (E_store (v := I (p.d &&& ~~~ bitN k).toInt) H Tryd.sizeOf3 rfl rfl rfl (.there .here) (by rw [piC_len]; omega)) ?_; clear H; intro w63 H; rw [set_d] at H)
  refine WL_nil ?_
  refine W_seq ?_
  refine W_seq ?_
  ((clear mk5)) <;> refine W_region_l ?_
  refine WL_stepM rfl (R_mv) ?_
  refine WL_nil ?_
  refine W_block ?_
  refine W_seq ?_
  refine W_region_l ?_
  refine WL_step rfl (R_eq_f rfl rfl (by omega)) ?_
  refine WL_stepM rfl (R_as) ?_
  refine WL_nil ?_
  refine W_cond_f rfl ?_
  refine W_seq ?_
  refine W_region_l ?_
  refine WL_step rfl (R_eq_f rfl rfl (by omega)) ?_
  refine WL_stepM rfl (R_as) ?_
  refine WL_nil ?_
  refine W_cond_f rfl ?_
  refine W_skip ?_
  refine W_seq ?_
  ((have mk12 : True := trivial)) <;> refine W_region_l ?_
  refine WL_step rfl (R_loadP (p := handleN p k 0) rfl (H.get (.there .here))) ?_
  (have _g := mk12; refine WL_effu rfl (E_storeP (q := handleN p k 0) H rfl rfl .here) ?_; clear H; intro w87 H)
  refine WL_stepM rfl (R_as) ?_
  refine WL_nil ?_
  refine W_ret ?_
  exact ⟨_, ⟨_, _, rfl, ldP (p := handleN p k 0) (H.get .here), rfl⟩, rfl, H.none (by repeat' first | exact kNil | apply kCons | apply kApp | assumption | exact OwnS.keys (by assumption))⟩

theorem refHandle_0 {p : Pi} {k : Nat} (h1 : 1 ≤ k) (h15 : k ≤ 15) (h9 : k ≠ 9) (h14 : k ≠ 14) (w : World) : Ret Tryd.prog 18 #[vP p, I k, I 0] w fun v w' => v = .tuple #[vP (handleN p k 0), I 0] ∧ Hp w [] w' := by
  refine Ret_of_WC (args := [_, _, _]) Tryd.func18 rfl Tryd.ntmps18 Tryd.results18 (by simp) ?_
  have H := Hp.refl w
  refine W_seq ?_
  refine W_region_l ?_
  (refine WL_effn rfl (E_boxP H rfl) ?_; clear H; intro c3 w3 hc3 H)
  (refine WL_effn rfl (E_allocP H) ?_; clear H; intro c6 w4 hc6 H)
  refine WL_stepM rfl (R_as) ?_
  refine WL_nil ?_
  refine W_seq ?_
  refine W_seq ?_
  refine W_region_l ?_
  refine WL_stepM rfl (R_mv) ?_
  (refine WL_call rfl (R_call rfl Tryd.call28 rfl) (in_ret _ _ _ _) ?_; rintro _ w11 ⟨rfl, H1⟩; rw [decide_eq_true (by omega)]; replace H := H.seq0 H1; clear H1)
  refine WL_step rfl (R_not_t rfl) ?_
  refine WL_stepM rfl (R_mv) ?_
  refine WL_guard_t rfl rfl ?_
  refine WL_stepM rfl (R_mv) ?_
  refine WL_guard_t rfl rfl ?_
  refine WL_step rfl (R_eq_f rfl rfl (by omega)) ?_
  refine WL_stepM rfl (R_pk_f rfl) ?_
  refine WL_stepM rfl (R_mv) ?_
  refine WL_guard_t rfl rfl ?_
  refine WL_stepM rfl (R_mv) ?_
  refine WL_guard_t rfl rfl ?_
  refine WL_step rfl (R_eq_f rfl rfl (by omega)) ?_
  refine WL_stepM rfl (R_pk_f rfl) ?_
  refine WL_stepM rfl (R_mv) ?_
  refine WL_guard_t rfl rfl ?_
  refine WL_stepM rfl (R_mv) ?_
  refine WL_guard_t rfl rfl ?_
  (refine WL_call rfl (R_call rfl Tryd.call28 rfl) (in_ret _ _ _ _) ?_; rintro _ w29 ⟨rfl, H1⟩; rw [decide_eq_true (by omega)]; replace H := H.seq0 H1; clear H1)
  refine WL_guard_t rfl rfl ?_
  refine WL_step rfl (R_not_t rfl) ?_
  refine WL_stepM rfl (R_pk_f rfl) ?_
  refine WL_nil ?_
  refine W_cond_f rfl ?_
  refine W_skip ?_
  refine W_seq ?_
  (refine W_draw (fun w2 => w2.cell? ⟨c3, 7, none⟩ = some (I p.d.toInt)) (fun i => Nat.beq i 13) (by kernel_rfl) H ?_; clear H; intro w37 H)
  refine WA_take 0 rfl rfl rfl (by kernel_rfl) (by kernel_rfl) ((cell_blk (H.get (.there .here)) 7).trans rfl) (fun _ hC => R_fieldAddr (off' := 6) Tryd.underlying25 rfl Tryd.sizeOf3 (by decide) rfl rfl) ?_
  refine WA_takeM 2 rfl rfl rfl (by kernel_rfl) (by kernel_rfl) ((cell_blk (H.get (.there .here)) 7).trans rfl) (fun _ hC => R_mv) ?_
  refine WA_take 3 rfl rfl rfl (by kernel_rfl) (by kernel_rfl) ((cell_blk (H.get (.there .here)) 7).trans rfl) (fun _ hC => R_shl (r := (bitN k).toInt) rfl rfl (by omega) (bit_shl h15)) ?_
  refine WA_take 5 rfl rfl rfl (by kernel_rfl) (by kernel_rfl) ((cell_blk (H.get (.there .here)) 7).trans rfl) (fun _ hC => R_fieldAddr (off' := 7) Tryd.underlying25 rfl Tryd.sizeOf3 (by decide) rfl rfl) ?_
  refine WA_take 6 rfl rfl rfl (by kernel_rfl) (by kernel_rfl) ((cell_blk (H.get (.there .here)) 7).trans rfl) (fun _ hC => R_load_cell (v := I p.d.toInt) Tryd.isAgg3 rfl hC) ?_
  refine WA_takeM 7 rfl rfl rfl (by kernel_rfl) (by kernel_rfl) ((cell_blk (H.get (.there .here)) 7).trans rfl) (fun _ hC => R_mv) ?_
  refine WA_take 8 rfl rfl rfl (by kernel_rfl) (by kernel_rfl) ((cell_blk (H.get (.there .here)) 7).trans rfl) (fun _ hC => R_shl (r := (bitN k).toInt) rfl rfl (by omega) (bit_shl h15)) ?_
  refine WA_take 9 rfl rfl rfl (by kernel_rfl) (by kernel_rfl) ((cell_blk (H.get (.there .here)) 7).trans rfl) (fun _ hC => R_bits rfl rfl (by simp) (bv_andNot p.d (bitN k))) ?_
  refine WA_one (i := 1) (by kernel_rfl) ?_
  refine WI_value rfl (.inl rfl) (R_load (v := I p.c.toInt) Tryd.isAgg3 rfl (H.get (.there .here)) rfl) (fun _ => (cell_blk (H.get (.there .here)) 7).trans rfl) ?_
  refine WA_take 4 rfl rfl rfl (by kernel_rfl) (by kernel_rfl) ((cell_blk (H.get (.there .here)) 7).trans rfl) (fun _ hC => R_bits rfl rfl (by simp) (bv_andNot p.c (bitN k))) ?_
  refine WA_take 10 rfl rfl rfl (by kernel_rfl) (by kernel_rfl) ((cell_blk (H.get (.there .here)) 7).trans rfl) (fun _ hC => R_fieldAddr (off' := 6) Tryd.underlying25 rfl Tryd.sizeOf3 (by decide) rfl rfl) ?_
  refine WA_one (i := 11) (by kernel_rfl) ?_
  (refine WI_effu rfl (.inl rfl) (E_store (v := I (p.c &&& ~~~ bitN k).toInt) H Tryd.sizeOf3 rfl rfl rfl (.there .here) (by rw [piC_len]; omega)) (fun _ H _ => (cell_blk (H.get (.there .here)) 7).trans rfl) ?_; clear H; intro w51 H; rw [set_c] at H)
  refine WA_take 12 rfl rfl rfl (by kernel_rfl) (by kernel_rfl) ((cell_blk (H.get (.there .here)) 7).trans rfl) (fun _ hC => R_fieldAddr (off' := 7) Tryd.underlying25 rfl Tryd.sizeOf3 (by decide) rfl rfl) ?_
  refine WA_one (i := 13) (by kernel_rfl) ?_
  (refine WI_effu rfl (.inl rfl) (E_store (v := I (p.d &&& ~~~ bitN k).toInt) H Tryd.sizeOf3 rfl rfl rfl (.there .here) (by rw [piC_len]; omega)) (fun _ H h => absurd h (by decide)) ?_; clear H; intro w54 H; rw [set_d] at H)
  refine WA_done (by kernel_rfl) ?_
  refine W_seq ?_
  refine W_seq ?_
  refine W_region_l ?_
  refine WL_stepM rfl (R_mv) ?_
  refine WL_nil ?_
  refine W_block ?_
  refine W_seq ?_
  refine W_region_l ?_
  refine WL_step rfl (R_eq_f rfl rfl (by omega)) ?_
  refine WL_stepM rfl (R_as) ?_
  refine WL_nil ?_
  refine W_cond_f rfl ?_
  refine W_seq ?_
  refine W_region_l ?_
  refine WL_step rfl (R_eq_f rfl rfl (by omega)) ?_
  refine WL_stepM rfl (R_as) ?_
  refine WL_nil ?_
  refine W_cond_f rfl ?_
  refine W_skip ?_
  refine W_seq ?_
  refine W_region_l ?_
  refine WL_step rfl (R_loadP (p := handleN p k 0) rfl (H.get (.there .here))) ?_
  (refine WL_effu rfl (E_storeP (q := handleN p k 0) H rfl rfl .here) ?_; clear H; intro w78 H)
  refine WL_stepM rfl (R_as) ?_
  refine WL_nil ?_
  refine W_ret ?_
  exact ⟨_, ⟨_, _, rfl, ldP (p := handleN p k 0) (H.get .here), rfl⟩, rfl, H.none (by repeat' first | exact kNil | apply kCons | apply kApp | assumption | exact OwnS.keys (by assumption))⟩

theorem handle_1 {p : Pi} {k : Nat} (h1 : 1 ≤ k) (h15 : k ≤ 15) (h9 : k ≠ 9) (h14 : k ≠ 14) (w : World) : Ret Tryd.prog 14 #[vP p, I k, I 1] w fun v w' => v = .tuple #[vP (handleN p k 1), I 0] ∧ Hp w [] w' := by
  refine Ret_of_WC (args := [_, _, _]) Tryd.func14 rfl Tryd.ntmps14 Tryd.results14 (by simp) ?_
  have H := Hp.refl w
  refine W_seq ?_
  refine W_region_l ?_
  (refine WL_effn rfl (E_boxP H rfl) ?_; clear H; intro c3 w3 hc3 H)
  (refine WL_effn rfl (E_allocP H) ?_; clear H; intro c6 w4 hc6 H)
  refine WL_stepM rfl (R_as) ?_
  refine WL_nil ?_
  refine W_seq ?_
  refine W_seq ?_
  refine W_region_l ?_
  refine WL_stepM rfl (R_mv) ?_
  (refine WL_call rfl (R_call rfl Tryd.call26 rfl) (is_ret _ _) ?_; rintro _ w11 ⟨rfl, H1⟩; rw [decide_eq_true (show 1 ≤ (k : Int) ∧ (k : Int) ≤ 15 by omega)]; replace H := H.seq0 H1; clear H1)
  refine WL_step rfl (R_not_t rfl) ?_
  refine WL_stepM rfl (R_mv) ?_
  refine WL_guard_t rfl rfl ?_
  refine WL_stepM rfl (R_mv) ?_
  refine WL_guard_t rfl rfl ?_
  refine WL_step rfl (R_conv_int (r := (k : Int)) Tryd.underlying3 Tryd.underlying31 rfl (w_u64 (by omega))) ?_
  refine WL_guard_t rfl rfl ?_
  refine WL_step rfl (R_shl (r := (bitN k).toInt) rfl rfl (by omega) (bit_shl h15)) ?_
  refine WL_guard_t rfl rfl ?_
  refine WL_step rfl (R_bits rfl rfl (by simp) (bv_and (bitN k) 16896#64)) ?_
  refine WL_guard_t rfl rfl ?_
  refine WL_step rfl (R_ne_f rfl rfl (Classical.not_not.1 (fun h => by have := (bit_hard h15).1 h; omega))) ?_
  refine WL_stepM rfl (R_pk_f rfl) ?_
  refine WL_stepM rfl (R_mv) ?_
  refine WL_guard_t rfl rfl ?_
  refine WL_stepM rfl (R_mv) ?_
  refine WL_guard_t rfl rfl ?_
  refine WL_step rfl (R_lt_f rfl rfl (by omega)) ?_
  refine WL_stepM rfl (R_pk_f rfl) ?_
  refine WL_stepM rfl (R_mv) ?_
  refine WL_guard_t rfl rfl ?_
  refine WL_stepM rfl (R_mv) ?_
  refine WL_guard_t rfl rfl ?_
  refine WL_step rfl (R_gt_f rfl rfl (by omega)) ?_
  refine WL_stepM rfl (R_pk_f rfl) ?_
  refine WL_nil ?_
  refine W_cond_f rfl ?_
  refine W_skip ?_
  refine W_seq ?_
  refine W_region_l ?_
  refine WL_stepM rfl (R_mv) ?_
  refine WL_step rfl (R_conv_int (r := (k : Int)) Tryd.underlying3 Tryd.underlying31 rfl (w_u64 (by omega))) ?_
  refine WL_step rfl (R_shl (r := (bitN k).toInt) rfl rfl (by omega) (bit_shl h15)) ?_
  refine WL_stepM rfl (R_as) ?_
  refine WL_nil ?_
  refine W_seq ?_
  ((have mk4 : True := trivial)) <;> refine W_region_l ?_
  refine WL_step rfl (R_fieldAddr (off' := 6) Tryd.underlying25 rfl Tryd.sizeOf3 (by decide) rfl rfl) ?_
  refine WL_step rfl (R_load (v := I p.c.toInt) Tryd.isAgg3 rfl (H.get (.there .here)) rfl) ?_
  refine WL_stepM rfl (R_mv) ?_
  refine WL_step rfl (R_bits rfl rfl (by simp) (bv_andNot p.c (bitN k))) ?_
  refine WL_step rfl (R_fieldAddr (off' := 6) Tryd.underlying25 rfl Tryd.sizeOf3 (by decide) rfl rfl) ?_
  (have _g := mk4; refine WL_effu rfl (E_store (v := I (p.c &&& ~~~ bitN k).toInt) H Tryd.sizeOf3 rfl rfl rfl (.there .here) (by rw [piC_len]; omega)) ?_; clear H; intro w54 H; rw [set_c] at H)
  refine WL_nil ?_
  refine W_seq ?_
  ((clear mk4; have mk5 : True := trivial)) <;> refine W_region_l ?_
  refine WL_step rfl (R_fieldAddr (off' := 7) Tryd.underlying25 rfl Tryd.sizeOf3 (by decide) rfl rfl) ?_
  refine WL_step rfl (R_load (v := I p.d.toInt) Tryd.isAgg3 rfl (H.get (.there .here)) rfl) ?_
  refine WL_stepM rfl (R_mv) ?_
  refine WL_step rfl (R_bits rfl rfl (by simp) (bv_andNot p.d (bitN k))) ?_
  refine WL_step rfl (R_fieldAddr (off' := 7) Tryd.underlying25 rfl Tryd.sizeOf3 (by decide) rfl rfl) ?_
  (have _g := mk5; refine WL_effu rfl (E_store (v := I (p.d &&& ~~~ bitN k).toInt) H Tryd.sizeOf3 rfl rfl rfl (.there .here) (by rw [piC_len]; omega)) ?_; clear H; intro w63 H; rw [set_d] at H)
  refine WL_nil ?_
  refine W_seq ?_
  refine W_seq ?_
  ((clear mk5)) <;> refine W_region_l ?_
  refine WL_stepM rfl (R_mv) ?_
  refine WL_nil ?_
  refine W_block ?_
  refine W_seq ?_
  refine W_region_l ?_
  refine WL_step rfl (R_eq_t rfl rfl (by omega)) ?_
  refine WL_stepM rfl (R_as) ?_
  refine WL_nil ?_
  refine W_cond_t rfl ?_
  refine W_seq ?_
  ((have mk8 : True := trivial)) <;> refine W_region_l ?_
  refine WL_step rfl (R_fieldAddr (off' := 6) Tryd.underlying25 rfl Tryd.sizeOf3 (by decide) rfl rfl) ?_
  refine WL_step rfl (R_load (v := I (p.c &&& ~~~ bitN k).toInt) Tryd.isAgg3 rfl (H.get (.there .here)) rfl) ?_
  refine WL_stepM rfl (R_mv) ?_
  refine WL_step rfl (R_bits rfl rfl (by simp) (bv_or (p.c &&& ~~~ bitN k) (bitN k))) ?_
  refine WL_step rfl (R_fieldAddr (off' := 6) Tryd.underlying25 rfl Tryd.sizeOf3 (by decide) rfl rfl) ?_
  (have _g := mk8; refine WL_effu rfl (E_store (v := I ((p.c &&& ~~~ bitN k) ||| bitN k).toInt) H Tryd.sizeOf3 rfl rfl rfl (.there .here) (by rw [piC_len]; omega)) ?_; clear H; intro w84 H; rw [set_c] at H)
  refine WL_nil ?_
  ((clear mk8; have mk9 : True := trivial)) <;> refine W_region_l ?_
  refine WL_step rfl (R_fieldAddr (off' := 4) Tryd.underlying25 rfl Tryd.sizeOf3 (by decide) rfl rfl) ?_
  refine WL_step rfl (R_load (v := I p.a.toInt) Tryd.isAgg3 rfl (H.get (.there .here)) rfl) ?_
  refine WL_stepM rfl (R_mv) ?_
  refine WL_step rfl (R_bits rfl rfl (by simp) (bv_andNot p.a (bitN k))) ?_
  refine WL_step rfl (R_fieldAddr (off' := 4) Tryd.underlying25 rfl Tryd.sizeOf3 (by decide) rfl rfl) ?_
  (have _g := mk9; refine WL_effu rfl (E_store (v := I (p.a &&& ~~~ bitN k).toInt) H Tryd.sizeOf3 rfl rfl rfl (.there .here) (by rw [piC_len]; omega)) ?_; clear H; intro w92 H; rw [set_a] at H; clear mk9)
  refine WL_nil ?_
  refine W_seq ?_
  ((have mk12 : True := trivial)) <;> refine W_region_l ?_
  refine WL_step rfl (R_loadP (p := handleN p k 1) rfl (H.get (.there .here))) ?_
  (have _g := mk12; refine WL_effu rfl (E_storeP (q := handleN p k 1) H rfl rfl .here) ?_; clear H; intro w97 H)
  refine WL_stepM rfl (R_as) ?_
  refine WL_nil ?_
  refine W_ret ?_
  exact ⟨_, ⟨_, _, rfl, ldP (p := handleN p k 1) (H.get .here), rfl⟩, rfl, H.none (by repeat' first | exact kNil | apply kCons | apply kApp | assumption | exact OwnS.keys (by assumption))⟩

theorem refHandle_1 {p : Pi} {k : Nat} (h1 : 1 ≤ k) (h15 : k ≤ 15) (h9 : k ≠ 9) (h14 : k ≠ 14) (w : World) : Ret Tryd.prog 18 #[vP p, I k, I 1] w fun v w' => v = .tuple #[vP (handleN p k 1), I 0] ∧ Hp w [] w' := by
  refine Ret_of_WC (args := [_, _, _]) Tryd.func18 rfl Tryd.ntmps18 Tryd.results18 (by simp) ?_
  have H := Hp.refl w
  refine W_seq ?_
  refine W_region_l ?_
  (refine WL_effn rfl (E_boxP H rfl) ?_; clear H; intro c3 w3 hc3 H)
  (refine WL_effn rfl (E_allocP H) ?_; clear H; intro c6 w4 hc6 H)
  refine WL_stepM rfl (R_as) ?_
  refine WL_nil ?_
  refine W_seq ?_
  refine W_seq ?_
  refine W_region_l ?_
  refine WL_stepM rfl (R_mv) ?_
  (refine WL_call rfl (R_call rfl Tryd.call28 rfl) (in_ret _ _ _ _) ?_; rintro _ w11 ⟨rfl, H1⟩; rw [decide_eq_true (by omega)]; replace H := H.seq0 H1; clear H1)
  refine WL_step rfl (R_not_t rfl) ?_
  refine WL_stepM rfl (R_mv) ?_
  refine WL_guard_t rfl rfl ?_
  refine WL_stepM rfl (R_mv) ?_
  refine WL_guard_t rfl rfl ?_
  refine WL_step rfl (R_eq_f rfl rfl (by omega)) ?_
  refine WL_stepM rfl (R_pk_f rfl) ?_
  refine WL_stepM rfl (R_mv) ?_
  refine WL_guard_t rfl rfl ?_
  refine WL_stepM rfl (R_mv) ?_
  refine WL_guard_t rfl rfl ?_
  refine WL_step rfl (R_eq_f rfl rfl (by omega)) ?_
  refine WL_stepM rfl (R_pk_f rfl) ?_
  refine WL_stepM rfl (R_mv) ?_
  refine WL_guard_t rfl rfl ?_
  refine WL_stepM rfl (R_mv) ?_
  refine WL_guard_t rfl rfl ?_
  (refine WL_call rfl (R_call rfl Tryd.call28 rfl) (in_ret _ _ _ _) ?_; rintro _ w29 ⟨rfl, H1⟩; rw [decide_eq_true (by omega)]; replace H := H.seq0 H1; clear H1)
  refine WL_guard_t rfl rfl ?_
  refine WL_step rfl (R_not_t rfl) ?_
  refine WL_stepM rfl (R_pk_f rfl) ?_
  refine WL_nil ?_
  refine W_cond_f rfl ?_
  refine W_skip ?_
  refine W_seq ?_
  (refine W_draw (fun w2 => w2.cell? ⟨c3, 7, none⟩ = some (I p.d.toInt)) (fun i => Nat.beq i 13) (by kernel_rfl) H ?_; clear H; intro w37 H)
  refine WA_take 0 rfl rfl rfl (by kernel_rfl) (by kernel_rfl) ((cell_blk (H.get (.there .here)) 7).trans rfl) (fun _ hC => R_fieldAddr (off' := 6) Tryd.underlying25 rfl Tryd.sizeOf3 (by decide) rfl rfl) ?_
  refine WA_takeM 2 rfl rfl rfl (by kernel_rfl) (by kernel_rfl) ((cell_blk (H.get (.there .here)) 7).trans rfl) (fun _ hC => R_mv) ?_
  refine WA_take 3 rfl rfl rfl (by kernel_rfl) (by kernel_rfl) ((cell_blk (H.get (.there .here)) 7).trans rfl) (fun _ hC => R_shl (r := (bitN k).toInt) rfl rfl (by omega) (bit_shl h15)) ?_
  refine WA_take 5 rfl rfl rfl (by kernel_rfl) (by kernel_rfl) ((cell_blk (H.get (.there .here)) 7).trans rfl) (fun _ hC => R_fieldAddr (off' := 7) Tryd.underlying25 rfl Tryd.sizeOf3 (by decide) rfl rfl) ?_
  refine WA_take 6 rfl rfl rfl (by kernel_rfl) (by kernel_rfl) ((cell_blk (H.get (.there .here)) 7).trans rfl) (fun _ hC => R_load_cell (v := I p.d.toInt) Tryd.isAgg3 rfl hC) ?_
  refine WA_takeM 7 rfl rfl rfl (by kernel_rfl) (by kernel_rfl) ((cell_blk (H.get (.there .here)) 7).trans rfl) (fun _ hC => R_mv) ?_
  refine WA_take 8 rfl rfl rfl (by kernel_rfl) (by kernel_rfl) ((cell_blk (H.get (.there .here)) 7).trans rfl) (fun _ hC => R_shl (r := (bitN k).toInt) rfl rfl (by omega) (bit_shl h15)) ?_
  refine WA_take 9 rfl rfl rfl (by kernel_rfl) (by kernel_rfl) ((cell_blk (H.get (.there .here)) 7).trans rfl) (fun _ hC => R_bits rfl rfl (by simp) (bv_andNot p.d (bitN k))) ?_
  refine WA_one (i := 1) (by kernel_rfl) ?_
  refine WI_value rfl (.inl rfl) (R_load (v := I p.c.toInt) Tryd.isAgg3 rfl (H.get (.there .here)) rfl) (fun _ => (cell_blk (H.get (.there .here)) 7).trans rfl) ?_
  refine WA_take 4 rfl rfl rfl (by kernel_rfl) (by kernel_rfl) ((cell_blk (H.get (.there .here)) 7).trans rfl) (fun _ hC => R_bits rfl rfl (by simp) (bv_andNot p.c (bitN k))) ?_
  refine WA_take 10 rfl rfl rfl (by kernel_rfl) (by kernel_rfl) ((cell_blk (H.get (.there .here)) 7).trans rfl) (fun _ hC => R_fieldAddr (off' := 6) Tryd.underlying25 rfl Tryd.sizeOf3 (by decide) rfl rfl) ?_
  refine WA_one (i := 11) (by kernel_rfl) ?_
  (refine WI_effu rfl (.inl rfl) (E_store (v := I (p.c &&& ~~~ bitN k).toInt) H Tryd.sizeOf3 rfl rfl rfl (.there .here) (by rw [piC_len]; omega)) (fun _ H _ => (cell_blk (H.get (.there .here)) 7).trans rfl) ?_; clear H; intro w51 H; rw [set_c] at H)
  refine WA_take 12 rfl rfl rfl (by kernel_rfl) (by kernel_rfl) ((cell_blk (H.get (.there .here)) 7).trans rfl) (fun _ hC => R_fieldAddr (off' := 7) Tryd.underlying25 rfl Tryd.sizeOf3 (by decide) rfl rfl) ?_
  refine WA_one (i := 13) (by kernel_rfl) ?_
  (refine WI_effu rfl (.inl rfl) (E_store (v := I (p.d &&& ~~~ bitN k).toInt) H Tryd.sizeOf3 rfl rfl rfl (.there .here) (by rw [piC_len]; omega)) (fun _ H h => absurd h (by decide)) ?_; clear H; intro w54 H; rw [set_d] at H)
  refine WA_done (by kernel_rfl) ?_
  refine W_seq ?_
  refine W_seq ?_
  refine W_region_l ?_
  refine WL_stepM rfl (R_mv) ?_
  refine WL_nil ?_
  refine W_block ?_
  refine W_seq ?_
  refine W_region_l ?_
  refine WL_step rfl (R_eq_t rfl rfl (by omega)) ?_
  refine WL_stepM rfl (R_as) ?_
  refine WL_nil ?_
  refine W_cond_t rfl ?_
  refine W_seq ?_
  (have mk6 : True := trivial; refine W_draw (KH w [(c3, blk (piC { { p with c := p.c &&& ~~~ bitN k } with d := p.d &&& ~~~ bitN k }) 25)]) (fun i => Nat.ble 6 i) (by kernel_rfl) H ?_; clear H; intro w69 H)
  refine WA_take 0 rfl rfl rfl (by kernel_rfl) (by kernel_rfl) (H.kh (by simp) (by repeat' first | exact kNil | apply kCons | apply kApp | assumption | exact OwnS.keys (by assumption))) (fun _ hC => R_fieldAddr (off' := 6) Tryd.underlying25 rfl Tryd.sizeOf3 (by decide) rfl rfl) ?_
  refine WA_take 1 rfl rfl rfl (by kernel_rfl) (by kernel_rfl) (H.kh (by simp) (by repeat' first | exact kNil | apply kCons | apply kApp | assumption | exact OwnS.keys (by assumption))) (fun _ hC => R_load (v := I (p.c &&& ~~~ bitN k).toInt) Tryd.isAgg3 rfl (hC.get .here) rfl) ?_
  refine WA_takeM 2 rfl rfl rfl (by kernel_rfl) (by kernel_rfl) (H.kh (by simp) (by repeat' first | exact kNil | apply kCons | apply kApp | assumption | exact OwnS.keys (by assumption))) (fun _ hC => R_mv) ?_
  refine WA_take 3 rfl rfl rfl (by kernel_rfl) (by kernel_rfl) (H.kh (by simp) (by repeat' first | exact kNil | apply kCons | apply kApp | assumption | exact OwnS.keys (by assumption))) (fun _ hC => R_shl (r := (bitN k).toInt) rfl rfl (by omega) (bit_shl h15)) ?_
  refine WA_take 4 rfl rfl rfl (by kernel_rfl) (by kernel_rfl) (H.kh (by simp) (by repeat' first | exact kNil | apply kCons | apply kApp | assumption | exact OwnS.keys (by assumption))) (fun _ hC => R_bits rfl rfl (by simp) (bv_or (p.c &&& ~~~ bitN k) (bitN k))) ?_
  refine WA_take 5 rfl rfl rfl (by kernel_rfl) (by kernel_rfl) (H.kh (by simp) (by repeat' first | exact kNil | apply kCons | apply kApp | assumption | exact OwnS.keys (by assumption))) (fun _ hC => R_fieldAddr (off' := 6) Tryd.underlying25 rfl Tryd.sizeOf3 (by decide) rfl rfl) ?_
  refine WA_one (i := 6) (by kernel_rfl) ?_
  (have _g := mk6; refine WI_effu rfl (.inl rfl) (E_store (v := I ((p.c &&& ~~~ bitN k) ||| bitN k).toInt) H Tryd.sizeOf3 rfl rfl rfl (.there .here) (by rw [piC_len]; omega)) (fun _ H => (by first | exact fun h => absurd h (by decide) | exact fun _ => H | exact fun _ => H.none (by repeat' first | exact kNil | apply kCons | apply kApp | assumption | exact OwnS.keys (by assumption)) | exact fun _ => H.dropN (by repeat' first | exact kNil | apply kCons | apply kApp | assumption | exact OwnS.keys (by assumption)) | exact fun _ => H.pop (by assumption) | exact fun _ => (H.pop (by assumption)).pop (by assumption) | exact fun _ => H.kp | exact fun _ => H.kp.tail | exact fun _ => H.kp.tail.tail | exact fun _ => H.kp.tail.tail.tail | exact fun _ => H.kp.sub (by simp) | exact fun _ => Kp.nil | exact fun _ => H.kh (by simp) (by repeat' first | exact kNil | apply kCons | apply kApp | assumption | exact OwnS.keys (by assumption)))) ?_; clear H; intro w77 H; rw [set_c] at H)
  refine WA_done (by kernel_rfl) ?_
  (clear mk6; have mk7 : True := trivial; refine W_draw (KH w [(c3, blk (piC { { p with c := (p.c &&& ~~~ bitN k) ||| bitN k } with d := p.d &&& ~~~ bitN k }) 25)]) (fun i => Nat.ble 6 i) (by kernel_rfl) H ?_; clear H; intro w79 H)
  refine WA_take 0 rfl rfl rfl (by kernel_rfl) (by kernel_rfl) (H.kh (by simp) (by repeat' first | exact kNil | apply kCons | apply kApp | assumption | exact OwnS.keys (by assumption))) (fun _ hC => R_fieldAddr (off' := 4) Tryd.underlying25 rfl Tryd.sizeOf3 (by decide) rfl rfl) ?_
  refine WA_take 1 rfl rfl rfl (by kernel_rfl) (by kernel_rfl) (H.kh (by simp) (by repeat' first | exact kNil | apply kCons | apply kApp | assumption | exact OwnS.keys (by assumption))) (fun _ hC => R_load (v := I p.a.toInt) Tryd.isAgg3 rfl (hC.get .here) rfl) ?_
  refine WA_takeM 2 rfl rfl rfl (by kernel_rfl) (by kernel_rfl) (H.kh (by simp) (by repeat' first | exact kNil | apply kCons | apply kApp | assumption | exact OwnS.keys (by assumption))) (fun _ hC => R_mv) ?_
  refine WA_take 3 rfl rfl rfl (by kernel_rfl) (by kernel_rfl) (H.kh (by simp) (by repeat' first | exact kNil | apply kCons | apply kApp | assumption | exact OwnS.keys (by assumption))) (fun _ hC => R_shl (r := (bitN k).toInt) rfl rfl (by omega) (bit_shl h15)) ?_
  refine WA_take 4 rfl rfl rfl (by kernel_rfl) (by kernel_rfl) (H.kh (by simp) (by repeat' first | exact kNil | apply kCons | apply kApp | assumption | exact OwnS.keys (by assumption))) (fun _ hC => R_bits rfl rfl (by simp) (bv_andNot p.a (bitN k))) ?_
  refine WA_take 5 rfl rfl rfl (by kernel_rfl) (by kernel_rfl) (H.kh (by simp) (by repeat' first | exact kNil | apply kCons | apply kApp | assumption | exact OwnS.keys (by assumption))) (fun _ hC => R_fieldAddr (off' := 4) Tryd.underlying25 rfl Tryd.sizeOf3 (by decide) rfl rfl) ?_
  refine WA_one (i := 6) (by kernel_rfl) ?_
  (have _g := mk7; refine WI_effu rfl (.inl rfl) (E_store (v := I (p.a &&& ~~~ bitN k).toInt) H Tryd.sizeOf3 rfl rfl rfl (.there .here) (by rw [piC_len]; omega)) (fun _ H => (by first | exact fun h => absurd h (by decide) | exact fun _ => H | exact fun _ => H.none (by repeat' first | exact kNil | apply kCons | apply kApp | assumption | exact OwnS.keys (by assumption)) | exact fun _ => H.dropN (by repeat' first | exact kNil | apply kCons | apply kApp | assumption | exact OwnS.keys (by assumption)) | exact fun _ => H.pop (by assumption) | exact fun _ => (H.pop (by assumption)).pop (by assumption) | exact fun _ => H.kp | exact fun _ => H.kp.tail | exact fun _ => H.kp.tail.tail | exact fun _ => H.kp.tail.tail.tail | exact fun _ => H.kp.sub (by simp) | exact fun _ => Kp.nil | exact fun _ => H.kh (by simp) (by repeat' first | exact kNil | apply kCons | apply kApp | assumption | exact OwnS.keys (by assumption)))) ?_; clear H; intro w87 H; rw [set_a] at H)
  refine WA_done (by kernel_rfl) ?_
  refine W_seq ?_
  refine W_region_l ?_
  refine WL_step rfl (R_loadP (p := handleN p k 1) rfl (H.get (.there .here))) ?_
  (refine WL_effu rfl (E_storeP (q := handleN p k 1) H rfl rfl .here) ?_; clear H; intro w92 H)
  refine WL_stepM rfl (R_as) ?_
  refine WL_nil ?_
  refine W_ret ?_
  exact ⟨_, ⟨_, _, rfl, ldP (p := handleN p k 1) (H.get .here), rfl⟩, rfl, H.none (by repeat' first | exact kNil | apply kCons | apply kApp | assumption | exact OwnS.keys (by assumption))⟩

theorem handle_2 {p : Pi} {k : Nat} (h1 : 1 ≤ k) (h15 : k ≤ 15) (h9 : k ≠ 9) (h14 : k ≠ 14) (w : World) : Ret Tryd.prog 14 #[vP p, I k, I 2] w fun v w' => v = .tuple #[vP (handleN p k 2), I 0] ∧ Hp w [] w' := by
  refine Ret_of_WC (args := [_, _, _]) Tryd.func14 rfl Tryd.ntmps14 Tryd.results14 (by simp) ?_
  have H := Hp.refl w
  refine W_seq ?_
  refine W_region_l ?_
  (refine WL_effn rfl (E_boxP H rfl) ?_; clear H; intro c3 w3 hc3 H)
  (refine WL_effn rfl (E_allocP H) ?_; clear H; intro c6 w4 hc6 H)
  refine WL_stepM rfl (R_as) ?_
  refine WL_nil ?_
  refine W_seq ?_
  refine W_seq ?_
  refine W_region_l ?_
  refine WL_stepM rfl (R_mv) ?_
  (refine WL_call rfl (R_call rfl Tryd.call26 rfl) (is_ret _ _) ?_; rintro _ w11 ⟨rfl, H1⟩; rw [decide_eq_true (show 1 ≤ (k : Int) ∧ (k : Int) ≤ 15 by omega)]; replace H := H.seq0 H1; clear H1)
  refine WL_step rfl (R_not_t rfl) ?_
  refine WL_stepM rfl (R_mv) ?_
  refine WL_guard_t rfl rfl ?_
  refine WL_stepM rfl (R_mv) ?_
  refine WL_guard_t rfl rfl ?_
  refine WL_step rfl (R_conv_int (r := (k : Int)) Tryd.underlying3 Tryd.underlying31 rfl (w_u64 (by omega))) ?_
  refine WL_guard_t rfl rfl ?_
  refine WL_step rfl (R_shl (r := (bitN k).toInt) rfl rfl (by omega) (bit_shl h15)) ?_
  refine WL_guard_t rfl rfl ?_
  refine WL_step rfl (R_bits rfl rfl (by simp) (bv_and (bitN k) 16896#64)) ?_
  refine WL_guard_t rfl rfl ?_
  refine WL_step rfl (R_ne_f rfl rfl (Classical.not_not.1 (fun h => by have := (bit_hard h15).1 h; omega))) ?_
  refine WL_stepM rfl (R_pk_f rfl) ?_
  refine WL_stepM rfl (R_mv) ?_
  refine WL_guard_t rfl rfl ?_
  refine WL_stepM rfl (R_mv) ?_
  refine WL_guard_t rfl rfl ?_
  refine WL_step rfl (R_lt_f rfl rfl (by omega)) ?_
  refine WL_stepM rfl (R_pk_f rfl) ?_
  refine WL_stepM rfl (R_mv) ?_
  refine WL_guard_t rfl rfl ?_
  refine WL_stepM rfl (R_mv) ?_
  refine WL_guard_t rfl rfl ?_
  refine WL_step rfl (R_gt_f rfl rfl (by omega)) ?_
  refine WL_stepM rfl (R_pk_f rfl) ?_
  refine WL_nil ?_
  refine W_cond_f rfl ?_
  refine W_skip ?_
  refine W_seq ?_
  refine W_region_l ?_
  refine WL_stepM rfl (R_mv) ?_
  refine WL_step rfl (R_conv_int (r := (k : Int)) Tryd.underlying3 Tryd.underlying31 rfl (w_u64 (by omega))) ?_
  refine WL_step rfl (R_shl (r := (bitN k).toInt) rfl rfl (by omega) (bit_shl h15)) ?_
  refine WL_stepM rfl (R_as) ?_
  refine WL_nil ?_
  refine W_seq ?_
  ((have mk4 : True := trivial)) <;> refine W_region_l ?_
  refine WL_step rfl (R_fieldAddr (off' := 6) Tryd.underlying25 rfl Tryd.sizeOf3 (by decide) rfl rfl) ?_
  refine WL_step rfl (R_load (v := I p.c.toInt) Tryd.isAgg3 rfl (H.get (.there .here)) rfl) ?_
  refine WL_stepM rfl (R_mv) ?_
  refine WL_step rfl (R_bits rfl rfl (by simp) (bv_andNot p.c (bitN k))) ?_
  refine WL_step rfl (R_fieldAddr (off' := 6) Tryd.underlying25 rfl Tryd.sizeOf3 (by decide) rfl rfl) ?_
  (have _g := mk4; refine WL_effu rfl (E_store (v := I (p.c &&& ~~~ bitN k).toInt) H Tryd.sizeOf3 rfl rfl rfl (.there .here) (by rw [piC_len]; omega)) ?_; clear H; intro w54 H; rw [set_c] at H)
  refine WL_nil ?_
  refine W_seq ?_
  ((clear mk4; have mk5 : True := trivial)) <;> refine W_region_l ?_
  refine WL_step rfl (R_fieldAddr (off' := 7) Tryd.underlying25 rfl Tryd.sizeOf3 (by decide) rfl rfl) ?_
  refine WL_step rfl (R_load (v := I p.d.toInt) Tryd.isAgg3 rfl (H.get (.there .here)) rfl) ?_
  refine WL_stepM rfl (R_mv) ?_
  refine WL_step rfl (R_bits rfl rfl (by simp) (bv_andNot p.d (bitN k))) ?_
  refine WL_step rfl (R_fieldAddr (off' := 7) Tryd.underlying25 rfl Tryd.sizeOf3 (by decide) rfl rfl) ?_
  (have _g := mk5; refine WL_effu rfl (E_store (v := I (p.d &&& ~~~ bitN k).toInt) H Tryd.sizeOf3 rfl rfl rfl (.there .here) (by rw [piC_len]; omega)) ?_; clear H; intro w63 H; rw [set_d] at H)
  refine WL_nil ?_
  refine W_seq ?_
  refine W_seq ?_
  ((clear mk5)) <;> refine W_region_l ?_
  refine WL_stepM rfl (R_mv) ?_
  refine WL_nil ?_
  refine W_block ?_
  refine W_seq ?_
  refine W_region_l ?_
  refine WL_step rfl (R_eq_f rfl rfl (by omega)) ?_
  refine WL_stepM rfl (R_as) ?_
  refine WL_nil ?_
  refine W_cond_f rfl ?_
  refine W_seq ?_
  refine W_region_l ?_
  refine WL_step rfl (R_eq_t rfl rfl (by omega)) ?_
  refine WL_stepM rfl (R_as) ?_
  refine WL_nil ?_
  refine W_cond_t rfl ?_
  ((have mk11 : True := trivial)) <;> refine W_region_l ?_
  refine WL_step rfl (R_fieldAddr (off' := 7) Tryd.underlying25 rfl Tryd.sizeOf3 (by decide) rfl rfl) ?_
  refine WL_step rfl (R_load (v := I (p.d &&& ~~~ bitN k).toInt) Tryd.isAgg3 rfl (H.get (.there .here)) rfl) ?_
  refine WL_stepM rfl (R_mv) ?_
  refine WL_step rfl (R_bits rfl rfl (by simp) (bv_or (p.d &&& ~~~ bitN k) (bitN k))) ?_
  refine WL_step rfl (R_fieldAddr (off' := 7) Tryd.underlying25 rfl Tryd.sizeOf3 (by decide) rfl rfl) ?_
  (have _g := mk11; refine WL_effu rfl (E_store (v := I ((p.d &&& ~~~ bitN k) ||| bitN k).toInt) H Tryd.sizeOf3 rfl rfl rfl (.there .here) (by rw [piC_len]; omega)) ?_; clear H; intro w89 H; rw [set_d] at H)
  refine WL_nil ?_
  refine W_seq ?_
  ((have mk12 : True := trivial)) <;> refine W_region_l ?_
  refine WL_step rfl (R_loadP (p := handleN p k 2) rfl (H.get (.there .here))) ?_
  (have _g := mk12; refine WL_effu rfl (E_storeP (q := handleN p k 2) H rfl rfl .here) ?_; clear H; intro w94 H)
  refine WL_stepM rfl (R_as) ?_
  refine WL_nil ?_
  refine W_ret ?_
  exact ⟨_, ⟨_, _, rfl, ldP (p := handleN p k 2) (H.get .here), rfl⟩, rfl, H.none (by repeat' first | exact kNil | apply kCons | apply kApp | assumption | exact OwnS.keys (by assumption))⟩

theorem refHandle_2 {p : Pi} {k : Nat} (h1 : 1 ≤ k) (h15 : k ≤ 15) (h9 : k ≠ 9) (h14 : k ≠ 14) (w : World) : Ret Tryd.prog 18 #[vP p, I k, I 2] w fun v w' => v = .tuple #[vP (handleN p k 2), I 0] ∧ Hp w [] w' := by
  refine Ret_of_WC (args := [_, _, _]) Tryd.func18 rfl Tryd.ntmps18 Tryd.results18 (by simp) ?_
  have H := Hp.refl w
  refine W_seq ?_
  refine W_region_l ?_
  (refine WL_effn rfl (E_boxP H rfl) ?_; clear H; intro c3 w3 hc3 H)
  (refine WL_effn rfl (E_allocP H) ?_; clear H; intro c6 w4 hc6 H)
  refine WL_stepM rfl (R_as) ?_
  refine WL_nil ?_
  refine W_seq ?_
  refine W_seq ?_
  refine W_region_l ?_
  refine WL_stepM rfl (R_mv) ?_
  (refine WL_call rfl (R_call rfl Tryd.call28 rfl) (in_ret _ _ _ _) ?_; rintro _ w11 ⟨rfl, H1⟩; rw [decide_eq_true (by omega)]; replace H := H.seq0 H1; clear H1)
  refine WL_step rfl (R_not_t rfl) ?_
  refine WL_stepM rfl (R_mv) ?_
  refine WL_guard_t rfl rfl ?_
  refine WL_stepM rfl (R_mv) ?_
  refine WL_guard_t rfl rfl ?_
  refine WL_step rfl (R_eq_f rfl rfl (by omega)) ?_
  refine WL_stepM rfl (R_pk_f rfl) ?_
  refine WL_stepM rfl (R_mv) ?_
  refine WL_guard_t rfl rfl ?_
  refine WL_stepM rfl (R_mv) ?_
  refine WL_guard_t rfl rfl ?_
  refine WL_step rfl (R_eq_f rfl rfl (by omega)) ?_
  refine WL_stepM rfl (R_pk_f rfl) ?_
  refine WL_stepM rfl (R_mv) ?_
  refine WL_guard_t rfl rfl ?_
  refine WL_stepM rfl (R_mv) ?_
  refine WL_guard_t rfl rfl ?_
  (refine WL_call rfl (R_call rfl Tryd.call28 rfl) (in_ret _ _ _ _) ?_; rintro _ w29 ⟨rfl, H1⟩; rw [decide_eq_true (by omega)]; replace H := H.seq0 H1; clear H1)
  refine WL_guard_t rfl rfl ?_
  refine WL_step rfl (R_not_t rfl) ?_
  refine WL_stepM rfl (R_pk_f rfl) ?_
  refine WL_nil ?_
  refine W_cond_f rfl ?_
  refine W_skip ?_
  refine W_seq ?_
  (refine W_draw (fun w2 => w2.cell? ⟨c3, 7, none⟩ = some (I p.d.toInt)) (fun i => Nat.beq i 13) (by kernel_rfl) H ?_; clear H; intro w37 H)
  refine WA_take 0 rfl rfl rfl (by kernel_rfl) (by kernel_rfl) ((cell_blk (H.get (.there .here)) 7).trans rfl) (fun _ hC => R_fieldAddr (off' := 6) Tryd.underlying25 rfl Tryd.sizeOf3 (by decide) rfl rfl) ?_
  refine WA_takeM 2 rfl rfl rfl (by kernel_rfl) (by kernel_rfl) ((cell_blk (H.get (.there .here)) 7).trans rfl) (fun _ hC => R_mv) ?_
  refine WA_take 3 rfl rfl rfl (by kernel_rfl) (by kernel_rfl) ((cell_blk (H.get (.there .here)) 7).trans rfl) (fun _ hC => R_shl (r := (bitN k).toInt) rfl rfl (by omega) (bit_shl h15)) ?_
  refine WA_take 5 rfl rfl rfl (by kernel_rfl) (by kernel_rfl) ((cell_blk (H.get (.there .here)) 7).trans rfl) (fun _ hC => R_fieldAddr (off' := 7) Tryd.underlying25 rfl Tryd.sizeOf3 (by decide) rfl rfl) ?_
  refine WA_take 6 rfl rfl rfl (by kernel_rfl) (by kernel_rfl) ((cell_blk (H.get (.there .here)) 7).trans rfl) (fun _ hC => R_load_cell (v := I p.d.toInt) Tryd.isAgg3 rfl hC) ?_
  refine WA_takeM 7 rfl rfl rfl (by kernel_rfl) (by kernel_rfl) ((cell_blk (H.get (.there .here)) 7).trans rfl) (fun _ hC => R_mv) ?_
  refine WA_take 8 rfl rfl rfl (by kernel_rfl) (by kernel_rfl) ((cell_blk (H.get (.there .here)) 7).trans rfl) (fun _ hC => R_shl (r := (bitN k).toInt) rfl rfl (by omega) (bit_shl h15)) ?_
  refine WA_take 9 rfl rfl rfl (by kernel_rfl) (by kernel_rfl) ((cell_blk (H.get (.there .here)) 7).trans rfl) (fun _ hC => R_bits rfl rfl (by simp) (bv_andNot p.d (bitN k))) ?_
  refine WA_one (i := 1) (by kernel_rfl) ?_
  refine WI_value rfl (.inl rfl) (R_load (v := I p.c.toInt) Tryd.isAgg3 rfl (H.get (.there .here)) rfl) (fun _ => (cell_blk (H.get (.there .here)) 7).trans rfl) ?_
  refine WA_take 4 rfl rfl rfl (by kernel_rfl) (by kernel_rfl) ((cell_blk (H.get (.there .here)) 7).trans rfl) (fun _ hC => R_bits rfl rfl (by simp) (bv_andNot p.c (bitN k))) ?_
  refine WA_take 10 rfl rfl rfl (by kernel_rfl) (by kernel_rfl) ((cell_blk (H.get (.there .here)) 7).trans rfl) (fun _ hC => R_fieldAddr (off' := 6) Tryd.underlying25 rfl Tryd.sizeOf3 (by decide) rfl rfl) ?_
  refine WA_one (i := 11) (by kernel_rfl) ?_
  (refine WI_effu rfl (.inl rfl) (E_store (v := I (p.c &&& ~~~ bitN k).toInt) H Tryd.sizeOf3 rfl rfl rfl (.there .here) (by rw [piC_len]; omega)) (fun _ H _ => (cell_blk (H.get (.there .here)) 7).trans rfl) ?_; clear H; intro w51 H; rw [set_c] at H)
  refine WA_take 12 rfl rfl rfl (by kernel_rfl) (by kernel_rfl) ((cell_blk (H.get (.there .here)) 7).trans rfl) (fun _ hC => R_fieldAddr (off' := 7) Tryd.underlying25 rfl Tryd.sizeOf3 (by decide) rfl rfl) ?_
  refine WA_one (i := 13) (by kernel_rfl) ?_
  (refine WI_effu rfl (.inl rfl) (E_store (v := I (p.d &&& ~~~ bitN k).toInt) H Tryd.sizeOf3 rfl rfl rfl (.there .here) (by rw [piC_len]; omega)) (fun _ H h => absurd h (by decide)) ?_; clear H; intro w54 H; rw [set_d] at H)
  refine WA_done (by kernel_rfl) ?_
  refine W_seq ?_
  refine W_seq ?_
  refine W_region_l ?_
  refine WL_stepM rfl (R_mv) ?_
  refine WL_nil ?_
  refine W_block ?_
  refine W_seq ?_
  refine W_region_l ?_
  refine WL_step rfl (R_eq_f rfl rfl (by omega)) ?_
  refine WL_stepM rfl (R_as) ?_
  refine WL_nil ?_
  refine W_cond_f rfl ?_
  refine W_seq ?_
  refine W_region_l ?_
  refine WL_step rfl (R_eq_t rfl rfl (by omega)) ?_
  refine WL_stepM rfl (R_as) ?_
  refine WL_nil ?_
  refine W_cond_t rfl ?_
  (have mk9 : True := trivial; refine W_draw (KH w [(c3, blk (piC { { p with c := p.c &&& ~~~ bitN k } with d := p.d &&& ~~~ bitN k }) 25)]) (fun i => Nat.ble 6 i) (by kernel_rfl) H ?_; clear H; intro w74 H)
  refine WA_take 0 rfl rfl rfl (by kernel_rfl) (by kernel_rfl) (H.kh (by simp) (by repeat' first | exact kNil | apply kCons | apply kApp | assumption | exact OwnS.keys (by assumption))) (fun _ hC => R_fieldAddr (off' := 7) Tryd.underlying25 rfl Tryd.sizeOf3 (by decide) rfl rfl) ?_
  refine WA_take 1 rfl rfl rfl (by kernel_rfl) (by kernel_rfl) (H.kh (by simp) (by repeat' first | exact kNil | apply kCons | apply kApp | assumption | exact OwnS.keys (by assumption))) (fun _ hC => R_load (v := I (p.d &&& ~~~ bitN k).toInt) Tryd.isAgg3 rfl (hC.get .here) rfl) ?_
  refine WA_takeM 2 rfl rfl rfl (by kernel_rfl) (by kernel_rfl) (H.kh (by simp) (by repeat' first | exact kNil | apply kCons | apply kApp | assumption | exact OwnS.keys (by assumption))) (fun _ hC => R_mv) ?_
  refine WA_take 3 rfl rfl rfl (by kernel_rfl) (by kernel_rfl) (H.kh (by simp) (by repeat' first | exact kNil | apply kCons | apply kApp | assumption | exact OwnS.keys (by assumption))) (fun _ hC => R_shl (r := (bitN k).toInt) rfl rfl (by omega) (bit_shl h15)) ?_
  refine WA_take 4 rfl rfl rfl (by kernel_rfl) (by kernel_rfl) (H.kh (by simp) (by repeat' first | exact kNil | apply kCons | apply kApp | assumption | exact OwnS.keys (by assumption))) (fun _ hC => R_bits rfl rfl (by simp) (bv_or (p.d &&& ~~~ bitN k) (bitN k))) ?_
  refine WA_take 5 rfl rfl rfl (by kernel_rfl) (by kernel_rfl) (H.kh (by simp) (by repeat' first | exact kNil | apply kCons | apply kApp | assumption | exact OwnS.keys (by assumption))) (fun _ hC => R_fieldAddr (off' := 7) Tryd.underlying25 rfl Tryd.sizeOf3 (by decide) rfl rfl) ?_
  refine WA_one (i := 6) (by kernel_rfl) ?_
  (have _g := mk9; refine WI_effu rfl (.inl rfl) (E_store (v := I ((p.d &&& ~~~ bitN k) ||| bitN k).toInt) H Tryd.sizeOf3 rfl rfl rfl (.there .here) (by rw [piC_len]; omega)) (fun _ H => (by first | exact fun h => absurd h (by decide) | exact fun _ => H | exact fun _ => H.none (by repeat' first | exact kNil | apply kCons | apply kApp | assumption | exact OwnS.keys (by assumption)) | exact fun _ => H.dropN (by repeat' first | exact kNil | apply kCons | apply kApp | assumption | exact OwnS.keys (by assumption)) | exact fun _ => H.pop (by assumption) | exact fun _ => (H.pop (by assumption)).pop (by assumption) | exact fun _ => H.kp | exact fun _ => H.kp.tail | exact fun _ => H.kp.tail.tail | exact fun _ => H.kp.tail.tail.tail | exact fun _ => H.kp.sub (by simp) | exact fun _ => Kp.nil | exact fun _ => H.kh (by simp) (by repeat' first | exact kNil | apply kCons | apply kApp | assumption | exact OwnS.keys (by assumption)))) ?_; clear H; intro w82 H; rw [set_d] at H)
  refine WA_done (by kernel_rfl) ?_
  refine W_seq ?_
  refine W_region_l ?_
  refine WL_step rfl (R_loadP (p := handleN p k 2) rfl (H.get (.there .here))) ?_
  (refine WL_effu rfl (E_storeP (q := handleN p k 2) H rfl rfl .here) ?_; clear H; intro w87 H)
  refine WL_stepM rfl (R_as) ?_
  refine WL_nil ?_
  refine W_ret ?_
  exact ⟨_, ⟨_, _, rfl, ldP (p := handleN p k 2) (H.get .here), rfl⟩, rfl, H.none (by repeat' first | exact kNil | apply kCons | apply kApp | assumption | exact OwnS.keys (by assumption))⟩

end Go.Proofs.YtneeoicjipglkaaDoor.Slot

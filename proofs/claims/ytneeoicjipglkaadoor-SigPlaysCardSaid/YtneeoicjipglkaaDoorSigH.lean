/-
  Signals: the next one, as the document has it; whether one wakes.
-/
import Derived.Test.YtneeoicjipglkaaDoorSigG
namespace Go.Proofs.YtneeoicjipglkaaDoor.Slot
open Go Go.Proofs Go.Proofs.YtneeoicjipglkaaDoor.Fx
set_option maxRecDepth 100000
set_option linter.unusedVariables false
set_option linter.unusedSimpArgs false
set_option maxHeartbeats 4000000

theorem refWhat_ret (p : Pi) {k : Nat} (h15 : k ≤ 15) (w : World) : Ret Tryd.prog 30 #[vP p, I k] w fun v w' => v = I (whatN p k) ∧ Hp w [] w' := by
  refine Ret_of_W (args := [_, _]) Tryd.func30 rfl Tryd.ntmps30 Tryd.results30 (by simp) ?_
  have H := Hp.refl w
  have hwk := what_cases (p := p) (k := k)
  refine W_seq ?_
  refine W_region_l ?_
  (refine WL_effn rfl (E_boxP H rfl) ?_; clear H; intro c1 w3 hc1 H)
  refine WL_stepM rfl (R_as) ?_
  refine WL_nil ?_
  refine W_seq ?_
  refine W_block ?_
  refine W_seq ?_
  ((rcases hwk with ⟨hcb, hw4⟩ | ⟨hcb, hk5, hw4⟩ | ⟨hcb, hk5, hk4, hw4⟩ | ⟨hcb, hk5, hk4, hw4⟩ <;> rw [hw4])) <;> refine W_region_l ?_
  · refine WL_step rfl (R_fieldAddr (off' := 7) Tryd.underlying25 rfl Tryd.sizeOf3 (by decide) rfl rfl) ?_
    refine WL_step rfl (R_load (v := I p.d.toInt) Tryd.isAgg3 rfl (H.get .here) rfl) ?_
    refine WL_stepM rfl (R_mv) ?_
    refine WL_step rfl (R_shr (r := p.d.toInt / ((2 ^ k : Nat) : Int)) rfl rfl (by omega) (shr_k h15)) ?_
    refine WL_step rfl (R_bits (r := 1) rfl rfl (by simp) ((and_mask_i64 1 2 (by decide) rfl (by decide)).trans (by rw [bit_shr h15, hcb]; rfl))) ?_
    refine WL_step rfl (R_eq_t rfl rfl (by omega)) ?_
    refine WL_stepM rfl (R_as) ?_
    refine WL_nil ?_
    refine W_cond_t rfl ?_
    refine W_seq ?_
    refine W_region_l ?_
    refine WL_stepM rfl (R_as) ?_
    refine WL_nil ?_
    refine W_ret ?_
    exact ⟨_, rfl, rfl, H.none (by repeat' first | exact kNil | apply kCons | apply kApp | assumption | exact OwnS.keys (by assumption))⟩
  · refine WL_step rfl (R_fieldAddr (off' := 7) Tryd.underlying25 rfl Tryd.sizeOf3 (by decide) rfl rfl) ?_
    refine WL_step rfl (R_load (v := I p.d.toInt) Tryd.isAgg3 rfl (H.get .here) rfl) ?_
    refine WL_stepM rfl (R_mv) ?_
    refine WL_step rfl (R_shr (r := p.d.toInt / ((2 ^ k : Nat) : Int)) rfl rfl (by omega) (shr_k h15)) ?_
    refine WL_step rfl (R_bits (r := 0) rfl rfl (by simp) ((and_mask_i64 1 2 (by decide) rfl (by decide)).trans (by rw [bit_shr h15, hcb]; rfl))) ?_
    refine WL_step rfl (R_eq_f rfl rfl (by omega)) ?_
    refine WL_stepM rfl (R_as) ?_
    refine WL_nil ?_
    refine W_cond_f rfl ?_
    refine W_seq ?_
    refine W_region_l ?_
    refine WL_stepM rfl (R_mv) ?_
    refine WL_step rfl (R_eq_t rfl rfl (by omega)) ?_
    refine WL_stepM rfl (R_as) ?_
    refine WL_nil ?_
    refine W_cond_t rfl ?_
    refine W_seq ?_
    refine W_region_l ?_
    refine WL_stepM rfl (R_as) ?_
    refine WL_nil ?_
    refine W_ret ?_
    exact ⟨_, rfl, rfl, H.none (by repeat' first | exact kNil | apply kCons | apply kApp | assumption | exact OwnS.keys (by assumption))⟩
  · refine WL_step rfl (R_fieldAddr (off' := 7) Tryd.underlying25 rfl Tryd.sizeOf3 (by decide) rfl rfl) ?_
    refine WL_step rfl (R_load (v := I p.d.toInt) Tryd.isAgg3 rfl (H.get .here) rfl) ?_
    refine WL_stepM rfl (R_mv) ?_
    refine WL_step rfl (R_shr (r := p.d.toInt / ((2 ^ k : Nat) : Int)) rfl rfl (by omega) (shr_k h15)) ?_
    refine WL_step rfl (R_bits (r := 0) rfl rfl (by simp) ((and_mask_i64 1 2 (by decide) rfl (by decide)).trans (by rw [bit_shr h15, hcb]; rfl))) ?_
    refine WL_step rfl (R_eq_f rfl rfl (by omega)) ?_
    refine WL_stepM rfl (R_as) ?_
    refine WL_nil ?_
    refine W_cond_f rfl ?_
    refine W_seq ?_
    refine W_region_l ?_
    refine WL_stepM rfl (R_mv) ?_
    refine WL_step rfl (R_eq_f rfl rfl (by omega)) ?_
    refine WL_stepM rfl (R_as) ?_
    refine WL_nil ?_
    refine W_cond_f rfl ?_
    refine W_seq ?_
    refine W_region_l ?_
    refine WL_stepM rfl (R_mv) ?_
    refine WL_step rfl (R_eq_t rfl rfl (by omega)) ?_
    refine WL_stepM rfl (R_as) ?_
    refine WL_nil ?_
    refine W_cond_t rfl ?_
    refine W_seq ?_
    refine W_region_l ?_
    refine WL_stepM rfl (R_as) ?_
    refine WL_nil ?_
    refine W_ret ?_
    exact ⟨_, rfl, rfl, H.none (by repeat' first | exact kNil | apply kCons | apply kApp | assumption | exact OwnS.keys (by assumption))⟩
  · refine WL_step rfl (R_fieldAddr (off' := 7) Tryd.underlying25 rfl Tryd.sizeOf3 (by decide) rfl rfl) ?_
    refine WL_step rfl (R_load (v := I p.d.toInt) Tryd.isAgg3 rfl (H.get .here) rfl) ?_
    refine WL_stepM rfl (R_mv) ?_
    refine WL_step rfl (R_shr (r := p.d.toInt / ((2 ^ k : Nat) : Int)) rfl rfl (by omega) (shr_k h15)) ?_
    refine WL_step rfl (R_bits (r := 0) rfl rfl (by simp) ((and_mask_i64 1 2 (by decide) rfl (by decide)).trans (by rw [bit_shr h15, hcb]; rfl))) ?_
    refine WL_step rfl (R_eq_f rfl rfl (by omega)) ?_
    refine WL_stepM rfl (R_as) ?_
    refine WL_nil ?_
    refine W_cond_f rfl ?_
    refine W_seq ?_
    refine W_region_l ?_
    refine WL_stepM rfl (R_mv) ?_
    refine WL_step rfl (R_eq_f rfl rfl (by omega)) ?_
    refine WL_stepM rfl (R_as) ?_
    refine WL_nil ?_
    refine W_cond_f rfl ?_
    refine W_seq ?_
    refine W_region_l ?_
    refine WL_stepM rfl (R_mv) ?_
    refine WL_step rfl (R_eq_f rfl rfl (by omega)) ?_
    refine WL_stepM rfl (R_as) ?_
    refine WL_nil ?_
    refine W_cond_f rfl ?_
    refine W_skip ?_
    refine W_seq ?_
    refine W_region_l ?_
    refine WL_stepM rfl (R_as) ?_
    refine WL_nil ?_
    refine W_ret ?_
    exact ⟨_, rfl, rfl, H.none (by repeat' first | exact kNil | apply kCons | apply kApp | assumption | exact OwnS.keys (by assumption))⟩

theorem low_uniq {x : BitVec 64} {i k : Nat} (h : IsLow x i) (h' : IsLow x k) : i = k := by
  rcases Nat.lt_trichotomy i k with hh | hh | hh
  · have := h'.2 i hh; rw [h.1] at this; cases this
  · exact hh
  · have := h.2 k hh; rw [h'.1] at this; cases this
theorem open_none {p : Pi} (h : ∀ j, j < 16 → (openP p).getLsbD j = false) : openP p = 0#64 := by
  apply BitVec.eq_of_getLsbD_eq
  intro i hi
  rw [BitVec.getLsbD_zero]
  by_cases hi2 : i < 16
  · exact h i hi2
  · rw [open_get]; simp; omega

theorem refNext_ret (p : Pi) (w : World) : Ret Tryd.prog 22 #[vP p] w fun v w' => v = .tuple #[I (nextN p), I (nextW p)] ∧ Hp w [] w' := by
  refine Ret_of_W (args := [_]) Tryd.func22 rfl Tryd.ntmps22 Tryd.results22 (by simp) ?_
  have H := Hp.refl w
  by_cases hs : p.s = 1
  · by_cases h9 : (openP p).getLsbD 9 = true
    · have ho : ¬ openP p = 0#64 := fun h => by rw [h] at h9; simp at h9
      have h0 : ¬ (¬ p.s = 1 ∨ openP p = 0#64) := fun h => h.elim (fun h => h hs) ho
      have hw : nextW p = whatN p (nextN p) := if_neg h0
      have hk : nextN p = 9 := by unfold nextN; rw [if_neg h0, if_pos h9]
      rw [hw, hk]
      refine W_seq ?_
      refine W_region_l ?_
      (refine WL_effn rfl (E_boxP H rfl) ?_; clear H; intro c1 w3 hc1 H)
      refine WL_stepM rfl (R_as) ?_
      refine WL_stepM rfl (R_as) ?_
      refine WL_nil ?_
      refine W_seq ?_
      refine W_seq ?_
      refine W_region_l ?_
      refine WL_step rfl (R_fieldAddr (off' := 0) Tryd.underlying25 rfl Tryd.sizeOf3 (by decide) rfl rfl) ?_
      refine WL_step rfl (R_load (v := I p.s) Tryd.isAgg3 rfl (H.get .here) rfl) ?_
      refine WL_step rfl (R_ne_f rfl rfl hs) ?_
      refine WL_nil ?_
      refine W_cond_f rfl ?_
      refine W_skip ?_
      refine W_seq ?_
      refine W_region_l ?_
      refine WL_step rfl (R_fieldAddr (off' := 4) Tryd.underlying25 rfl Tryd.sizeOf3 (by decide) rfl rfl) ?_
      refine WL_step rfl (R_load (v := I p.a.toInt) Tryd.isAgg3 rfl (H.get .here) rfl) ?_
      refine WL_step rfl (R_fieldAddr (off' := 5) Tryd.underlying25 rfl Tryd.sizeOf3 (by decide) rfl rfl) ?_
      refine WL_step rfl (R_load (v := I p.b.toInt) Tryd.isAgg3 rfl (H.get .here) rfl) ?_
      refine WL_step rfl (R_bits rfl rfl (by simp) (bv_andNot p.a p.b)) ?_
      refine WL_step rfl (R_bits (r := (openP p).toInt) rfl rfl (by simp) (bv_and _ 65534#64)) ?_
      refine WL_stepM rfl (R_as) ?_
      refine WL_nil ?_
      refine W_seq ?_
      refine W_seq ?_
      refine W_region_l ?_
      refine WL_stepM rfl (R_mv) ?_
      refine WL_step rfl (R_shr (r := (openP p).toInt / ((2 ^ 9 : Nat) : Int)) rfl rfl (by decide) (shr_k (k := 9) (by decide))) ?_
      refine WL_step rfl (R_bits (r := 1) rfl rfl (by simp) ((and_mask_i64 1 2 (by decide) rfl (by decide)).trans (by rw [bit_shr (by decide), h9]; rfl))) ?_
      refine WL_step rfl (R_eq_t rfl rfl (by omega)) ?_
      refine WL_nil ?_
      refine W_cond_t rfl ?_
      refine W_seq ?_
      refine W_region_l ?_
      refine WL_step rfl (R_loadP rfl (H.get .here)) ?_
      (refine WL_call rfl (R_call rfl Tryd.call30 rfl) (refWhat_ret p (k := 9) (by decide) _) ?_; rintro _ w38 ⟨rfl, H1⟩; replace H := H.seq0 H1; clear H1)
      refine WL_stepM rfl (R_as) ?_
      refine WL_stepM rfl (R_as) ?_
      refine WL_nil ?_
      refine W_ret ?_
      exact ⟨_, rfl, rfl, H.none (by repeat' first | exact kNil | apply kCons | apply kApp | assumption | exact OwnS.keys (by assumption))⟩
    · rw [Bool.not_eq_true] at h9
      refine W_seq ?_
      refine W_region_l ?_
      (refine WL_effn rfl (E_boxP H rfl) ?_; clear H; intro c1 w3 hc1 H)
      refine WL_stepM rfl (R_as) ?_
      refine WL_stepM rfl (R_as) ?_
      refine WL_nil ?_
      refine W_seq ?_
      refine W_seq ?_
      refine W_region_l ?_
      refine WL_step rfl (R_fieldAddr (off' := 0) Tryd.underlying25 rfl Tryd.sizeOf3 (by decide) rfl rfl) ?_
      refine WL_step rfl (R_load (v := I p.s) Tryd.isAgg3 rfl (H.get .here) rfl) ?_
      refine WL_step rfl (R_ne_f rfl rfl hs) ?_
      refine WL_nil ?_
      refine W_cond_f rfl ?_
      refine W_skip ?_
      refine W_seq ?_
      refine W_region_l ?_
      refine WL_step rfl (R_fieldAddr (off' := 4) Tryd.underlying25 rfl Tryd.sizeOf3 (by decide) rfl rfl) ?_
      refine WL_step rfl (R_load (v := I p.a.toInt) Tryd.isAgg3 rfl (H.get .here) rfl) ?_
      refine WL_step rfl (R_fieldAddr (off' := 5) Tryd.underlying25 rfl Tryd.sizeOf3 (by decide) rfl rfl) ?_
      refine WL_step rfl (R_load (v := I p.b.toInt) Tryd.isAgg3 rfl (H.get .here) rfl) ?_
      refine WL_step rfl (R_bits rfl rfl (by simp) (bv_andNot p.a p.b)) ?_
      refine WL_step rfl (R_bits (r := (openP p).toInt) rfl rfl (by simp) (bv_and _ 65534#64)) ?_
      refine WL_stepM rfl (R_as) ?_
      refine WL_nil ?_
      refine W_seq ?_
      refine W_seq ?_
      refine W_region_l ?_
      refine WL_stepM rfl (R_mv) ?_
      refine WL_step rfl (R_shr (r := (openP p).toInt / ((2 ^ 9 : Nat) : Int)) rfl rfl (by decide) (shr_k (k := 9) (by decide))) ?_
      refine WL_step rfl (R_bits (r := 0) rfl rfl (by simp) ((and_mask_i64 1 2 (by decide) rfl (by decide)).trans (by rw [bit_shr (by decide), h9]; rfl))) ?_
      refine WL_step rfl (R_eq_f rfl rfl (by omega)) ?_
      refine WL_nil ?_
      refine W_cond_f rfl ?_
      refine W_skip ?_
      refine W_seq ?_
      refine W_seq ?_
      refine W_region_l ?_
      refine WL_stepM rfl (R_as) ?_
      refine WL_nil ?_
      refine W_block ?_
      refine W_loop (fun (i : Nat) E w' => 1 ≤ i ∧ i ≤ 16 ∧ E 1 = ptr c1 0 ∧ E 4 = I (openP p).toInt ∧ E 5 = I i ∧ (∀ j, j < i → (openP p).getLsbD j = false) ∧ Hp w [(c1, blk (piC p) 25)] w') (fun i => 16 - i) 1 ?_ ?_
      · exact ⟨by omega, by omega, rfl, rfl, rfl, (fun j hj => by obtain rfl : j = 0 := (by omega); rw [open_get]; simp), H⟩
      · (clear H; rintro i E w1 ⟨hi1, hi2, h0, h1, h2, hlow, H⟩; refine W_know3 h0 h1 h2 ?_; by_cases hlt : i < 16)
        · refine W_seq ?_
          refine W_seq ?_
          refine W_region_l ?_
          refine WL_stepM rfl (R_mv) ?_
          refine WL_step rfl (R_le_t rfl rfl (by omega)) ?_
          refine WL_nil ?_
          refine W_cond_t rfl ?_
          refine W_skip ?_
          refine W_seq ?_
          refine W_block ?_
          refine W_seq ?_
          ((cases hcb : (openP p).getLsbD i)) <;> refine W_region_l ?_
          · refine WL_stepM rfl (R_mv) ?_
            refine WL_stepM rfl (R_mv) ?_
            refine WL_step rfl (R_shr (r := (openP p).toInt / ((2 ^ i : Nat) : Int)) rfl rfl (by omega) (shr_k (by omega))) ?_
            refine WL_step rfl (R_bits (r := 0) rfl rfl (by simp) ((and_mask_i64 1 2 (by decide) rfl (by decide)).trans (by rw [bit_shr (by omega), hcb]; rfl))) ?_
            refine WL_step rfl (R_eq_f rfl rfl (by omega)) ?_
            refine WL_nil ?_
            refine W_cond_f rfl ?_
            refine W_skip ?_
            refine W_region_l ?_
            refine WL_stepM rfl (R_mv) ?_
            refine WL_step rfl (R_add rfl rfl (w_i64 (by omega))) ?_
            refine WL_stepM rfl (R_as) ?_
            refine WL_nil ?_
            exact ⟨i + 1, by omega, by omega, by omega, rfl, rfl, rfl, (fun j hj => by rcases Nat.lt_or_ge j i with h' | h'; exact hlow j h'; obtain rfl : j = i := (by omega); exact hcb), H⟩
          · refine WL_stepM rfl (R_mv) ?_
            refine WL_stepM rfl (R_mv) ?_
            refine WL_step rfl (R_shr (r := (openP p).toInt / ((2 ^ i : Nat) : Int)) rfl rfl (by omega) (shr_k (by omega))) ?_
            refine WL_step rfl (R_bits (r := 1) rfl rfl (by simp) ((and_mask_i64 1 2 (by decide) rfl (by decide)).trans (by rw [bit_shr (by omega), hcb]; rfl))) ?_
            refine WL_step rfl (R_eq_t rfl rfl (by omega)) ?_
            refine WL_nil ?_
            refine W_cond_t rfl ?_
            refine W_seq ?_
            refine W_region_l ?_
            refine WL_stepM rfl (R_mv) ?_
            (have ho : ¬ openP p = 0#64 := (fun h => by rw [h] at hcb; simp at hcb); have h0n : ¬ (¬ p.s = 1 ∨ openP p = 0#64) := (fun h => h.elim (fun h => h hs) ho); have hwn : nextW p = whatN p (nextN p) := if_neg h0n; have hkn : nextN p = i := (by unfold nextN; rw [if_neg h0n, if_neg (by rw [h9]; decide)]; exact low_uniq (open_low ho).1 ⟨hcb, hlow⟩); refine WL_step rfl (R_loadP rfl (H.get .here)) ?_)
            refine WL_stepM rfl (R_mv) ?_
            (refine WL_call rfl (R_call rfl Tryd.call30 rfl) (refWhat_ret p (k := i) (by omega) _) ?_; rintro _ w83 ⟨rfl, H1⟩; replace H := H.seq0 H1; clear H1)
            refine WL_stepM rfl (R_as) ?_
            refine WL_stepM rfl (R_as) ?_
            refine WL_nil ?_
            refine W_ret ?_
            exact ⟨_, rfl, (by rw [hwn, hkn]; rfl), H.none (by repeat' first | exact kNil | apply kCons | apply kApp | assumption | exact OwnS.keys (by assumption))⟩
        · refine W_seq ?_
          refine W_seq ?_
          refine W_region_l ?_
          refine WL_stepM rfl (R_mv) ?_
          refine WL_step rfl (R_le_f rfl rfl (by omega)) ?_
          refine WL_nil ?_
          refine W_cond_f rfl ?_
          refine W_exit ?_
          refine (if_pos rfl).mpr ?_
          refine W_seq ?_
          refine W_region_l ?_
          refine WL_stepM rfl (R_as) ?_
          refine WL_stepM rfl (R_as) ?_
          refine WL_nil ?_
          refine W_ret ?_
          (have h0n : ¬ p.s = 1 ∨ openP p = 0#64 := .inr (open_none fun j hj => hlow j (by omega)); exact ⟨_, rfl, (by rw [nextN_zero.2 h0n, nextW_zero.2 h0n]; rfl), H.none (by repeat' first | exact kNil | apply kCons | apply kApp | assumption | exact OwnS.keys (by assumption))⟩)
  · rw [show nextN p = 0 from nextN_zero.2 (.inl hs), show nextW p = 0 from nextW_zero.2 (.inl hs)]
    refine W_seq ?_
    refine W_region_l ?_
    (refine WL_effn rfl (E_boxP H rfl) ?_; clear H; intro c1 w3 hc1 H)
    refine WL_stepM rfl (R_as) ?_
    refine WL_stepM rfl (R_as) ?_
    refine WL_nil ?_
    refine W_seq ?_
    refine W_seq ?_
    refine W_region_l ?_
    refine WL_step rfl (R_fieldAddr (off' := 0) Tryd.underlying25 rfl Tryd.sizeOf3 (by decide) rfl rfl) ?_
    refine WL_step rfl (R_load (v := I p.s) Tryd.isAgg3 rfl (H.get .here) rfl) ?_
    refine WL_step rfl (R_ne_t rfl rfl hs) ?_
    refine WL_nil ?_
    refine W_cond_t rfl ?_
    refine W_seq ?_
    refine W_region_l ?_
    refine WL_stepM rfl (R_as) ?_
    refine WL_stepM rfl (R_as) ?_
    refine WL_nil ?_
    refine W_ret ?_
    exact ⟨_, rfl, rfl, H.none (by repeat' first | exact kNil | apply kCons | apply kApp | assumption | exact OwnS.keys (by assumption))⟩

/-- whether one wakes -/
def wakesB (p : Pi) : Bool := decide (1 < nextW p)
theorem wakes_ret (p : Pi) {w : World} (hT : TabZ w) : Ret Tryd.prog 11 #[vP p] w fun v w' => v = .bool (wakesB p) ∧ Hp w [] w' := by
  refine Ret_of_W (args := [_]) Tryd.func11 rfl Tryd.ntmps11 Tryd.results11 (by simp) ?_
  have H := Hp.refl w
  refine W_seq ?_
  refine W_region_l ?_
  (refine WL_effn rfl (E_boxP H rfl) ?_; clear H; intro c1 w3 hc1 H)
  refine WL_stepM rfl (R_as) ?_
  refine WL_nil ?_
  refine W_seq ?_
  refine W_region_l ?_
  refine WL_step rfl (R_loadP rfl (H.get .here)) ?_
  (refine WL_call rfl (R_call rfl Tryd.call21 rfl) (sigNext_ret p (hT.mono H (by repeat' first | exact kNil | apply kCons | apply kApp | assumption | exact OwnS.keys (by assumption)))) ?_; rintro _ w9 ⟨rfl, H1⟩; replace H := H.seq0 H1; clear H1)
  refine WL_stepM rfl (R_mv) ?_
  refine WL_step rfl (R_extract rfl rfl) ?_
  refine WL_step rfl (R_extract rfl rfl) ?_
  refine WL_stepM rfl (R_as) ?_
  refine WL_stepM rfl (R_as) ?_
  refine WL_nil ?_
  refine W_seq ?_
  refine W_region_l ?_
  refine WL_stepM rfl (R_mv) ?_
  refine WL_step rfl (R_gt rfl rfl) ?_
  refine WL_stepM rfl (R_as) ?_
  refine WL_nil ?_
  refine W_ret ?_
  exact ⟨_, rfl, congrArg Value.bool (decide_eq_decide.2 (by omega)), H.none (by repeat' first | exact kNil | apply kCons | apply kApp | assumption | exact OwnS.keys (by assumption))⟩
theorem refWakes_ret (p : Pi) (w : World) : Ret Tryd.prog 23 #[vP p] w fun v w' => v = .bool (wakesB p) ∧ Hp w [] w' := by
  refine Ret_of_W (args := [_]) Tryd.func23 rfl Tryd.ntmps23 Tryd.results23 (by simp) ?_
  have H := Hp.refl w
  have hz : nextN p = 0 ↔ nextW p = 0 := nextN_zero.trans nextW_zero.symm
  have hc : (nextN p = 0 ∧ nextW p = 0) ∨ (nextN p ≠ 0 ∧ nextW p ≠ 0) := by
    by_cases h : nextN p = 0
    · exact .inl ⟨h, hz.1 h⟩
    · exact .inr ⟨h, fun e => h (hz.2 e)⟩
  refine W_seq ?_
  refine W_region_l ?_
  (refine WL_effn rfl (E_boxP H rfl) ?_; clear H; intro c1 w3 hc1 H)
  refine WL_stepM rfl (R_as) ?_
  refine WL_nil ?_
  refine W_seq ?_
  refine W_region_l ?_
  refine WL_step rfl (R_loadP rfl (H.get .here)) ?_
  (refine WL_call rfl (R_call rfl Tryd.call22 rfl) (refNext_ret p _) ?_; rintro _ w9 ⟨rfl, H1⟩; replace H := H.seq0 H1; clear H1)
  refine WL_stepM rfl (R_mv) ?_
  refine WL_step rfl (R_extract rfl rfl) ?_
  refine WL_step rfl (R_extract rfl rfl) ?_
  refine WL_stepM rfl (R_as) ?_
  refine WL_stepM rfl (R_as) ?_
  refine WL_nil ?_
  refine W_seq ?_
  refine W_region_l ?_
  refine WL_stepM rfl (R_mv) ?_
  refine WL_step rfl (R_ne rfl rfl) ?_
  refine WL_stepM rfl (R_mv) ?_
  apply WL_andK 3 12 15 [(13, 15)] H
  case hc => rfl
  case h1 =>
    intro h21
    refine WL_guard_t rfl rfl ?_
    refine WL_stepM rfl (R_mv) ?_
    refine WL_guard_t rfl rfl ?_
    refine WL_step rfl (R_ne rfl rfl) ?_
    refine WL_stepM rfl (R_pk_t rfl) ?_
    refine WL_nil ?_
    exact ⟨(same_mov rfl (same_updo rfl (same_mov rfl Same.refl))), rfl, H⟩
  case h0 =>
    intro h21
    refine WL_guard_f rfl rfl (by decide) ?_
    refine WL_guard_f rfl rfl (by decide) ?_
    refine WL_stepM rfl (R_pk_f rfl) ?_
    refine WL_nil ?_
    exact ⟨(same_mov rfl (same_updo rfl (same_updo rfl Same.refl))), rfl, H⟩
  case h2 =>
    (clear H; intro E21 w21 H)
    refine WL_stepM rfl (R_as) ?_
    refine WL_nil ?_
    refine W_ret ?_
    exact ⟨_, rfl, congrArg Value.bool (decide_eq_decide.2 (by omega)), H.none (by repeat' first | exact kNil | apply kCons | apply kApp | assumption | exact OwnS.keys (by assumption))⟩
end Go.Proofs.YtneeoicjipglkaaDoor.Slot

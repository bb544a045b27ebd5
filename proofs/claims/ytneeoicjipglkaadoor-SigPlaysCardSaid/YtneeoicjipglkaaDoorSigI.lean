/-
  Signals: what is delivered.
-/
import Derived.Test.YtneeoicjipglkaaDoorSigH
namespace Go.Proofs.YtneeoicjipglkaaDoor.Slot
open Go Go.Proofs Go.Proofs.YtneeoicjipglkaaDoor.Fx
set_option maxRecDepth 100000
set_option linter.unusedVariables false
set_option linter.unusedSimpArgs false
set_option maxHeartbeats 8000000

abbrev nI (n : Nat) : Value := I (n : Int)
theorem deliv_2 {n : Nat} {q : Pi} (h : nextW q = 2) : delivN (n + 1) q = ((delivN n (clr q (nextN q))).1, nextN q :: (delivN n (clr q (nextN q))).2.1, (delivN n (clr q (nextN q))).2.2) := by
  conv => lhs; unfold delivN
  rw [if_neg (by omega), if_pos h]
theorem deliv_3 {n : Nat} {q : Pi} (h : nextW q = 3) : delivN (n + 1) q = ({ clr q (nextN q) with s := 3 }, [], 0) := by
  conv => lhs; unfold delivN
  rw [if_neg (by omega), if_neg (by omega), if_pos h]
  exact deliv_stopped (by show ¬ (3 : Int) = 1; decide) n
theorem deliv_4 {n : Nat} {q : Pi} (h : nextW q = 4) : delivN (n + 1) q = (clr q (nextN q), [], nextN q) := by
  conv => lhs; unfold delivN
  rw [if_neg (by omega), if_neg (by omega), if_neg (by omega), if_pos h]
theorem deliv_1 {n : Nat} {q : Pi} (h : nextW q = 1) : delivN (n + 1) q = delivN n (clr q (nextN q)) := by
  conv => lhs; unfold delivN
  rw [if_neg (by omega), if_neg (by omega), if_neg (by omega), if_neg (by omega)]
theorem nextW_le (p : Pi) : nextW p ≤ 4 := by
  unfold nextW
  split
  · omega
  · exact (whatN_pos _ _).2
theorem nextW_cases (p : Pi) : nextW p = 0 ∨ nextW p = 1 ∨ nextW p = 2 ∨ nextW p = 3 ∨ nextW p = 4 := by have := nextW_le p; omega
theorem next_rng {q : Pi} (h : ¬ nextW q = 0) : 1 ≤ nextN q ∧ nextN q ≤ 15 := by
  have := nextN_bits (p := q) (fun e => h (nextW_zero.2 e)); exact ⟨this.1, this.2.1⟩
theorem next_zero {q : Pi} (h : nextW q = 0) : nextN q = 0 := nextN_zero.2 (nextW_zero.1 h)
theorem hp_two {w0 w : World} {M B : List (Nat × Obj)} (H : Hp w0 (M ++ B) w) (hB : ∀ p ∈ B, w0.heap.size ≤ p.1) : Hp w0 M w := by
  have h : Hp w0 (M ++ (B ++ [])) w := by rw [List.append_nil]; exact H
  have := h.dropMid hB
  rwa [List.append_nil] at this
/-- fuel for what is open -/
def Fuel (p q : Pi) (acc : List Nat) (k : Nat) : Prop := cntP q ≤ k ∧ acc.length + k ≤ 16 ∧ delivN 16 p = ((delivN k q).1, acc ++ (delivN k q).2.1, (delivN k q).2.2)
theorem Fuel.start (p : Pi) : Fuel p p [] 16 := ⟨cnt_all p, by simp, by simp⟩
theorem Fuel.done {p q : Pi} {acc : List Nat} {k : Nat} (h : Fuel p q acc k) (h0 : nextW q = 0) : delivN 16 p = (q, acc, 0) := by
  rw [h.2.2, deliv_none h0]; simp
theorem Fuel.pos {p q : Pi} {acc : List Nat} {k : Nat} (h : Fuel p q acc k) (h0 : ¬ nextW q = 0) : ∃ j, k = j + 1 ∧ cntP (clr q (nextN q)) ≤ j := by
  have h1 := cnt_clr h0
  have := h.1
  exact ⟨k - 1, by omega, by omega⟩
theorem Fuel.two {p q : Pi} {acc : List Nat} {j : Nat} (h : Fuel p q acc (j + 1)) (hc : cntP (clr q (nextN q)) ≤ j) (h0 : nextW q = 2) : Fuel p (clr q (nextN q)) (acc ++ [nextN q]) j :=
  ⟨hc, by have := h.2.1; rw [List.length_append, List.length_singleton]; omega, by rw [h.2.2, deliv_2 h0]; simp⟩
theorem Fuel.one {p q : Pi} {acc : List Nat} {j : Nat} (h : Fuel p q acc (j + 1)) (hc : cntP (clr q (nextN q)) ≤ j) (h0 : nextW q = 1) : Fuel p (clr q (nextN q)) acc j :=
  ⟨hc, by have := h.2.1; omega, by rw [h.2.2, deliv_1 h0]⟩
theorem Fuel.three {p q : Pi} {acc : List Nat} {j : Nat} (h : Fuel p q acc (j + 1)) (hc : cntP (clr q (nextN q)) ≤ j) (h0 : nextW q = 3) : Fuel p { clr q (nextN q) with s := 3 } acc j :=
  ⟨hc, by have := h.2.1; omega, by rw [h.2.2, deliv_3 h0, deliv_stopped (by show ¬ (3 : Int) = 1; decide)]⟩
theorem Fuel.four {p q : Pi} {acc : List Nat} {j : Nat} (h : Fuel p q acc (j + 1)) (h0 : nextW q = 4) : delivN 16 p = (clr q (nextN q), acc, nextN q) := by
  rw [h.2.2, deliv_4 h0]; simp

theorem deliver_ret (p : Pi) {w : World} (hT : TabZ w) : Ret Tryd.prog 10 #[vP p] w fun v w' => ∃ u M, v = .tuple #[vP (delivN 16 p).1, u, I (delivN 16 p).2.2] ∧
    OwnS w.heap.size 3 1 u (delivN 16 p).2.1.length ((delivN 16 p).2.1.map nI) M ∧ Hp w M w' := by
  refine Ret_of_WC (args := [_]) Tryd.func10 rfl Tryd.ntmps10 Tryd.results10 (by simp) ?_
  have H := Hp.refl w
  have hO := OwnS.nil w.heap.size 3 1
  refine W_seq ?_
  refine W_region_l ?_
  (refine WL_effn rfl (E_boxP H rfl) ?_; clear H; intro c1 w3 hc1 H)
  (refine WL_effn rfl (E_allocP H) ?_; clear H; intro c2 w4 hc2 H)
  refine WL_stepM rfl (R_as) ?_
  refine WL_stepM rfl (R_as) ?_
  refine WL_nil ?_
  refine W_block ?_
  refine W_loop (fun (k : Nat) E w' => ∃ q acc u M, E 1 = ptr c1 0 ∧ E 2 = ptr c2 0 ∧ E 3 = u ∧ E 4 = I 0 ∧ Fuel p q acc k ∧ OwnS w.heap.size 3 1 u acc.length (acc.map nI) M ∧ Hp w (M ++ [(c2, blk (piC zeroP) 25), (c1, blk (piC q) 25)]) w') (fun k => k) 16 ?_ ?_
  · exact ⟨p, [], _, [], rfl, rfl, rfl, rfl, Fuel.start p, hO, H⟩
  · (clear H hO; rintro k E w1 ⟨q, acc, u, M, h0, h1, h2, h3, hF, hO, H⟩; refine W_know4 h0 h1 h2 h3 ?_; have hal := hF.2.1)
    refine W_block ?_
    refine W_seq ?_
    refine W_region_l ?_
    refine WL_step rfl (R_loadP rfl (H.get (.app _ (.there .here)))) ?_
    (refine WL_call rfl (R_call rfl Tryd.call21 rfl) (sigNext_ret q (hT.mono H (by repeat' first | exact kNil | apply kCons | apply kApp | assumption | exact OwnS.keys (by assumption)))) ?_; rintro _ w16 ⟨rfl, H1⟩; replace H := H.seq0 H1; clear H1)
    refine WL_stepM rfl (R_mv) ?_
    refine WL_step rfl (R_extract rfl rfl) ?_
    refine WL_step rfl (R_extract rfl rfl) ?_
    refine WL_stepM rfl (R_as) ?_
    refine WL_stepM rfl (R_as) ?_
    refine WL_nil ?_
    refine W_seq ?_
    refine W_seq ?_
    ((rcases nextW_cases q with hw | hw | hw | hw | hw)) <;> refine W_region_l ?_
    · refine WL_stepM rfl (R_mv) ?_
      refine WL_step rfl (R_eq_t rfl rfl (by omega)) ?_
      refine WL_nil ?_
      refine W_cond_t rfl ?_
      refine W_seq ?_
      refine W_region_l ?_
      refine WL_step rfl (R_loadP rfl (H.get (.app _ (.there .here)))) ?_
      refine WL_stepM rfl (R_mv) ?_
      (refine WL_effu rfl (E_storeP (q := q) H rfl rfl (.app _ .here)) ?_; clear H; intro w34 H)
      refine WL_stepM rfl (R_as) ?_
      refine WL_stepM rfl (R_as) ?_
      refine WL_nil ?_
      refine W_ret ?_
      (have e := hF.done hw; rw [e]; exact ⟨_, ⟨_, _, rfl, ldP (p := q) (H.get (.app _ .here)), rfl⟩, _, M, rfl, hO, hp_two H (by repeat' first | exact kNil | apply kCons | apply kApp | assumption | exact OwnS.keys (by assumption))⟩)
    · refine WL_stepM rfl (R_mv) ?_
      refine WL_step rfl (R_eq_f rfl rfl (by omega)) ?_
      refine WL_nil ?_
      refine W_cond_f rfl ?_
      refine W_skip ?_
      refine W_seq ?_
      ((have hr := next_rng (q := q) (by omega); obtain ⟨j, rfl, hcj⟩ := hF.pos (by omega); obtain ⟨n, hn⟩ : ∃ n, nextN q = n := ⟨_, rfl⟩; rw [hn] at hr)) <;> refine W_region_l ?_
      refine WL_step rfl (R_fieldAddr (off' := 4) Tryd.underlying25 rfl Tryd.sizeOf3 (by decide) rfl rfl) ?_
      refine WL_step rfl (R_load (v := I q.a.toInt) Tryd.isAgg3 rfl (H.get (.app _ (.there .here))) rfl) ?_
      refine WL_stepM rfl (R_mv) ?_
      refine WL_step rfl (R_conv_int (r := ((nextN q : Nat) : Int)) Tryd.underlying3 Tryd.underlying31 rfl (w_u64 (by omega))) ?_
      refine WL_step rfl (R_shl (r := (bitN (nextN q)).toInt) rfl rfl (by omega) (bit_shl (by omega))) ?_
      refine WL_step rfl (R_bits rfl rfl (by simp) (bv_andNot q.a (bitN (nextN q)))) ?_
      refine WL_step rfl (R_fieldAddr (off' := 4) Tryd.underlying25 rfl Tryd.sizeOf3 (by decide) rfl rfl) ?_
      (refine WL_effu rfl (E_store (v := I (q.a &&& ~~~ bitN (nextN q)).toInt) H Tryd.sizeOf3 rfl rfl rfl (.app _ (.there .here)) (by rw [piC_len]; omega)) ?_; clear H; intro w54 H; rw [set_a] at H)
      refine WL_nil ?_
      refine W_seq ?_
      refine W_region_l ?_
      refine WL_stepM rfl (R_mv) ?_
      refine WL_nil ?_
      refine W_block ?_
      refine W_seq ?_
      refine W_region_l ?_
      refine WL_step rfl (R_eq_f rfl rfl (by omega)) ?_
      refine WL_stepM rfl (R_as) ?_
      refine WL_nil ?_
      refine W_cond_f rfl ?_
      refine W_seq ?_
      refine W_region_l ?_
      refine WL_step rfl (R_eq_f rfl rfl (by omega)) ?_
      refine WL_stepM rfl (R_as) ?_
      refine WL_nil ?_
      refine W_cond_f rfl ?_
      refine W_seq ?_
      refine W_region_l ?_
      refine WL_step rfl (R_eq_f rfl rfl (by omega)) ?_
      refine WL_stepM rfl (R_as) ?_
      refine WL_nil ?_
      refine W_cond_f rfl ?_
      refine W_skip ?_
      exact ⟨j, by omega, _, _, _, _, rfl, rfl, rfl, rfl, hF.one hcj hw, hO, H⟩
    · refine WL_stepM rfl (R_mv) ?_
      refine WL_step rfl (R_eq_f rfl rfl (by omega)) ?_
      refine WL_nil ?_
      refine W_cond_f rfl ?_
      refine W_skip ?_
      refine W_seq ?_
      ((have hr := next_rng (q := q) (by omega); obtain ⟨j, rfl, hcj⟩ := hF.pos (by omega); obtain ⟨n, hn⟩ : ∃ n, nextN q = n := ⟨_, rfl⟩; rw [hn] at hr)) <;> refine W_region_l ?_
      refine WL_step rfl (R_fieldAddr (off' := 4) Tryd.underlying25 rfl Tryd.sizeOf3 (by decide) rfl rfl) ?_
      refine WL_step rfl (R_load (v := I q.a.toInt) Tryd.isAgg3 rfl (H.get (.app _ (.there .here))) rfl) ?_
      refine WL_stepM rfl (R_mv) ?_
      refine WL_step rfl (R_conv_int (r := ((nextN q : Nat) : Int)) Tryd.underlying3 Tryd.underlying31 rfl (w_u64 (by omega))) ?_
      refine WL_step rfl (R_shl (r := (bitN (nextN q)).toInt) rfl rfl (by omega) (bit_shl (by omega))) ?_
      refine WL_step rfl (R_bits rfl rfl (by simp) (bv_andNot q.a (bitN (nextN q)))) ?_
      refine WL_step rfl (R_fieldAddr (off' := 4) Tryd.underlying25 rfl Tryd.sizeOf3 (by decide) rfl rfl) ?_
      (refine WL_effu rfl (E_store (v := I (q.a &&& ~~~ bitN (nextN q)).toInt) H Tryd.sizeOf3 rfl rfl rfl (.app _ (.there .here)) (by rw [piC_len]; omega)) ?_; clear H; intro w95 H; rw [set_a] at H)
      refine WL_nil ?_
      refine W_seq ?_
      refine W_region_l ?_
      refine WL_stepM rfl (R_mv) ?_
      refine WL_nil ?_
      refine W_block ?_
      refine W_seq ?_
      refine W_region_l ?_
      refine WL_step rfl (R_eq_t rfl rfl (by omega)) ?_
      refine WL_stepM rfl (R_as) ?_
      refine WL_nil ?_
      refine W_cond_t rfl ?_
      refine W_region_l ?_
      refine WL_stepM rfl (R_mv) ?_
      refine WL_stepM rfl (R_mv) ?_
      (refine WL_effn rfl (E_buildOnes (vs := [(.int _ _)]) H Tryd.underlying22 Tryd.sizeOf3 Tryd.zeroValue3 rfl rfl (by decide) rfl rfl (by simp [Value.oneCell'])) ?_; clear H; intro b111 w111 hb111 H)
      (refine WL_effm rfl (E_append H (.there .here) hO Tryd.underlying22 Tryd.typeInfo3 rfl rfl rfl rfl rfl rfl (src_one Tryd.underlying22 (H.get .here) rfl) (by omega) (by simp only [Tryd.t3]; omega)) ?_; clear H hO; intro vN MN w112 hO H; replace H := H.pop (by assumption))
      refine WL_stepM rfl (R_as) ?_
      refine WL_nil ?_
      exact ⟨j, by omega, _, acc ++ [nextN q], _, _, rfl, rfl, rfl, rfl, hF.two hcj hw, (by rw [List.length_append, List.map_append]; exact hO), H⟩
    · refine WL_stepM rfl (R_mv) ?_
      refine WL_step rfl (R_eq_f rfl rfl (by omega)) ?_
      refine WL_nil ?_
      refine W_cond_f rfl ?_
      refine W_skip ?_
      refine W_seq ?_
      ((have hr := next_rng (q := q) (by omega); obtain ⟨j, rfl, hcj⟩ := hF.pos (by omega); obtain ⟨n, hn⟩ : ∃ n, nextN q = n := ⟨_, rfl⟩; rw [hn] at hr)) <;> refine W_region_l ?_
      refine WL_step rfl (R_fieldAddr (off' := 4) Tryd.underlying25 rfl Tryd.sizeOf3 (by decide) rfl rfl) ?_
      refine WL_step rfl (R_load (v := I q.a.toInt) Tryd.isAgg3 rfl (H.get (.app _ (.there .here))) rfl) ?_
      refine WL_stepM rfl (R_mv) ?_
      refine WL_step rfl (R_conv_int (r := ((nextN q : Nat) : Int)) Tryd.underlying3 Tryd.underlying31 rfl (w_u64 (by omega))) ?_
      refine WL_step rfl (R_shl (r := (bitN (nextN q)).toInt) rfl rfl (by omega) (bit_shl (by omega))) ?_
      refine WL_step rfl (R_bits rfl rfl (by simp) (bv_andNot q.a (bitN (nextN q)))) ?_
      refine WL_step rfl (R_fieldAddr (off' := 4) Tryd.underlying25 rfl Tryd.sizeOf3 (by decide) rfl rfl) ?_
      (refine WL_effu rfl (E_store (v := I (q.a &&& ~~~ bitN (nextN q)).toInt) H Tryd.sizeOf3 rfl rfl rfl (.app _ (.there .here)) (by rw [piC_len]; omega)) ?_; clear H; intro w130 H; rw [set_a] at H)
      refine WL_nil ?_
      refine W_seq ?_
      refine W_region_l ?_
      refine WL_stepM rfl (R_mv) ?_
      refine WL_nil ?_
      refine W_block ?_
      refine W_seq ?_
      refine W_region_l ?_
      refine WL_step rfl (R_eq_f rfl rfl (by omega)) ?_
      refine WL_stepM rfl (R_as) ?_
      refine WL_nil ?_
      refine W_cond_f rfl ?_
      refine W_seq ?_
      refine W_region_l ?_
      refine WL_step rfl (R_eq_t rfl rfl (by omega)) ?_
      refine WL_stepM rfl (R_as) ?_
      refine WL_nil ?_
      refine W_cond_t rfl ?_
      refine W_region_l ?_
      refine WL_step rfl (R_fieldAddr (off' := 0) Tryd.underlying25 rfl Tryd.sizeOf3 (by decide) rfl rfl) ?_
      (refine WL_effu rfl (E_store (v := I 3) H Tryd.sizeOf3 rfl rfl rfl (.app _ (.there .here)) (by rw [piC_len]; omega)) ?_; clear H; intro w151 H; rw [set_s] at H)
      refine WL_nil ?_
      exact ⟨j, by omega, _, _, _, _, rfl, rfl, rfl, rfl, hF.three hcj hw, hO, H⟩
    · refine WL_stepM rfl (R_mv) ?_
      refine WL_step rfl (R_eq_f rfl rfl (by omega)) ?_
      refine WL_nil ?_
      refine W_cond_f rfl ?_
      refine W_skip ?_
      refine W_seq ?_
      ((have hr := next_rng (q := q) (by omega); obtain ⟨j, rfl, hcj⟩ := hF.pos (by omega); obtain ⟨n, hn⟩ : ∃ n, nextN q = n := ⟨_, rfl⟩; rw [hn] at hr)) <;> refine W_region_l ?_
      refine WL_step rfl (R_fieldAddr (off' := 4) Tryd.underlying25 rfl Tryd.sizeOf3 (by decide) rfl rfl) ?_
      refine WL_step rfl (R_load (v := I q.a.toInt) Tryd.isAgg3 rfl (H.get (.app _ (.there .here))) rfl) ?_
      refine WL_stepM rfl (R_mv) ?_
      refine WL_step rfl (R_conv_int (r := ((nextN q : Nat) : Int)) Tryd.underlying3 Tryd.underlying31 rfl (w_u64 (by omega))) ?_
      refine WL_step rfl (R_shl (r := (bitN (nextN q)).toInt) rfl rfl (by omega) (bit_shl (by omega))) ?_
      refine WL_step rfl (R_bits rfl rfl (by simp) (bv_andNot q.a (bitN (nextN q)))) ?_
      refine WL_step rfl (R_fieldAddr (off' := 4) Tryd.underlying25 rfl Tryd.sizeOf3 (by decide) rfl rfl) ?_
      (refine WL_effu rfl (E_store (v := I (q.a &&& ~~~ bitN (nextN q)).toInt) H Tryd.sizeOf3 rfl rfl rfl (.app _ (.there .here)) (by rw [piC_len]; omega)) ?_; clear H; intro w168 H; rw [set_a] at H)
      refine WL_nil ?_
      refine W_seq ?_
      refine W_region_l ?_
      refine WL_stepM rfl (R_mv) ?_
      refine WL_nil ?_
      refine W_block ?_
      refine W_seq ?_
      refine W_region_l ?_
      refine WL_step rfl (R_eq_f rfl rfl (by omega)) ?_
      refine WL_stepM rfl (R_as) ?_
      refine WL_nil ?_
      refine W_cond_f rfl ?_
      refine W_seq ?_
      refine W_region_l ?_
      refine WL_step rfl (R_eq_f rfl rfl (by omega)) ?_
      refine WL_stepM rfl (R_as) ?_
      refine WL_nil ?_
      refine W_cond_f rfl ?_
      refine W_seq ?_
      refine W_region_l ?_
      refine WL_step rfl (R_eq_t rfl rfl (by omega)) ?_
      refine WL_stepM rfl (R_as) ?_
      refine WL_nil ?_
      refine W_cond_t rfl ?_
      refine W_seq ?_
      refine W_region_l ?_
      refine WL_step rfl (R_loadP rfl (H.get (.app _ (.there .here)))) ?_
      refine WL_stepM rfl (R_mv) ?_
      refine WL_stepM rfl (R_mv) ?_
      (refine WL_effu rfl (E_storeP (q := clr q (nextN q)) H rfl rfl (.app _ .here)) ?_; clear H; intro w198 H)
      refine WL_stepM rfl (R_as) ?_
      refine WL_stepM rfl (R_as) ?_
      refine WL_nil ?_
      refine W_ret ?_
      (have e := hF.four hw; rw [e]; exact ⟨_, ⟨_, _, rfl, ldP (p := clr q (nextN q)) (H.get (.app _ .here)), rfl⟩, _, M, rfl, hO, hp_two H (by repeat' first | exact kNil | apply kCons | apply kApp | assumption | exact OwnS.keys (by assumption))⟩)

theorem refDeliver_ret (p : Pi) (w : World) : Ret Tryd.prog 16 #[vP p] w fun v w' => ∃ u M, v = .tuple #[vP (delivN 16 p).1, u, I (delivN 16 p).2.2] ∧
    OwnS w.heap.size 3 1 u (delivN 16 p).2.1.length ((delivN 16 p).2.1.map nI) M ∧ Hp w M w' := by
  refine Ret_of_WC (args := [_]) Tryd.func16 rfl Tryd.ntmps16 Tryd.results16 (by simp) ?_
  have H := Hp.refl w
  have hO := OwnS.nil w.heap.size 3 1
  refine W_seq ?_
  refine W_region_l ?_
  (refine WL_effn rfl (E_boxP H rfl) ?_; clear H; intro c1 w3 hc1 H)
  (refine WL_effn rfl (E_allocP H) ?_; clear H; intro c2 w4 hc2 H)
  refine WL_stepM rfl (R_as) ?_
  refine WL_stepM rfl (R_as) ?_
  refine WL_nil ?_
  refine W_seq ?_
  refine W_region_l ?_
  refine WL_stepM rfl (R_as) ?_
  refine WL_nil ?_
  refine W_seq ?_
  refine W_seq ?_
  refine W_region_l ?_
  refine WL_stepM rfl (R_as) ?_
  refine WL_nil ?_
  refine W_block ?_
  refine W_loop (fun (i : Nat) E w' => ∃ q acc u M, i ≤ 16 ∧ E 1 = ptr c1 0 ∧ E 2 = ptr c2 0 ∧ E 5 = u ∧ E 6 = I i ∧ Fuel p q acc (16 - i) ∧ OwnS w.heap.size 3 1 u acc.length (acc.map nI) M ∧ Hp w (M ++ [(c2, blk (piC zeroP) 25), (c1, blk (piC q) 25)]) w') (fun i => 16 - i) 0 ?_ ?_
  · exact ⟨p, [], _, [], by omega, rfl, rfl, rfl, rfl, Fuel.start p, hO, H⟩
  · (clear H hO; rintro i E w1 ⟨q, acc, u, M, hi, h0, h1, h2, h3, hF, hO, H⟩; refine W_know4 h0 h1 h2 h3 ?_; have hal := hF.2.1; by_cases hlt : i < 16)
    · refine W_seq ?_
      refine W_seq ?_
      refine W_region_l ?_
      refine WL_stepM rfl (R_mv) ?_
      refine WL_step rfl (R_lt_t rfl rfl (by omega)) ?_
      refine WL_nil ?_
      refine W_cond_t rfl ?_
      refine W_skip ?_
      refine W_seq ?_
      refine W_block ?_
      refine W_seq ?_
      refine W_region_l ?_
      refine WL_step rfl (R_loadP rfl (H.get (.app _ (.there .here)))) ?_
      (refine WL_call rfl (R_call rfl Tryd.call22 rfl) (refNext_ret q _) ?_; rintro _ w34 ⟨rfl, H1⟩; replace H := H.seq0 H1; clear H1)
      refine WL_stepM rfl (R_mv) ?_
      refine WL_step rfl (R_extract rfl rfl) ?_
      refine WL_step rfl (R_extract rfl rfl) ?_
      refine WL_stepM rfl (R_as) ?_
      refine WL_stepM rfl (R_as) ?_
      refine WL_nil ?_
      refine W_seq ?_
      refine W_seq ?_
      ((rcases nextW_cases q with hw | hw | hw | hw | hw)) <;> refine W_region_l ?_
      · refine WL_stepM rfl (R_mv) ?_
        refine WL_step rfl (R_eq_t rfl rfl (by have := next_zero hw; omega)) ?_
        refine WL_nil ?_
        refine W_cond_t rfl ?_
        refine W_exit ?_
        refine (if_neg (by decide)).mpr ?_
        refine (if_pos rfl).mpr ?_
        refine W_seq ?_
        ((have hz : nextW q = 0 := (by first | exact hw | exact cnt_zero (by have := hF.1; omega)); have e := hF.done hz; rw [e])) <;> refine W_region_l ?_
        refine WL_step rfl (R_loadP rfl (H.get (.app _ (.there .here)))) ?_
        refine WL_stepM rfl (R_mv) ?_
        (have _g := hz; refine WL_effu rfl (E_storeP (q := q) H rfl rfl (.app _ .here)) ?_; clear H; intro w55 H)
        refine WL_stepM rfl (R_as) ?_
        refine WL_stepM rfl (R_as) ?_
        refine WL_nil ?_
        refine W_ret ?_
        (have _g := hz; exact ⟨_, ⟨_, _, rfl, ldP (p := q) (H.get (.app _ .here)), rfl⟩, _, M, rfl, hO, hp_two H (by repeat' first | exact kNil | apply kCons | apply kApp | assumption | exact OwnS.keys (by assumption))⟩)
      · refine WL_stepM rfl (R_mv) ?_
        refine WL_step rfl (R_eq_f rfl rfl (by have := next_rng (q := q) (by omega); omega)) ?_
        refine WL_nil ?_
        refine W_cond_f rfl ?_
        refine W_skip ?_
        refine W_seq ?_
        (have hr := next_rng (q := q) (by omega); obtain ⟨j, hj, hcj⟩ := hF.pos (by omega); obtain rfl : j = 16 - (i + 1) := (by omega); rw [hj] at hF; refine W_draw (KH w [(c1, blk (piC q) 25)]) (fun i => Nat.ble 6 i) (by kernel_rfl) H ?_; clear H; intro w67 H)
        refine WA_take 0 rfl rfl rfl (by kernel_rfl) (by kernel_rfl) (H.kh (by simp) (by repeat' first | exact kNil | apply kCons | apply kApp | assumption | exact OwnS.keys (by assumption))) (fun _ hC => R_fieldAddr (off' := 4) Tryd.underlying25 rfl Tryd.sizeOf3 (by decide) rfl rfl) ?_
        refine WA_take 1 rfl rfl rfl (by kernel_rfl) (by kernel_rfl) (H.kh (by simp) (by repeat' first | exact kNil | apply kCons | apply kApp | assumption | exact OwnS.keys (by assumption))) (fun _ hC => R_load (v := I q.a.toInt) Tryd.isAgg3 rfl (hC.get .here) rfl) ?_
        refine WA_takeM 2 rfl rfl rfl (by kernel_rfl) (by kernel_rfl) (H.kh (by simp) (by repeat' first | exact kNil | apply kCons | apply kApp | assumption | exact OwnS.keys (by assumption))) (fun _ hC => R_mv) ?_
        refine WA_take 3 rfl rfl rfl (by kernel_rfl) (by kernel_rfl) (H.kh (by simp) (by repeat' first | exact kNil | apply kCons | apply kApp | assumption | exact OwnS.keys (by assumption))) (fun _ hC => R_shl (r := (bitN (nextN q)).toInt) rfl rfl (by omega) (bit_shl (by omega))) ?_
        refine WA_take 4 rfl rfl rfl (by kernel_rfl) (by kernel_rfl) (H.kh (by simp) (by repeat' first | exact kNil | apply kCons | apply kApp | assumption | exact OwnS.keys (by assumption))) (fun _ hC => R_bits rfl rfl (by simp) (bv_andNot q.a (bitN (nextN q)))) ?_
        refine WA_take 5 rfl rfl rfl (by kernel_rfl) (by kernel_rfl) (H.kh (by simp) (by repeat' first | exact kNil | apply kCons | apply kApp | assumption | exact OwnS.keys (by assumption))) (fun _ hC => R_fieldAddr (off' := 4) Tryd.underlying25 rfl Tryd.sizeOf3 (by decide) rfl rfl) ?_
        refine WA_one (i := 6) (by kernel_rfl) ?_
        (refine WI_effu rfl (.inl rfl) (E_store (v := I (q.a &&& ~~~ bitN (nextN q)).toInt) H Tryd.sizeOf3 rfl rfl rfl (.app _ (.there .here)) (by rw [piC_len]; omega)) (fun _ H => (by first | exact fun h => absurd h (by decide) | exact fun _ => H | exact fun _ => H.none (by repeat' first | exact kNil | apply kCons | apply kApp | assumption | exact OwnS.keys (by assumption)) | exact fun _ => H.dropN (by repeat' first | exact kNil | apply kCons | apply kApp | assumption | exact OwnS.keys (by assumption)) | exact fun _ => H.pop (by assumption) | exact fun _ => (H.pop (by assumption)).pop (by assumption) | exact fun _ => H.kp | exact fun _ => H.kp.tail | exact fun _ => H.kp.tail.tail | exact fun _ => H.kp.tail.tail.tail | exact fun _ => H.kp.sub (by simp) | exact fun _ => Kp.nil | exact fun _ => H.kh (by simp) (by repeat' first | exact kNil | apply kCons | apply kApp | assumption | exact OwnS.keys (by assumption)))) ?_; clear H; intro w75 H; rw [set_a] at H)
        refine WA_done (by kernel_rfl) ?_
        refine W_seq ?_
        refine W_region_l ?_
        refine WL_stepM rfl (R_mv) ?_
        refine WL_nil ?_
        refine W_block ?_
        refine W_seq ?_
        refine W_region_l ?_
        refine WL_step rfl (R_eq_f rfl rfl (by omega)) ?_
        refine WL_stepM rfl (R_as) ?_
        refine WL_nil ?_
        refine W_cond_f rfl ?_
        refine W_seq ?_
        refine W_region_l ?_
        refine WL_step rfl (R_eq_f rfl rfl (by omega)) ?_
        refine WL_stepM rfl (R_as) ?_
        refine WL_nil ?_
        refine W_cond_f rfl ?_
        refine W_seq ?_
        refine W_region_l ?_
        refine WL_step rfl (R_eq_f rfl rfl (by omega)) ?_
        refine WL_stepM rfl (R_as) ?_
        refine WL_nil ?_
        refine W_cond_f rfl ?_
        refine W_skip ?_
        refine W_region_l ?_
        refine WL_stepM rfl (R_mv) ?_
        refine WL_step rfl (R_add rfl rfl (w_i64 (by omega))) ?_
        refine WL_stepM rfl (R_as) ?_
        refine WL_nil ?_
        exact ⟨i + 1, by omega, _, _, _, _, by omega, rfl, rfl, rfl, rfl, hF.one hcj hw, hO, H⟩
      · refine WL_stepM rfl (R_mv) ?_
        refine WL_step rfl (R_eq_f rfl rfl (by have := next_rng (q := q) (by omega); omega)) ?_
        refine WL_nil ?_
        refine W_cond_f rfl ?_
        refine W_skip ?_
        refine W_seq ?_
        (have hr := next_rng (q := q) (by omega); obtain ⟨j, hj, hcj⟩ := hF.pos (by omega); obtain rfl : j = 16 - (i + 1) := (by omega); rw [hj] at hF; refine W_draw (KH w [(c1, blk (piC q) 25)]) (fun i => Nat.ble 6 i) (by kernel_rfl) H ?_; clear H; intro w113 H)
        refine WA_take 0 rfl rfl rfl (by kernel_rfl) (by kernel_rfl) (H.kh (by simp) (by repeat' first | exact kNil | apply kCons | apply kApp | assumption | exact OwnS.keys (by assumption))) (fun _ hC => R_fieldAddr (off' := 4) Tryd.underlying25 rfl Tryd.sizeOf3 (by decide) rfl rfl) ?_
        refine WA_take 1 rfl rfl rfl (by kernel_rfl) (by kernel_rfl) (H.kh (by simp) (by repeat' first | exact kNil | apply kCons | apply kApp | assumption | exact OwnS.keys (by assumption))) (fun _ hC => R_load (v := I q.a.toInt) Tryd.isAgg3 rfl (hC.get .here) rfl) ?_
        refine WA_takeM 2 rfl rfl rfl (by kernel_rfl) (by kernel_rfl) (H.kh (by simp) (by repeat' first | exact kNil | apply kCons | apply kApp | assumption | exact OwnS.keys (by assumption))) (fun _ hC => R_mv) ?_
        refine WA_take 3 rfl rfl rfl (by kernel_rfl) (by kernel_rfl) (H.kh (by simp) (by repeat' first | exact kNil | apply kCons | apply kApp | assumption | exact OwnS.keys (by assumption))) (fun _ hC => R_shl (r := (bitN (nextN q)).toInt) rfl rfl (by omega) (bit_shl (by omega))) ?_
        refine WA_take 4 rfl rfl rfl (by kernel_rfl) (by kernel_rfl) (H.kh (by simp) (by repeat' first | exact kNil | apply kCons | apply kApp | assumption | exact OwnS.keys (by assumption))) (fun _ hC => R_bits rfl rfl (by simp) (bv_andNot q.a (bitN (nextN q)))) ?_
        refine WA_take 5 rfl rfl rfl (by kernel_rfl) (by kernel_rfl) (H.kh (by simp) (by repeat' first | exact kNil | apply kCons | apply kApp | assumption | exact OwnS.keys (by assumption))) (fun _ hC => R_fieldAddr (off' := 4) Tryd.underlying25 rfl Tryd.sizeOf3 (by decide) rfl rfl) ?_
        refine WA_one (i := 6) (by kernel_rfl) ?_
        (refine WI_effu rfl (.inl rfl) (E_store (v := I (q.a &&& ~~~ bitN (nextN q)).toInt) H Tryd.sizeOf3 rfl rfl rfl (.app _ (.there .here)) (by rw [piC_len]; omega)) (fun _ H => (by first | exact fun h => absurd h (by decide) | exact fun _ => H | exact fun _ => H.none (by repeat' first | exact kNil | apply kCons | apply kApp | assumption | exact OwnS.keys (by assumption)) | exact fun _ => H.dropN (by repeat' first | exact kNil | apply kCons | apply kApp | assumption | exact OwnS.keys (by assumption)) | exact fun _ => H.pop (by assumption) | exact fun _ => (H.pop (by assumption)).pop (by assumption) | exact fun _ => H.kp | exact fun _ => H.kp.tail | exact fun _ => H.kp.tail.tail | exact fun _ => H.kp.tail.tail.tail | exact fun _ => H.kp.sub (by simp) | exact fun _ => Kp.nil | exact fun _ => H.kh (by simp) (by repeat' first | exact kNil | apply kCons | apply kApp | assumption | exact OwnS.keys (by assumption)))) ?_; clear H; intro w121 H; rw [set_a] at H)
        refine WA_done (by kernel_rfl) ?_
        refine W_seq ?_
        refine W_region_l ?_
        refine WL_stepM rfl (R_mv) ?_
        refine WL_nil ?_
        refine W_block ?_
        refine W_seq ?_
        refine W_region_l ?_
        refine WL_step rfl (R_eq_t rfl rfl (by omega)) ?_
        refine WL_stepM rfl (R_as) ?_
        refine WL_nil ?_
        refine W_cond_t rfl ?_
        refine W_region_l ?_
        refine WL_stepM rfl (R_mv) ?_
        refine WL_stepM rfl (R_mv) ?_
        (refine WL_effn rfl (E_buildOnes (vs := [(.int _ _)]) H Tryd.underlying22 Tryd.sizeOf3 Tryd.zeroValue3 rfl rfl (by decide) rfl rfl (by simp [Value.oneCell'])) ?_; clear H; intro b137 w137 hb137 H)
        (refine WL_effm rfl (E_append H (.there .here) hO Tryd.underlying22 Tryd.typeInfo3 rfl rfl rfl rfl rfl rfl (src_one Tryd.underlying22 (H.get .here) rfl) (by omega) (by simp only [Tryd.t3]; omega)) ?_; clear H hO; intro vN MN w138 hO H; replace H := H.pop (by assumption))
        refine WL_stepM rfl (R_as) ?_
        refine WL_nil ?_
        refine W_region_l ?_
        refine WL_stepM rfl (R_mv) ?_
        refine WL_step rfl (R_add rfl rfl (w_i64 (by omega))) ?_
        refine WL_stepM rfl (R_as) ?_
        refine WL_nil ?_
        exact ⟨i + 1, by omega, _, acc ++ [nextN q], _, _, by omega, rfl, rfl, rfl, rfl, hF.two hcj hw, (by rw [List.length_append, List.map_append]; exact hO), H⟩
      · refine WL_stepM rfl (R_mv) ?_
        refine WL_step rfl (R_eq_f rfl rfl (by have := next_rng (q := q) (by omega); omega)) ?_
        refine WL_nil ?_
        refine W_cond_f rfl ?_
        refine W_skip ?_
        refine W_seq ?_
        (have hr := next_rng (q := q) (by omega); obtain ⟨j, hj, hcj⟩ := hF.pos (by omega); obtain rfl : j = 16 - (i + 1) := (by omega); rw [hj] at hF; refine W_draw (KH w [(c1, blk (piC q) 25)]) (fun i => Nat.ble 6 i) (by kernel_rfl) H ?_; clear H; intro w153 H)
        refine WA_take 0 rfl rfl rfl (by kernel_rfl) (by kernel_rfl) (H.kh (by simp) (by repeat' first | exact kNil | apply kCons | apply kApp | assumption | exact OwnS.keys (by assumption))) (fun _ hC => R_fieldAddr (off' := 4) Tryd.underlying25 rfl Tryd.sizeOf3 (by decide) rfl rfl) ?_
        refine WA_take 1 rfl rfl rfl (by kernel_rfl) (by kernel_rfl) (H.kh (by simp) (by repeat' first | exact kNil | apply kCons | apply kApp | assumption | exact OwnS.keys (by assumption))) (fun _ hC => R_load (v := I q.a.toInt) Tryd.isAgg3 rfl (hC.get .here) rfl) ?_
        refine WA_takeM 2 rfl rfl rfl (by kernel_rfl) (by kernel_rfl) (H.kh (by simp) (by repeat' first | exact kNil | apply kCons | apply kApp | assumption | exact OwnS.keys (by assumption))) (fun _ hC => R_mv) ?_
        refine WA_take 3 rfl rfl rfl (by kernel_rfl) (by kernel_rfl) (H.kh (by simp) (by repeat' first | exact kNil | apply kCons | apply kApp | assumption | exact OwnS.keys (by assumption))) (fun _ hC => R_shl (r := (bitN (nextN q)).toInt) rfl rfl (by omega) (bit_shl (by omega))) ?_
        refine WA_take 4 rfl rfl rfl (by kernel_rfl) (by kernel_rfl) (H.kh (by simp) (by repeat' first | exact kNil | apply kCons | apply kApp | assumption | exact OwnS.keys (by assumption))) (fun _ hC => R_bits rfl rfl (by simp) (bv_andNot q.a (bitN (nextN q)))) ?_
        refine WA_take 5 rfl rfl rfl (by kernel_rfl) (by kernel_rfl) (H.kh (by simp) (by repeat' first | exact kNil | apply kCons | apply kApp | assumption | exact OwnS.keys (by assumption))) (fun _ hC => R_fieldAddr (off' := 4) Tryd.underlying25 rfl Tryd.sizeOf3 (by decide) rfl rfl) ?_
        refine WA_one (i := 6) (by kernel_rfl) ?_
        (refine WI_effu rfl (.inl rfl) (E_store (v := I (q.a &&& ~~~ bitN (nextN q)).toInt) H Tryd.sizeOf3 rfl rfl rfl (.app _ (.there .here)) (by rw [piC_len]; omega)) (fun _ H => (by first | exact fun h => absurd h (by decide) | exact fun _ => H | exact fun _ => H.none (by repeat' first | exact kNil | apply kCons | apply kApp | assumption | exact OwnS.keys (by assumption)) | exact fun _ => H.dropN (by repeat' first | exact kNil | apply kCons | apply kApp | assumption | exact OwnS.keys (by assumption)) | exact fun _ => H.pop (by assumption) | exact fun _ => (H.pop (by assumption)).pop (by assumption) | exact fun _ => H.kp | exact fun _ => H.kp.tail | exact fun _ => H.kp.tail.tail | exact fun _ => H.kp.tail.tail.tail | exact fun _ => H.kp.sub (by simp) | exact fun _ => Kp.nil | exact fun _ => H.kh (by simp) (by repeat' first | exact kNil | apply kCons | apply kApp | assumption | exact OwnS.keys (by assumption)))) ?_; clear H; intro w161 H; rw [set_a] at H)
        refine WA_done (by kernel_rfl) ?_
        refine W_seq ?_
        refine W_region_l ?_
        refine WL_stepM rfl (R_mv) ?_
        refine WL_nil ?_
        refine W_block ?_
        refine W_seq ?_
        refine W_region_l ?_
        refine WL_step rfl (R_eq_f rfl rfl (by omega)) ?_
        refine WL_stepM rfl (R_as) ?_
        refine WL_nil ?_
        refine W_cond_f rfl ?_
        refine W_seq ?_
        refine W_region_l ?_
        refine WL_step rfl (R_eq_t rfl rfl (by omega)) ?_
        refine WL_stepM rfl (R_as) ?_
        refine WL_nil ?_
        refine W_cond_t rfl ?_
        refine W_seq ?_
        refine W_region_l ?_
        refine WL_step rfl (R_fieldAddr (off' := 0) Tryd.underlying25 rfl Tryd.sizeOf3 (by decide) rfl rfl) ?_
        (refine WL_effu rfl (E_store (v := I 3) H Tryd.sizeOf3 rfl rfl rfl (.app _ (.there .here)) (by rw [piC_len]; omega)) ?_; clear H; intro w183 H; rw [set_s] at H)
        refine WL_nil ?_
        refine W_seq ?_
        ((have e := deliv_3 (n := 16 - (i + 1)) hw; have e2 := hF.2.2; rw [e] at e2; rw [e2, List.append_nil])) <;> refine W_region_l ?_
        refine WL_step rfl (R_loadP rfl (H.get (.app _ (.there .here)))) ?_
        refine WL_stepM rfl (R_mv) ?_
        (refine WL_effu rfl (E_storeP (q := { clr q (nextN q) with s := 3 }) H rfl rfl (.app _ .here)) ?_; clear H; intro w189 H)
        refine WL_stepM rfl (R_as) ?_
        refine WL_stepM rfl (R_as) ?_
        refine WL_nil ?_
        refine W_ret ?_
        exact ⟨_, ⟨_, _, rfl, ldP (p := { clr q (nextN q) with s := 3 }) (H.get (.app _ .here)), rfl⟩, _, M, rfl, hO, hp_two H (by repeat' first | exact kNil | apply kCons | apply kApp | assumption | exact OwnS.keys (by assumption))⟩
      · refine WL_stepM rfl (R_mv) ?_
        refine WL_step rfl (R_eq_f rfl rfl (by have := next_rng (q := q) (by omega); omega)) ?_
        refine WL_nil ?_
        refine W_cond_f rfl ?_
        refine W_skip ?_
        refine W_seq ?_
        (have hr := next_rng (q := q) (by omega); obtain ⟨j, hj, hcj⟩ := hF.pos (by omega); obtain rfl : j = 16 - (i + 1) := (by omega); rw [hj] at hF; refine W_draw (KH w [(c1, blk (piC q) 25)]) (fun i => Nat.ble 6 i) (by kernel_rfl) H ?_; clear H; intro w201 H)
        refine WA_take 0 rfl rfl rfl (by kernel_rfl) (by kernel_rfl) (H.kh (by simp) (by repeat' first | exact kNil | apply kCons | apply kApp | assumption | exact OwnS.keys (by assumption))) (fun _ hC => R_fieldAddr (off' := 4) Tryd.underlying25 rfl Tryd.sizeOf3 (by decide) rfl rfl) ?_
        refine WA_take 1 rfl rfl rfl (by kernel_rfl) (by kernel_rfl) (H.kh (by simp) (by repeat' first | exact kNil | apply kCons | apply kApp | assumption | exact OwnS.keys (by assumption))) (fun _ hC => R_load (v := I q.a.toInt) Tryd.isAgg3 rfl (hC.get .here) rfl) ?_
        refine WA_takeM 2 rfl rfl rfl (by kernel_rfl) (by kernel_rfl) (H.kh (by simp) (by repeat' first | exact kNil | apply kCons | apply kApp | assumption | exact OwnS.keys (by assumption))) (fun _ hC => R_mv) ?_
        refine WA_take 3 rfl rfl rfl (by kernel_rfl) (by kernel_rfl) (H.kh (by simp) (by repeat' first | exact kNil | apply kCons | apply kApp | assumption | exact OwnS.keys (by assumption))) (fun _ hC => R_shl (r := (bitN (nextN q)).toInt) rfl rfl (by omega) (bit_shl (by omega))) ?_
        refine WA_take 4 rfl rfl rfl (by kernel_rfl) (by kernel_rfl) (H.kh (by simp) (by repeat' first | exact kNil | apply kCons | apply kApp | assumption | exact OwnS.keys (by assumption))) (fun _ hC => R_bits rfl rfl (by simp) (bv_andNot q.a (bitN (nextN q)))) ?_
        refine WA_take 5 rfl rfl rfl (by kernel_rfl) (by kernel_rfl) (H.kh (by simp) (by repeat' first | exact kNil | apply kCons | apply kApp | assumption | exact OwnS.keys (by assumption))) (fun _ hC => R_fieldAddr (off' := 4) Tryd.underlying25 rfl Tryd.sizeOf3 (by decide) rfl rfl) ?_
        refine WA_one (i := 6) (by kernel_rfl) ?_
        (refine WI_effu rfl (.inl rfl) (E_store (v := I (q.a &&& ~~~ bitN (nextN q)).toInt) H Tryd.sizeOf3 rfl rfl rfl (.app _ (.there .here)) (by rw [piC_len]; omega)) (fun _ H => (by first | exact fun h => absurd h (by decide) | exact fun _ => H | exact fun _ => H.none (by repeat' first | exact kNil | apply kCons | apply kApp | assumption | exact OwnS.keys (by assumption)) | exact fun _ => H.dropN (by repeat' first | exact kNil | apply kCons | apply kApp | assumption | exact OwnS.keys (by assumption)) | exact fun _ => H.pop (by assumption) | exact fun _ => (H.pop (by assumption)).pop (by assumption) | exact fun _ => H.kp | exact fun _ => H.kp.tail | exact fun _ => H.kp.tail.tail | exact fun _ => H.kp.tail.tail.tail | exact fun _ => H.kp.sub (by simp) | exact fun _ => Kp.nil | exact fun _ => H.kh (by simp) (by repeat' first | exact kNil | apply kCons | apply kApp | assumption | exact OwnS.keys (by assumption)))) ?_; clear H; intro w209 H; rw [set_a] at H)
        refine WA_done (by kernel_rfl) ?_
        refine W_seq ?_
        refine W_region_l ?_
        refine WL_stepM rfl (R_mv) ?_
        refine WL_nil ?_
        refine W_block ?_
        refine W_seq ?_
        refine W_region_l ?_
        refine WL_step rfl (R_eq_f rfl rfl (by omega)) ?_
        refine WL_stepM rfl (R_as) ?_
        refine WL_nil ?_
        refine W_cond_f rfl ?_
        refine W_seq ?_
        refine W_region_l ?_
        refine WL_step rfl (R_eq_f rfl rfl (by omega)) ?_
        refine WL_stepM rfl (R_as) ?_
        refine WL_nil ?_
        refine W_cond_f rfl ?_
        refine W_seq ?_
        refine W_region_l ?_
        refine WL_step rfl (R_eq_t rfl rfl (by omega)) ?_
        refine WL_stepM rfl (R_as) ?_
        refine WL_nil ?_
        refine W_cond_t rfl ?_
        refine W_seq ?_
        ((have e := hF.four hw; rw [e])) <;> refine W_region_l ?_
        refine WL_step rfl (R_loadP rfl (H.get (.app _ (.there .here)))) ?_
        refine WL_stepM rfl (R_mv) ?_
        refine WL_stepM rfl (R_mv) ?_
        (refine WL_effu rfl (E_storeP (q := clr q (nextN q)) H rfl rfl (.app _ .here)) ?_; clear H; intro w239 H)
        refine WL_stepM rfl (R_as) ?_
        refine WL_stepM rfl (R_as) ?_
        refine WL_nil ?_
        refine W_ret ?_
        exact ⟨_, ⟨_, _, rfl, ldP (p := clr q (nextN q)) (H.get (.app _ .here)), rfl⟩, _, M, rfl, hO, hp_two H (by repeat' first | exact kNil | apply kCons | apply kApp | assumption | exact OwnS.keys (by assumption))⟩
    · refine W_seq ?_
      refine W_seq ?_
      refine W_region_l ?_
      refine WL_stepM rfl (R_mv) ?_
      refine WL_step rfl (R_lt_f rfl rfl (by omega)) ?_
      refine WL_nil ?_
      refine W_cond_f rfl ?_
      refine W_exit ?_
      refine (if_pos rfl).mpr ?_
      refine W_seq ?_
      ((have hz : nextW q = 0 := (by first | exact hw | exact cnt_zero (by have := hF.1; omega)); have e := hF.done hz; rw [e])) <;> refine W_region_l ?_
      refine WL_step rfl (R_loadP rfl (H.get (.app _ (.there .here)))) ?_
      refine WL_stepM rfl (R_mv) ?_
      (have _g := hz; refine WL_effu rfl (E_storeP (q := q) H rfl rfl (.app _ .here)) ?_; clear H; intro w258 H)
      refine WL_stepM rfl (R_as) ?_
      refine WL_stepM rfl (R_as) ?_
      refine WL_nil ?_
      refine W_ret ?_
      (have _g := hz; exact ⟨_, ⟨_, _, rfl, ldP (p := q) (H.get (.app _ .here)), rfl⟩, _, M, rfl, hO, hp_two H (by repeat' first | exact kNil | apply kCons | apply kApp | assumption | exact OwnS.keys (by assumption))⟩)
end Go.Proofs.YtneeoicjipglkaaDoor.Slot

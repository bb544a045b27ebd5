/-
  Records that are bad, told.
-/
import Derived.Test.YthonajikgljgmaaGreatAudM2
import Derived.Test.YthonajikgljgmaaGreatFxU
namespace Go.Proofs.YthonajikgljgmaaGreat.Aud
open Go Go.Proofs Go.Proofs.YthonajikgljgmaaGreat.Fx
set_option maxRecDepth 100000
set_option linter.unusedVariables false
set_option linter.unusedSimpArgs false
set_option maxHeartbeats 8000000

def recC (r : Int × Int) : List Value := [I r.1, I r.2]
theorem recC_len (r : Int × Int) : (recC r).length = 2 := rfl
theorem recC_one (r : Int × Int) : ∀ u ∈ recC r, u.oneCell' = true := by
  intro u hu
  simp only [recC, List.mem_cons, List.not_mem_nil, or_false] at hu
  rcases hu with rfl | rfl <;> rfl
/-- those of a kind that are bad -/
def badN (K : Int) (is : Nat → Int) (n : Nat) : List (Int × Int) := ((List.range n).filter fun j => decide (is j = 2)).map fun (j : Nat) => (K, (j : Int))
theorem badN_yes {K : Int} {is : Nat → Int} {n : Nat} (h : is n = 2) : badN K is (n + 1) = badN K is n ++ [(K, (n : Int))] := by
  unfold badN; rw [List.range_succ, List.filter_append, List.map_append, List.filter_cons_of_pos (by simpa using h)]; rfl
theorem badN_no {K : Int} {is : Nat → Int} {n : Nat} (h : is n ≠ 2) : badN K is (n + 1) = badN K is n := by
  unfold badN; rw [List.range_succ, List.filter_append, List.map_append, List.filter_cons_of_neg (by simpa using h)]; simp
theorem badN_le (K : Int) (is : Nat → Int) (n : Nat) : (badN K is n).length ≤ n := by
  unfold badN; rw [List.length_map]; refine Nat.le_trans (List.length_filter_le ..) ?_; simp
theorem badP_ret {w : World} {u1 u2 : Value} {is : Nat → Int} {n : Nat} (K : Int) (h : RdS w u2 ((List.range n).map fun j => I (is j))) (hn : n ≤ 100) :
    Ret Tryz.prog 32 #[.agg #[u1, u2], I K] w fun v w' => ∃ M, OwnS w.heap.size 32 2 v (badN K is n).length (rows recC (badN K is n)) M ∧ Hp w M w' := by
  refine Ret_of_W (args := [_, _]) Tryz.func32 rfl Tryz.ntmps32 Tryz.results32 (by simp) ?_
  have H := Hp.refl w
  obtain ⟨ao, ca, rfl, hca, hra⟩ := id h
  simp only [List.length_map, List.length_range] at h ⊢
  have hO := OwnS.nil w.heap.size 32 2
  refine W_seq ?_
  refine W_region_l ?_
  (refine WL_effn rfl (E_box (vs := [u1, .slice ao n ca]) H rfl rfl) ?_; clear H; intro c2 w3 hc2 H)
  refine WL_stepM rfl (R_as) ?_
  refine WL_nil ?_
  refine W_seq ?_
  refine W_region_l ?_
  refine WL_stepM rfl (R_as) ?_
  refine WL_nil ?_
  refine W_seq ?_
  refine W_seq ?_
  refine W_region_l ?_
  refine WL_step rfl (R_fieldAddr (off' := 1) Tryz.underlying80 rfl Tryz.sizeOf52 (by decide) rfl rfl) ?_
  refine WL_step rfl (R_load Tryz.isAgg52 rfl (H.get .here) rfl) ?_
  refine WL_step rfl (R_len_slice Tryz.underlying52 rfl) ?_
  refine WL_stepM rfl (R_mv) ?_
  refine WL_nil ?_
  refine W_block ?_
  refine W_loopS [(5, 7), (11, 24)] (fun (i : Nat) E w' => ∃ (v5 : Value) (M : List (Nat × Obj)), i ≤ n ∧ E 11 = I i ∧ E 5 = v5 ∧ OwnS w.heap.size 32 2 v5 (badN K is i).length (rows recC (badN K is i)) M ∧ Hp w ((c2, blk [u1, .slice ao n ca] 80) :: M) w') (fun i => n - i) 0 ?e0 ?r0
  · exact ⟨_, [], by omega, rfl, rfl, hO, H⟩
  · (clear H hO; rintro i E w1 ⟨v5, M, hi, h11, h5, hO, H⟩; obtain ⟨a5, k5, rfl⟩ := hO.form; have hle := badN_le K is i; have hOk := hO.keys; refine W_kn2 h11 h5 ?_)
    refine W_seq ?_
    refine W_region_l ?_
    refine WL_step rfl (R_lt rfl rfl) ?_
    refine WL_nil ?_
    refine W_seq ?_
    refine W_if rfl (fun h26 => ?_) (fun h26 => ?_)
    · refine W_skip ?_
      refine W_seq ?_
      refine W_block ?_
      refine W_seq ?_
      ((obtain ⟨b1, o1, rfl, hc1⟩ := h.cell (i := i) (u := I (is i)) (by rw [List.getElem?_map, List.getElem?_range (by omega)]; rfl); obtain ⟨z, hz⟩ : ∃ z, is i = z := ⟨_, rfl⟩; rw [hz] at hc1)) <;> refine W_region_l ?_
      refine WL_stepM rfl (R_mv) ?_
      refine WL_step rfl (R_indexAddr Tryz.underlying52 Tryz.sizeOf3 rfl rfl (by omega) (by omega) idx_cast1) ?_
      refine WL_step rfl (R_load_cell Tryz.isAgg3 rfl (H.cellN hc1 (by repeat' first | exact kNil | apply kCons | apply kApp | assumption | exact OwnS.keys (by assumption)))) ?_
      refine WL_stepM rfl (R_as) ?_
      refine WL_stepM rfl (R_as) ?_
      refine WL_nil ?_
      refine W_seq ?_
      refine W_region_l ?_
      refine WL_stepM rfl (R_mv) ?_
      refine WL_step rfl (R_eq rfl rfl) ?_
      refine WL_nil ?_
      refine W_if rfl (fun h43 => ?_) (fun h43 => ?_)
      · refine W_region_l ?_
        refine WL_stepM rfl (R_mv) ?_
        refine WL_stepM rfl (R_mv) ?_
        refine WL_stepM rfl (R_mv) ?_
        refine WL_step rfl (R_buildL (places := [(0, 1), (1, 1)]) (vs := recC (K, (i : Int))) Tryz.underlying32 Tryz.typeInfo32 rfl rfl (by kernel_rfl) rfl rfl rfl) ?_
        (refine WL_effn rfl (E_buildRows (vss := [recC (K, (i : Int))]) H Tryz.underlying33 Tryz.sizeOf32 Tryz.zeroValue32 rfl rfl (by decide) rfl rfl (by simp [recC])) ?_; clear H; intro b22 w49 hb22 H)
        (refine WL_effm rfl (E_append (news := recC (K, (i : Int))) H (.there (.there .last)) hO Tryz.underlying33 Tryz.typeInfo32 rfl rfl rfl rfl rfl rfl (src_blk (m := 1) (sp := []) Tryz.underlying33 (H.get .here) rfl (recC_one _)) (by omega) (by simp only [Tryz.t32]; omega)) ?_; clear H; intro vN MN w50 hON H)
        refine WL_stepM rfl (R_as) ?_
        refine WL_nil ?_
        refine W_region_l ?_
        refine WL_step rfl (R_add rfl rfl (w_i64 (by omega))) ?_
        refine WL_stepM rfl (R_mv) ?_
        refine WL_nil ?_
        (have hy := badN_yes (K := K) (is := is) (n := i) (by omega); exact ⟨(same_mov rfl (same_updo rfl (same_mov rfl (same_updo rfl (same_updo rfl (same_updo rfl (same_mov rfl (same_mov rfl (same_mov rfl (same_know rfl (same_updo rfl (same_mov rfl (same_mov rfl (same_mov rfl (same_updo rfl (same_updo rfl (same_mov rfl (same_know rfl (same_updo rfl same_ovr))))))))))))))))))), i + 1, by omega, _, MN, by omega, rfl, rfl, (by rw [hy, List.length_append, rows_append]; exact hON), H.pop (by assumption)⟩)
      · refine W_skip ?_
        refine W_region_l ?_
        refine WL_step rfl (R_add rfl rfl (w_i64 (by omega))) ?_
        refine WL_stepM rfl (R_mv) ?_
        refine WL_nil ?_
        (have hy := badN_no (K := K) (is := is) (n := i) (by omega); exact ⟨(same_mov rfl (same_updo rfl (same_know rfl (same_updo rfl (same_mov rfl (same_mov rfl (same_mov rfl (same_updo rfl (same_updo rfl (same_mov rfl (same_know rfl (same_updo rfl same_ovr)))))))))))), i + 1, by omega, _, M, by omega, rfl, rfl, (by rw [hy]; exact hO), H⟩)
    · refine W_exit ?_
      refine (if_pos rfl).mpr ?_
      refine W_seq ?_
      ((obtain rfl : i = n := (by omega))) <;> refine W_region_l ?_
      refine WL_stepM rfl (R_mv) ?_
      refine WL_stepM rfl (R_as) ?_
      refine WL_nil ?_
      refine W_ret ?_
      exact ⟨_, rfl, _, hO, H.pop (by assumption)⟩
theorem badF_ret {w : World} {u1 u2 : Value} {is : Nat → Int} {n : Nat} (K : Int) (h : RdS w u2 ((List.range n).map fun j => I (is j))) (hn : n ≤ 100) :
    Ret Tryz.prog 33 #[.agg #[u1, u2], I K] w fun v w' => ∃ M, OwnS w.heap.size 32 2 v (badN K is n).length (rows recC (badN K is n)) M ∧ Hp w M w' := by
  refine Ret_of_W (args := [_, _]) Tryz.func33 rfl Tryz.ntmps33 Tryz.results33 (by simp) ?_
  have H := Hp.refl w
  obtain ⟨ao, ca, rfl, hca, hra⟩ := id h
  simp only [List.length_map, List.length_range] at h ⊢
  have hO := OwnS.nil w.heap.size 32 2
  refine W_seq ?_
  refine W_region_l ?_
  (refine WL_effn rfl (E_box (vs := [u1, .slice ao n ca]) H rfl rfl) ?_; clear H; intro c2 w3 hc2 H)
  refine WL_stepM rfl (R_as) ?_
  refine WL_nil ?_
  refine W_seq ?_
  refine W_region_l ?_
  refine WL_stepM rfl (R_as) ?_
  refine WL_nil ?_
  refine W_seq ?_
  refine W_seq ?_
  refine W_region_l ?_
  refine WL_step rfl (R_fieldAddr (off' := 1) Tryz.underlying83 rfl Tryz.sizeOf52 (by decide) rfl rfl) ?_
  refine WL_step rfl (R_load Tryz.isAgg52 rfl (H.get .here) rfl) ?_
  refine WL_step rfl (R_len_slice Tryz.underlying52 rfl) ?_
  refine WL_stepM rfl (R_mv) ?_
  refine WL_nil ?_
  refine W_block ?_
  refine W_loopS [(5, 7), (11, 24)] (fun (i : Nat) E w' => ∃ (v5 : Value) (M : List (Nat × Obj)), i ≤ n ∧ E 11 = I i ∧ E 5 = v5 ∧ OwnS w.heap.size 32 2 v5 (badN K is i).length (rows recC (badN K is i)) M ∧ Hp w ((c2, blk [u1, .slice ao n ca] 83) :: M) w') (fun i => n - i) 0 ?e0 ?r0
  · exact ⟨_, [], by omega, rfl, rfl, hO, H⟩
  · (clear H hO; rintro i E w1 ⟨v5, M, hi, h11, h5, hO, H⟩; obtain ⟨a5, k5, rfl⟩ := hO.form; have hle := badN_le K is i; have hOk := hO.keys; refine W_kn2 h11 h5 ?_)
    refine W_seq ?_
    refine W_region_l ?_
    refine WL_step rfl (R_lt rfl rfl) ?_
    refine WL_nil ?_
    refine W_seq ?_
    refine W_if rfl (fun h26 => ?_) (fun h26 => ?_)
    · refine W_skip ?_
      refine W_seq ?_
      refine W_block ?_
      refine W_seq ?_
      ((obtain ⟨b1, o1, rfl, hc1⟩ := h.cell (i := i) (u := I (is i)) (by rw [List.getElem?_map, List.getElem?_range (by omega)]; rfl); obtain ⟨z, hz⟩ : ∃ z, is i = z := ⟨_, rfl⟩; rw [hz] at hc1)) <;> refine W_region_l ?_
      refine WL_stepM rfl (R_mv) ?_
      refine WL_step rfl (R_indexAddr Tryz.underlying52 Tryz.sizeOf3 rfl rfl (by omega) (by omega) idx_cast1) ?_
      refine WL_step rfl (R_load_cell Tryz.isAgg3 rfl (H.cellN hc1 (by repeat' first | exact kNil | apply kCons | apply kApp | assumption | exact OwnS.keys (by assumption)))) ?_
      refine WL_stepM rfl (R_as) ?_
      refine WL_stepM rfl (R_as) ?_
      refine WL_nil ?_
      refine W_seq ?_
      refine W_region_l ?_
      refine WL_stepM rfl (R_mv) ?_
      refine WL_step rfl (R_eq rfl rfl) ?_
      refine WL_nil ?_
      refine W_if rfl (fun h43 => ?_) (fun h43 => ?_)
      · refine W_region_l ?_
        refine WL_stepM rfl (R_mv) ?_
        refine WL_stepM rfl (R_mv) ?_
        refine WL_stepM rfl (R_mv) ?_
        refine WL_step rfl (R_buildL (places := [(0, 1), (1, 1)]) (vs := recC (K, (i : Int))) Tryz.underlying32 Tryz.typeInfo32 rfl rfl (by kernel_rfl) rfl rfl rfl) ?_
        (refine WL_effn rfl (E_buildRows (vss := [recC (K, (i : Int))]) H Tryz.underlying33 Tryz.sizeOf32 Tryz.zeroValue32 rfl rfl (by decide) rfl rfl (by simp [recC])) ?_; clear H; intro b22 w49 hb22 H)
        (refine WL_effm rfl (E_append (news := recC (K, (i : Int))) H (.there (.there .last)) hO Tryz.underlying33 Tryz.typeInfo32 rfl rfl rfl rfl rfl rfl (src_blk (m := 1) (sp := []) Tryz.underlying33 (H.get .here) rfl (recC_one _)) (by omega) (by simp only [Tryz.t32]; omega)) ?_; clear H; intro vN MN w50 hON H)
        refine WL_stepM rfl (R_as) ?_
        refine WL_nil ?_
        refine W_region_l ?_
        refine WL_step rfl (R_add rfl rfl (w_i64 (by omega))) ?_
        refine WL_stepM rfl (R_mv) ?_
        refine WL_nil ?_
        (have hy := badN_yes (K := K) (is := is) (n := i) (by omega); exact ⟨(same_mov rfl (same_updo rfl (same_mov rfl (same_updo rfl (same_updo rfl (same_updo rfl (same_mov rfl (same_mov rfl (same_mov rfl (same_know rfl (same_updo rfl (same_mov rfl (same_mov rfl (same_mov rfl (same_updo rfl (same_updo rfl (same_mov rfl (same_know rfl (same_updo rfl same_ovr))))))))))))))))))), i + 1, by omega, _, MN, by omega, rfl, rfl, (by rw [hy, List.length_append, rows_append]; exact hON), H.pop (by assumption)⟩)
      · refine W_skip ?_
        refine W_region_l ?_
        refine WL_step rfl (R_add rfl rfl (w_i64 (by omega))) ?_
        refine WL_stepM rfl (R_mv) ?_
        refine WL_nil ?_
        (have hy := badN_no (K := K) (is := is) (n := i) (by omega); exact ⟨(same_mov rfl (same_updo rfl (same_know rfl (same_updo rfl (same_mov rfl (same_mov rfl (same_mov rfl (same_updo rfl (same_updo rfl (same_mov rfl (same_know rfl (same_updo rfl same_ovr)))))))))))), i + 1, by omega, _, M, by omega, rfl, rfl, (by rw [hy]; exact hO), H⟩)
    · refine W_exit ?_
      refine (if_pos rfl).mpr ?_
      refine W_seq ?_
      ((obtain rfl : i = n := (by omega))) <;> refine W_region_l ?_
      refine WL_stepM rfl (R_mv) ?_
      refine WL_stepM rfl (R_as) ?_
      refine WL_nil ?_
      refine W_ret ?_
      exact ⟨_, rfl, _, hO, H.pop (by assumption)⟩
theorem badQ_ret {w : World} {u1 u2 : Value} {is : Nat → Int} {n : Nat} (K : Int) (h : RdS w u2 ((List.range n).map fun j => I (is j))) (hn : n ≤ 100) :
    Ret Tryz.prog 34 #[.agg #[u1, u2], I K] w fun v w' => ∃ M, OwnS w.heap.size 32 2 v (badN K is n).length (rows recC (badN K is n)) M ∧ Hp w M w' := by
  refine Ret_of_W (args := [_, _]) Tryz.func34 rfl Tryz.ntmps34 Tryz.results34 (by simp) ?_
  have H := Hp.refl w
  obtain ⟨ao, ca, rfl, hca, hra⟩ := id h
  simp only [List.length_map, List.length_range] at h ⊢
  have hO := OwnS.nil w.heap.size 32 2
  refine W_seq ?_
  refine W_region_l ?_
  (refine WL_effn rfl (E_box (vs := [u1, .slice ao n ca]) H rfl rfl) ?_; clear H; intro c2 w3 hc2 H)
  refine WL_stepM rfl (R_as) ?_
  refine WL_nil ?_
  refine W_seq ?_
  refine W_region_l ?_
  refine WL_stepM rfl (R_as) ?_
  refine WL_nil ?_
  refine W_seq ?_
  refine W_seq ?_
  refine W_region_l ?_
  refine WL_step rfl (R_fieldAddr (off' := 1) Tryz.underlying86 rfl Tryz.sizeOf52 (by decide) rfl rfl) ?_
  refine WL_step rfl (R_load Tryz.isAgg52 rfl (H.get .here) rfl) ?_
  refine WL_step rfl (R_len_slice Tryz.underlying52 rfl) ?_
  refine WL_stepM rfl (R_mv) ?_
  refine WL_nil ?_
  refine W_block ?_
  refine W_loopS [(5, 7), (11, 24)] (fun (i : Nat) E w' => ∃ (v5 : Value) (M : List (Nat × Obj)), i ≤ n ∧ E 11 = I i ∧ E 5 = v5 ∧ OwnS w.heap.size 32 2 v5 (badN K is i).length (rows recC (badN K is i)) M ∧ Hp w ((c2, blk [u1, .slice ao n ca] 86) :: M) w') (fun i => n - i) 0 ?e0 ?r0
  · exact ⟨_, [], by omega, rfl, rfl, hO, H⟩
  · (clear H hO; rintro i E w1 ⟨v5, M, hi, h11, h5, hO, H⟩; obtain ⟨a5, k5, rfl⟩ := hO.form; have hle := badN_le K is i; have hOk := hO.keys; refine W_kn2 h11 h5 ?_)
    refine W_seq ?_
    refine W_region_l ?_
    refine WL_step rfl (R_lt rfl rfl) ?_
    refine WL_nil ?_
    refine W_seq ?_
    refine W_if rfl (fun h26 => ?_) (fun h26 => ?_)
    · refine W_skip ?_
      refine W_seq ?_
      refine W_block ?_
      refine W_seq ?_
      ((obtain ⟨b1, o1, rfl, hc1⟩ := h.cell (i := i) (u := I (is i)) (by rw [List.getElem?_map, List.getElem?_range (by omega)]; rfl); obtain ⟨z, hz⟩ : ∃ z, is i = z := ⟨_, rfl⟩; rw [hz] at hc1)) <;> refine W_region_l ?_
      refine WL_stepM rfl (R_mv) ?_
      refine WL_step rfl (R_indexAddr Tryz.underlying52 Tryz.sizeOf3 rfl rfl (by omega) (by omega) idx_cast1) ?_
      refine WL_step rfl (R_load_cell Tryz.isAgg3 rfl (H.cellN hc1 (by repeat' first | exact kNil | apply kCons | apply kApp | assumption | exact OwnS.keys (by assumption)))) ?_
      refine WL_stepM rfl (R_as) ?_
      refine WL_stepM rfl (R_as) ?_
      refine WL_nil ?_
      refine W_seq ?_
      refine W_region_l ?_
      refine WL_stepM rfl (R_mv) ?_
      refine WL_step rfl (R_eq rfl rfl) ?_
      refine WL_nil ?_
      refine W_if rfl (fun h43 => ?_) (fun h43 => ?_)
      · refine W_region_l ?_
        refine WL_stepM rfl (R_mv) ?_
        refine WL_stepM rfl (R_mv) ?_
        refine WL_stepM rfl (R_mv) ?_
        refine WL_step rfl (R_buildL (places := [(0, 1), (1, 1)]) (vs := recC (K, (i : Int))) Tryz.underlying32 Tryz.typeInfo32 rfl rfl (by kernel_rfl) rfl rfl rfl) ?_
        (refine WL_effn rfl (E_buildRows (vss := [recC (K, (i : Int))]) H Tryz.underlying33 Tryz.sizeOf32 Tryz.zeroValue32 rfl rfl (by decide) rfl rfl (by simp [recC])) ?_; clear H; intro b22 w49 hb22 H)
        (refine WL_effm rfl (E_append (news := recC (K, (i : Int))) H (.there (.there .last)) hO Tryz.underlying33 Tryz.typeInfo32 rfl rfl rfl rfl rfl rfl (src_blk (m := 1) (sp := []) Tryz.underlying33 (H.get .here) rfl (recC_one _)) (by omega) (by simp only [Tryz.t32]; omega)) ?_; clear H; intro vN MN w50 hON H)
        refine WL_stepM rfl (R_as) ?_
        refine WL_nil ?_
        refine W_region_l ?_
        refine WL_step rfl (R_add rfl rfl (w_i64 (by omega))) ?_
        refine WL_stepM rfl (R_mv) ?_
        refine WL_nil ?_
        (have hy := badN_yes (K := K) (is := is) (n := i) (by omega); exact ⟨(same_mov rfl (same_updo rfl (same_mov rfl (same_updo rfl (same_updo rfl (same_updo rfl (same_mov rfl (same_mov rfl (same_mov rfl (same_know rfl (same_updo rfl (same_mov rfl (same_mov rfl (same_mov rfl (same_updo rfl (same_updo rfl (same_mov rfl (same_know rfl (same_updo rfl same_ovr))))))))))))))))))), i + 1, by omega, _, MN, by omega, rfl, rfl, (by rw [hy, List.length_append, rows_append]; exact hON), H.pop (by assumption)⟩)
      · refine W_skip ?_
        refine W_region_l ?_
        refine WL_step rfl (R_add rfl rfl (w_i64 (by omega))) ?_
        refine WL_stepM rfl (R_mv) ?_
        refine WL_nil ?_
        (have hy := badN_no (K := K) (is := is) (n := i) (by omega); exact ⟨(same_mov rfl (same_updo rfl (same_know rfl (same_updo rfl (same_mov rfl (same_mov rfl (same_mov rfl (same_updo rfl (same_updo rfl (same_mov rfl (same_know rfl (same_updo rfl same_ovr)))))))))))), i + 1, by omega, _, M, by omega, rfl, rfl, (by rw [hy]; exact hO), H⟩)
    · refine W_exit ?_
      refine (if_pos rfl).mpr ?_
      refine W_seq ?_
      ((obtain rfl : i = n := (by omega))) <;> refine W_region_l ?_
      refine WL_stepM rfl (R_mv) ?_
      refine WL_stepM rfl (R_as) ?_
      refine WL_nil ?_
      refine W_ret ?_
      exact ⟨_, rfl, _, hO, H.pop (by assumption)⟩
theorem badG_ret {w : World} {u1 u2 : Value} {is : Nat → Int} {n : Nat} (K : Int) (h : RdS w u2 ((List.range n).map fun j => I (is j))) (hn : n ≤ 100) :
    Ret Tryz.prog 35 #[.agg #[u1, u2], I K] w fun v w' => ∃ M, OwnS w.heap.size 32 2 v (badN K is n).length (rows recC (badN K is n)) M ∧ Hp w M w' := by
  refine Ret_of_W (args := [_, _]) Tryz.func35 rfl Tryz.ntmps35 Tryz.results35 (by simp) ?_
  have H := Hp.refl w
  obtain ⟨ao, ca, rfl, hca, hra⟩ := id h
  simp only [List.length_map, List.length_range] at h ⊢
  have hO := OwnS.nil w.heap.size 32 2
  refine W_seq ?_
  refine W_region_l ?_
  (refine WL_effn rfl (E_box (vs := [u1, .slice ao n ca]) H rfl rfl) ?_; clear H; intro c2 w3 hc2 H)
  refine WL_stepM rfl (R_as) ?_
  refine WL_nil ?_
  refine W_seq ?_
  refine W_region_l ?_
  refine WL_stepM rfl (R_as) ?_
  refine WL_nil ?_
  refine W_seq ?_
  refine W_seq ?_
  refine W_region_l ?_
  refine WL_step rfl (R_fieldAddr (off' := 1) Tryz.underlying88 rfl Tryz.sizeOf52 (by decide) rfl rfl) ?_
  refine WL_step rfl (R_load Tryz.isAgg52 rfl (H.get .here) rfl) ?_
  refine WL_step rfl (R_len_slice Tryz.underlying52 rfl) ?_
  refine WL_stepM rfl (R_mv) ?_
  refine WL_nil ?_
  refine W_block ?_
  refine W_loopS [(5, 7), (11, 24)] (fun (i : Nat) E w' => ∃ (v5 : Value) (M : List (Nat × Obj)), i ≤ n ∧ E 11 = I i ∧ E 5 = v5 ∧ OwnS w.heap.size 32 2 v5 (badN K is i).length (rows recC (badN K is i)) M ∧ Hp w ((c2, blk [u1, .slice ao n ca] 88) :: M) w') (fun i => n - i) 0 ?e0 ?r0
  · exact ⟨_, [], by omega, rfl, rfl, hO, H⟩
  · (clear H hO; rintro i E w1 ⟨v5, M, hi, h11, h5, hO, H⟩; obtain ⟨a5, k5, rfl⟩ := hO.form; have hle := badN_le K is i; have hOk := hO.keys; refine W_kn2 h11 h5 ?_)
    refine W_seq ?_
    refine W_region_l ?_
    refine WL_step rfl (R_lt rfl rfl) ?_
    refine WL_nil ?_
    refine W_seq ?_
    refine W_if rfl (fun h26 => ?_) (fun h26 => ?_)
    · refine W_skip ?_
      refine W_seq ?_
      refine W_block ?_
      refine W_seq ?_
      ((obtain ⟨b1, o1, rfl, hc1⟩ := h.cell (i := i) (u := I (is i)) (by rw [List.getElem?_map, List.getElem?_range (by omega)]; rfl); obtain ⟨z, hz⟩ : ∃ z, is i = z := ⟨_, rfl⟩; rw [hz] at hc1)) <;> refine W_region_l ?_
      refine WL_stepM rfl (R_mv) ?_
      refine WL_step rfl (R_indexAddr Tryz.underlying52 Tryz.sizeOf3 rfl rfl (by omega) (by omega) idx_cast1) ?_
      refine WL_step rfl (R_load_cell Tryz.isAgg3 rfl (H.cellN hc1 (by repeat' first | exact kNil | apply kCons | apply kApp | assumption | exact OwnS.keys (by assumption)))) ?_
      refine WL_stepM rfl (R_as) ?_
      refine WL_stepM rfl (R_as) ?_
      refine WL_nil ?_
      refine W_seq ?_
      refine W_region_l ?_
      refine WL_stepM rfl (R_mv) ?_
      refine WL_step rfl (R_eq rfl rfl) ?_
      refine WL_nil ?_
      refine W_if rfl (fun h43 => ?_) (fun h43 => ?_)
      · refine W_region_l ?_
        refine WL_stepM rfl (R_mv) ?_
        refine WL_stepM rfl (R_mv) ?_
        refine WL_stepM rfl (R_mv) ?_
        refine WL_step rfl (R_buildL (places := [(0, 1), (1, 1)]) (vs := recC (K, (i : Int))) Tryz.underlying32 Tryz.typeInfo32 rfl rfl (by kernel_rfl) rfl rfl rfl) ?_
        (refine WL_effn rfl (E_buildRows (vss := [recC (K, (i : Int))]) H Tryz.underlying33 Tryz.sizeOf32 Tryz.zeroValue32 rfl rfl (by decide) rfl rfl (by simp [recC])) ?_; clear H; intro b22 w49 hb22 H)
        (refine WL_effm rfl (E_append (news := recC (K, (i : Int))) H (.there (.there .last)) hO Tryz.underlying33 Tryz.typeInfo32 rfl rfl rfl rfl rfl rfl (src_blk (m := 1) (sp := []) Tryz.underlying33 (H.get .here) rfl (recC_one _)) (by omega) (by simp only [Tryz.t32]; omega)) ?_; clear H; intro vN MN w50 hON H)
        refine WL_stepM rfl (R_as) ?_
        refine WL_nil ?_
        refine W_region_l ?_
        refine WL_step rfl (R_add rfl rfl (w_i64 (by omega))) ?_
        refine WL_stepM rfl (R_mv) ?_
        refine WL_nil ?_
        (have hy := badN_yes (K := K) (is := is) (n := i) (by omega); exact ⟨(same_mov rfl (same_updo rfl (same_mov rfl (same_updo rfl (same_updo rfl (same_updo rfl (same_mov rfl (same_mov rfl (same_mov rfl (same_know rfl (same_updo rfl (same_mov rfl (same_mov rfl (same_mov rfl (same_updo rfl (same_updo rfl (same_mov rfl (same_know rfl (same_updo rfl same_ovr))))))))))))))))))), i + 1, by omega, _, MN, by omega, rfl, rfl, (by rw [hy, List.length_append, rows_append]; exact hON), H.pop (by assumption)⟩)
      · refine W_skip ?_
        refine W_region_l ?_
        refine WL_step rfl (R_add rfl rfl (w_i64 (by omega))) ?_
        refine WL_stepM rfl (R_mv) ?_
        refine WL_nil ?_
        (have hy := badN_no (K := K) (is := is) (n := i) (by omega); exact ⟨(same_mov rfl (same_updo rfl (same_know rfl (same_updo rfl (same_mov rfl (same_mov rfl (same_mov rfl (same_updo rfl (same_updo rfl (same_mov rfl (same_know rfl (same_updo rfl same_ovr)))))))))))), i + 1, by omega, _, M, by omega, rfl, rfl, (by rw [hy]; exact hO), H⟩)
    · refine W_exit ?_
      refine (if_pos rfl).mpr ?_
      refine W_seq ?_
      ((obtain rfl : i = n := (by omega))) <;> refine W_region_l ?_
      refine WL_stepM rfl (R_mv) ?_
      refine WL_stepM rfl (R_as) ?_
      refine WL_nil ?_
      refine W_ret ?_
      exact ⟨_, rfl, _, hO, H.pop (by assumption)⟩

theorem growR_ret (n : Nat) (w : World) (hn : n ≤ 1000000) :
    Ret Tryz.prog 64 #[nilS, I n] w fun v w' => ∃ M, OwnS w.heap.size 32 2 v 0 [] M ∧ Hp w M w' := by
  refine Ret_of_W (args := [_, _]) Tryz.func64 rfl Tryz.ntmps64 Tryz.results64 (by simp) ?_
  have H := Hp.refl w
  rcases Nat.eq_zero_or_pos n with rfl | hpos
  · refine W_seq ?_
    refine W_region_l ?_
    refine WL_stepM rfl (R_as) ?_
    refine WL_nil ?_
    refine W_seq ?_
    refine W_seq ?_
    refine W_region_l ?_
    refine WL_stepM rfl (R_mv) ?_
    refine WL_step rfl (R_lt_f rfl rfl (by omega)) ?_
    refine WL_nil ?_
    refine W_cond_f rfl ?_
    refine W_skip ?_
    refine W_seq ?_
    refine W_seq ?_
    refine W_region_l ?_
    refine WL_stepM rfl (R_mv) ?_
    refine WL_stepM rfl (R_mv) ?_
    refine WL_step rfl (R_cap_slice Tryz.underlying33 rfl) ?_
    refine WL_stepM rfl (R_mv) ?_
    refine WL_step rfl (R_len_slice Tryz.underlying33 rfl) ?_
    refine WL_step rfl (R_sub rfl rfl (w_i64 (by omega))) ?_
    refine WL_step rfl (R_sub rfl rfl (w_i64 (by omega))) ?_
    refine WL_stepM rfl (R_as) ?_
    refine WL_nil ?_
    refine W_seq ?_
    refine W_region_l ?_
    refine WL_stepM rfl (R_mv) ?_
    refine WL_step rfl (R_gt_f rfl rfl (by omega)) ?_
    refine WL_nil ?_
    refine W_cond_f rfl ?_
    refine W_skip ?_
    refine W_seq ?_
    refine W_region_l ?_
    refine WL_stepM rfl (R_mv) ?_
    refine WL_stepM rfl (R_as) ?_
    refine WL_nil ?_
    refine W_ret ?_
    exact ⟨_, rfl, [], OwnS.nil _ _ _, H⟩
  · refine W_seq ?_
    refine W_region_l ?_
    refine WL_stepM rfl (R_as) ?_
    refine WL_nil ?_
    refine W_seq ?_
    refine W_seq ?_
    refine W_region_l ?_
    refine WL_stepM rfl (R_mv) ?_
    refine WL_step rfl (R_lt_f rfl rfl (by omega)) ?_
    refine WL_nil ?_
    refine W_cond_f rfl ?_
    refine W_skip ?_
    refine W_seq ?_
    refine W_seq ?_
    refine W_region_l ?_
    refine WL_stepM rfl (R_mv) ?_
    refine WL_stepM rfl (R_mv) ?_
    refine WL_step rfl (R_cap_slice Tryz.underlying33 rfl) ?_
    refine WL_stepM rfl (R_mv) ?_
    refine WL_step rfl (R_len_slice Tryz.underlying33 rfl) ?_
    refine WL_step rfl (R_sub rfl rfl (w_i64 (by omega))) ?_
    refine WL_step rfl (R_sub rfl rfl (w_i64 (by omega))) ?_
    refine WL_stepM rfl (R_as) ?_
    refine WL_nil ?_
    refine W_seq ?_
    refine W_region_l ?_
    refine WL_stepM rfl (R_mv) ?_
    refine WL_step rfl (R_gt_t rfl rfl (by omega)) ?_
    refine WL_nil ?_
    refine W_cond_t rfl ?_
    refine W_region_l ?_
    refine WL_stepM rfl (R_mv) ?_
    refine WL_stepM rfl (R_mv) ?_
    refine WL_step rfl (R_cap_slice Tryz.underlying33 rfl) ?_
    refine WL_step rfl (R_sliceNil Tryz.underlying33 Tryz.sizeOf32 rfl .none (.some rfl) (by omega) (by omega)) ?_
    refine WL_stepM rfl (R_mv) ?_
    (refine WL_effm rfl (E_appendZ (n := n) (k := .i64) H Tryz.underlying33 Tryz.underlying3 Tryz.typeInfo32 rfl rfl rfl rfl (by decide) rfl (congrArg (Value.int .i64) (by omega)) hpos (by omega) (by simp only [Tryz.t32]; omega)) ?_; clear H; rintro v m w37 ⟨cap, sp, rfl, hm, hsp, hcap, hm0⟩ H; obtain ⟨mb, mo⟩ := m; simp only at hm hm0; subst hm)
    refine WL_stepM rfl (R_mv) ?_
    refine WL_step rfl (R_len_slice Tryz.underlying33 rfl) ?_
    refine WL_step rfl (R_slice Tryz.underlying33 Tryz.sizeOf32 rfl .none (.some rfl) (by omega) (by omega) (by omega) (by omega) (by omega) rfl) ?_
    refine WL_stepM rfl (R_as) ?_
    refine WL_nil ?_
    refine W_seq ?_
    refine W_region_l ?_
    refine WL_stepM rfl (R_mv) ?_
    refine WL_stepM rfl (R_as) ?_
    refine WL_nil ?_
    refine W_ret ?_
    exact ⟨_, rfl, _, OwnS.new (xs := []) (sp := sp) hm0 rfl (by simpa using hsp) (by omega), H⟩
theorem concatR_ret {l1 l2 l3 l4 l5 : List (Int × Int)} {w : World} {v1 v2 v3 v4 v5 : Value} {b : Nat} (hb : w.heap[b]? = some (blk [v1, v2, v3, v4, v5] 33)) (h1 : RdR recC w v1 l1) (h2 : RdR recC w v2 l2) (h3 : RdR recC w v3 l3) (h4 : RdR recC w v4 l4) (h5 : RdR recC w v5 l5)
    (hl1 : l1.length ≤ 100) (hl2 : l2.length ≤ 100) (hl3 : l3.length ≤ 100) (hl4 : l4.length ≤ 100) (hl5 : l5.length ≤ 100) :
    Ret Tryz.prog 31 #[sl b 0 5 5] w fun v w' => ∃ M, OwnS w.heap.size 32 2 v (l1 ++ l2 ++ l3 ++ l4 ++ l5).length (rows recC (l1 ++ l2 ++ l3 ++ l4 ++ l5)) M ∧ Hp w M w' := by
  refine Ret_of_W (args := [_]) Tryz.func31 rfl Tryz.ntmps31 Tryz.results31 (by simp) ?_
  obtain ⟨a1, c1, rfl⟩ := h1.form
  obtain ⟨a2, c2, rfl⟩ := h2.form
  obtain ⟨a3, c3, rfl⟩ := h3.form
  obtain ⟨a4, c4, rfl⟩ := h4.form
  obtain ⟨a5, c5, rfl⟩ := h5.form
  have H := Hp.refl w
  refine W_seq ?_
  refine W_region_l ?_
  refine WL_stepM rfl (R_as) ?_
  refine WL_nil ?_
  refine W_seq ?_
  refine W_region_l ?_
  refine WL_stepM rfl (R_as) ?_
  refine WL_nil ?_
  refine W_seq ?_
  refine W_seq ?_
  refine W_region_l ?_
  refine WL_stepM rfl (R_mv) ?_
  refine WL_step rfl (R_len_slice Tryz.underlying116 rfl) ?_
  refine WL_stepM rfl (R_mv) ?_
  refine WL_nil ?_
  refine W_block ?_
  refine W_rounds 5 ?_
  refine W_seq ?_
  refine W_region_l ?_
  refine WL_step rfl (R_lt_t rfl rfl (by omega)) ?_
  refine WL_nil ?_
  refine W_seq ?_
  refine W_cond_t rfl ?_
  refine W_skip ?_
  refine W_seq ?_
  refine W_block ?_
  refine W_seq ?_
  refine W_region_l ?_
  refine WL_step rfl (R_indexAddr (off' := 0) Tryz.underlying116 Tryz.sizeOf33 rfl rfl (by omega) (by omega) rfl) ?_
  refine WL_step rfl (R_load Tryz.isAgg33 rfl (H.block hb (by simp)) rfl) ?_
  refine WL_stepM rfl (R_as) ?_
  refine WL_nil ?_
  refine W_seq ?_
  refine W_region_l ?_
  refine WL_stepM rfl (R_mv) ?_
  refine WL_stepM rfl (R_mv) ?_
  refine WL_step rfl (R_len_slice Tryz.underlying33 rfl) ?_
  refine WL_step rfl (R_add (r := ((l1.length : Nat) : Int)) rfl rfl (by rw [w_i64 (by omega)]; omega)) ?_
  refine WL_stepM rfl (R_as) ?_
  refine WL_nil ?_
  refine W_seq ?_
  refine W_region_l ?_
  refine WL_stepM rfl (R_mv) ?_
  refine WL_step rfl (R_lt_f rfl rfl (by omega)) ?_
  refine WL_nil ?_
  refine W_cond_f rfl ?_
  refine W_skip ?_
  refine W_region_l ?_
  refine WL_step rfl (R_add (r := 1) rfl rfl (by decide)) ?_
  refine WL_stepM rfl (R_mv) ?_
  refine WL_nil ?_
  refine Rn_succ ?_
  refine W_seq ?_
  refine W_region_l ?_
  refine WL_step rfl (R_lt_t rfl rfl (by omega)) ?_
  refine WL_nil ?_
  refine W_seq ?_
  refine W_cond_t rfl ?_
  refine W_skip ?_
  refine W_seq ?_
  refine W_block ?_
  refine W_seq ?_
  refine W_region_l ?_
  refine WL_step rfl (R_indexAddr (off' := 1) Tryz.underlying116 Tryz.sizeOf33 rfl rfl (by omega) (by omega) rfl) ?_
  refine WL_step rfl (R_load Tryz.isAgg33 rfl (H.block hb (by simp)) rfl) ?_
  refine WL_stepM rfl (R_as) ?_
  refine WL_nil ?_
  refine W_seq ?_
  refine W_region_l ?_
  refine WL_stepM rfl (R_mv) ?_
  refine WL_stepM rfl (R_mv) ?_
  refine WL_step rfl (R_len_slice Tryz.underlying33 rfl) ?_
  refine WL_step rfl (R_add (r := ((l1.length + l2.length : Nat) : Int)) rfl rfl (by rw [w_i64 (by omega)]; omega)) ?_
  refine WL_stepM rfl (R_as) ?_
  refine WL_nil ?_
  refine W_seq ?_
  refine W_region_l ?_
  refine WL_stepM rfl (R_mv) ?_
  refine WL_step rfl (R_lt_f rfl rfl (by omega)) ?_
  refine WL_nil ?_
  refine W_cond_f rfl ?_
  refine W_skip ?_
  refine W_region_l ?_
  refine WL_step rfl (R_add (r := 2) rfl rfl (by decide)) ?_
  refine WL_stepM rfl (R_mv) ?_
  refine WL_nil ?_
  refine Rn_succ ?_
  refine W_seq ?_
  refine W_region_l ?_
  refine WL_step rfl (R_lt_t rfl rfl (by omega)) ?_
  refine WL_nil ?_
  refine W_seq ?_
  refine W_cond_t rfl ?_
  refine W_skip ?_
  refine W_seq ?_
  refine W_block ?_
  refine W_seq ?_
  refine W_region_l ?_
  refine WL_step rfl (R_indexAddr (off' := 2) Tryz.underlying116 Tryz.sizeOf33 rfl rfl (by omega) (by omega) rfl) ?_
  refine WL_step rfl (R_load Tryz.isAgg33 rfl (H.block hb (by simp)) rfl) ?_
  refine WL_stepM rfl (R_as) ?_
  refine WL_nil ?_
  refine W_seq ?_
  refine W_region_l ?_
  refine WL_stepM rfl (R_mv) ?_
  refine WL_stepM rfl (R_mv) ?_
  refine WL_step rfl (R_len_slice Tryz.underlying33 rfl) ?_
  refine WL_step rfl (R_add (r := ((l1.length + l2.length + l3.length : Nat) : Int)) rfl rfl (by rw [w_i64 (by omega)]; omega)) ?_
  refine WL_stepM rfl (R_as) ?_
  refine WL_nil ?_
  refine W_seq ?_
  refine W_region_l ?_
  refine WL_stepM rfl (R_mv) ?_
  refine WL_step rfl (R_lt_f rfl rfl (by omega)) ?_
  refine WL_nil ?_
  refine W_cond_f rfl ?_
  refine W_skip ?_
  refine W_region_l ?_
  refine WL_step rfl (R_add (r := 3) rfl rfl (by decide)) ?_
  refine WL_stepM rfl (R_mv) ?_
  refine WL_nil ?_
  refine Rn_succ ?_
  refine W_seq ?_
  refine W_region_l ?_
  refine WL_step rfl (R_lt_t rfl rfl (by omega)) ?_
  refine WL_nil ?_
  refine W_seq ?_
  refine W_cond_t rfl ?_
  refine W_skip ?_
  refine W_seq ?_
  refine W_block ?_
  refine W_seq ?_
  refine W_region_l ?_
  refine WL_step rfl (R_indexAddr (off' := 3) Tryz.underlying116 Tryz.sizeOf33 rfl rfl (by omega) (by omega) rfl) ?_
  refine WL_step rfl (R_load Tryz.isAgg33 rfl (H.block hb (by simp)) rfl) ?_
  refine WL_stepM rfl (R_as) ?_
  refine WL_nil ?_
  refine W_seq ?_
  refine W_region_l ?_
  refine WL_stepM rfl (R_mv) ?_
  refine WL_stepM rfl (R_mv) ?_
  refine WL_step rfl (R_len_slice Tryz.underlying33 rfl) ?_
  refine WL_step rfl (R_add (r := ((l1.length + l2.length + l3.length + l4.length : Nat) : Int)) rfl rfl (by rw [w_i64 (by omega)]; omega)) ?_
  refine WL_stepM rfl (R_as) ?_
  refine WL_nil ?_
  refine W_seq ?_
  refine W_region_l ?_
  refine WL_stepM rfl (R_mv) ?_
  refine WL_step rfl (R_lt_f rfl rfl (by omega)) ?_
  refine WL_nil ?_
  refine W_cond_f rfl ?_
  refine W_skip ?_
  refine W_region_l ?_
  refine WL_step rfl (R_add (r := 4) rfl rfl (by decide)) ?_
  refine WL_stepM rfl (R_mv) ?_
  refine WL_nil ?_
  refine Rn_succ ?_
  refine W_seq ?_
  refine W_region_l ?_
  refine WL_step rfl (R_lt_t rfl rfl (by omega)) ?_
  refine WL_nil ?_
  refine W_seq ?_
  refine W_cond_t rfl ?_
  refine W_skip ?_
  refine W_seq ?_
  refine W_block ?_
  refine W_seq ?_
  refine W_region_l ?_
  refine WL_step rfl (R_indexAddr (off' := 4) Tryz.underlying116 Tryz.sizeOf33 rfl rfl (by omega) (by omega) rfl) ?_
  refine WL_step rfl (R_load Tryz.isAgg33 rfl (H.block hb (by simp)) rfl) ?_
  refine WL_stepM rfl (R_as) ?_
  refine WL_nil ?_
  refine W_seq ?_
  refine W_region_l ?_
  refine WL_stepM rfl (R_mv) ?_
  refine WL_stepM rfl (R_mv) ?_
  refine WL_step rfl (R_len_slice Tryz.underlying33 rfl) ?_
  refine WL_step rfl (R_add (r := ((l1.length + l2.length + l3.length + l4.length + l5.length : Nat) : Int)) rfl rfl (by rw [w_i64 (by omega)]; omega)) ?_
  refine WL_stepM rfl (R_as) ?_
  refine WL_nil ?_
  refine W_seq ?_
  refine W_region_l ?_
  refine WL_stepM rfl (R_mv) ?_
  refine WL_step rfl (R_lt_f rfl rfl (by omega)) ?_
  refine WL_nil ?_
  refine W_cond_f rfl ?_
  refine W_skip ?_
  refine W_region_l ?_
  refine WL_step rfl (R_add (r := 5) rfl rfl (by decide)) ?_
  refine WL_stepM rfl (R_mv) ?_
  refine WL_nil ?_
  refine Rn_succ ?_
  refine W_seq ?_
  refine W_region_l ?_
  refine WL_step rfl (R_lt_f rfl rfl (by omega)) ?_
  refine WL_nil ?_
  refine W_seq ?_
  refine W_cond_f rfl ?_
  refine W_exit ?_
  refine (if_pos rfl).mpr ?_
  refine W_seq ?_
  refine W_region_l ?_
  refine WL_stepM rfl (R_mv) ?_
  (refine WL_call rfl (R_call rfl Tryz.call64 rfl) (growR_ret (l1.length + l2.length + l3.length + l4.length + l5.length) _ (by omega)) ?_; rintro vg w203 ⟨M, hO, H1⟩; obtain ⟨hO, H⟩ := H.seqO hO H1; rw [List.append_nil] at H; clear H1; obtain ⟨ag, cg, rfl⟩ := hO.form; have st : (0 : Nat) = 0 := rfl)
  refine WL_stepM rfl (R_as) ?_
  refine WL_nil ?_
  refine W_seq ?_
  refine W_seq ?_
  refine W_region_l ?_
  refine WL_stepM rfl (R_mv) ?_
  refine WL_step rfl (R_len_slice Tryz.underlying116 rfl) ?_
  refine WL_stepM rfl (R_mv) ?_
  refine WL_nil ?_
  refine W_block ?_
  refine W_rounds 5 ?_
  refine W_seq ?_
  refine W_region_l ?_
  refine WL_step rfl (R_lt_t rfl rfl (by omega)) ?_
  refine WL_nil ?_
  refine W_seq ?_
  refine W_cond_t rfl ?_
  refine W_skip ?_
  refine W_seq ?_
  refine W_block ?_
  refine W_seq ?_
  refine W_region_l ?_
  refine WL_step rfl (R_indexAddr (off' := 0) Tryz.underlying116 Tryz.sizeOf33 rfl rfl (by omega) (by omega) rfl) ?_
  refine WL_step rfl (R_load Tryz.isAgg33 rfl (H.blockN hb (by repeat' first | exact kNil | apply kCons | apply kApp | assumption | exact OwnS.keys (by assumption))) rfl) ?_
  refine WL_stepM rfl (R_as) ?_
  refine WL_nil ?_
  refine W_region_l ?_
  refine WL_stepM rfl (R_mv) ?_
  refine WL_stepM rfl (R_mv) ?_
  (have _g : (0 : Nat) = 0 := rfl; refine WL_effm rfl (E_append (news := rows recC l1) (m := l1.length) (xs := []) H .last hO Tryz.underlying33 Tryz.typeInfo32 rfl rfl rfl rfl rfl rfl ((h1.monoN H hO.keys).src recC_len Tryz.underlying33 (rows_one' recC_one _)) (by first | omega | (simp only [List.length_append]; omega)) (by simp only [Tryz.t32]; first | omega | (simp only [List.length_append]; omega))) ?_; clear H hO; intro v11 M11 w232 hO H; rw [Nat.zero_add, List.nil_append] at hO; obtain ⟨a11, c11, rfl⟩ := hO.form)
  refine WL_stepM rfl (R_as) ?_
  refine WL_nil ?_
  refine W_region_l ?_
  refine WL_step rfl (R_add (r := 1) rfl rfl (by decide)) ?_
  refine WL_stepM rfl (R_mv) ?_
  refine WL_nil ?_
  refine Rn_succ ?_
  refine W_seq ?_
  refine W_region_l ?_
  refine WL_step rfl (R_lt_t rfl rfl (by omega)) ?_
  refine WL_nil ?_
  refine W_seq ?_
  refine W_cond_t rfl ?_
  refine W_skip ?_
  refine W_seq ?_
  refine W_block ?_
  refine W_seq ?_
  refine W_region_l ?_
  refine WL_step rfl (R_indexAddr (off' := 1) Tryz.underlying116 Tryz.sizeOf33 rfl rfl (by omega) (by omega) rfl) ?_
  refine WL_step rfl (R_load Tryz.isAgg33 rfl (H.blockN hb (by repeat' first | exact kNil | apply kCons | apply kApp | assumption | exact OwnS.keys (by assumption))) rfl) ?_
  refine WL_stepM rfl (R_as) ?_
  refine WL_nil ?_
  refine W_region_l ?_
  refine WL_stepM rfl (R_mv) ?_
  refine WL_stepM rfl (R_mv) ?_
  (have _g : (1 : Nat) = 1 := rfl; refine WL_effm rfl (E_append (news := rows recC l2) (m := l2.length) (xs := rows recC (l1)) H .last hO Tryz.underlying33 Tryz.typeInfo32 rfl rfl rfl rfl rfl rfl ((h2.monoN H hO.keys).src recC_len Tryz.underlying33 (rows_one' recC_one _)) (by first | omega | (simp only [List.length_append]; omega)) (by simp only [Tryz.t32]; first | omega | (simp only [List.length_append]; omega))) ?_; clear H hO; intro v12 M12 w258 hO H; rw [← rows_append, ← List.length_append] at hO; obtain ⟨a12, c12, rfl⟩ := hO.form)
  refine WL_stepM rfl (R_as) ?_
  refine WL_nil ?_
  refine W_region_l ?_
  refine WL_step rfl (R_add (r := 2) rfl rfl (by decide)) ?_
  refine WL_stepM rfl (R_mv) ?_
  refine WL_nil ?_
  refine Rn_succ ?_
  refine W_seq ?_
  refine W_region_l ?_
  refine WL_step rfl (R_lt_t rfl rfl (by omega)) ?_
  refine WL_nil ?_
  refine W_seq ?_
  refine W_cond_t rfl ?_
  refine W_skip ?_
  refine W_seq ?_
  refine W_block ?_
  refine W_seq ?_
  refine W_region_l ?_
  refine WL_step rfl (R_indexAddr (off' := 2) Tryz.underlying116 Tryz.sizeOf33 rfl rfl (by omega) (by omega) rfl) ?_
  refine WL_step rfl (R_load Tryz.isAgg33 rfl (H.blockN hb (by repeat' first | exact kNil | apply kCons | apply kApp | assumption | exact OwnS.keys (by assumption))) rfl) ?_
  refine WL_stepM rfl (R_as) ?_
  refine WL_nil ?_
  refine W_region_l ?_
  refine WL_stepM rfl (R_mv) ?_
  refine WL_stepM rfl (R_mv) ?_
  (have _g : (2 : Nat) = 2 := rfl; refine WL_effm rfl (E_append (news := rows recC l3) (m := l3.length) (xs := rows recC (l1 ++ l2)) H .last hO Tryz.underlying33 Tryz.typeInfo32 rfl rfl rfl rfl rfl rfl ((h3.monoN H hO.keys).src recC_len Tryz.underlying33 (rows_one' recC_one _)) (by first | omega | (simp only [List.length_append]; omega)) (by simp only [Tryz.t32]; first | omega | (simp only [List.length_append]; omega))) ?_; clear H hO; intro v13 M13 w284 hO H; rw [← rows_append, ← List.length_append] at hO; obtain ⟨a13, c13, rfl⟩ := hO.form)
  refine WL_stepM rfl (R_as) ?_
  refine WL_nil ?_
  refine W_region_l ?_
  refine WL_step rfl (R_add (r := 3) rfl rfl (by decide)) ?_
  refine WL_stepM rfl (R_mv) ?_
  refine WL_nil ?_
  refine Rn_succ ?_
  refine W_seq ?_
  refine W_region_l ?_
  refine WL_step rfl (R_lt_t rfl rfl (by omega)) ?_
  refine WL_nil ?_
  refine W_seq ?_
  refine W_cond_t rfl ?_
  refine W_skip ?_
  refine W_seq ?_
  refine W_block ?_
  refine W_seq ?_
  refine W_region_l ?_
  refine WL_step rfl (R_indexAddr (off' := 3) Tryz.underlying116 Tryz.sizeOf33 rfl rfl (by omega) (by omega) rfl) ?_
  refine WL_step rfl (R_load Tryz.isAgg33 rfl (H.blockN hb (by repeat' first | exact kNil | apply kCons | apply kApp | assumption | exact OwnS.keys (by assumption))) rfl) ?_
  refine WL_stepM rfl (R_as) ?_
  refine WL_nil ?_
  refine W_region_l ?_
  refine WL_stepM rfl (R_mv) ?_
  refine WL_stepM rfl (R_mv) ?_
  (have _g : (3 : Nat) = 3 := rfl; refine WL_effm rfl (E_append (news := rows recC l4) (m := l4.length) (xs := rows recC (l1 ++ l2 ++ l3)) H .last hO Tryz.underlying33 Tryz.typeInfo32 rfl rfl rfl rfl rfl rfl ((h4.monoN H hO.keys).src recC_len Tryz.underlying33 (rows_one' recC_one _)) (by first | omega | (simp only [List.length_append]; omega)) (by simp only [Tryz.t32]; first | omega | (simp only [List.length_append]; omega))) ?_; clear H hO; intro v14 M14 w310 hO H; rw [← rows_append, ← List.length_append] at hO; obtain ⟨a14, c14, rfl⟩ := hO.form)
  refine WL_stepM rfl (R_as) ?_
  refine WL_nil ?_
  refine W_region_l ?_
  refine WL_step rfl (R_add (r := 4) rfl rfl (by decide)) ?_
  refine WL_stepM rfl (R_mv) ?_
  refine WL_nil ?_
  refine Rn_succ ?_
  refine W_seq ?_
  refine W_region_l ?_
  refine WL_step rfl (R_lt_t rfl rfl (by omega)) ?_
  refine WL_nil ?_
  refine W_seq ?_
  refine W_cond_t rfl ?_
  refine W_skip ?_
  refine W_seq ?_
  refine W_block ?_
  refine W_seq ?_
  refine W_region_l ?_
  refine WL_step rfl (R_indexAddr (off' := 4) Tryz.underlying116 Tryz.sizeOf33 rfl rfl (by omega) (by omega) rfl) ?_
  refine WL_step rfl (R_load Tryz.isAgg33 rfl (H.blockN hb (by repeat' first | exact kNil | apply kCons | apply kApp | assumption | exact OwnS.keys (by assumption))) rfl) ?_
  refine WL_stepM rfl (R_as) ?_
  refine WL_nil ?_
  refine W_region_l ?_
  refine WL_stepM rfl (R_mv) ?_
  refine WL_stepM rfl (R_mv) ?_
  (have _g : (4 : Nat) = 4 := rfl; refine WL_effm rfl (E_append (news := rows recC l5) (m := l5.length) (xs := rows recC (l1 ++ l2 ++ l3 ++ l4)) H .last hO Tryz.underlying33 Tryz.typeInfo32 rfl rfl rfl rfl rfl rfl ((h5.monoN H hO.keys).src recC_len Tryz.underlying33 (rows_one' recC_one _)) (by first | omega | (simp only [List.length_append]; omega)) (by simp only [Tryz.t32]; first | omega | (simp only [List.length_append]; omega))) ?_; clear H hO; intro v15 M15 w336 hO H; rw [← rows_append, ← List.length_append] at hO; obtain ⟨a15, c15, rfl⟩ := hO.form)
  refine WL_stepM rfl (R_as) ?_
  refine WL_nil ?_
  refine W_region_l ?_
  refine WL_step rfl (R_add (r := 5) rfl rfl (by decide)) ?_
  refine WL_stepM rfl (R_mv) ?_
  refine WL_nil ?_
  refine Rn_succ ?_
  refine W_seq ?_
  refine W_region_l ?_
  refine WL_step rfl (R_lt_f rfl rfl (by omega)) ?_
  refine WL_nil ?_
  refine W_seq ?_
  refine W_cond_f rfl ?_
  refine W_exit ?_
  refine (if_pos rfl).mpr ?_
  refine W_seq ?_
  refine W_region_l ?_
  refine WL_stepM rfl (R_mv) ?_
  refine WL_stepM rfl (R_as) ?_
  refine WL_nil ?_
  refine W_ret ?_
  exact ⟨_, rfl, _, hO, H⟩
/-- all that are bad -/
def badAll (xs : List UInt8) : List (Int × Int) :=
  badN 1 (pis xs) 8 ++ badN 2 (fis xs) 12 ++ badN 3 (qis xs) 4 ++ badN 4 (fun j => (Ring.decP (win xs (448 + 40 * j) 40)).2) 1 ++ badN 5 (fun j => (Cm.decG (win xs (488 + 4 * j) 4)).2) 1
theorem ns_eq {α : Type} {dec : List UInt8 → α × Int} {xs : List UInt8} {a sz n : Nat} : ns (recs dec xs a sz n) = (List.range n).map fun j => I (dec (win xs (a + sz * j) sz)).2 := by
  unfold ns recs; rw [List.map_map]; rfl
theorem bad_no {xs : List UInt8} {w : World} {l : Value} (hl : RdS w l (xs.map U)) (hx : xs.length ≠ 492) :
    Ret Tryz.prog 11 #[l] w fun v w' => ∃ M, OwnS w.heap.size 32 2 v 1 (rows recC [(0, 0)]) M ∧ Hp w M w' := by
  refine Ret_of_W (args := [_]) Tryz.func11 rfl Tryz.ntmps11 Tryz.results11 (by simp) ?_
  have H := Hp.refl w
  obtain ⟨ao, ca, rfl, hca, hra⟩ := id hl
  simp only [List.length_map] at hl ⊢
  refine W_seq ?_
  refine W_region_l ?_
  refine WL_stepM rfl (R_as) ?_
  refine WL_nil ?_
  refine W_seq ?_
  refine W_seq ?_
  refine W_region_l ?_
  refine WL_stepM rfl (R_mv) ?_
  refine WL_step rfl (R_len_slice Tryz.underlying22 rfl) ?_
  refine WL_step rfl (R_ne_t rfl rfl (by omega)) ?_
  refine WL_nil ?_
  refine W_cond_t rfl ?_
  refine W_seq ?_
  refine W_region_l ?_
  refine WL_step rfl (R_buildL (places := [(0, 1), (1, 1)]) (vs := recC (0, 0)) Tryz.underlying32 Tryz.typeInfo32 rfl rfl (by kernel_rfl) rfl rfl rfl) ?_
  (refine WL_effn rfl (E_buildRows (vss := [recC (0, 0)]) H Tryz.underlying33 Tryz.sizeOf32 Tryz.zeroValue32 rfl rfl (by decide) rfl rfl (by simp [recC])) ?_; clear H; intro b8 w16 hb8 H)
  refine WL_stepM rfl (R_as) ?_
  refine WL_nil ?_
  refine W_ret ?_
  exact ⟨_, rfl, _, OwnS.new (sp := []) hb8 rfl rfl (by decide), H⟩
end Go.Proofs.YthonajikgljgmaaGreat.Aud

/-
  Bad and Faults of package audit.
-/
namespace Go.Proofs.YthonajikgljgmaaGreat.Aud
open Go Go.Proofs Go.Proofs.YthonajikgljgmaaGreat.Fx
set_option maxRecDepth 100000
set_option linter.unusedVariables false
set_option linter.unusedSimpArgs false
set_option maxHeartbeats 16000000

theorem bad_yes {xs : List UInt8} {w : World} {l : Value} (hl : RdS w l (xs.map U)) (hx : xs.length = 492) :
    Ret Tryz.prog 11 #[l] w fun v w' => ∃ M, OwnS w.heap.size 32 2 v (badAll xs).length (rows recC (badAll xs)) M ∧ Hp w M w' := by
  refine Ret_of_W (args := [_]) Tryz.func11 rfl Tryz.ntmps11 Tryz.results11 (by simp) ?_
  have H := Hp.refl w
  obtain ⟨ao, ca, rfl, hca, hra⟩ := id hl
  simp only [List.length_map] at hl ⊢
  have n1 := badN_le 1 (pis xs) 8
  have n2 := badN_le 2 (fis xs) 12
  have n3 := badN_le 3 (qis xs) 4
  have n4 := badN_le 4 (fun j => (Ring.decP (win xs (448 + 40 * j) 40)).2) 1
  have n5 := badN_le 5 (fun j => (Cm.decG (win xs (488 + 4 * j) 4)).2) 1
  refine W_seq ?_
  refine W_region_l ?_
  refine WL_stepM rfl (R_as) ?_
  refine WL_nil ?_
  refine W_seq ?_
  refine W_seq ?_
  refine W_region_l ?_
  refine WL_stepM rfl (R_mv) ?_
  refine WL_step rfl (R_len_slice Tryz.underlying22 rfl) ?_
  refine WL_step rfl (R_ne_f rfl rfl (by omega)) ?_
  refine WL_nil ?_
  refine W_cond_f rfl ?_
  refine W_skip ?_
  refine W_seq ?_
  refine W_region_l ?_
  refine WL_stepM rfl (R_mv) ?_
  (refine WL_call rfl (R_call rfl Tryz.call21 rfl) (of_ret hl hx) ?_; rintro _ w17 ⟨xa, MA, p1, p2, f1, f2, q1, q2, t1, t2, g1, g2, rfl, hKA, hAl, H1⟩; replace H := H.seqN H1 hKA; clear H1; rw [List.append_nil] at H)
  refine WL_stepM rfl (R_as) ?_
  refine WL_nil ?_
  refine W_seq ?_
  (refine W_draw (Kp MA) (fun _ => false) (by kernel_rfl) H ?_; clear H; intro w21 H)
  refine WA_takeM 0 rfl rfl rfl (by kernel_rfl) (by kernel_rfl) H.kp (fun _ hC => R_mv) ?_
  refine WA_take 1 rfl rfl rfl (by kernel_rfl) (by kernel_rfl) H.kp (fun _ hC => R_nilCheck rfl) ?_
  refine WA_take 2 rfl rfl rfl (by kernel_rfl) (by kernel_rfl) H.kp (fun _ hC => R_fieldAddr (off' := 0) Tryz.underlying90 rfl Tryz.sizeOf80 (by decide) rfl rfl) ?_
  refine WA_take 3 rfl rfl rfl (by kernel_rfl) (by kernel_rfl) H.kp (fun _ hC => R_loadA (vs := [p1, p2]) Tryz.isAgg80 Tryz.sizeOf80 rfl (hAl _ hC).2.1 rfl (by simp)) ?_
  refine WA_takeM 5 rfl rfl rfl (by kernel_rfl) (by kernel_rfl) H.kp (fun _ hC => R_mv) ?_
  refine WA_take 6 rfl rfl rfl (by kernel_rfl) (by kernel_rfl) H.kp (fun _ hC => R_nilCheck rfl) ?_
  refine WA_take 7 rfl rfl rfl (by kernel_rfl) (by kernel_rfl) H.kp (fun _ hC => R_fieldAddr (off' := 2) Tryz.underlying90 rfl Tryz.sizeOf83 (by decide) rfl rfl) ?_
  refine WA_take 8 rfl rfl rfl (by kernel_rfl) (by kernel_rfl) H.kp (fun _ hC => R_loadA (vs := [f1, f2]) Tryz.isAgg83 Tryz.sizeOf83 rfl (hAl _ hC).2.1 rfl (by simp)) ?_
  refine WA_takeM 10 rfl rfl rfl (by kernel_rfl) (by kernel_rfl) H.kp (fun _ hC => R_mv) ?_
  refine WA_take 11 rfl rfl rfl (by kernel_rfl) (by kernel_rfl) H.kp (fun _ hC => R_nilCheck rfl) ?_
  refine WA_take 12 rfl rfl rfl (by kernel_rfl) (by kernel_rfl) H.kp (fun _ hC => R_fieldAddr (off' := 4) Tryz.underlying90 rfl Tryz.sizeOf86 (by decide) rfl rfl) ?_
  refine WA_take 13 rfl rfl rfl (by kernel_rfl) (by kernel_rfl) H.kp (fun _ hC => R_loadA (vs := [q1, q2]) Tryz.isAgg86 Tryz.sizeOf86 rfl (hAl _ hC).2.1 rfl (by simp)) ?_
  refine WA_takeM 15 rfl rfl rfl (by kernel_rfl) (by kernel_rfl) H.kp (fun _ hC => R_mv) ?_
  refine WA_take 16 rfl rfl rfl (by kernel_rfl) (by kernel_rfl) H.kp (fun _ hC => R_nilCheck rfl) ?_
  refine WA_take 17 rfl rfl rfl (by kernel_rfl) (by kernel_rfl) H.kp (fun _ hC => R_fieldAddr (off' := 6) Tryz.underlying90 rfl Tryz.sizeOf86 (by decide) rfl rfl) ?_
  refine WA_take 18 rfl rfl rfl (by kernel_rfl) (by kernel_rfl) H.kp (fun _ hC => R_loadA (vs := [t1, t2]) Tryz.isAgg86 Tryz.sizeOf86 rfl (hAl _ hC).2.1 rfl (by simp)) ?_
  refine WA_takeM 20 rfl rfl rfl (by kernel_rfl) (by kernel_rfl) H.kp (fun _ hC => R_mv) ?_
  refine WA_take 21 rfl rfl rfl (by kernel_rfl) (by kernel_rfl) H.kp (fun _ hC => R_nilCheck rfl) ?_
  refine WA_take 22 rfl rfl rfl (by kernel_rfl) (by kernel_rfl) H.kp (fun _ hC => R_fieldAddr (off' := 8) Tryz.underlying90 rfl Tryz.sizeOf88 (by decide) rfl rfl) ?_
  refine WA_take 23 rfl rfl rfl (by kernel_rfl) (by kernel_rfl) H.kp (fun _ hC => R_loadA (vs := [g1, g2]) Tryz.isAgg88 Tryz.sizeOf88 rfl (hAl _ hC).2.1 rfl (by simp)) ?_
  refine WA_one (i := 4) (by kernel_rfl) ?_
  (refine WI_call rfl (.inl rfl) (R_call rfl Tryz.call32 rfl) (badP_ret (u1 := p1) (is := pis xs) (n := 8) 1 (by have h9 := (hAl _ (H.kp.sub (fun p hp => by simp [hp]))).2.2.1; rw [ns_eq] at h9; exact h9) (by decide)) (fun _ _ hR _ => by obtain ⟨M', hO', H'⟩ := hR; exact (H.seqO hO' H').2.kp.sub (fun p hp => by simp [hp])) ?_; rintro v1 w43 ⟨M1, hO1, H1⟩; have h43 := H.seqO hO1 H1; clear H H1 hO1; obtain ⟨hO1, H⟩ := h43; obtain ⟨fb1, gb1, rfl⟩ := hO1.form)
  refine WA_one (i := 9) (by kernel_rfl) ?_
  (refine WI_call rfl (.inl rfl) (R_call rfl Tryz.call33 rfl) (badF_ret (u1 := f1) (is := fis xs) (n := 12) 2 (by have h9 := (hAl _ (H.kp.sub (fun p hp => by simp [hp]))).2.2.2.1; rw [ns_eq] at h9; exact h9) (by decide)) (fun _ _ hR _ => by obtain ⟨M', hO', H'⟩ := hR; exact (H.seqO hO' H').2.kp.sub (fun p hp => by simp [hp])) ?_; rintro v2 w45 ⟨M2, hO2, H1⟩; have h45 := H.seqO hO2 H1; clear H H1 hO2; obtain ⟨hO2, H⟩ := h45; obtain ⟨fb2, gb2, rfl⟩ := hO2.form)
  refine WA_one (i := 14) (by kernel_rfl) ?_
  (refine WI_call rfl (.inl rfl) (R_call rfl Tryz.call34 rfl) (badQ_ret (u1 := q1) (is := qis xs) (n := 4) 3 (by have h9 := (hAl _ (H.kp.sub (fun p hp => by simp [hp]))).2.2.2.2.1; rw [ns_eq] at h9; exact h9) (by decide)) (fun _ _ hR _ => by obtain ⟨M', hO', H'⟩ := hR; exact (H.seqO hO' H').2.kp.sub (fun p hp => by simp [hp])) ?_; rintro v3 w47 ⟨M3, hO3, H1⟩; have h47 := H.seqO hO3 H1; clear H H1 hO3; obtain ⟨hO3, H⟩ := h47; obtain ⟨fb3, gb3, rfl⟩ := hO3.form)
  refine WA_one (i := 19) (by kernel_rfl) ?_
  (refine WI_call rfl (.inl rfl) (R_call rfl Tryz.call34 rfl) (badQ_ret (u1 := t1) (is := fun j => (Ring.decP (win xs (448 + 40 * j) 40)).2) (n := 1) 4 (by have h9 := (hAl _ (H.kp.sub (fun p hp => by simp [hp]))).2.2.2.2.2.1; rw [ns_eq] at h9; exact h9) (by decide)) (fun _ _ hR _ => by obtain ⟨M', hO', H'⟩ := hR; exact (H.seqO hO' H').2.kp.sub (fun p hp => by simp [hp])) ?_; rintro v4 w49 ⟨M4, hO4, H1⟩; have h49 := H.seqO hO4 H1; clear H H1 hO4; obtain ⟨hO4, H⟩ := h49; obtain ⟨fb4, gb4, rfl⟩ := hO4.form)
  refine WA_one (i := 24) (by kernel_rfl) ?_
  (refine WI_call rfl (.inl rfl) (R_call rfl Tryz.call35 rfl) (badG_ret (u1 := g1) (is := fun j => (Cm.decG (win xs (488 + 4 * j) 4)).2) (n := 1) 5 (by have h9 := (hAl _ (H.kp.sub (fun p hp => by simp [hp]))).2.2.2.2.2.2; rw [ns_eq] at h9; exact h9) (by decide)) (fun _ _ hR _ => by obtain ⟨M', hO', H'⟩ := hR; exact (H.seqO hO' H').2.kp.sub (fun p hp => by simp [hp])) ?_; rintro v5 w51 ⟨M5, hO5, H1⟩; have h51 := H.seqO hO5 H1; clear H H1 hO5; obtain ⟨hO5, H⟩ := h51; obtain ⟨fb5, gb5, rfl⟩ := hO5.form)
  refine WA_one (i := 25) (by kernel_rfl) ?_
  (refine WI_effnA rfl (.inl rfl) (E_buildOnes (vs := [.slice fb1 (badN 1 (pis xs) 8).length gb1, .slice fb2 (badN 2 (fis xs) 12).length gb2, .slice fb3 (badN 3 (qis xs) 4).length gb3, .slice fb4 (badN 4 (fun j => (Ring.decP (win xs (448 + 40 * j) 40)).2) 1).length gb4, .slice fb5 (badN 5 (fun j => (Cm.decG (win xs (488 + 4 * j) 4)).2) 1).length gb5]) H Tryz.underlying116 Tryz.sizeOf33 Tryz.zeroValue33 rfl rfl (by decide) rfl rfl (by simp [Value.oneCell'])) (fun _ _ _ H _ => H.kp.sub (fun p hp => by simp [hp])) ?_; clear H; intro b36 w53 hb36 H)
  refine WA_one (i := 26) (by kernel_rfl) ?_
  (refine WI_call rfl (.inl rfl) (R_call rfl Tryz.call31 rfl) (concatR_ret (H.get .here) (RdR.own recC_len hO1 rfl (fun p hp => H.held p (by simp [hp]))) (RdR.own recC_len hO2 rfl (fun p hp => H.held p (by simp [hp]))) (RdR.own recC_len hO3 rfl (fun p hp => H.held p (by simp [hp]))) (RdR.own recC_len hO4 rfl (fun p hp => H.held p (by simp [hp]))) (RdR.own recC_len hO5 rfl (fun p hp => H.held p (by simp [hp]))) (by omega) (by omega) (by omega) (by omega) (by omega)) (fun _ _ hR _ => by obtain ⟨M', hO', H'⟩ := hR; exact (H.seqO hO' H').2.kp.sub (fun p hp => by simp [hp])) ?_; rintro v9 w55 ⟨M9, hO9, H1⟩; have h55 := H.seqO hO9 H1; clear H H1 hO9; obtain ⟨hO9, H⟩ := h55)
  refine WA_takeM 27 rfl rfl rfl (by kernel_rfl) (by kernel_rfl) (H.kp.sub (fun p hp => by simp [hp])) (fun _ hC => R_as) ?_
  refine WA_done (by kernel_rfl) ?_
  refine W_ret ?_
  exact ⟨_, rfl, M9, hO9, H.drop (List.sublist_append_left _ _) (fun p hp hn => by simp only [List.mem_append, List.mem_cons] at hp; rcases hp with hp | hp | hp | hp | hp | hp | hp | hp; exact (hn hp).elim; rw [hp]; exact hb36; exact hO5.keys p hp; exact hO4.keys p hp; exact hO3.keys p hp; exact hO2.keys p hp; exact hO1.keys p hp; exact hKA p hp)⟩
end Go.Proofs.YthonajikgljgmaaGreat.Aud

/-
  Faults and Sound of package audit.
-/
namespace Go.Proofs.YthonajikgljgmaaGreat.Aud
open Go Go.Proofs Go.Proofs.YthonajikgljgmaaGreat.Fx
set_option maxRecDepth 100000
set_option linter.unusedVariables false
set_option linter.unusedSimpArgs false
set_option maxHeartbeats 16000000

/-- what may be wrong, and whether it is -/
def flags (xs : List UInt8) : List (List UInt8 × Bool) :=
  [([112, 97, 114, 101, 110, 116], (List.range 8).any (parB xs)), ([102, 100], (List.range 8).any (fdB xs)), ([114, 101, 102, 115], (List.range 12).any (refB xs)),
   ([112, 105, 112, 101], (List.range 12).any (pipB xs)), ([101, 110, 100, 115], (List.range 4).any (endB xs))]
def flC2 (r : List UInt8 × Bool) : List Value := [S r.1, .bool r.2]
theorem flC2_len (r : List UInt8 × Bool) : (flC2 r).length = 2 := rfl
def told (l : List (List UInt8 × Bool)) : List (List UInt8) := (l.filter (·.2)).map (·.1)
def faults (xs : List UInt8) : List (List UInt8) := if xs.length = 492 ∧ badAll xs = [] then told (flags xs) else [[98, 97, 100]]
theorem told_yes {l : List (List UInt8 × Bool)} {i : Nat} {a : List UInt8} (h : l[i]? = some (a, true)) : told (l.take (i + 1)) = told (l.take i) ++ [a] := by
  have hi := (List.getElem?_eq_some_iff.1 h).1
  unfold told
  rw [List.take_succ_eq_append_getElem hi, (List.getElem?_eq_some_iff.1 h).2, List.filter_append, List.map_append]; rfl
theorem told_no {l : List (List UInt8 × Bool)} {i : Nat} {a : List UInt8} (h : l[i]? = some (a, false)) : told (l.take (i + 1)) = told (l.take i) := by
  have hi := (List.getElem?_eq_some_iff.1 h).1
  unfold told
  rw [List.take_succ_eq_append_getElem hi, (List.getElem?_eq_some_iff.1 h).2, List.filter_append, List.map_append]; simp
theorem told_le (l : List (List UInt8 × Bool)) (i : Nat) : (told (l.take i)).length ≤ i := by
  unfold told; rw [List.length_map]; refine Nat.le_trans (List.length_filter_le ..) ?_; rw [List.length_take]; omega

theorem faults_ret {xs : List UInt8} {w : World} {l : Value} (hl : RdS w l (xs.map U)) :
    Ret Tryz.prog 7 #[l] w fun v w' => ∃ M, OwnS w.heap.size 9 1 v (faults xs).length ((faults xs).map S) M ∧ Hp w M w' := by
  refine Ret_of_W (args := [_]) Tryz.func7 rfl Tryz.ntmps7 Tryz.results7 (by simp) ?_
  have H := Hp.refl w
  by_cases hs : xs.length = 492 ∧ badAll xs = []
  · have hf : faults xs = told (flags xs) := if_pos hs
    rw [hf]
    obtain ⟨hx, hb⟩ := hs
    have hO := OwnS.nil w.heap.size 9 1
    obtain ⟨F, hF⟩ : ∃ F, flags xs = F := ⟨_, rfl⟩
    have hF5 : F.length = 5 := by rw [← hF]; rfl
    rw [hF]
    refine W_seq ?_
    refine W_region_l ?_
    refine WL_stepM rfl (R_as) ?_
    refine WL_nil ?_
    refine W_seq ?_
    refine W_seq ?_
    refine W_region_l ?_
    refine WL_stepM rfl (R_mv) ?_
    (refine WL_call rfl (R_call rfl Tryz.call11 rfl) (bad_yes hl hx) ?_; rintro vb w9 ⟨MB, hOB, H1⟩; rw [hb, show ([] : List (Int × Int)).length = 0 from rfl] at hOB; have h9 := H.seqO hOB H1; clear H H1 hOB; obtain ⟨hOB, H⟩ := h9; obtain ⟨fb, gb, rfl⟩ := hOB.form; replace H := Hp.dropN (M := MB) H hOB.keys)
    refine WL_step rfl (R_len_slice Tryz.underlying33 rfl) ?_
    refine WL_step rfl (R_gt_f rfl rfl (by omega)) ?_
    refine WL_nil ?_
    refine W_cond_f rfl ?_
    refine W_skip ?_
    refine W_seq ?_
    refine W_region_l ?_
    refine WL_stepM rfl (R_mv) ?_
    (refine WL_call rfl (R_call rfl Tryz.call21 rfl) (of_ret (hl.monoN H (by repeat' first | exact kNil | apply kCons | apply kApp | assumption | exact OwnS.keys (by assumption))) hx) ?_; rintro _ w18 ⟨xa, MA, p1, p2, f1, f2, q1, q2, t1, t2, g1, g2, rfl, hKA, hAl, H1⟩; have hsz := H.size; replace H := H.seqN H1 hKA; replace hKA : ∀ p ∈ MA, w.heap.size ≤ p.1 := fun p hp => Nat.le_trans hsz (hKA p hp); clear H1; rw [List.append_nil] at H)
    refine WL_stepM rfl (R_as) ?_
    refine WL_nil ?_
    refine W_seq ?_
    refine W_region_l ?_
    refine WL_stepM rfl (R_as) ?_
    refine WL_nil ?_
    refine W_seq ?_
    refine W_seq ?_
    refine W_region_l ?_
    refine WL_stepM rfl (R_mv) ?_
    (refine WL_call rfl (R_call rfl Tryz.call22 rfl) (parent_ret (hAl _ H.kp).1) ?_; rintro _ w29 ⟨rfl, H1⟩; replace H := H.seq0 H1; clear H1)
    refine WL_step rfl (R_buildL (places := [(0, 1), (1, 1)]) (vs := flC2 ([112, 97, 114, 101, 110, 116], (List.range 8).any (parB xs))) Tryz.underlying68 Tryz.typeInfo68 rfl rfl (by kernel_rfl) rfl rfl rfl) ?_
    refine WL_stepM rfl (R_mv) ?_
    (refine WL_call rfl (R_call rfl Tryz.call23 rfl) (fd_ret (hAl _ H.kp).1) ?_; rintro _ w32 ⟨rfl, H1⟩; replace H := H.seq0 H1; clear H1)
    refine WL_step rfl (R_buildL (places := [(0, 1), (1, 1)]) (vs := flC2 ([102, 100], (List.range 8).any (fdB xs))) Tryz.underlying68 Tryz.typeInfo68 rfl rfl (by kernel_rfl) rfl rfl rfl) ?_
    refine WL_stepM rfl (R_mv) ?_
    (refine WL_call rfl (R_call rfl Tryz.call24 rfl) (refs_ret (hAl _ H.kp).1) ?_; rintro _ w35 ⟨rfl, H1⟩; replace H := H.seq0 H1; clear H1)
    refine WL_step rfl (R_buildL (places := [(0, 1), (1, 1)]) (vs := flC2 ([114, 101, 102, 115], (List.range 12).any (refB xs))) Tryz.underlying68 Tryz.typeInfo68 rfl rfl (by kernel_rfl) rfl rfl rfl) ?_
    refine WL_stepM rfl (R_mv) ?_
    (refine WL_call rfl (R_call rfl Tryz.call25 rfl) (pipe_ret (hAl _ H.kp).1) ?_; rintro _ w38 ⟨rfl, H1⟩; replace H := H.seq0 H1; clear H1)
    refine WL_step rfl (R_buildL (places := [(0, 1), (1, 1)]) (vs := flC2 ([112, 105, 112, 101], (List.range 12).any (pipB xs))) Tryz.underlying68 Tryz.typeInfo68 rfl rfl (by kernel_rfl) rfl rfl rfl) ?_
    refine WL_stepM rfl (R_mv) ?_
    (refine WL_call rfl (R_call rfl Tryz.call26 rfl) (ends_ret (hAl _ H.kp).1) ?_; rintro _ w41 ⟨rfl, H1⟩; replace H := H.seq0 H1; clear H1)
    refine WL_step rfl (R_buildL (places := [(0, 1), (1, 1)]) (vs := flC2 ([101, 110, 100, 115], (List.range 4).any (endB xs))) Tryz.underlying68 Tryz.typeInfo68 rfl rfl (by kernel_rfl) rfl rfl rfl) ?_
    (refine WL_effn rfl (E_buildRows (vss := (flags xs).map flC2) H Tryz.underlying69 Tryz.sizeOf68 Tryz.zeroValue68 rfl rfl (by decide) rfl rfl (by intro vs hvs; obtain ⟨r, _, rfl⟩ := List.mem_map.1 hvs; simp [flC2])) ?_; clear H; intro b29 w43 hb29 H; replace H : Hp w ((b29, blk (rows flC2 F) 68) :: MA) w43 := (by rw [← hF]; exact H))
    refine WL_step rfl (R_len_slice Tryz.underlying69 rfl) ?_
    refine WL_stepM rfl (R_mv) ?_
    refine WL_nil ?_
    refine W_block ?_
    refine W_loopS [(4, 4), (6, 6), (31, 42)] (fun (i : Nat) E w' => ∃ (v4 : Value) (M : List (Nat × Obj)), i ≤ 5 ∧ E 31 = I i ∧ E 4 = v4 ∧ OwnS w.heap.size 9 1 v4 (told (F.take i)).length ((told (F.take i)).map S) M ∧ Hp w ((b29, blk (rows flC2 F) 68) :: (MA ++ M)) w') (fun i => 5 - i) 0 ?e0 ?r0
    · exact ⟨_, [], by omega, rfl, rfl, hO, (by rw [List.append_nil]; exact H)⟩
    · (clear H hO; rintro i E w1 ⟨v4, M, hi, h31, h4, hO, H⟩; obtain ⟨a4, k4, rfl⟩ := hO.form; have hle := told_le F i; have hOk := hO.keys; refine W_kn2 h31 h4 ?_)
      refine W_seq ?_
      refine W_region_l ?_
      refine WL_step rfl (R_lt rfl rfl) ?_
      refine WL_nil ?_
      refine W_seq ?_
      refine W_if rfl (fun h55 => ?_) (fun h55 => ?_)
      · refine W_skip ?_
        refine W_seq ?_
        refine W_block ?_
        refine W_seq ?_
        ((obtain ⟨⟨nm, fb⟩, hFi⟩ : ∃ r, F[i]? = some r := ⟨_, List.getElem?_eq_getElem (by omega)⟩; rcases fb)) <;> refine W_region_l ?_
        · refine WL_step rfl (R_indexAddr (off' := i * 2) Tryz.underlying69 Tryz.sizeOf68 rfl rfl (by omega) (by omega) (by omega)) ?_
          refine WL_step rfl (R_loadA (vs := [S nm, .bool false]) Tryz.isAgg68 Tryz.sizeOf68 rfl (H.get .here) (rows_one flC2_len hFi) (by rw [rows_length flC2_len]; show i * 2 + 2 ≤ _; omega)) ?_
          (refine WL_effn rfl (E_alloc (vs := [S [], .bool false]) H Tryz.zeroValue68 rfl) ?_; clear H; intro c6 w63 hc6 H)
          (refine WL_effu rfl (E_storeA (vs := [S nm, .bool false]) H Tryz.sizeOf68 rfl rfl (by simp [Value.oneCell']) .here (by simp)) ?_; clear H; intro w64 H)
          refine WL_nil ?_
          refine W_seq ?_
          refine W_region_l ?_
          refine WL_step rfl (R_fieldAddr (off' := 1) Tryz.underlying68 rfl Tryz.sizeOf4 (by decide) rfl rfl) ?_
          refine WL_step rfl (R_load Tryz.isAgg4 rfl (H.get .here) rfl) ?_
          refine WL_nil ?_
          refine W_cond_f rfl ?_
          refine W_skip ?_
          refine W_region_l ?_
          refine WL_step rfl (R_add rfl rfl (w_i64 (by omega))) ?_
          refine WL_stepM rfl (R_mv) ?_
          refine WL_nil ?_
          (have hy := told_no hFi; exact ⟨(same_mov rfl (same_updo rfl (same_updo rfl (same_updo rfl (same_updn (same_updo rfl (same_updo rfl (same_updo rfl (same_know rfl (same_updo rfl same_ovr)))))))))), i + 1, by omega, _, M, by omega, rfl, rfl, (by rw [hy]; exact hO), H.pop (by assumption)⟩)
        · refine WL_step rfl (R_indexAddr (off' := i * 2) Tryz.underlying69 Tryz.sizeOf68 rfl rfl (by omega) (by omega) (by omega)) ?_
          refine WL_step rfl (R_loadA (vs := [S nm, .bool true]) Tryz.isAgg68 Tryz.sizeOf68 rfl (H.get .here) (rows_one flC2_len hFi) (by rw [rows_length flC2_len]; show i * 2 + 2 ≤ _; omega)) ?_
          (refine WL_effn rfl (E_alloc (vs := [S [], .bool false]) H Tryz.zeroValue68 rfl) ?_; clear H; intro c6 w80 hc6 H)
          (refine WL_effu rfl (E_storeA (vs := [S nm, .bool true]) H Tryz.sizeOf68 rfl rfl (by simp [Value.oneCell']) .here (by simp)) ?_; clear H; intro w81 H)
          refine WL_nil ?_
          refine W_seq ?_
          refine W_region_l ?_
          refine WL_step rfl (R_fieldAddr (off' := 1) Tryz.underlying68 rfl Tryz.sizeOf4 (by decide) rfl rfl) ?_
          refine WL_step rfl (R_load Tryz.isAgg4 rfl (H.get .here) rfl) ?_
          refine WL_nil ?_
          refine W_cond_t rfl ?_
          refine W_region_l ?_
          refine WL_stepM rfl (R_mv) ?_
          refine WL_step rfl (R_fieldAddr (off' := 0) Tryz.underlying68 rfl Tryz.sizeOf9 (by decide) rfl rfl) ?_
          refine WL_step rfl (R_load Tryz.isAgg9 rfl (H.get .here) rfl) ?_
          (refine WL_effn rfl (E_buildOnes (vs := [S nm]) H Tryz.underlying27 Tryz.sizeOf9 Tryz.zeroValue9 rfl rfl (by decide) rfl rfl (by simp [Value.oneCell'])) ?_; clear H; intro b40 w93 hb40 H)
          (refine WL_effm rfl (E_append (news := [S nm]) (m := 1) H (.there (.there (.there (.app MA .last)))) hO Tryz.underlying27 Tryz.typeInfo9 rfl rfl rfl rfl rfl rfl (src_one Tryz.underlying27 (H.get .here) rfl) (by omega) (by simp only [Tryz.t9]; omega)) ?_; clear H; intro vN MN w94 hON H)
          refine WL_stepM rfl (R_as) ?_
          refine WL_nil ?_
          refine W_region_l ?_
          refine WL_step rfl (R_add rfl rfl (w_i64 (by omega))) ?_
          refine WL_stepM rfl (R_mv) ?_
          refine WL_nil ?_
          (have hy := told_yes hFi; exact ⟨(same_mov rfl (same_updo rfl (same_mov rfl (same_updo rfl (same_updo rfl (same_updo rfl (same_updo rfl (same_mov rfl (same_updo rfl (same_updo rfl (same_updn (same_updo rfl (same_updo rfl (same_updo rfl (same_know rfl (same_updo rfl same_ovr)))))))))))))))), i + 1, by omega, _, MN, by omega, rfl, rfl, (by rw [hy, List.length_append, List.map_append]; exact hON), (H.pop (by assumption)).pop (by assumption)⟩)
      · refine W_exit ?_
        refine (if_pos rfl).mpr ?_
        refine W_seq ?_
        ((obtain rfl : i = 5 := (by omega); have ht : F.take 5 = F := List.take_of_length_le (by omega))) <;> refine W_region_l ?_
        refine WL_stepM rfl (R_mv) ?_
        refine WL_stepM rfl (R_as) ?_
        refine WL_nil ?_
        refine W_ret ?_
        exact ⟨_, rfl, M, (by have h9 := hO; simp only [ht] at h9 ⊢; exact h9), Hp.dropN (M := MA) (H.pop (by assumption)) hKA⟩
  · have hf : faults xs = [[98, 97, 100]] := if_neg hs
    rw [hf]
    by_cases hx : xs.length = 492
    · have hb : badAll xs ≠ [] := fun h => hs ⟨hx, h⟩
      have hb1 : 0 < (badAll xs).length := List.length_pos_iff.2 hb
      refine W_seq ?_
      refine W_region_l ?_
      refine WL_stepM rfl (R_as) ?_
      refine WL_nil ?_
      refine W_seq ?_
      refine W_seq ?_
      refine W_region_l ?_
      refine WL_stepM rfl (R_mv) ?_
      (refine WL_call rfl (R_call rfl Tryz.call11 rfl) (bad_yes hl hx) ?_; rintro vb w9 ⟨MB, hOB, H1⟩; have h9 := H.seqO hOB H1; clear H H1 hOB; obtain ⟨hOB, H⟩ := h9; obtain ⟨fb, gb, rfl⟩ := hOB.form; replace H := Hp.dropN (M := MB) H hOB.keys)
      refine WL_step rfl (R_len_slice Tryz.underlying33 rfl) ?_
      refine WL_step rfl (R_gt_t rfl rfl (by omega)) ?_
      refine WL_nil ?_
      refine W_cond_t rfl ?_
      refine W_seq ?_
      refine W_region_l ?_
      (refine WL_effn rfl (E_buildOnes (vs := [S [98, 97, 100]]) H Tryz.underlying27 Tryz.sizeOf9 Tryz.zeroValue9 rfl rfl (by decide) rfl rfl (by simp [Value.oneCell'])) ?_; clear H; intro b11 w16 hb11 H)
      refine WL_stepM rfl (R_as) ?_
      refine WL_nil ?_
      refine W_ret ?_
      exact ⟨_, rfl, _, OwnS.new (sp := []) hb11 rfl rfl (by decide), H⟩
    · refine W_seq ?_
      refine W_region_l ?_
      refine WL_stepM rfl (R_as) ?_
      refine WL_nil ?_
      refine W_seq ?_
      refine W_seq ?_
      refine W_region_l ?_
      refine WL_stepM rfl (R_mv) ?_
      (refine WL_call rfl (R_call rfl Tryz.call11 rfl) (bad_no hl hx) ?_; rintro vb w9 ⟨MB, hOB, H1⟩; have h9 := H.seqO hOB H1; clear H H1 hOB; obtain ⟨hOB, H⟩ := h9; obtain ⟨fb, gb, rfl⟩ := hOB.form; replace H := Hp.dropN (M := MB) H hOB.keys)
      refine WL_step rfl (R_len_slice Tryz.underlying33 rfl) ?_
      refine WL_step rfl (R_gt_t rfl rfl (by omega)) ?_
      refine WL_nil ?_
      refine W_cond_t rfl ?_
      refine W_seq ?_
      refine W_region_l ?_
      (refine WL_effn rfl (E_buildOnes (vs := [S [98, 97, 100]]) H Tryz.underlying27 Tryz.sizeOf9 Tryz.zeroValue9 rfl rfl (by decide) rfl rfl (by simp [Value.oneCell'])) ?_; clear H; intro b11 w16 hb11 H)
      refine WL_stepM rfl (R_as) ?_
      refine WL_nil ?_
      refine W_ret ?_
      exact ⟨_, rfl, _, OwnS.new (sp := []) hb11 rfl rfl (by decide), H⟩
theorem sound_ret {xs : List UInt8} {w : World} {l : Value} (hl : RdS w l (xs.map U)) :
    Ret Tryz.prog 8 #[l] w fun v w' => v = .bool (decide (faults xs = [])) ∧ Hp w [] w' := by
  refine Ret_of_W (args := [_]) Tryz.func8 rfl Tryz.ntmps8 Tryz.results8 (by simp) ?_
  have H := Hp.refl w
  refine W_seq ?_
  refine W_region_l ?_
  refine WL_stepM rfl (R_as) ?_
  refine WL_nil ?_
  refine W_seq ?_
  refine W_region_l ?_
  refine WL_stepM rfl (R_mv) ?_
  (refine WL_call rfl (R_call rfl Tryz.call7 rfl) (faults_ret hl) ?_; rintro vb w8 ⟨MB, hOB, H1⟩; have h8 := H.seqO hOB H1; clear H H1 hOB; obtain ⟨hOB, H⟩ := h8; obtain ⟨fb, gb, rfl⟩ := hOB.form; replace H := Hp.dropN (M := MB) H hOB.keys)
  refine WL_step rfl (R_len_slice Tryz.underlying27 rfl) ?_
  refine WL_step rfl (R_eq rfl rfl) ?_
  refine WL_stepM rfl (R_as) ?_
  refine WL_nil ?_
  refine W_ret ?_
  exact ⟨_, rfl, congrArg Value.bool (decide_eq_decide.2 (by rw [← List.length_eq_zero_iff]; omega)), H⟩
end Go.Proofs.YthonajikgljgmaaGreat.Aud

/-
  The law TableValues: the walk, led to its end.
-/
import Derived.Test.YtjkkfahjgaidbaaTabY
namespace Go.Proofs.Ytjkkfahjgaidbaa.TabY
open Go Go.Proofs Go.Proofs.Ytjkkfahjgaidbaa.Fx
set_option maxRecDepth 100000
set_option linter.unusedVariables false
set_option linter.unusedSimpArgs false
set_option maxHeartbeats 16000000

theorem values_ret {xs : List Int} {w : World} {l : Value} (a1 v a3 : Int) (hl : RdS w l (xs.map I)) (hb : xs.length ≤ 9223372036854775807) :
    Ret Try.prog 11 #[l, I a1, I v, I a3] w fun r w' => r = .bool true ∧ Hp w [] w' := by
  refine Ret_of_W (args := [_, _, _, _]) Try.func11 rfl Try.ntmps11 Try.results11 (by simp) ?_
  have H := Hp.refl w
  obtain ⟨al, cl, rfl⟩ := hl.form
  simp only [List.length_map] at hl ⊢
  obtain ⟨n, hn, hn2⟩ : ∃ n : Nat, min (xs.length : Int) 40 = n ∧ n = min xs.length 40 := ⟨min xs.length 40, by omega, rfl⟩
  obtain ⟨X, hX⟩ : ∃ X : Nat → Int, ∀ i, i < xs.length → xs[i]? = some (X i) := ⟨fun i => xs.getD i 0, fun i hi => by simp [List.getD, List.getElem?_eq_getElem hi]⟩
  refine W_seq ?_
  refine W_region_l ?_
  refine WL_stepM rfl (R_as) ?_
  refine WL_nil ?_
  refine W_seq ?_
  refine W_region_l ?_
  refine WL_stepM rfl (R_mv) ?_
  refine WL_step rfl (R_len_slice Try.underlying51 rfl) ?_
  refine WL_step rfl (R_min rfl rfl hn) ?_
  refine WL_stepM rfl (R_as) ?_
  refine WL_nil ?_
  refine W_seq ?_
  refine W_region_l ?_
  (refine WL_call rfl (R_call rfl Try.call32 rfl) (TabV.new_ret 50 _) ?_; rintro _ w14 ⟨pa, ba, rfl, H1, hpa, hba⟩; rw [show TabV.szOf 50 = 50 from rfl, show List.replicate 50 TabV.newPl = tab 50 (fA X 0) from rfl] at H1; have hsz := H.size; replace H := H.seqN H1 (kCons hpa (kCons hba kNil)); replace hpa := Nat.le_trans hsz hpa; replace hba := Nat.le_trans hsz hba; clear H1 hsz)
  (refine WL_call rfl (R_call rfl Try.call33 rfl) (TabF.new_ret 50 _) ?_; rintro _ w15 ⟨pb, bb, rfl, H1, hpb, hbb⟩; rw [show Tab.szOf 50 = 50 from rfl, show List.replicate 50 TabF.newPl = tab 50 (fB (fun _ => 0) 0) from rfl] at H1; have hsz := H.size; replace H := H.seqN H1 (kCons hpb (kCons hbb kNil)); replace hpb := Nat.le_trans hsz hpb; replace hbb := Nat.le_trans hsz hbb; clear H1 hsz)
  refine WL_stepM rfl (R_as) ?_
  refine WL_stepM rfl (R_as) ?_
  refine WL_nil ?_
  refine W_seq ?_
  refine W_seq ?_
  ((by_cases hn0 : n = 0)) <;> refine W_region_l ?_
  · refine WL_stepM rfl (R_mv) ?_
    refine WL_step rfl (R_eq_ptr_nil Try.underlying59 rfl rfl) ?_
    refine WL_stepM rfl (R_mv) ?_
    refine WL_guard_t rfl rfl ?_
    refine WL_stepM rfl (R_mv) ?_
    refine WL_guard_t rfl rfl ?_
    refine WL_step rfl (R_eq_ptr_nil Try.underlying62 rfl rfl) ?_
    refine WL_stepM rfl (R_pk_f rfl) ?_
    refine WL_stepM rfl (R_mv) ?_
    refine WL_guard_t rfl rfl ?_
    refine WL_stepM rfl (R_mv) ?_
    refine WL_guard_t rfl rfl ?_
    refine WL_step rfl (R_eq_t rfl rfl (by omega)) ?_
    refine WL_stepM rfl (R_pk_f rfl) ?_
    refine WL_nil ?_
    refine W_cond_t rfl ?_
    refine W_seq ?_
    refine W_region_l ?_
    refine WL_stepM rfl (R_mv) ?_
    refine WL_step rfl (R_ne_ptr_nil Try.underlying59 rfl rfl) ?_
    refine WL_stepM rfl (R_mv) ?_
    refine WL_guard_t rfl rfl ?_
    refine WL_stepM rfl (R_mv) ?_
    refine WL_guard_t rfl rfl ?_
    refine WL_step rfl (R_ne_ptr_nil Try.underlying62 rfl rfl) ?_
    refine WL_stepM rfl (R_pk_t rfl) ?_
    refine WL_stepM rfl (R_mv) ?_
    refine WL_guard_t rfl rfl ?_
    (refine WL_call rfl (R_call rfl Try.call31 rfl) (Tab.awake_ret _) ?_; rintro _ w50 ⟨rfl, H1⟩; replace H := H.seq0 H1; clear H1)
    refine WL_stepM rfl (R_pk_t rfl) ?_
    refine WL_stepM rfl (R_as) ?_
    refine WL_nil ?_
    refine W_ret ?_
    exact ⟨_, rfl, rfl, H.none (by repeat' first | exact kNil | apply kCons | apply kApp | assumption | exact OwnS.keys (by assumption))⟩
  · refine WL_stepM rfl (R_mv) ?_
    refine WL_step rfl (R_eq_ptr_nil Try.underlying59 rfl rfl) ?_
    refine WL_stepM rfl (R_mv) ?_
    refine WL_guard_t rfl rfl ?_
    refine WL_stepM rfl (R_mv) ?_
    refine WL_guard_t rfl rfl ?_
    refine WL_step rfl (R_eq_ptr_nil Try.underlying62 rfl rfl) ?_
    refine WL_stepM rfl (R_pk_f rfl) ?_
    refine WL_stepM rfl (R_mv) ?_
    refine WL_guard_t rfl rfl ?_
    refine WL_stepM rfl (R_mv) ?_
    refine WL_guard_t rfl rfl ?_
    refine WL_step rfl (R_eq_f rfl rfl (by omega)) ?_
    refine WL_stepM rfl (R_pk_f rfl) ?_
    refine WL_nil ?_
    refine W_cond_f rfl ?_
    refine W_skip ?_
    refine W_seq ?_
    refine W_region_l ?_
    refine WL_stepM rfl (R_as) ?_
    refine WL_nil ?_
    refine W_seq ?_
    refine W_seq ?_
    refine W_region_l ?_
    refine WL_stepM rfl (R_as) ?_
    refine WL_nil ?_
    refine W_block ?_
    refine W_loopS [(8, 8), (12, 18), (49, 89)] (fun (i : Nat) E w' => ∃ (kb : Nat → Nat) (Kl : List (Nat × Obj)) (va : Value) (Ma : List (Nat × Obj)), i ≤ n ∧ E 12 = va ∧ E 13 = I i ∧ (∀ j, j < i → (kb j, blk [I (X j)] 3) ∈ Kl) ∧ (∀ p ∈ Kl, w.heap.size ≤ p.1) ∧ OwnS w.heap.size 3 1 va i ((tab i nm).map I) Ma ∧ Hp w (Kl ++ (Ma ++ [(pb, blk [sl bb 0 50 50] 106), (bb, blk (rows Tab.plc (tab 50 (fB kb i))) 108), (pa, blk [sl ba 0 50 50] 101), (ba, blk (rows TabV.plc (tab 50 (fA X i))) 103)])) w') (fun i => n - i) 0 ?e0 ?r0
    · exact ⟨fun _ => 0, [], _, [], by omega, rfl, rfl, fun j hj => absurd hj (by omega), kNil, OwnS.nil _ _ _, H⟩
    · (clear H; rintro i E w1 ⟨kb, Kl, va, Ma, hi, h0, h1, hK, hKk, hO, H⟩; obtain ⟨aa, ca, rfl⟩ := hO.form; refine W_kn2 h0 h1 ?_)
      refine W_seq ?_
      refine W_seq ?_
      refine W_region_l ?_
      refine WL_stepM rfl (R_mv) ?_
      refine WL_stepM rfl (R_mv) ?_
      refine WL_step rfl (R_lt rfl rfl) ?_
      refine WL_nil ?_
      refine W_if rfl (fun h92 => ?_) (fun h92 => ?_)
      · refine W_skip ?_
        refine W_seq ?_
        refine W_block ?_
        refine W_seq ?_
        ((have hXi := hX i (by omega); obtain ⟨b1, o1, rfl, hc1⟩ := hl.cell (i := i) (u := I (X i)) (by rw [List.getElem?_map, hXi]; rfl); have mk9 : True := trivial)) <;> refine W_region_l ?_
        refine WL_stepM rfl (R_mv) ?_
        refine WL_stepM rfl (R_mv) ?_
        refine WL_stepM rfl (R_mv) ?_
        refine WL_stepM rfl (R_mv) ?_
        refine WL_step rfl (R_indexAddr Try.underlying51 Try.sizeOf3 rfl rfl (by omega) (by omega) idx_cast1) ?_
        refine WL_step rfl (R_load_cell Try.isAgg3 rfl (H.cellN hc1 (kApp hKk (kApp hO.keys (by repeat' first | exact kNil | apply kCons | apply kApp | assumption | exact OwnS.keys (by assumption)))))) ?_
        refine WL_step rfl (R_build (vs := [(.int _ _), (.int _ _)]) rfl rfl) ?_
        (refine WL_call rfl (R_call rfl Try.call34 rfl) (TabV.add_yes (l := tab 50 (fA X i)) (i := i) (a := TabV.newPl) (H.get (.app _ (.app _ (.there (.there .here))))) (H.get (.app _ (.app _ (.there (.there (.there .here)))))) (tab_length _ _) (by decide) (tab_mem fun j _ => fA_g i j) (pv i (X i)) (fA_at (by omega)) ⟨rfl, by decide⟩ (fA_least i)) ?_; rintro _ w105 ⟨rfl, H1⟩; rw [fA_set (by omega)] at H1; replace H := H.seq H1 (okSeq_set (.app _ (.app _ (.there (.there (.there .here))))) okSeq_nil); clear H1)
        refine WL_stepM rfl (R_mv) ?_
        refine WL_step rfl (R_extract rfl rfl) ?_
        refine WL_step rfl (R_extract rfl rfl) ?_
        refine WL_stepM rfl (R_as) ?_
        refine WL_stepM rfl (R_as) ?_
        refine WL_nil ?_
        refine W_seq ?_
        refine W_region_l ?_
        refine WL_stepM rfl (R_mv) ?_
        refine WL_stepM rfl (R_mv) ?_
        refine WL_step rfl (R_indexAddr Try.underlying51 Try.sizeOf3 rfl rfl (by omega) (by omega) idx_cast1) ?_
        refine WL_step rfl (R_load_cell Try.isAgg3 rfl (H.cellN hc1 (kApp hKk (kApp hO.keys (by repeat' first | exact kNil | apply kCons | apply kApp | assumption | exact OwnS.keys (by assumption)))))) ?_
        (refine WL_effn rfl (E_alloc (vs := [I 0]) H Try.zeroValue3 rfl) ?_; clear H; intro c16 w118 hc16 H)
        (have _g := mk9; refine WL_effu rfl (E_store (v := I (X i)) H Try.sizeOf3 rfl rfl rfl .here (by simp)) ?_; clear H; intro w119 H)
        refine WL_nil ?_
        refine W_seq ?_
        refine W_region_l ?_
        refine WL_stepM rfl (R_mv) ?_
        refine WL_step rfl (R_fn1 rfl) ?_
        (refine WL_call rfl (R_call rfl Try.call35 rfl) (TabF.add_yes (l := tab 50 (fB kb i)) (i := i) (a := TabF.newPl) (H.get (.there (.app _ (.app _ .here)))) (H.get (.there (.app _ (.app _ (.there .here))))) (tab_length _ _) (by decide) (tab_mem fun j _ => fB_g kb i j) (tab_mem fun j _ => fB_v kb i j) c16 (fB_at (by omega)) ⟨rfl, by decide⟩ (fB_least kb i)) ?_; rintro _ w125 ⟨rfl, H1⟩; rw [fB_set (by omega)] at H1; replace H := H.seq H1 (okSeq_set (.there (.app _ (.app _ (.there .here)))) okSeq_nil); clear H1)
        refine WL_stepM rfl (R_mv) ?_
        refine WL_step rfl (R_extract rfl rfl) ?_
        refine WL_step rfl (R_extract rfl rfl) ?_
        refine WL_stepM rfl (R_as) ?_
        refine WL_stepM rfl (R_as) ?_
        refine WL_nil ?_
        refine W_seq ?_
        refine W_seq ?_
        refine W_region_l ?_
        refine WL_stepM rfl (R_mv) ?_
        refine WL_step rfl (R_not_t rfl) ?_
        refine WL_stepM rfl (R_mv) ?_
        refine WL_guard_t rfl rfl ?_
        refine WL_stepM rfl (R_mv) ?_
        refine WL_guard_t rfl rfl ?_
        refine WL_step rfl (R_not_t rfl) ?_
        refine WL_stepM rfl (R_pk_f rfl) ?_
        refine WL_stepM rfl (R_mv) ?_
        refine WL_guard_t rfl rfl ?_
        refine WL_stepM rfl (R_mv) ?_
        refine WL_guard_t rfl rfl ?_
        refine WL_stepM rfl (R_mv) ?_
        refine WL_guard_t rfl rfl ?_
        refine WL_step rfl (R_ne_f rfl rfl rfl) ?_
        refine WL_stepM rfl (R_pk_f rfl) ?_
        refine WL_nil ?_
        refine W_cond_f rfl ?_
        refine W_skip ?_
        refine W_region_l ?_
        refine WL_stepM rfl (R_mv) ?_
        refine WL_stepM rfl (R_mv) ?_
        (refine WL_effn rfl (E_buildOnes (vs := [(.int _ _)]) H Try.underlying51 Try.sizeOf3 Try.zeroValue3 rfl rfl (by decide) rfl rfl (by simp [Value.oneCell'])) ?_; clear H; intro b157 w157 hb157 H)
        (refine WL_effm rfl (E_append H (.there (.there (.app _ .here))) hO Try.underlying51 Try.typeInfo3 rfl rfl rfl rfl rfl rfl (src_one Try.underlying51 (H.get .here) rfl) (by omega) (by simp only [Try.t3]; omega)) ?_; clear H hO; intro vN MN w158 hO H; replace H := H.pop (by assumption))
        refine WL_stepM rfl (R_as) ?_
        refine WL_nil ?_
        refine W_region_l ?_
        refine WL_stepM rfl (R_mv) ?_
        refine WL_step rfl (R_add rfl rfl (w_i64 (by omega))) ?_
        refine WL_stepM rfl (R_as) ?_
        refine WL_nil ?_
        exact ⟨(same_mov rfl (same_updo rfl (same_mov rfl (same_mov rfl (same_updo rfl (same_updo rfl (same_mov rfl (same_mov rfl (same_mov rfl (same_updo rfl (same_mov rfl (same_mov rfl (same_mov rfl (same_mov rfl (same_updo rfl (same_mov rfl (same_mov rfl (same_updo rfl (same_mov rfl (same_mov rfl (same_mov rfl (same_updo rfl (same_updo rfl (same_mov rfl (same_updo rfl (same_updo rfl (same_mov rfl (same_updn (same_updo rfl (same_updo rfl (same_updo rfl (same_mov rfl (same_mov rfl (same_mov rfl (same_mov rfl (same_updo rfl (same_updo rfl (same_mov rfl (same_updo rfl (same_updo rfl (same_updo rfl (same_updo rfl (same_mov rfl (same_mov rfl (same_mov rfl (same_mov rfl (same_know rfl (same_updo rfl (same_mov rfl (same_mov rfl same_ovr)))))))))))))))))))))))))))))))))))))))))))))))))), i + 1, by omega, kbs kb i c16, (c16, blk [I (X i)] 3) :: Kl, vN, MN, by omega, rfl, rfl, (fun j hj => by unfold kbs; by_cases e : j = i; (subst e; rw [if_pos rfl]; exact .head _); rw [if_neg e]; exact .tail _ (hK j (by omega))), kCons (by assumption) hKk, (by rw [tab_succ, List.map_append]; exact hO), H⟩
      · refine W_exit ?_
        refine (if_pos rfl).mpr ?_
        refine W_seq ?_
        (obtain rfl : i = n := (by omega); obtain ⟨bn, cn, spn, hv, hbn, hM, hsp, hcap⟩ := OwnS.pos hO (by omega); cases hv; subst hM; obtain ⟨A, hA, hAl⟩ : ∃ A : Nat, (A : Int) = (a1 % 65536) % i ∧ A < i := ⟨((a1 % 65536) % i).toNat, Int.toNat_of_nonneg (Int.emod_nonneg _ (by omega)), by have := Int.emod_lt_of_pos (a1 % 65536) (b := (i : Int)) (by omega); omega⟩; obtain ⟨D, hD, hDl⟩ : ∃ D : Nat, (D : Int) = (a3 % 65536) % i ∧ D < i := ⟨((a3 % 65536) % i).toNat, Int.toNat_of_nonneg (Int.emod_nonneg _ (by omega)), by have := Int.emod_lt_of_pos (a3 % 65536) (b := (i : Int)) (by omega); omega⟩; refine W_draw (fun _ => True) (fun _ => false) (by kernel_rfl) H ?_; clear H; intro w170 H)
        refine WA_takeM 0 rfl rfl rfl (by kernel_rfl) (by kernel_rfl) trivial (fun _ hC => R_mv) ?_
        refine WA_take 1 rfl rfl rfl (by kernel_rfl) (by kernel_rfl) trivial (fun _ hC => R_bits rfl rfl (by simp) (and_mask_i64 16 65536 (by decide) rfl (by decide))) ?_
        refine WA_takeM 2 rfl rfl rfl (by kernel_rfl) (by kernel_rfl) trivial (fun _ hC => R_mv) ?_
        refine WA_take 3 rfl rfl rfl (by kernel_rfl) (by kernel_rfl) trivial (fun _ hC => R_rem rfl rfl (by omega) ((rem_pos (by omega)).trans hA.symm)) ?_
        refine WA_takeM 4 rfl rfl rfl (by kernel_rfl) (by kernel_rfl) trivial (fun _ hC => R_mv) ?_
        refine WA_take 5 rfl rfl rfl (by kernel_rfl) (by kernel_rfl) trivial (fun _ hC => R_bits rfl rfl (by simp) (and_mask_i64 16 65536 (by decide) rfl (by decide))) ?_
        refine WA_takeM 6 rfl rfl rfl (by kernel_rfl) (by kernel_rfl) trivial (fun _ hC => R_mv) ?_
        refine WA_take 7 rfl rfl rfl (by kernel_rfl) (by kernel_rfl) trivial (fun _ hC => R_rem rfl rfl (by omega) ((rem_pos (by omega)).trans hD.symm)) ?_
        refine WA_takeM 8 rfl rfl rfl (by kernel_rfl) (by kernel_rfl) trivial (fun _ hC => R_as) ?_
        refine WA_takeM 9 rfl rfl rfl (by kernel_rfl) (by kernel_rfl) trivial (fun _ hC => R_as) ?_
        refine WA_done (by kernel_rfl) ?_
        refine W_seq ?_
        refine W_seq ?_
        refine W_region_l ?_
        refine WL_stepM rfl (R_mv) ?_
        refine WL_stepM rfl (R_mv) ?_
        refine WL_stepM rfl (R_mv) ?_
        refine WL_step rfl (R_indexAddr Try.underlying51 Try.sizeOf3 rfl rfl (by omega) (by omega) idx0_cast) ?_
        refine WL_step rfl (R_load (v := I (nm A)) Try.isAgg3 rfl (H.get (.app _ .here)) (nm_get hAl)) ?_
        refine WL_stepM rfl (R_mv) ?_
        refine WL_step rfl (R_build (vs := [(.int _ _), (.int _ _)]) rfl rfl) ?_
        (refine WL_call rfl (R_call rfl Try.call37 rfl) (TabV.set_yes (l := tab 50 (fA X i)) (i := A) (a := ⟨pv A (X A), 1, true⟩) (H.get (.app _ (.there (.there (.there .here))))) (H.get (.app _ (.there (.there (.there (.there .here)))))) (tab_length _ _) (by decide) (fA_in hAl (by omega)) (by show 1 ≤ 1000001; omega) rfl (pv (-1) v)) ?_; rintro _ w192 ⟨rfl, H1⟩; rw [fC_set hAl (by omega)] at H1; replace H := H.seq H1 (okSeq_set (.app _ (.there (.there (.there (.there .here))))) okSeq_nil); clear H1)
        refine WL_step rfl (R_not_t rfl) ?_
        refine WL_stepM rfl (R_mv) ?_
        refine WL_guard_t rfl rfl ?_
        refine WL_stepM rfl (R_mv) ?_
        refine WL_guard_t rfl rfl ?_
        refine WL_stepM rfl (R_mv) ?_
        refine WL_guard_t rfl rfl ?_
        refine WL_stepM rfl (R_mv) ?_
        refine WL_guard_t rfl rfl ?_
        refine WL_step rfl (R_indexAddr Try.underlying51 Try.sizeOf3 rfl rfl (by omega) (by omega) idx0_cast) ?_
        refine WL_guard_t rfl rfl ?_
        refine WL_step rfl (R_load (v := I (nm D)) Try.isAgg3 rfl (H.get (.app _ .here)) (nm_get hDl)) ?_
        refine WL_guard_t rfl rfl ?_
        (refine WL_call rfl (R_call rfl Try.call38 rfl) (TabV.drop_yes (l := tab 50 (fC X i A v)) (i := D) (a := ⟨wC X A v D, 1, true⟩) (H.get (.app _ (.there (.there (.there .here))))) (H.get (.app _ (.there (.there (.there (.there .here)))))) (tab_length _ _) (by decide) (fC_in hDl (by omega)) (by show 1 ≤ 1000001; omega) rfl) ?_; rintro _ w206 ⟨rfl, H1⟩; rw [fD_set hDl (by omega)] at H1; replace H := H.seq H1 (okSeq_set (.app _ (.there (.there (.there (.there .here))))) okSeq_nil); clear H1)
        refine WL_guard_t rfl rfl ?_
        refine WL_step rfl (R_not_t rfl) ?_
        refine WL_stepM rfl (R_pk_f rfl) ?_
        refine WL_stepM rfl (R_mv) ?_
        refine WL_guard_t rfl rfl ?_
        refine WL_stepM rfl (R_mv) ?_
        refine WL_guard_t rfl rfl ?_
        refine WL_stepM rfl (R_mv) ?_
        refine WL_guard_t rfl rfl ?_
        refine WL_stepM rfl (R_mv) ?_
        refine WL_guard_t rfl rfl ?_
        refine WL_step rfl (R_indexAddr Try.underlying51 Try.sizeOf3 rfl rfl (by omega) (by omega) idx0_cast) ?_
        refine WL_guard_t rfl rfl ?_
        refine WL_step rfl (R_load (v := I (nm D)) Try.isAgg3 rfl (H.get (.app _ .here)) (nm_get hDl)) ?_
        refine WL_guard_t rfl rfl ?_
        refine WL_step rfl (R_build (vs := [(.int _ _), (.int _ _)]) rfl rfl) ?_
        refine WL_guard_t rfl rfl ?_
        (refine WL_call rfl (R_call rfl Try.call37 rfl) (TabV.set_no (l := tab 50 (fD X i A D v)) (H.get (.app _ (.there (.there (.there .here))))) (H.get (.app _ (.there (.there (.there (.there .here)))))) (tab_length _ _) (by decide) (tab_mem fun j _ => fD_g j) fD_gone TabV.zk) ?_; rintro _ w224 ⟨rfl, H1⟩; replace H := H.seq0 H1; clear H1)
        refine WL_stepM rfl (R_pk_f rfl) ?_
        refine WL_nil ?_
        refine W_cond_f rfl ?_
        refine W_skip ?_
        refine W_seq ?_
        refine W_seq ?_
        refine W_region_l ?_
        refine WL_stepM rfl (R_as) ?_
        refine WL_nil ?_
        refine W_block ?_
        refine W_loopS [(8, 8), (19, 24), (125, 197)] (fun (k : Nat) E w' => k ≤ i ∧ E 19 = I k ∧ Hp w (Kl ++ ((bn, blk ((tab i nm).map I ++ spn) 3) :: [(pb, blk [sl bb 0 50 50] 106), (bb, blk (rows Tab.plc (tab 50 (fB kb i))) 108), (pa, blk [sl ba 0 50 50] 101), (ba, blk (rows TabV.plc (tab 50 (fD X i A D v))) 103)])) w') (fun k => i - k) 0 ?e2 ?r2
        · exact ⟨by omega, rfl, H⟩
        · (clear H; rintro k E w1 ⟨hk, h0, H⟩; refine W_kn h0 ?_)
          refine W_seq ?_
          refine W_seq ?_
          refine W_region_l ?_
          refine WL_stepM rfl (R_mv) ?_
          refine WL_stepM rfl (R_mv) ?_
          refine WL_step rfl (R_lt rfl rfl) ?_
          refine WL_nil ?_
          refine W_if rfl (fun h244 => ?_) (fun h244 => ?_)
          · refine W_skip ?_
            refine W_seq ?_
            refine W_block ?_
            refine W_seq ?_
            ((have hXk := hX k (by omega); obtain ⟨b1, o1, rfl, hc1⟩ := hl.cell (i := k) (u := I (X k)) (by rw [List.getElem?_map, hXk]; rfl); have hKm := hK k (by omega); by_cases hkD : k = D <;> by_cases hkA : k = A)) <;> refine W_region_l ?_
            · refine WL_stepM rfl (R_mv) ?_
              refine WL_stepM rfl (R_mv) ?_
              refine WL_stepM rfl (R_mv) ?_
              refine WL_step rfl (R_indexAddr Try.underlying51 Try.sizeOf3 rfl rfl (by omega) (by omega) idx0_cast) ?_
              refine WL_step rfl (R_load (v := I (nm k)) Try.isAgg3 rfl (H.get (.app _ .here)) (nm_get (by omega))) ?_
              (have _g := hkD; refine WL_call rfl (R_call rfl Try.call39 rfl) (TabV.get_no (l := tab 50 (fD X i A D v)) (n := nm k) (H.get (.app _ (.there (.there (.there .here))))) (H.get (.app _ (.there (.there (.there (.there .here)))))) (tab_length _ _) (by decide) (tab_mem fun j _ => fD_g j) (by rw [hkD]; exact fD_gone)) ?_; rintro _ w255 ⟨rfl, H1⟩; replace H := H.seq0 H1; clear H1)
              refine WL_stepM rfl (R_mv) ?_
              refine WL_step rfl (R_extract rfl rfl) ?_
              refine WL_step rfl (R_extract rfl rfl) ?_
              (refine WL_effn rfl (TabV.E_allocK H) ?_; clear H; intro c20 w259 hc20 H)
              (refine WL_effu rfl (TabV.E_storeK (q := TabV.zk) H rfl rfl .here) ?_; clear H; intro w260 H)
              refine WL_stepM rfl (R_as) ?_
              refine WL_nil ?_
              refine W_seq ?_
              refine W_region_l ?_
              refine WL_stepM rfl (R_mv) ?_
              refine WL_stepM rfl (R_mv) ?_
              refine WL_stepM rfl (R_mv) ?_
              refine WL_step rfl (R_indexAddr Try.underlying51 Try.sizeOf3 rfl rfl (by omega) (by omega) idx0_cast) ?_
              refine WL_step rfl (R_load (v := I (nm k)) Try.isAgg3 rfl (H.get (.there (.app _ .here))) (nm_get (by omega))) ?_
              (refine WL_call rfl (R_call rfl Try.call40 rfl) (TabF.get_yes (l := tab 50 (fB kb i)) (i := k) (a := ⟨TabF.fv (kb k), 1, true⟩) (H.get (.there (.app _ (.there .here)))) (H.get (.there (.app _ (.there (.there .here))))) (tab_length _ _) (by decide) (fB_in (by omega) (by omega)) (by show 1 ≤ 1000001; omega) rfl) ?_; rintro _ w270 ⟨rfl, H1⟩; replace H := H.seq0 H1; clear H1)
              refine WL_stepM rfl (R_mv) ?_
              refine WL_step rfl (R_extract rfl rfl) ?_
              refine WL_step rfl (R_extract rfl rfl) ?_
              refine WL_stepM rfl (R_as) ?_
              refine WL_stepM rfl (R_as) ?_
              refine WL_nil ?_
              refine W_seq ?_
              refine W_region_l ?_
              refine WL_stepM rfl (R_mv) ?_
              refine WL_stepM rfl (R_mv) ?_
              refine WL_stepM rfl (R_mv) ?_
              refine WL_step rfl (R_indexAddr Try.underlying51 Try.sizeOf3 rfl rfl (by omega) (by omega) idx_cast1) ?_
              refine WL_step rfl (R_load_cell Try.isAgg3 rfl (H.cellN hc1 (kCons (by assumption) (kApp hKk (by repeat' first | exact kNil | apply kCons | apply kApp | assumption | exact OwnS.keys (by assumption)))))) ?_
              refine WL_step rfl (R_build (vs := [(.int _ _), (.int _ _)]) rfl rfl) ?_
              (refine WL_effn rfl (TabV.E_allocK H) ?_; clear H; intro c24 w285 hc24 H)
              (refine WL_effu rfl (TabV.E_storeK (q := pv k (X k)) H rfl rfl .here) ?_; clear H; intro w286 H)
              refine WL_nil ?_
              refine W_seq ?_
              refine W_seq ?_
              refine W_region_l ?_
              refine WL_stepM rfl (R_mv) ?_
              refine WL_stepM rfl (R_mv) ?_
              refine WL_step rfl (R_eq_t rfl rfl (by omega)) ?_
              refine WL_nil ?_
              refine W_cond_t rfl ?_
              refine W_region_l ?_
              refine WL_stepM rfl (R_mv) ?_
              refine WL_step rfl (R_build (vs := [(.int _ _), (.int _ _)]) rfl rfl) ?_
              (refine WL_effu rfl (TabV.E_storeK (q := pv (-1) v) H rfl rfl .here) ?_; clear H; intro w299 H)
              refine WL_nil ?_
              refine W_seq ?_
              (have _g : k = D := hkD; have _g2 : k = A := hkA; refine W_draw (KH w [(c24, blk (pv (-1) v).c 61), (c20, blk TabV.zk.c 61)]) (fun _ => false) (by kernel_rfl) H ?_; clear H; intro w302 H)
              refine WA_takeM 0 rfl rfl rfl (by kernel_rfl) (by kernel_rfl) (H.kh (by simp) (by repeat' first | exact kNil | apply kCons | apply kApp | assumption | exact OwnS.keys (by assumption))) (fun _ hC => R_mv) ?_
              refine WA_takeM 1 rfl rfl rfl (by kernel_rfl) (by kernel_rfl) (H.kh (by simp) (by repeat' first | exact kNil | apply kCons | apply kApp | assumption | exact OwnS.keys (by assumption))) (fun _ hC => R_mv) ?_
              refine WA_takeM 2 rfl rfl rfl (by kernel_rfl) (by kernel_rfl) (H.kh (by simp) (by repeat' first | exact kNil | apply kCons | apply kApp | assumption | exact OwnS.keys (by assumption))) (fun _ hC => R_mv) ?_
              refine WA_take 3 rfl rfl rfl (by kernel_rfl) (by kernel_rfl) (H.kh (by simp) (by repeat' first | exact kNil | apply kCons | apply kApp | assumption | exact OwnS.keys (by assumption))) (fun _ hC => R_ne_f rfl rfl (by omega)) ?_
              refine WA_take 4 rfl rfl rfl (by kernel_rfl) (by kernel_rfl) (H.kh (by simp) (by repeat' first | exact kNil | apply kCons | apply kApp | assumption | exact OwnS.keys (by assumption))) (fun _ hC => R_ne_bool_f Try.underlying4 rfl rfl (by decide)) ?_
              refine WA_takeM 5 rfl rfl rfl (by kernel_rfl) (by kernel_rfl) (H.kh (by simp) (by repeat' first | exact kNil | apply kCons | apply kApp | assumption | exact OwnS.keys (by assumption))) (fun _ hC => R_mv) ?_
              refine WA_takeGM 6 rfl rfl rfl rfl (by kernel_rfl) (by kernel_rfl) (H.kh (by simp) (by repeat' first | exact kNil | apply kCons | apply kApp | assumption | exact OwnS.keys (by assumption))) (fun _ hC => R_mv) ?_
              refine WA_takeGM 7 rfl rfl rfl rfl (by kernel_rfl) (by kernel_rfl) (H.kh (by simp) (by repeat' first | exact kNil | apply kCons | apply kApp | assumption | exact OwnS.keys (by assumption))) (fun _ hC => R_mv) ?_
              refine WA_pass 8 rfl rfl rfl (fun h => nomatch h) (by kernel_rfl) (by kernel_rfl) (H.kh (by simp) (by repeat' first | exact kNil | apply kCons | apply kApp | assumption | exact OwnS.keys (by assumption))) ?_
              refine WA_pass 9 rfl rfl rfl (fun h => nomatch h) (by kernel_rfl) (by kernel_rfl) (H.kh (by simp) (by repeat' first | exact kNil | apply kCons | apply kApp | assumption | exact OwnS.keys (by assumption))) ?_
              refine WA_pass 10 rfl rfl rfl (fun h => nomatch h) (by kernel_rfl) (by kernel_rfl) (H.kh (by simp) (by repeat' first | exact kNil | apply kCons | apply kApp | assumption | exact OwnS.keys (by assumption))) ?_
              refine WA_takeGM 11 rfl rfl rfl rfl (by kernel_rfl) (by kernel_rfl) (H.kh (by simp) (by repeat' first | exact kNil | apply kCons | apply kApp | assumption | exact OwnS.keys (by assumption))) (fun _ hC => R_pk_f rfl) ?_
              refine WA_takeM 12 rfl rfl rfl (by kernel_rfl) (by kernel_rfl) (H.kh (by simp) (by repeat' first | exact kNil | apply kCons | apply kApp | assumption | exact OwnS.keys (by assumption))) (fun _ hC => R_pk_f rfl) ?_
              refine WA_takeM 13 rfl rfl rfl (by kernel_rfl) (by kernel_rfl) (H.kh (by simp) (by repeat' first | exact kNil | apply kCons | apply kApp | assumption | exact OwnS.keys (by assumption))) (fun _ hC => R_mv) ?_
              refine WA_takeGM 14 rfl rfl rfl rfl (by kernel_rfl) (by kernel_rfl) (H.kh (by simp) (by repeat' first | exact kNil | apply kCons | apply kApp | assumption | exact OwnS.keys (by assumption))) (fun _ hC => R_mv) ?_
              refine WA_takeG 15 rfl rfl rfl rfl (by kernel_rfl) (by kernel_rfl) (H.kh (by simp) (by repeat' first | exact kNil | apply kCons | apply kApp | assumption | exact OwnS.keys (by assumption))) (fun _ hC => R_not_f rfl) ?_
              refine WA_takeGM 16 rfl rfl rfl rfl (by kernel_rfl) (by kernel_rfl) (H.kh (by simp) (by repeat' first | exact kNil | apply kCons | apply kApp | assumption | exact OwnS.keys (by assumption))) (fun _ hC => R_mv) ?_
              refine WA_takeG 17 rfl rfl rfl rfl (by kernel_rfl) (by kernel_rfl) (H.kh (by simp) (by repeat' first | exact kNil | apply kCons | apply kApp | assumption | exact OwnS.keys (by assumption))) (fun _ hC => TabV.R_loadK rfl (hC.get (.there .here))) ?_
              refine WA_takeG 18 rfl rfl rfl rfl (by kernel_rfl) (by kernel_rfl) (H.kh (by simp) (by repeat' first | exact kNil | apply kCons | apply kApp | assumption | exact OwnS.keys (by assumption))) (fun _ hC => R_build (vs := [(.int _ _), (.int _ _)]) rfl rfl) ?_
              refine WA_takeG 19 rfl rfl rfl rfl (by kernel_rfl) (by kernel_rfl) (H.kh (by simp) (by repeat' first | exact kNil | apply kCons | apply kApp | assumption | exact OwnS.keys (by assumption))) (fun _ hC => R_ne_pair 0 0 rfl rfl) ?_
              refine WA_takeGM 20 rfl rfl rfl rfl (by kernel_rfl) (by kernel_rfl) (H.kh (by simp) (by repeat' first | exact kNil | apply kCons | apply kApp | assumption | exact OwnS.keys (by assumption))) (fun _ hC => R_pk_t rfl) ?_
              refine WA_takeM 21 rfl rfl rfl (by kernel_rfl) (by kernel_rfl) (H.kh (by simp) (by repeat' first | exact kNil | apply kCons | apply kApp | assumption | exact OwnS.keys (by assumption))) (fun _ hC => R_pk_f rfl) ?_
              refine WA_takeM 22 rfl rfl rfl (by kernel_rfl) (by kernel_rfl) (H.kh (by simp) (by repeat' first | exact kNil | apply kCons | apply kApp | assumption | exact OwnS.keys (by assumption))) (fun _ hC => R_mv) ?_
              refine WA_takeGM 23 rfl rfl rfl rfl (by kernel_rfl) (by kernel_rfl) (H.kh (by simp) (by repeat' first | exact kNil | apply kCons | apply kApp | assumption | exact OwnS.keys (by assumption))) (fun _ hC => R_mv) ?_
              refine WA_takeG 24 rfl rfl rfl rfl (by kernel_rfl) (by kernel_rfl) (H.kh (by simp) (by repeat' first | exact kNil | apply kCons | apply kApp | assumption | exact OwnS.keys (by assumption))) (fun _ hC => R_not_t rfl) ?_
              refine WA_takeM 25 rfl rfl rfl (by kernel_rfl) (by kernel_rfl) (H.kh (by simp) (by repeat' first | exact kNil | apply kCons | apply kApp | assumption | exact OwnS.keys (by assumption))) (fun _ hC => R_pk_f rfl) ?_
              refine WA_takeM 26 rfl rfl rfl (by kernel_rfl) (by kernel_rfl) (H.kh (by simp) (by repeat' first | exact kNil | apply kCons | apply kApp | assumption | exact OwnS.keys (by assumption))) (fun _ hC => R_mv) ?_
              refine WA_takeGM 27 rfl rfl rfl rfl (by kernel_rfl) (by kernel_rfl) (H.kh (by simp) (by repeat' first | exact kNil | apply kCons | apply kApp | assumption | exact OwnS.keys (by assumption))) (fun _ hC => R_mv) ?_
              refine WA_takeG 28 rfl rfl rfl rfl (by kernel_rfl) (by kernel_rfl) (H.kh (by simp) (by repeat' first | exact kNil | apply kCons | apply kApp | assumption | exact OwnS.keys (by assumption))) (fun _ hC => R_eq_fn Try.underlying43 rfl rfl) ?_
              refine WA_takeM 29 rfl rfl rfl (by kernel_rfl) (by kernel_rfl) (H.kh (by simp) (by repeat' first | exact kNil | apply kCons | apply kApp | assumption | exact OwnS.keys (by assumption))) (fun _ hC => R_pk_f rfl) ?_
              refine WA_takeM 30 rfl rfl rfl (by kernel_rfl) (by kernel_rfl) (H.kh (by simp) (by repeat' first | exact kNil | apply kCons | apply kApp | assumption | exact OwnS.keys (by assumption))) (fun _ hC => R_mv) ?_
              refine WA_takeGM 31 rfl rfl rfl rfl (by kernel_rfl) (by kernel_rfl) (H.kh (by simp) (by repeat' first | exact kNil | apply kCons | apply kApp | assumption | exact OwnS.keys (by assumption))) (fun _ hC => R_mv) ?_
              refine WA_takeGM 33 rfl rfl rfl rfl (by kernel_rfl) (by kernel_rfl) (H.kh (by simp) (by repeat' first | exact kNil | apply kCons | apply kApp | assumption | exact OwnS.keys (by assumption))) (fun _ hC => R_mv) ?_
              refine WA_takeGM 34 rfl rfl rfl rfl (by kernel_rfl) (by kernel_rfl) (H.kh (by simp) (by repeat' first | exact kNil | apply kCons | apply kApp | assumption | exact OwnS.keys (by assumption))) (fun _ hC => R_mv) ?_
              refine WA_takeG 35 rfl rfl rfl rfl (by kernel_rfl) (by kernel_rfl) (H.kh (by simp) (by repeat' first | exact kNil | apply kCons | apply kApp | assumption | exact OwnS.keys (by assumption))) (fun _ hC => R_indexAddr Try.underlying51 Try.sizeOf3 rfl rfl (by omega) (by omega) idx_cast1) ?_
              refine WA_takeG 36 rfl rfl rfl rfl (by kernel_rfl) (by kernel_rfl) (H.kh (by simp) (by repeat' first | exact kNil | apply kCons | apply kApp | assumption | exact OwnS.keys (by assumption))) (fun _ hC => R_load_cell Try.isAgg3 rfl (hC.old.cell hc1 (by simp))) ?_
              refine WA_one (i := 32) (by kernel_rfl) ?_
              (refine WI_call rfl (.inr ⟨_, _, rfl, rfl⟩) (R_call rfl Try.call36 rfl) (TabF.fun_ret (b := kb k) (x := X k) (H.held (kb k, blk [I (X k)] 3) (by simp [hKm]))) (fun _ _ hR _ => (H.seq0 hR.2).kh (by simp) (kCons (by assumption) (kCons (by assumption) (kApp hKk (by repeat' first | exact kNil | apply kCons | apply kApp | assumption | exact OwnS.keys (by assumption)))))) ?_; rintro _ w340 ⟨rfl, H1⟩; replace H := H.seq0 H1; clear H1)
              refine WA_takeG 37 rfl rfl rfl rfl (by kernel_rfl) (by kernel_rfl) (H.kh (by simp) (by repeat' first | exact kNil | apply kCons | apply kApp | assumption | exact OwnS.keys (by assumption))) (fun _ hC => R_ne_f rfl rfl rfl) ?_
              refine WA_takeM 38 rfl rfl rfl (by kernel_rfl) (by kernel_rfl) (H.kh (by simp) (by repeat' first | exact kNil | apply kCons | apply kApp | assumption | exact OwnS.keys (by assumption))) (fun _ hC => R_pk_f rfl) ?_
              refine WA_done (by kernel_rfl) ?_
              refine W_cond_f rfl ?_
              refine W_skip ?_
              refine W_region_l ?_
              refine WL_stepM rfl (R_mv) ?_
              refine WL_step rfl (R_add rfl rfl (w_i64 (by omega))) ?_
              refine WL_stepM rfl (R_as) ?_
              refine WL_nil ?_
              exact ⟨(same_mov rfl (same_updo rfl (same_mov rfl (same_mov rfl (same_updo rfl (same_updo rfl (same_updo rfl (same_updo rfl (same_mov rfl (same_mov rfl (same_mov rfl (same_mov rfl (same_mov rfl (same_updo rfl (same_mov rfl (same_mov rfl (same_mov rfl (same_updo rfl (same_mov rfl (same_mov rfl (same_mov rfl (same_mov rfl (same_updo rfl (same_updo rfl (same_updo rfl (same_mov rfl (same_updo rfl (same_mov rfl (same_mov rfl (same_mov rfl (same_mov rfl (same_updo rfl (same_updo rfl (same_updo rfl (same_mov rfl (same_mov rfl (same_mov rfl (same_updo rfl (same_updo rfl (same_mov rfl (same_mov rfl (same_mov rfl (same_updn (same_updo rfl (same_mov rfl (same_updo rfl (same_mov rfl (same_mov rfl (same_updn (same_updo rfl (same_updo rfl (same_updo rfl (same_updo rfl (same_mov rfl (same_mov rfl (same_mov rfl (same_mov rfl (same_mov rfl (same_updo rfl (same_updo rfl (same_mov rfl (same_updo rfl (same_updo rfl (same_updo rfl (same_mov rfl (same_mov rfl (same_mov rfl (same_mov rfl (same_updn (same_updo rfl (same_updo rfl (same_updo rfl (same_mov rfl (same_updo rfl (same_updo rfl (same_updo rfl (same_mov rfl (same_mov rfl (same_mov rfl (same_know rfl (same_updo rfl (same_mov rfl (same_mov rfl same_ovr))))))))))))))))))))))))))))))))))))))))))))))))))))))))))))))))))))))))))))))))))), k + 1, by omega, by omega, rfl, Hp.dropN (M := [_, _]) H (by repeat' first | exact kNil | apply kCons | apply kApp | assumption | exact OwnS.keys (by assumption))⟩
            · refine WL_stepM rfl (R_mv) ?_
              refine WL_stepM rfl (R_mv) ?_
              refine WL_stepM rfl (R_mv) ?_
              refine WL_step rfl (R_indexAddr Try.underlying51 Try.sizeOf3 rfl rfl (by omega) (by omega) idx0_cast) ?_
              refine WL_step rfl (R_load (v := I (nm k)) Try.isAgg3 rfl (H.get (.app _ .here)) (nm_get (by omega))) ?_
              (have _g := hkD; refine WL_call rfl (R_call rfl Try.call39 rfl) (TabV.get_no (l := tab 50 (fD X i A D v)) (n := nm k) (H.get (.app _ (.there (.there (.there .here))))) (H.get (.app _ (.there (.there (.there (.there .here)))))) (tab_length _ _) (by decide) (tab_mem fun j _ => fD_g j) (by rw [hkD]; exact fD_gone)) ?_; rintro _ w357 ⟨rfl, H1⟩; replace H := H.seq0 H1; clear H1)
              refine WL_stepM rfl (R_mv) ?_
              refine WL_step rfl (R_extract rfl rfl) ?_
              refine WL_step rfl (R_extract rfl rfl) ?_
              (refine WL_effn rfl (TabV.E_allocK H) ?_; clear H; intro c20 w361 hc20 H)
              (refine WL_effu rfl (TabV.E_storeK (q := TabV.zk) H rfl rfl .here) ?_; clear H; intro w362 H)
              refine WL_stepM rfl (R_as) ?_
              refine WL_nil ?_
              refine W_seq ?_
              refine W_region_l ?_
              refine WL_stepM rfl (R_mv) ?_
              refine WL_stepM rfl (R_mv) ?_
              refine WL_stepM rfl (R_mv) ?_
              refine WL_step rfl (R_indexAddr Try.underlying51 Try.sizeOf3 rfl rfl (by omega) (by omega) idx0_cast) ?_
              refine WL_step rfl (R_load (v := I (nm k)) Try.isAgg3 rfl (H.get (.there (.app _ .here))) (nm_get (by omega))) ?_
              (refine WL_call rfl (R_call rfl Try.call40 rfl) (TabF.get_yes (l := tab 50 (fB kb i)) (i := k) (a := ⟨TabF.fv (kb k), 1, true⟩) (H.get (.there (.app _ (.there .here)))) (H.get (.there (.app _ (.there (.there .here))))) (tab_length _ _) (by decide) (fB_in (by omega) (by omega)) (by show 1 ≤ 1000001; omega) rfl) ?_; rintro _ w372 ⟨rfl, H1⟩; replace H := H.seq0 H1; clear H1)
              refine WL_stepM rfl (R_mv) ?_
              refine WL_step rfl (R_extract rfl rfl) ?_
              refine WL_step rfl (R_extract rfl rfl) ?_
              refine WL_stepM rfl (R_as) ?_
              refine WL_stepM rfl (R_as) ?_
              refine WL_nil ?_
              refine W_seq ?_
              refine W_region_l ?_
              refine WL_stepM rfl (R_mv) ?_
              refine WL_stepM rfl (R_mv) ?_
              refine WL_stepM rfl (R_mv) ?_
              refine WL_step rfl (R_indexAddr Try.underlying51 Try.sizeOf3 rfl rfl (by omega) (by omega) idx_cast1) ?_
              refine WL_step rfl (R_load_cell Try.isAgg3 rfl (H.cellN hc1 (kCons (by assumption) (kApp hKk (by repeat' first | exact kNil | apply kCons | apply kApp | assumption | exact OwnS.keys (by assumption)))))) ?_
              refine WL_step rfl (R_build (vs := [(.int _ _), (.int _ _)]) rfl rfl) ?_
              (refine WL_effn rfl (TabV.E_allocK H) ?_; clear H; intro c24 w387 hc24 H)
              (refine WL_effu rfl (TabV.E_storeK (q := pv k (X k)) H rfl rfl .here) ?_; clear H; intro w388 H)
              refine WL_nil ?_
              refine W_seq ?_
              refine W_seq ?_
              refine W_region_l ?_
              refine WL_stepM rfl (R_mv) ?_
              refine WL_stepM rfl (R_mv) ?_
              refine WL_step rfl (R_eq_f rfl rfl (by omega)) ?_
              refine WL_nil ?_
              refine W_cond_f rfl ?_
              refine W_skip ?_
              refine W_seq ?_
              (have _g : k = D := hkD; have _g2 : ¬ k = A := hkA; refine W_draw (KH w [(c24, blk (pv k (X k)).c 61), (c20, blk TabV.zk.c 61)]) (fun _ => false) (by kernel_rfl) H ?_; clear H; intro w400 H)
              refine WA_takeM 0 rfl rfl rfl (by kernel_rfl) (by kernel_rfl) (H.kh (by simp) (by repeat' first | exact kNil | apply kCons | apply kApp | assumption | exact OwnS.keys (by assumption))) (fun _ hC => R_mv) ?_
              refine WA_takeM 1 rfl rfl rfl (by kernel_rfl) (by kernel_rfl) (H.kh (by simp) (by repeat' first | exact kNil | apply kCons | apply kApp | assumption | exact OwnS.keys (by assumption))) (fun _ hC => R_mv) ?_
              refine WA_takeM 2 rfl rfl rfl (by kernel_rfl) (by kernel_rfl) (H.kh (by simp) (by repeat' first | exact kNil | apply kCons | apply kApp | assumption | exact OwnS.keys (by assumption))) (fun _ hC => R_mv) ?_
              refine WA_take 3 rfl rfl rfl (by kernel_rfl) (by kernel_rfl) (H.kh (by simp) (by repeat' first | exact kNil | apply kCons | apply kApp | assumption | exact OwnS.keys (by assumption))) (fun _ hC => R_ne_f rfl rfl (by omega)) ?_
              refine WA_take 4 rfl rfl rfl (by kernel_rfl) (by kernel_rfl) (H.kh (by simp) (by repeat' first | exact kNil | apply kCons | apply kApp | assumption | exact OwnS.keys (by assumption))) (fun _ hC => R_ne_bool_f Try.underlying4 rfl rfl (by decide)) ?_
              refine WA_takeM 5 rfl rfl rfl (by kernel_rfl) (by kernel_rfl) (H.kh (by simp) (by repeat' first | exact kNil | apply kCons | apply kApp | assumption | exact OwnS.keys (by assumption))) (fun _ hC => R_mv) ?_
              refine WA_takeGM 6 rfl rfl rfl rfl (by kernel_rfl) (by kernel_rfl) (H.kh (by simp) (by repeat' first | exact kNil | apply kCons | apply kApp | assumption | exact OwnS.keys (by assumption))) (fun _ hC => R_mv) ?_
              refine WA_takeGM 7 rfl rfl rfl rfl (by kernel_rfl) (by kernel_rfl) (H.kh (by simp) (by repeat' first | exact kNil | apply kCons | apply kApp | assumption | exact OwnS.keys (by assumption))) (fun _ hC => R_mv) ?_
              refine WA_pass 8 rfl rfl rfl (fun h => nomatch h) (by kernel_rfl) (by kernel_rfl) (H.kh (by simp) (by repeat' first | exact kNil | apply kCons | apply kApp | assumption | exact OwnS.keys (by assumption))) ?_
              refine WA_pass 9 rfl rfl rfl (fun h => nomatch h) (by kernel_rfl) (by kernel_rfl) (H.kh (by simp) (by repeat' first | exact kNil | apply kCons | apply kApp | assumption | exact OwnS.keys (by assumption))) ?_
              refine WA_pass 10 rfl rfl rfl (fun h => nomatch h) (by kernel_rfl) (by kernel_rfl) (H.kh (by simp) (by repeat' first | exact kNil | apply kCons | apply kApp | assumption | exact OwnS.keys (by assumption))) ?_
              refine WA_takeGM 11 rfl rfl rfl rfl (by kernel_rfl) (by kernel_rfl) (H.kh (by simp) (by repeat' first | exact kNil | apply kCons | apply kApp | assumption | exact OwnS.keys (by assumption))) (fun _ hC => R_pk_f rfl) ?_
              refine WA_takeM 12 rfl rfl rfl (by kernel_rfl) (by kernel_rfl) (H.kh (by simp) (by repeat' first | exact kNil | apply kCons | apply kApp | assumption | exact OwnS.keys (by assumption))) (fun _ hC => R_pk_f rfl) ?_
              refine WA_takeM 13 rfl rfl rfl (by kernel_rfl) (by kernel_rfl) (H.kh (by simp) (by repeat' first | exact kNil | apply kCons | apply kApp | assumption | exact OwnS.keys (by assumption))) (fun _ hC => R_mv) ?_
              refine WA_takeGM 14 rfl rfl rfl rfl (by kernel_rfl) (by kernel_rfl) (H.kh (by simp) (by repeat' first | exact kNil | apply kCons | apply kApp | assumption | exact OwnS.keys (by assumption))) (fun _ hC => R_mv) ?_
              refine WA_takeG 15 rfl rfl rfl rfl (by kernel_rfl) (by kernel_rfl) (H.kh (by simp) (by repeat' first | exact kNil | apply kCons | apply kApp | assumption | exact OwnS.keys (by assumption))) (fun _ hC => R_not_f rfl) ?_
              refine WA_takeGM 16 rfl rfl rfl rfl (by kernel_rfl) (by kernel_rfl) (H.kh (by simp) (by repeat' first | exact kNil | apply kCons | apply kApp | assumption | exact OwnS.keys (by assumption))) (fun _ hC => R_mv) ?_
              refine WA_takeG 17 rfl rfl rfl rfl (by kernel_rfl) (by kernel_rfl) (H.kh (by simp) (by repeat' first | exact kNil | apply kCons | apply kApp | assumption | exact OwnS.keys (by assumption))) (fun _ hC => TabV.R_loadK rfl (hC.get (.there .here))) ?_
              refine WA_takeG 18 rfl rfl rfl rfl (by kernel_rfl) (by kernel_rfl) (H.kh (by simp) (by repeat' first | exact kNil | apply kCons | apply kApp | assumption | exact OwnS.keys (by assumption))) (fun _ hC => R_build (vs := [(.int _ _), (.int _ _)]) rfl rfl) ?_
              refine WA_takeG 19 rfl rfl rfl rfl (by kernel_rfl) (by kernel_rfl) (H.kh (by simp) (by repeat' first | exact kNil | apply kCons | apply kApp | assumption | exact OwnS.keys (by assumption))) (fun _ hC => R_ne_pair 0 0 rfl rfl) ?_
              refine WA_takeGM 20 rfl rfl rfl rfl (by kernel_rfl) (by kernel_rfl) (H.kh (by simp) (by repeat' first | exact kNil | apply kCons | apply kApp | assumption | exact OwnS.keys (by assumption))) (fun _ hC => R_pk_t rfl) ?_
              refine WA_takeM 21 rfl rfl rfl (by kernel_rfl) (by kernel_rfl) (H.kh (by simp) (by repeat' first | exact kNil | apply kCons | apply kApp | assumption | exact OwnS.keys (by assumption))) (fun _ hC => R_pk_f rfl) ?_
              refine WA_takeM 22 rfl rfl rfl (by kernel_rfl) (by kernel_rfl) (H.kh (by simp) (by repeat' first | exact kNil | apply kCons | apply kApp | assumption | exact OwnS.keys (by assumption))) (fun _ hC => R_mv) ?_
              refine WA_takeGM 23 rfl rfl rfl rfl (by kernel_rfl) (by kernel_rfl) (H.kh (by simp) (by repeat' first | exact kNil | apply kCons | apply kApp | assumption | exact OwnS.keys (by assumption))) (fun _ hC => R_mv) ?_
              refine WA_takeG 24 rfl rfl rfl rfl (by kernel_rfl) (by kernel_rfl) (H.kh (by simp) (by repeat' first | exact kNil | apply kCons | apply kApp | assumption | exact OwnS.keys (by assumption))) (fun _ hC => R_not_t rfl) ?_
              refine WA_takeM 25 rfl rfl rfl (by kernel_rfl) (by kernel_rfl) (H.kh (by simp) (by repeat' first | exact kNil | apply kCons | apply kApp | assumption | exact OwnS.keys (by assumption))) (fun _ hC => R_pk_f rfl) ?_
              refine WA_takeM 26 rfl rfl rfl (by kernel_rfl) (by kernel_rfl) (H.kh (by simp) (by repeat' first | exact kNil | apply kCons | apply kApp | assumption | exact OwnS.keys (by assumption))) (fun _ hC => R_mv) ?_
              refine WA_takeGM 27 rfl rfl rfl rfl (by kernel_rfl) (by kernel_rfl) (H.kh (by simp) (by repeat' first | exact kNil | apply kCons | apply kApp | assumption | exact OwnS.keys (by assumption))) (fun _ hC => R_mv) ?_
              refine WA_takeG 28 rfl rfl rfl rfl (by kernel_rfl) (by kernel_rfl) (H.kh (by simp) (by repeat' first | exact kNil | apply kCons | apply kApp | assumption | exact OwnS.keys (by assumption))) (fun _ hC => R_eq_fn Try.underlying43 rfl rfl) ?_
              refine WA_takeM 29 rfl rfl rfl (by kernel_rfl) (by kernel_rfl) (H.kh (by simp) (by repeat' first | exact kNil | apply kCons | apply kApp | assumption | exact OwnS.keys (by assumption))) (fun _ hC => R_pk_f rfl) ?_
              refine WA_takeM 30 rfl rfl rfl (by kernel_rfl) (by kernel_rfl) (H.kh (by simp) (by repeat' first | exact kNil | apply kCons | apply kApp | assumption | exact OwnS.keys (by assumption))) (fun _ hC => R_mv) ?_
              refine WA_takeGM 31 rfl rfl rfl rfl (by kernel_rfl) (by kernel_rfl) (H.kh (by simp) (by repeat' first | exact kNil | apply kCons | apply kApp | assumption | exact OwnS.keys (by assumption))) (fun _ hC => R_mv) ?_
              refine WA_takeGM 33 rfl rfl rfl rfl (by kernel_rfl) (by kernel_rfl) (H.kh (by simp) (by repeat' first | exact kNil | apply kCons | apply kApp | assumption | exact OwnS.keys (by assumption))) (fun _ hC => R_mv) ?_
              refine WA_takeGM 34 rfl rfl rfl rfl (by kernel_rfl) (by kernel_rfl) (H.kh (by simp) (by repeat' first | exact kNil | apply kCons | apply kApp | assumption | exact OwnS.keys (by assumption))) (fun _ hC => R_mv) ?_
              refine WA_takeG 35 rfl rfl rfl rfl (by kernel_rfl) (by kernel_rfl) (H.kh (by simp) (by repeat' first | exact kNil | apply kCons | apply kApp | assumption | exact OwnS.keys (by assumption))) (fun _ hC => R_indexAddr Try.underlying51 Try.sizeOf3 rfl rfl (by omega) (by omega) idx_cast1) ?_
              refine WA_takeG 36 rfl rfl rfl rfl (by kernel_rfl) (by kernel_rfl) (H.kh (by simp) (by repeat' first | exact kNil | apply kCons | apply kApp | assumption | exact OwnS.keys (by assumption))) (fun _ hC => R_load_cell Try.isAgg3 rfl (hC.old.cell hc1 (by simp))) ?_
              refine WA_one (i := 32) (by kernel_rfl) ?_
              (refine WI_call rfl (.inr ⟨_, _, rfl, rfl⟩) (R_call rfl Try.call36 rfl) (TabF.fun_ret (b := kb k) (x := X k) (H.held (kb k, blk [I (X k)] 3) (by simp [hKm]))) (fun _ _ hR _ => (H.seq0 hR.2).kh (by simp) (kCons (by assumption) (kCons (by assumption) (kApp hKk (by repeat' first | exact kNil | apply kCons | apply kApp | assumption | exact OwnS.keys (by assumption)))))) ?_; rintro _ w438 ⟨rfl, H1⟩; replace H := H.seq0 H1; clear H1)
              refine WA_takeG 37 rfl rfl rfl rfl (by kernel_rfl) (by kernel_rfl) (H.kh (by simp) (by repeat' first | exact kNil | apply kCons | apply kApp | assumption | exact OwnS.keys (by assumption))) (fun _ hC => R_ne_f rfl rfl rfl) ?_
              refine WA_takeM 38 rfl rfl rfl (by kernel_rfl) (by kernel_rfl) (H.kh (by simp) (by repeat' first | exact kNil | apply kCons | apply kApp | assumption | exact OwnS.keys (by assumption))) (fun _ hC => R_pk_f rfl) ?_
              refine WA_done (by kernel_rfl) ?_
              refine W_cond_f rfl ?_
              refine W_skip ?_
              refine W_region_l ?_
              refine WL_stepM rfl (R_mv) ?_
              refine WL_step rfl (R_add rfl rfl (w_i64 (by omega))) ?_
              refine WL_stepM rfl (R_as) ?_
              refine WL_nil ?_
              exact ⟨(same_mov rfl (same_updo rfl (same_mov rfl (same_mov rfl (same_updo rfl (same_updo rfl (same_updo rfl (same_updo rfl (same_mov rfl (same_mov rfl (same_mov rfl (same_mov rfl (same_mov rfl (same_updo rfl (same_mov rfl (same_mov rfl (same_mov rfl (same_updo rfl (same_mov rfl (same_mov rfl (same_mov rfl (same_mov rfl (same_updo rfl (same_updo rfl (same_updo rfl (same_mov rfl (same_updo rfl (same_mov rfl (same_mov rfl (same_mov rfl (same_mov rfl (same_updo rfl (same_updo rfl (same_updo rfl (same_mov rfl (same_mov rfl (same_mov rfl (same_updo rfl (same_updo rfl (same_mov rfl (same_mov rfl (same_mov rfl (same_updo rfl (same_mov rfl (same_mov rfl (same_updn (same_updo rfl (same_updo rfl (same_updo rfl (same_updo rfl (same_mov rfl (same_mov rfl (same_mov rfl (same_mov rfl (same_mov rfl (same_updo rfl (same_updo rfl (same_mov rfl (same_updo rfl (same_updo rfl (same_updo rfl (same_mov rfl (same_mov rfl (same_mov rfl (same_mov rfl (same_updn (same_updo rfl (same_updo rfl (same_updo rfl (same_mov rfl (same_updo rfl (same_updo rfl (same_updo rfl (same_mov rfl (same_mov rfl (same_mov rfl (same_know rfl (same_updo rfl (same_mov rfl (same_mov rfl same_ovr)))))))))))))))))))))))))))))))))))))))))))))))))))))))))))))))))))))))))))))))), k + 1, by omega, by omega, rfl, Hp.dropN (M := [_, _]) H (by repeat' first | exact kNil | apply kCons | apply kApp | assumption | exact OwnS.keys (by assumption))⟩
            · refine WL_stepM rfl (R_mv) ?_
              refine WL_stepM rfl (R_mv) ?_
              refine WL_stepM rfl (R_mv) ?_
              refine WL_step rfl (R_indexAddr Try.underlying51 Try.sizeOf3 rfl rfl (by omega) (by omega) idx0_cast) ?_
              refine WL_step rfl (R_load (v := I (nm k)) Try.isAgg3 rfl (H.get (.app _ .here)) (nm_get (by omega))) ?_
              (refine WL_call rfl (R_call rfl Try.call39 rfl) (TabV.get_yes (l := tab 50 (fD X i A D v)) (i := k) (a := ⟨wC X A v k, 1, true⟩) (H.get (.app _ (.there (.there (.there .here))))) (H.get (.app _ (.there (.there (.there (.there .here)))))) (tab_length _ _) (by decide) (fD_in (by omega) hkD (by omega)) (by show 1 ≤ 1000001; omega) rfl) ?_; rintro _ w455 ⟨rfl, H1⟩; (first | rw [show wC X A v k = pv (-1) v from if_pos hkA] | rw [show wC X A v k = pv k (X k) from if_neg hkA]); replace H := H.seq0 H1; clear H1)
              refine WL_stepM rfl (R_mv) ?_
              refine WL_step rfl (R_extract rfl rfl) ?_
              refine WL_step rfl (R_extract rfl rfl) ?_
              (refine WL_effn rfl (TabV.E_allocK H) ?_; clear H; intro c20 w459 hc20 H)
              (refine WL_effu rfl (TabV.E_storeK (q := pv (-1) v) H rfl rfl .here) ?_; clear H; intro w460 H)
              refine WL_stepM rfl (R_as) ?_
              refine WL_nil ?_
              refine W_seq ?_
              refine W_region_l ?_
              refine WL_stepM rfl (R_mv) ?_
              refine WL_stepM rfl (R_mv) ?_
              refine WL_stepM rfl (R_mv) ?_
              refine WL_step rfl (R_indexAddr Try.underlying51 Try.sizeOf3 rfl rfl (by omega) (by omega) idx0_cast) ?_
              refine WL_step rfl (R_load (v := I (nm k)) Try.isAgg3 rfl (H.get (.there (.app _ .here))) (nm_get (by omega))) ?_
              (refine WL_call rfl (R_call rfl Try.call40 rfl) (TabF.get_yes (l := tab 50 (fB kb i)) (i := k) (a := ⟨TabF.fv (kb k), 1, true⟩) (H.get (.there (.app _ (.there .here)))) (H.get (.there (.app _ (.there (.there .here))))) (tab_length _ _) (by decide) (fB_in (by omega) (by omega)) (by show 1 ≤ 1000001; omega) rfl) ?_; rintro _ w470 ⟨rfl, H1⟩; replace H := H.seq0 H1; clear H1)
              refine WL_stepM rfl (R_mv) ?_
              refine WL_step rfl (R_extract rfl rfl) ?_
              refine WL_step rfl (R_extract rfl rfl) ?_
              refine WL_stepM rfl (R_as) ?_
              refine WL_stepM rfl (R_as) ?_
              refine WL_nil ?_
              refine W_seq ?_
              refine W_region_l ?_
              refine WL_stepM rfl (R_mv) ?_
              refine WL_stepM rfl (R_mv) ?_
              refine WL_stepM rfl (R_mv) ?_
              refine WL_step rfl (R_indexAddr Try.underlying51 Try.sizeOf3 rfl rfl (by omega) (by omega) idx_cast1) ?_
              refine WL_step rfl (R_load_cell Try.isAgg3 rfl (H.cellN hc1 (kCons (by assumption) (kApp hKk (by repeat' first | exact kNil | apply kCons | apply kApp | assumption | exact OwnS.keys (by assumption)))))) ?_
              refine WL_step rfl (R_build (vs := [(.int _ _), (.int _ _)]) rfl rfl) ?_
              (refine WL_effn rfl (TabV.E_allocK H) ?_; clear H; intro c24 w485 hc24 H)
              (refine WL_effu rfl (TabV.E_storeK (q := pv k (X k)) H rfl rfl .here) ?_; clear H; intro w486 H)
              refine WL_nil ?_
              refine W_seq ?_
              refine W_seq ?_
              refine W_region_l ?_
              refine WL_stepM rfl (R_mv) ?_
              refine WL_stepM rfl (R_mv) ?_
              refine WL_step rfl (R_eq_t rfl rfl (by omega)) ?_
              refine WL_nil ?_
              refine W_cond_t rfl ?_
              refine W_region_l ?_
              refine WL_stepM rfl (R_mv) ?_
              refine WL_step rfl (R_build (vs := [(.int _ _), (.int _ _)]) rfl rfl) ?_
              (refine WL_effu rfl (TabV.E_storeK (q := pv (-1) v) H rfl rfl .here) ?_; clear H; intro w499 H)
              refine WL_nil ?_
              refine W_seq ?_
              (have _g : ¬ k = D := hkD; have _g2 : k = A := hkA; refine W_draw (KH w [(c24, blk (pv (-1) v).c 61), (c20, blk (pv (-1) v).c 61)]) (fun _ => false) (by kernel_rfl) H ?_; clear H; intro w502 H)
              refine WA_takeM 0 rfl rfl rfl (by kernel_rfl) (by kernel_rfl) (H.kh (by simp) (by repeat' first | exact kNil | apply kCons | apply kApp | assumption | exact OwnS.keys (by assumption))) (fun _ hC => R_mv) ?_
              refine WA_takeM 1 rfl rfl rfl (by kernel_rfl) (by kernel_rfl) (H.kh (by simp) (by repeat' first | exact kNil | apply kCons | apply kApp | assumption | exact OwnS.keys (by assumption))) (fun _ hC => R_mv) ?_
              refine WA_takeM 2 rfl rfl rfl (by kernel_rfl) (by kernel_rfl) (H.kh (by simp) (by repeat' first | exact kNil | apply kCons | apply kApp | assumption | exact OwnS.keys (by assumption))) (fun _ hC => R_mv) ?_
              refine WA_take 3 rfl rfl rfl (by kernel_rfl) (by kernel_rfl) (H.kh (by simp) (by repeat' first | exact kNil | apply kCons | apply kApp | assumption | exact OwnS.keys (by assumption))) (fun _ hC => R_ne_t rfl rfl (by omega)) ?_
              refine WA_take 4 rfl rfl rfl (by kernel_rfl) (by kernel_rfl) (H.kh (by simp) (by repeat' first | exact kNil | apply kCons | apply kApp | assumption | exact OwnS.keys (by assumption))) (fun _ hC => R_ne_bool_f Try.underlying4 rfl rfl (by decide)) ?_
              refine WA_takeM 5 rfl rfl rfl (by kernel_rfl) (by kernel_rfl) (H.kh (by simp) (by repeat' first | exact kNil | apply kCons | apply kApp | assumption | exact OwnS.keys (by assumption))) (fun _ hC => R_mv) ?_
              refine WA_takeGM 6 rfl rfl rfl rfl (by kernel_rfl) (by kernel_rfl) (H.kh (by simp) (by repeat' first | exact kNil | apply kCons | apply kApp | assumption | exact OwnS.keys (by assumption))) (fun _ hC => R_mv) ?_
              refine WA_takeGM 7 rfl rfl rfl rfl (by kernel_rfl) (by kernel_rfl) (H.kh (by simp) (by repeat' first | exact kNil | apply kCons | apply kApp | assumption | exact OwnS.keys (by assumption))) (fun _ hC => R_mv) ?_
              refine WA_takeG 8 rfl rfl rfl rfl (by kernel_rfl) (by kernel_rfl) (H.kh (by simp) (by repeat' first | exact kNil | apply kCons | apply kApp | assumption | exact OwnS.keys (by assumption))) (fun _ hC => TabV.R_loadK rfl (hC.get (.there .here))) ?_
              refine WA_takeG 9 rfl rfl rfl rfl (by kernel_rfl) (by kernel_rfl) (H.kh (by simp) (by repeat' first | exact kNil | apply kCons | apply kApp | assumption | exact OwnS.keys (by assumption))) (fun _ hC => TabV.R_loadK rfl (hC.get .here)) ?_
              refine WA_takeG 10 rfl rfl rfl rfl (by kernel_rfl) (by kernel_rfl) (H.kh (by simp) (by repeat' first | exact kNil | apply kCons | apply kApp | assumption | exact OwnS.keys (by assumption))) (fun _ hC => R_ne_pair (-1) v rfl rfl) ?_
              refine WA_takeGM 11 rfl rfl rfl rfl (by kernel_rfl) (by kernel_rfl) (H.kh (by simp) (by repeat' first | exact kNil | apply kCons | apply kApp | assumption | exact OwnS.keys (by assumption))) (fun _ hC => R_pk_t rfl) ?_
              refine WA_takeM 12 rfl rfl rfl (by kernel_rfl) (by kernel_rfl) (H.kh (by simp) (by repeat' first | exact kNil | apply kCons | apply kApp | assumption | exact OwnS.keys (by assumption))) (fun _ hC => R_pk_f rfl) ?_
              refine WA_takeM 13 rfl rfl rfl (by kernel_rfl) (by kernel_rfl) (H.kh (by simp) (by repeat' first | exact kNil | apply kCons | apply kApp | assumption | exact OwnS.keys (by assumption))) (fun _ hC => R_mv) ?_
              refine WA_takeGM 14 rfl rfl rfl rfl (by kernel_rfl) (by kernel_rfl) (H.kh (by simp) (by repeat' first | exact kNil | apply kCons | apply kApp | assumption | exact OwnS.keys (by assumption))) (fun _ hC => R_mv) ?_
              refine WA_takeG 15 rfl rfl rfl rfl (by kernel_rfl) (by kernel_rfl) (H.kh (by simp) (by repeat' first | exact kNil | apply kCons | apply kApp | assumption | exact OwnS.keys (by assumption))) (fun _ hC => R_not_t rfl) ?_
              refine WA_takeGM 16 rfl rfl rfl rfl (by kernel_rfl) (by kernel_rfl) (H.kh (by simp) (by repeat' first | exact kNil | apply kCons | apply kApp | assumption | exact OwnS.keys (by assumption))) (fun _ hC => R_mv) ?_
              refine WA_pass 17 rfl rfl rfl (fun h => nomatch h) (by kernel_rfl) (by kernel_rfl) (H.kh (by simp) (by repeat' first | exact kNil | apply kCons | apply kApp | assumption | exact OwnS.keys (by assumption))) ?_
              refine WA_pass 18 rfl rfl rfl (fun h => nomatch h) (by kernel_rfl) (by kernel_rfl) (H.kh (by simp) (by repeat' first | exact kNil | apply kCons | apply kApp | assumption | exact OwnS.keys (by assumption))) ?_
              refine WA_pass 19 rfl rfl rfl (fun h => nomatch h) (by kernel_rfl) (by kernel_rfl) (H.kh (by simp) (by repeat' first | exact kNil | apply kCons | apply kApp | assumption | exact OwnS.keys (by assumption))) ?_
              refine WA_takeGM 20 rfl rfl rfl rfl (by kernel_rfl) (by kernel_rfl) (H.kh (by simp) (by repeat' first | exact kNil | apply kCons | apply kApp | assumption | exact OwnS.keys (by assumption))) (fun _ hC => R_pk_f rfl) ?_
              refine WA_takeM 21 rfl rfl rfl (by kernel_rfl) (by kernel_rfl) (H.kh (by simp) (by repeat' first | exact kNil | apply kCons | apply kApp | assumption | exact OwnS.keys (by assumption))) (fun _ hC => R_pk_f rfl) ?_
              refine WA_takeM 22 rfl rfl rfl (by kernel_rfl) (by kernel_rfl) (H.kh (by simp) (by repeat' first | exact kNil | apply kCons | apply kApp | assumption | exact OwnS.keys (by assumption))) (fun _ hC => R_mv) ?_
              refine WA_takeGM 23 rfl rfl rfl rfl (by kernel_rfl) (by kernel_rfl) (H.kh (by simp) (by repeat' first | exact kNil | apply kCons | apply kApp | assumption | exact OwnS.keys (by assumption))) (fun _ hC => R_mv) ?_
              refine WA_takeG 24 rfl rfl rfl rfl (by kernel_rfl) (by kernel_rfl) (H.kh (by simp) (by repeat' first | exact kNil | apply kCons | apply kApp | assumption | exact OwnS.keys (by assumption))) (fun _ hC => R_not_t rfl) ?_
              refine WA_takeM 25 rfl rfl rfl (by kernel_rfl) (by kernel_rfl) (H.kh (by simp) (by repeat' first | exact kNil | apply kCons | apply kApp | assumption | exact OwnS.keys (by assumption))) (fun _ hC => R_pk_f rfl) ?_
              refine WA_takeM 26 rfl rfl rfl (by kernel_rfl) (by kernel_rfl) (H.kh (by simp) (by repeat' first | exact kNil | apply kCons | apply kApp | assumption | exact OwnS.keys (by assumption))) (fun _ hC => R_mv) ?_
              refine WA_takeGM 27 rfl rfl rfl rfl (by kernel_rfl) (by kernel_rfl) (H.kh (by simp) (by repeat' first | exact kNil | apply kCons | apply kApp | assumption | exact OwnS.keys (by assumption))) (fun _ hC => R_mv) ?_
              refine WA_takeG 28 rfl rfl rfl rfl (by kernel_rfl) (by kernel_rfl) (H.kh (by simp) (by repeat' first | exact kNil | apply kCons | apply kApp | assumption | exact OwnS.keys (by assumption))) (fun _ hC => R_eq_fn Try.underlying43 rfl rfl) ?_
              refine WA_takeM 29 rfl rfl rfl (by kernel_rfl) (by kernel_rfl) (H.kh (by simp) (by repeat' first | exact kNil | apply kCons | apply kApp | assumption | exact OwnS.keys (by assumption))) (fun _ hC => R_pk_f rfl) ?_
              refine WA_takeM 30 rfl rfl rfl (by kernel_rfl) (by kernel_rfl) (H.kh (by simp) (by repeat' first | exact kNil | apply kCons | apply kApp | assumption | exact OwnS.keys (by assumption))) (fun _ hC => R_mv) ?_
              refine WA_takeGM 31 rfl rfl rfl rfl (by kernel_rfl) (by kernel_rfl) (H.kh (by simp) (by repeat' first | exact kNil | apply kCons | apply kApp | assumption | exact OwnS.keys (by assumption))) (fun _ hC => R_mv) ?_
              refine WA_takeGM 33 rfl rfl rfl rfl (by kernel_rfl) (by kernel_rfl) (H.kh (by simp) (by repeat' first | exact kNil | apply kCons | apply kApp | assumption | exact OwnS.keys (by assumption))) (fun _ hC => R_mv) ?_
              refine WA_takeGM 34 rfl rfl rfl rfl (by kernel_rfl) (by kernel_rfl) (H.kh (by simp) (by repeat' first | exact kNil | apply kCons | apply kApp | assumption | exact OwnS.keys (by assumption))) (fun _ hC => R_mv) ?_
              refine WA_takeG 35 rfl rfl rfl rfl (by kernel_rfl) (by kernel_rfl) (H.kh (by simp) (by repeat' first | exact kNil | apply kCons | apply kApp | assumption | exact OwnS.keys (by assumption))) (fun _ hC => R_indexAddr Try.underlying51 Try.sizeOf3 rfl rfl (by omega) (by omega) idx_cast1) ?_
              refine WA_takeG 36 rfl rfl rfl rfl (by kernel_rfl) (by kernel_rfl) (H.kh (by simp) (by repeat' first | exact kNil | apply kCons | apply kApp | assumption | exact OwnS.keys (by assumption))) (fun _ hC => R_load_cell Try.isAgg3 rfl (hC.old.cell hc1 (by simp))) ?_
              refine WA_one (i := 32) (by kernel_rfl) ?_
              (refine WI_call rfl (.inr ⟨_, _, rfl, rfl⟩) (R_call rfl Try.call36 rfl) (TabF.fun_ret (b := kb k) (x := X k) (H.held (kb k, blk [I (X k)] 3) (by simp [hKm]))) (fun _ _ hR _ => (H.seq0 hR.2).kh (by simp) (kCons (by assumption) (kCons (by assumption) (kApp hKk (by repeat' first | exact kNil | apply kCons | apply kApp | assumption | exact OwnS.keys (by assumption)))))) ?_; rintro _ w540 ⟨rfl, H1⟩; replace H := H.seq0 H1; clear H1)
              refine WA_takeG 37 rfl rfl rfl rfl (by kernel_rfl) (by kernel_rfl) (H.kh (by simp) (by repeat' first | exact kNil | apply kCons | apply kApp | assumption | exact OwnS.keys (by assumption))) (fun _ hC => R_ne_f rfl rfl rfl) ?_
              refine WA_takeM 38 rfl rfl rfl (by kernel_rfl) (by kernel_rfl) (H.kh (by simp) (by repeat' first | exact kNil | apply kCons | apply kApp | assumption | exact OwnS.keys (by assumption))) (fun _ hC => R_pk_f rfl) ?_
              refine WA_done (by kernel_rfl) ?_
              refine W_cond_f rfl ?_
              refine W_skip ?_
              refine W_region_l ?_
              refine WL_stepM rfl (R_mv) ?_
              refine WL_step rfl (R_add rfl rfl (w_i64 (by omega))) ?_
              refine WL_stepM rfl (R_as) ?_
              refine WL_nil ?_
              exact ⟨(same_mov rfl (same_updo rfl (same_mov rfl (same_mov rfl (same_updo rfl (same_updo rfl (same_updo rfl (same_updo rfl (same_mov rfl (same_mov rfl (same_mov rfl (same_mov rfl (same_mov rfl (same_updo rfl (same_mov rfl (same_mov rfl (same_mov rfl (same_updo rfl (same_mov rfl (same_mov rfl (same_mov rfl (same_mov rfl (same_updo rfl (same_updo rfl (same_updo rfl (same_mov rfl (same_updo rfl (same_mov rfl (same_mov rfl (same_mov rfl (same_mov rfl (same_updo rfl (same_updo rfl (same_updo rfl (same_mov rfl (same_mov rfl (same_mov rfl (same_updo rfl (same_updo rfl (same_mov rfl (same_mov rfl (same_mov rfl (same_updn (same_updo rfl (same_mov rfl (same_updo rfl (same_mov rfl (same_mov rfl (same_updn (same_updo rfl (same_updo rfl (same_updo rfl (same_updo rfl (same_mov rfl (same_mov rfl (same_mov rfl (same_mov rfl (same_mov rfl (same_updo rfl (same_updo rfl (same_mov rfl (same_updo rfl (same_updo rfl (same_updo rfl (same_mov rfl (same_mov rfl (same_mov rfl (same_mov rfl (same_updn (same_updo rfl (same_updo rfl (same_updo rfl (same_mov rfl (same_updo rfl (same_updo rfl (same_updo rfl (same_mov rfl (same_mov rfl (same_mov rfl (same_know rfl (same_updo rfl (same_mov rfl (same_mov rfl same_ovr))))))))))))))))))))))))))))))))))))))))))))))))))))))))))))))))))))))))))))))))))), k + 1, by omega, by omega, rfl, Hp.dropN (M := [_, _]) H (by repeat' first | exact kNil | apply kCons | apply kApp | assumption | exact OwnS.keys (by assumption))⟩
            · refine WL_stepM rfl (R_mv) ?_
              refine WL_stepM rfl (R_mv) ?_
              refine WL_stepM rfl (R_mv) ?_
              refine WL_step rfl (R_indexAddr Try.underlying51 Try.sizeOf3 rfl rfl (by omega) (by omega) idx0_cast) ?_
              refine WL_step rfl (R_load (v := I (nm k)) Try.isAgg3 rfl (H.get (.app _ .here)) (nm_get (by omega))) ?_
              (refine WL_call rfl (R_call rfl Try.call39 rfl) (TabV.get_yes (l := tab 50 (fD X i A D v)) (i := k) (a := ⟨wC X A v k, 1, true⟩) (H.get (.app _ (.there (.there (.there .here))))) (H.get (.app _ (.there (.there (.there (.there .here)))))) (tab_length _ _) (by decide) (fD_in (by omega) hkD (by omega)) (by show 1 ≤ 1000001; omega) rfl) ?_; rintro _ w557 ⟨rfl, H1⟩; (first | rw [show wC X A v k = pv (-1) v from if_pos hkA] | rw [show wC X A v k = pv k (X k) from if_neg hkA]); replace H := H.seq0 H1; clear H1)
              refine WL_stepM rfl (R_mv) ?_
              refine WL_step rfl (R_extract rfl rfl) ?_
              refine WL_step rfl (R_extract rfl rfl) ?_
              (refine WL_effn rfl (TabV.E_allocK H) ?_; clear H; intro c20 w561 hc20 H)
              (refine WL_effu rfl (TabV.E_storeK (q := pv k (X k)) H rfl rfl .here) ?_; clear H; intro w562 H)
              refine WL_stepM rfl (R_as) ?_
              refine WL_nil ?_
              refine W_seq ?_
              refine W_region_l ?_
              refine WL_stepM rfl (R_mv) ?_
              refine WL_stepM rfl (R_mv) ?_
              refine WL_stepM rfl (R_mv) ?_
              refine WL_step rfl (R_indexAddr Try.underlying51 Try.sizeOf3 rfl rfl (by omega) (by omega) idx0_cast) ?_
              refine WL_step rfl (R_load (v := I (nm k)) Try.isAgg3 rfl (H.get (.there (.app _ .here))) (nm_get (by omega))) ?_
              (refine WL_call rfl (R_call rfl Try.call40 rfl) (TabF.get_yes (l := tab 50 (fB kb i)) (i := k) (a := ⟨TabF.fv (kb k), 1, true⟩) (H.get (.there (.app _ (.there .here)))) (H.get (.there (.app _ (.there (.there .here))))) (tab_length _ _) (by decide) (fB_in (by omega) (by omega)) (by show 1 ≤ 1000001; omega) rfl) ?_; rintro _ w572 ⟨rfl, H1⟩; replace H := H.seq0 H1; clear H1)
              refine WL_stepM rfl (R_mv) ?_
              refine WL_step rfl (R_extract rfl rfl) ?_
              refine WL_step rfl (R_extract rfl rfl) ?_
              refine WL_stepM rfl (R_as) ?_
              refine WL_stepM rfl (R_as) ?_
              refine WL_nil ?_
              refine W_seq ?_
              refine W_region_l ?_
              refine WL_stepM rfl (R_mv) ?_
              refine WL_stepM rfl (R_mv) ?_
              refine WL_stepM rfl (R_mv) ?_
              refine WL_step rfl (R_indexAddr Try.underlying51 Try.sizeOf3 rfl rfl (by omega) (by omega) idx_cast1) ?_
              refine WL_step rfl (R_load_cell Try.isAgg3 rfl (H.cellN hc1 (kCons (by assumption) (kApp hKk (by repeat' first | exact kNil | apply kCons | apply kApp | assumption | exact OwnS.keys (by assumption)))))) ?_
              refine WL_step rfl (R_build (vs := [(.int _ _), (.int _ _)]) rfl rfl) ?_
              (refine WL_effn rfl (TabV.E_allocK H) ?_; clear H; intro c24 w587 hc24 H)
              (refine WL_effu rfl (TabV.E_storeK (q := pv k (X k)) H rfl rfl .here) ?_; clear H; intro w588 H)
              refine WL_nil ?_
              refine W_seq ?_
              refine W_seq ?_
              refine W_region_l ?_
              refine WL_stepM rfl (R_mv) ?_
              refine WL_stepM rfl (R_mv) ?_
              refine WL_step rfl (R_eq_f rfl rfl (by omega)) ?_
              refine WL_nil ?_
              refine W_cond_f rfl ?_
              refine W_skip ?_
              refine W_seq ?_
              (have _g : ¬ k = D := hkD; have _g2 : ¬ k = A := hkA; refine W_draw (KH w [(c24, blk (pv k (X k)).c 61), (c20, blk (pv k (X k)).c 61)]) (fun _ => false) (by kernel_rfl) H ?_; clear H; intro w600 H)
              refine WA_takeM 0 rfl rfl rfl (by kernel_rfl) (by kernel_rfl) (H.kh (by simp) (by repeat' first | exact kNil | apply kCons | apply kApp | assumption | exact OwnS.keys (by assumption))) (fun _ hC => R_mv) ?_
              refine WA_takeM 1 rfl rfl rfl (by kernel_rfl) (by kernel_rfl) (H.kh (by simp) (by repeat' first | exact kNil | apply kCons | apply kApp | assumption | exact OwnS.keys (by assumption))) (fun _ hC => R_mv) ?_
              refine WA_takeM 2 rfl rfl rfl (by kernel_rfl) (by kernel_rfl) (H.kh (by simp) (by repeat' first | exact kNil | apply kCons | apply kApp | assumption | exact OwnS.keys (by assumption))) (fun _ hC => R_mv) ?_
              refine WA_take 3 rfl rfl rfl (by kernel_rfl) (by kernel_rfl) (H.kh (by simp) (by repeat' first | exact kNil | apply kCons | apply kApp | assumption | exact OwnS.keys (by assumption))) (fun _ hC => R_ne_t rfl rfl (by omega)) ?_
              refine WA_take 4 rfl rfl rfl (by kernel_rfl) (by kernel_rfl) (H.kh (by simp) (by repeat' first | exact kNil | apply kCons | apply kApp | assumption | exact OwnS.keys (by assumption))) (fun _ hC => R_ne_bool_f Try.underlying4 rfl rfl (by decide)) ?_
              refine WA_takeM 5 rfl rfl rfl (by kernel_rfl) (by kernel_rfl) (H.kh (by simp) (by repeat' first | exact kNil | apply kCons | apply kApp | assumption | exact OwnS.keys (by assumption))) (fun _ hC => R_mv) ?_
              refine WA_takeGM 6 rfl rfl rfl rfl (by kernel_rfl) (by kernel_rfl) (H.kh (by simp) (by repeat' first | exact kNil | apply kCons | apply kApp | assumption | exact OwnS.keys (by assumption))) (fun _ hC => R_mv) ?_
              refine WA_takeGM 7 rfl rfl rfl rfl (by kernel_rfl) (by kernel_rfl) (H.kh (by simp) (by repeat' first | exact kNil | apply kCons | apply kApp | assumption | exact OwnS.keys (by assumption))) (fun _ hC => R_mv) ?_
              refine WA_takeG 8 rfl rfl rfl rfl (by kernel_rfl) (by kernel_rfl) (H.kh (by simp) (by repeat' first | exact kNil | apply kCons | apply kApp | assumption | exact OwnS.keys (by assumption))) (fun _ hC => TabV.R_loadK rfl (hC.get (.there .here))) ?_
              refine WA_takeG 9 rfl rfl rfl rfl (by kernel_rfl) (by kernel_rfl) (H.kh (by simp) (by repeat' first | exact kNil | apply kCons | apply kApp | assumption | exact OwnS.keys (by assumption))) (fun _ hC => TabV.R_loadK rfl (hC.get .here)) ?_
              refine WA_takeG 10 rfl rfl rfl rfl (by kernel_rfl) (by kernel_rfl) (H.kh (by simp) (by repeat' first | exact kNil | apply kCons | apply kApp | assumption | exact OwnS.keys (by assumption))) (fun _ hC => R_ne_pair k (X k) rfl rfl) ?_
              refine WA_takeGM 11 rfl rfl rfl rfl (by kernel_rfl) (by kernel_rfl) (H.kh (by simp) (by repeat' first | exact kNil | apply kCons | apply kApp | assumption | exact OwnS.keys (by assumption))) (fun _ hC => R_pk_t rfl) ?_
              refine WA_takeM 12 rfl rfl rfl (by kernel_rfl) (by kernel_rfl) (H.kh (by simp) (by repeat' first | exact kNil | apply kCons | apply kApp | assumption | exact OwnS.keys (by assumption))) (fun _ hC => R_pk_f rfl) ?_
              refine WA_takeM 13 rfl rfl rfl (by kernel_rfl) (by kernel_rfl) (H.kh (by simp) (by repeat' first | exact kNil | apply kCons | apply kApp | assumption | exact OwnS.keys (by assumption))) (fun _ hC => R_mv) ?_
              refine WA_takeGM 14 rfl rfl rfl rfl (by kernel_rfl) (by kernel_rfl) (H.kh (by simp) (by repeat' first | exact kNil | apply kCons | apply kApp | assumption | exact OwnS.keys (by assumption))) (fun _ hC => R_mv) ?_
              refine WA_takeG 15 rfl rfl rfl rfl (by kernel_rfl) (by kernel_rfl) (H.kh (by simp) (by repeat' first | exact kNil | apply kCons | apply kApp | assumption | exact OwnS.keys (by assumption))) (fun _ hC => R_not_t rfl) ?_
              refine WA_takeGM 16 rfl rfl rfl rfl (by kernel_rfl) (by kernel_rfl) (H.kh (by simp) (by repeat' first | exact kNil | apply kCons | apply kApp | assumption | exact OwnS.keys (by assumption))) (fun _ hC => R_mv) ?_
              refine WA_pass 17 rfl rfl rfl (fun h => nomatch h) (by kernel_rfl) (by kernel_rfl) (H.kh (by simp) (by repeat' first | exact kNil | apply kCons | apply kApp | assumption | exact OwnS.keys (by assumption))) ?_
              refine WA_pass 18 rfl rfl rfl (fun h => nomatch h) (by kernel_rfl) (by kernel_rfl) (H.kh (by simp) (by repeat' first | exact kNil | apply kCons | apply kApp | assumption | exact OwnS.keys (by assumption))) ?_
              refine WA_pass 19 rfl rfl rfl (fun h => nomatch h) (by kernel_rfl) (by kernel_rfl) (H.kh (by simp) (by repeat' first | exact kNil | apply kCons | apply kApp | assumption | exact OwnS.keys (by assumption))) ?_
              refine WA_takeGM 20 rfl rfl rfl rfl (by kernel_rfl) (by kernel_rfl) (H.kh (by simp) (by repeat' first | exact kNil | apply kCons | apply kApp | assumption | exact OwnS.keys (by assumption))) (fun _ hC => R_pk_f rfl) ?_
              refine WA_takeM 21 rfl rfl rfl (by kernel_rfl) (by kernel_rfl) (H.kh (by simp) (by repeat' first | exact kNil | apply kCons | apply kApp | assumption | exact OwnS.keys (by assumption))) (fun _ hC => R_pk_f rfl) ?_
              refine WA_takeM 22 rfl rfl rfl (by kernel_rfl) (by kernel_rfl) (H.kh (by simp) (by repeat' first | exact kNil | apply kCons | apply kApp | assumption | exact OwnS.keys (by assumption))) (fun _ hC => R_mv) ?_
              refine WA_takeGM 23 rfl rfl rfl rfl (by kernel_rfl) (by kernel_rfl) (H.kh (by simp) (by repeat' first | exact kNil | apply kCons | apply kApp | assumption | exact OwnS.keys (by assumption))) (fun _ hC => R_mv) ?_
              refine WA_takeG 24 rfl rfl rfl rfl (by kernel_rfl) (by kernel_rfl) (H.kh (by simp) (by repeat' first | exact kNil | apply kCons | apply kApp | assumption | exact OwnS.keys (by assumption))) (fun _ hC => R_not_t rfl) ?_
              refine WA_takeM 25 rfl rfl rfl (by kernel_rfl) (by kernel_rfl) (H.kh (by simp) (by repeat' first | exact kNil | apply kCons | apply kApp | assumption | exact OwnS.keys (by assumption))) (fun _ hC => R_pk_f rfl) ?_
              refine WA_takeM 26 rfl rfl rfl (by kernel_rfl) (by kernel_rfl) (H.kh (by simp) (by repeat' first | exact kNil | apply kCons | apply kApp | assumption | exact OwnS.keys (by assumption))) (fun _ hC => R_mv) ?_
              refine WA_takeGM 27 rfl rfl rfl rfl (by kernel_rfl) (by kernel_rfl) (H.kh (by simp) (by repeat' first | exact kNil | apply kCons | apply kApp | assumption | exact OwnS.keys (by assumption))) (fun _ hC => R_mv) ?_
              refine WA_takeG 28 rfl rfl rfl rfl (by kernel_rfl) (by kernel_rfl) (H.kh (by simp) (by repeat' first | exact kNil | apply kCons | apply kApp | assumption | exact OwnS.keys (by assumption))) (fun _ hC => R_eq_fn Try.underlying43 rfl rfl) ?_
              refine WA_takeM 29 rfl rfl rfl (by kernel_rfl) (by kernel_rfl) (H.kh (by simp) (by repeat' first | exact kNil | apply kCons | apply kApp | assumption | exact OwnS.keys (by assumption))) (fun _ hC => R_pk_f rfl) ?_
              refine WA_takeM 30 rfl rfl rfl (by kernel_rfl) (by kernel_rfl) (H.kh (by simp) (by repeat' first | exact kNil | apply kCons | apply kApp | assumption | exact OwnS.keys (by assumption))) (fun _ hC => R_mv) ?_
              refine WA_takeGM 31 rfl rfl rfl rfl (by kernel_rfl) (by kernel_rfl) (H.kh (by simp) (by repeat' first | exact kNil | apply kCons | apply kApp | assumption | exact OwnS.keys (by assumption))) (fun _ hC => R_mv) ?_
              refine WA_takeGM 33 rfl rfl rfl rfl (by kernel_rfl) (by kernel_rfl) (H.kh (by simp) (by repeat' first | exact kNil | apply kCons | apply kApp | assumption | exact OwnS.keys (by assumption))) (fun _ hC => R_mv) ?_
              refine WA_takeGM 34 rfl rfl rfl rfl (by kernel_rfl) (by kernel_rfl) (H.kh (by simp) (by repeat' first | exact kNil | apply kCons | apply kApp | assumption | exact OwnS.keys (by assumption))) (fun _ hC => R_mv) ?_
              refine WA_takeG 35 rfl rfl rfl rfl (by kernel_rfl) (by kernel_rfl) (H.kh (by simp) (by repeat' first | exact kNil | apply kCons | apply kApp | assumption | exact OwnS.keys (by assumption))) (fun _ hC => R_indexAddr Try.underlying51 Try.sizeOf3 rfl rfl (by omega) (by omega) idx_cast1) ?_
              refine WA_takeG 36 rfl rfl rfl rfl (by kernel_rfl) (by kernel_rfl) (H.kh (by simp) (by repeat' first | exact kNil | apply kCons | apply kApp | assumption | exact OwnS.keys (by assumption))) (fun _ hC => R_load_cell Try.isAgg3 rfl (hC.old.cell hc1 (by simp))) ?_
              refine WA_one (i := 32) (by kernel_rfl) ?_
              (refine WI_call rfl (.inr ⟨_, _, rfl, rfl⟩) (R_call rfl Try.call36 rfl) (TabF.fun_ret (b := kb k) (x := X k) (H.held (kb k, blk [I (X k)] 3) (by simp [hKm]))) (fun _ _ hR _ => (H.seq0 hR.2).kh (by simp) (kCons (by assumption) (kCons (by assumption) (kApp hKk (by repeat' first | exact kNil | apply kCons | apply kApp | assumption | exact OwnS.keys (by assumption)))))) ?_; rintro _ w638 ⟨rfl, H1⟩; replace H := H.seq0 H1; clear H1)
              refine WA_takeG 37 rfl rfl rfl rfl (by kernel_rfl) (by kernel_rfl) (H.kh (by simp) (by repeat' first | exact kNil | apply kCons | apply kApp | assumption | exact OwnS.keys (by assumption))) (fun _ hC => R_ne_f rfl rfl rfl) ?_
              refine WA_takeM 38 rfl rfl rfl (by kernel_rfl) (by kernel_rfl) (H.kh (by simp) (by repeat' first | exact kNil | apply kCons | apply kApp | assumption | exact OwnS.keys (by assumption))) (fun _ hC => R_pk_f rfl) ?_
              refine WA_done (by kernel_rfl) ?_
              refine W_cond_f rfl ?_
              refine W_skip ?_
              refine W_region_l ?_
              refine WL_stepM rfl (R_mv) ?_
              refine WL_step rfl (R_add rfl rfl (w_i64 (by omega))) ?_
              refine WL_stepM rfl (R_as) ?_
              refine WL_nil ?_
              exact ⟨(same_mov rfl (same_updo rfl (same_mov rfl (same_mov rfl (same_updo rfl (same_updo rfl (same_updo rfl (same_updo rfl (same_mov rfl (same_mov rfl (same_mov rfl (same_mov rfl (same_mov rfl (same_updo rfl (same_mov rfl (same_mov rfl (same_mov rfl (same_updo rfl (same_mov rfl (same_mov rfl (same_mov rfl (same_mov rfl (same_updo rfl (same_updo rfl (same_updo rfl (same_mov rfl (same_updo rfl (same_mov rfl (same_mov rfl (same_mov rfl (same_mov rfl (same_updo rfl (same_updo rfl (same_updo rfl (same_mov rfl (same_mov rfl (same_mov rfl (same_updo rfl (same_updo rfl (same_mov rfl (same_mov rfl (same_mov rfl (same_updo rfl (same_mov rfl (same_mov rfl (same_updn (same_updo rfl (same_updo rfl (same_updo rfl (same_updo rfl (same_mov rfl (same_mov rfl (same_mov rfl (same_mov rfl (same_mov rfl (same_updo rfl (same_updo rfl (same_mov rfl (same_updo rfl (same_updo rfl (same_updo rfl (same_mov rfl (same_mov rfl (same_mov rfl (same_mov rfl (same_updn (same_updo rfl (same_updo rfl (same_updo rfl (same_mov rfl (same_updo rfl (same_updo rfl (same_updo rfl (same_mov rfl (same_mov rfl (same_mov rfl (same_know rfl (same_updo rfl (same_mov rfl (same_mov rfl same_ovr)))))))))))))))))))))))))))))))))))))))))))))))))))))))))))))))))))))))))))))))), k + 1, by omega, by omega, rfl, Hp.dropN (M := [_, _]) H (by repeat' first | exact kNil | apply kCons | apply kApp | assumption | exact OwnS.keys (by assumption))⟩
          · refine W_exit ?_
            refine (if_pos rfl).mpr ?_
            refine W_seq ?_
            refine W_region_l ?_
            refine WL_stepM rfl (R_mv) ?_
            (refine WL_call rfl (R_call rfl Try.call41 rfl) (TabV.len_ret (l := tab 50 (fD X i A D v)) (H.get (.app _ (.there (.there (.there .here))))) (H.get (.app _ (.there (.there (.there (.there .here)))))) (tab_length _ _) (by decide) (tab_mem fun j _ => fD_g j)) ?_; rintro _ w655 ⟨rfl, H1⟩; replace H := H.seq0 H1; clear H1)
            refine WL_stepM rfl (R_mv) ?_
            refine WL_step rfl (R_sub (r := ((i - 1 : Nat) : Int)) rfl rfl (by rw [w_i64 (by omega)]; omega)) ?_
            refine WL_step rfl (R_eq_t rfl rfl (by rw [lenD hDl (by omega)])) ?_
            refine WL_stepM rfl (R_mv) ?_
            refine WL_guard_t rfl rfl ?_
            refine WL_stepM rfl (R_mv) ?_
            refine WL_guard_t rfl rfl ?_
            (refine WL_call rfl (R_call rfl Try.call42 rfl) (TabF.len_ret (l := tab 50 (fB kb i)) (H.get (.app _ (.there .here))) (H.get (.app _ (.there (.there .here)))) (tab_length _ _) (by decide) (tab_mem fun j _ => fB_g kb i j) (tab_mem fun j _ => fB_v kb i j)) ?_; rintro _ w663 ⟨rfl, H1⟩; replace H := H.seq0 H1; clear H1)
            refine WL_guard_t rfl rfl ?_
            refine WL_stepM rfl (R_mv) ?_
            refine WL_guard_t rfl rfl ?_
            refine WL_step rfl (R_eq_t rfl rfl (by rw [lenB (by omega)])) ?_
            refine WL_stepM rfl (R_pk_t rfl) ?_
            refine WL_stepM rfl (R_mv) ?_
            refine WL_guard_t rfl rfl ?_
            (refine WL_call rfl (R_call rfl Try.call31 rfl) (Tab.awake_ret _) ?_; rintro _ w671 ⟨rfl, H1⟩; replace H := H.seq0 H1; clear H1)
            refine WL_stepM rfl (R_pk_t rfl) ?_
            refine WL_stepM rfl (R_as) ?_
            refine WL_nil ?_
            refine W_ret ?_
            exact ⟨_, rfl, rfl, H.none (kApp hKk (by repeat' first | exact kNil | apply kCons | apply kApp | assumption | exact OwnS.keys (by assumption)))⟩
end Go.Proofs.Ytjkkfahjgaidbaa.TabY

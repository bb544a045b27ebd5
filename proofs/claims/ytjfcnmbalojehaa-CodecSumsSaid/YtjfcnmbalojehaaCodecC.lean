/-
  The law CodecSums: what its calls come to.
-/
import Derived.Test.YtjfcnmbalojehaaCodecB
namespace Go.Proofs.Ytjfcnmbalojehaa.Codec
open Go Go.Proofs Go.Proofs.Ytjfcnmbalojehaa.Fx
set_option maxRecDepth 100000
set_option linter.unusedVariables false
set_option maxHeartbeats 1000000

theorem sums_ret {xs : List UInt8} {w : World} {l : Value} (a b : Int) (hl : RdS w l (xs.map U)) (hb : xs.length ≤ 9223372036854775807) :
    Ret Try.prog 6 #[l, I a, I b] w fun v w' => v = .bool true ∧ Hp w [] w' := by
  refine Ret_of_W (args := [_, _, _]) Try.func6 rfl Try.ntmps6 Try.results6 (by simp) ?_
  have H := Hp.refl w
  have hO := OwnS.nil w.heap.size 5 1
  obtain ⟨ao, ca, rfl, hca, hra⟩ := id hl
  simp only [List.length_map] at hl ⊢
  by_cases hz : xs.length = 0
  · refine W_seq ?_
    refine W_region_l ?_
    refine WL_stepM rfl (R_as) ?_
    refine WL_nil ?_
    refine W_seq ?_
    refine W_region_l ?_
    refine WL_stepM rfl (R_mv) ?_
    refine WL_step rfl (R_len_slice Try.underlying43 rfl) ?_
    refine WL_stepM rfl (R_as) ?_
    refine WL_nil ?_
    refine W_seq ?_
    refine W_seq ?_
    refine W_region_l ?_
    refine WL_stepM rfl (R_mv) ?_
    refine WL_step rfl (R_eq_t rfl rfl (by omega)) ?_
    refine WL_stepM rfl (R_mv) ?_
    refine WL_guard_f rfl rfl (by decide) ?_
    refine WL_guard_f rfl rfl (by decide) ?_
    refine WL_stepM rfl (R_pk_t rfl) ?_
    refine WL_nil ?_
    refine W_cond_t rfl ?_
    refine W_seq ?_
    refine W_region_l ?_
    (refine WL_call rfl (R_call rfl Try.call22 rfl) (awake_ret _) ?_; rintro _ w24 ⟨rfl, H1⟩; replace H := H.seq0 H1; clear H1)
    refine WL_stepM rfl (R_as) ?_
    refine WL_nil ?_
    refine W_ret ?_
    exact ⟨_, rfl, rfl, H⟩
  · by_cases hz2 : 200 < xs.length
    · refine W_seq ?_
      refine W_region_l ?_
      refine WL_stepM rfl (R_as) ?_
      refine WL_nil ?_
      refine W_seq ?_
      refine W_region_l ?_
      refine WL_stepM rfl (R_mv) ?_
      refine WL_step rfl (R_len_slice Try.underlying43 rfl) ?_
      refine WL_stepM rfl (R_as) ?_
      refine WL_nil ?_
      refine W_seq ?_
      refine W_seq ?_
      refine W_region_l ?_
      refine WL_stepM rfl (R_mv) ?_
      refine WL_step rfl (R_eq_f rfl rfl (by omega)) ?_
      refine WL_stepM rfl (R_mv) ?_
      refine WL_guard_t rfl rfl ?_
      refine WL_stepM rfl (R_mv) ?_
      refine WL_guard_t rfl rfl ?_
      refine WL_step rfl (R_gt_t rfl rfl (by omega)) ?_
      refine WL_stepM rfl (R_pk_f rfl) ?_
      refine WL_nil ?_
      refine W_cond_t rfl ?_
      refine W_seq ?_
      refine W_region_l ?_
      (refine WL_call rfl (R_call rfl Try.call22 rfl) (awake_ret _) ?_; rintro _ w26 ⟨rfl, H1⟩; replace H := H.seq0 H1; clear H1)
      refine WL_stepM rfl (R_as) ?_
      refine WL_nil ?_
      refine W_ret ?_
      exact ⟨_, rfl, rfl, H⟩
    · obtain ⟨r, hr⟩ : ∃ r : Nat, (r : Int) = a % 256 := ⟨(a % 256).toNat, by omega⟩
      obtain ⟨j, hj, hjl⟩ : ∃ j : Nat, (j : Int) = (b % 65536) % xs.length ∧ j < xs.length :=
        ⟨((b % 65536) % xs.length).toNat, Int.toNat_of_nonneg (Int.emod_nonneg _ (by omega)), by have := Int.emod_lt_of_pos (b % 65536) (b := (xs.length : Int)) (by omega); omega⟩
      have hup := sumB_up xs j hjl
      refine W_seq ?_
      refine W_region_l ?_
      refine WL_stepM rfl (R_as) ?_
      refine WL_nil ?_
      refine W_seq ?_
      refine W_region_l ?_
      refine WL_stepM rfl (R_mv) ?_
      refine WL_step rfl (R_len_slice Try.underlying43 rfl) ?_
      refine WL_stepM rfl (R_as) ?_
      refine WL_nil ?_
      refine W_seq ?_
      refine W_seq ?_
      refine W_region_l ?_
      refine WL_stepM rfl (R_mv) ?_
      refine WL_step rfl (R_eq_f rfl rfl (by omega)) ?_
      refine WL_stepM rfl (R_mv) ?_
      refine WL_guard_t rfl rfl ?_
      refine WL_stepM rfl (R_mv) ?_
      refine WL_guard_t rfl rfl ?_
      refine WL_step rfl (R_gt_f rfl rfl (by omega)) ?_
      refine WL_stepM rfl (R_pk_f rfl) ?_
      refine WL_nil ?_
      refine W_cond_f rfl ?_
      refine W_skip ?_
      refine W_seq ?_
      refine W_region_l ?_
      refine WL_stepM rfl (R_as) ?_
      refine WL_nil ?_
      refine W_seq ?_
      refine W_seq ?_
      refine W_region_l ?_
      refine WL_stepM rfl (R_as) ?_
      refine WL_nil ?_
      refine W_block ?_
      refine W_loop (fun (i : Nat) E w' => ∃ v M, i ≤ xs.length ∧ E 0 = .slice ao xs.length ca ∧ E 1 = I a ∧ E 2 = I b ∧ E 7 = I xs.length ∧ E 8 = v ∧ E 9 = I i ∧ OwnS w.heap.size 5 1 v i (((xs.drop (r % xs.length) ++ xs.take (r % xs.length)).take i).map U) M ∧ Hp w M w') (fun i => xs.length - i) 0 ?_ ?_
      · exact ⟨_, [], by omega, rfl, rfl, rfl, rfl, rfl, rfl, hO, H⟩
      · (clear H hO; rintro i E w1 ⟨v, M, hi, h0, h1, h2, h3, h4, h5, hO, H⟩; refine W_know6 h0 h1 h2 h3 h4 h5 ?_; by_cases hlt : i < xs.length)
        · refine W_seq ?_
          refine W_seq ?_
          refine W_region_l ?_
          refine WL_stepM rfl (R_mv) ?_
          refine WL_stepM rfl (R_mv) ?_
          refine WL_step rfl (R_lt_t rfl rfl (by omega)) ?_
          refine WL_nil ?_
          refine W_cond_t rfl ?_
          refine W_skip ?_
          refine W_seq ?_
          refine W_block ?_
          (obtain ⟨k, hk, hkl, hke⟩ : ∃ k : Nat, (k : Int) = (i + a % 256) % xs.length ∧ k < xs.length ∧ k = (i + r) % xs.length := ⟨(i + r) % xs.length, by rw [← hr]; rfl, Nat.mod_lt _ (by omega), rfl⟩; obtain ⟨b1, o1, rfl, hc1⟩ := hl.cell (i := k) (u := U xs[k]) (by rw [List.getElem?_map, List.getElem?_eq_getElem (by omega)]; rfl); have htg := turn_get xs r i k hlt hke; rw [List.getElem?_eq_getElem hkl] at htg; refine W_region_l ?_)
          refine WL_stepM rfl (R_mv) ?_
          refine WL_stepM rfl (R_mv) ?_
          refine WL_stepM rfl (R_mv) ?_
          refine WL_stepM rfl (R_mv) ?_
          refine WL_step rfl (R_bits rfl rfl (by simp) (and_mask_i64 8 256 (by decide) rfl (by decide))) ?_
          refine WL_step rfl (R_add rfl rfl (w_i64 (by omega))) ?_
          refine WL_stepM rfl (R_mv) ?_
          refine WL_step rfl (R_rem rfl rfl (by omega) ((rem_pos (by omega)).trans hk.symm)) ?_
          refine WL_step rfl (R_indexAddr Try.underlying43 Try.sizeOf5 rfl rfl (by omega) (by omega) idx_cast1) ?_
          refine WL_step rfl (R_load_cell Try.isAgg5 rfl (H.cellN hc1 hO.keys)) ?_
          (refine WL_effn rfl (E_buildSlice (vs := [(.int _ _)]) H Try.underlying43 Try.sizeOf5 Try.zeroValue5 rfl rfl (by decide) rfl rfl) ?_; clear H; intro b60 w60 hb60 H)
          (refine WL_effm rfl (E_append H (.there .last) hO Try.underlying43 Try.typeInfo5 rfl rfl rfl rfl rfl rfl (src_one Try.underlying43 (H.get .here) rfl) (by omega) (by simp only [Try.t5]; omega)) ?_; clear H hO; intro vN MN w61 hO H; replace H := H.pop (by assumption))
          refine WL_stepM rfl (R_as) ?_
          refine WL_nil ?_
          refine W_region_l ?_
          refine WL_stepM rfl (R_mv) ?_
          refine WL_step rfl (R_add rfl rfl (w_i64 (by omega))) ?_
          refine WL_stepM rfl (R_as) ?_
          refine WL_nil ?_
          exact ⟨i + 1, by omega, vN, MN, by omega, rfl, rfl, rfl, rfl, rfl, rfl, (by rw [List.take_succ_eq_append_getElem (i := i) (by simp; omega), List.map_append, (List.getElem?_eq_some_iff.1 htg).2]; exact hO), H⟩
        · refine W_seq ?_
          refine W_seq ?_
          refine W_region_l ?_
          refine WL_stepM rfl (R_mv) ?_
          refine WL_stepM rfl (R_mv) ?_
          refine WL_step rfl (R_lt_f rfl rfl (by omega)) ?_
          refine WL_nil ?_
          refine W_cond_f rfl ?_
          refine W_exit ?_
          refine (if_pos rfl).mpr ?_
          refine W_seq ?_
          (obtain rfl : i = xs.length := (by omega); rw [List.take_of_length_le (by simp; omega)] at hO; refine W_region_l ?_)
          refine WL_stepM rfl (R_mv) ?_
          (refine WL_call rfl (R_call rfl Try.call23 rfl) (sum_ret (hl.monoN H hO.keys) hb) ?_; rintro _ w83 ⟨rfl, H1⟩; replace H := H.seq0 H1; clear H1)
          refine WL_stepM rfl (R_as) ?_
          refine WL_nil ?_
          refine W_seq ?_
          refine W_region_l ?_
          (refine WL_effn rfl (E_buildSlice (vs := []) H Try.underlying43 Try.sizeOf5 Try.zeroValue5 rfl rfl (by decide) rfl rfl) ?_; clear H; intro b88 w88 hb88 H)
          refine WL_stepM rfl (R_mv) ?_
          (refine WL_effm rfl (E_append H .one (OwnS.new (xs := []) (sp := []) (by assumption) rfl rfl (by omega)) Try.underlying43 Try.typeInfo5 rfl rfl rfl rfl rfl rfl ((hl.monoN H (kCons (by assumption) hO.keys)).src Try.underlying43 (by simp [Value.oneCell'])) (by simp; omega) (by simp [Try.t5]; omega)) ?_; clear H; intro v2 M2 w90 hO2 H)
          (refine WL_effn rfl (E_buildSlice (vs := [(.int _ _)]) H Try.underlying43 Try.sizeOf5 Try.zeroValue5 rfl rfl (by decide) rfl rfl) ?_; clear H; intro b91 w91 hb91 H)
          (refine WL_effm rfl (E_append H (.there .here) hO2 Try.underlying43 Try.typeInfo5 rfl rfl rfl rfl rfl rfl (src_one Try.underlying43 (H.get .here) rfl) (by simp; omega) (by simp [Try.t5]; omega)) ?_; clear H hO2; intro v2 M2 w92 hO2 H; replace H := H.pop (by assumption); replace hO2 : OwnS w.heap.size 5 1 v2 (xs.length + 1) ((xs ++ [0]).map U) M2 := (by rw [List.length_map, Nat.zero_add, List.nil_append] at hO2; rw [List.map_append]; exact hO2))
          refine WL_stepM rfl (R_as) ?_
          refine WL_nil ?_
          refine W_seq ?_
          refine W_region_l ?_
          (refine WL_effn rfl (E_buildSlice (vs := []) H Try.underlying43 Try.sizeOf5 Try.zeroValue5 rfl rfl (by decide) rfl rfl) ?_; clear H; intro b97 w97 hb97 H)
          refine WL_stepM rfl (R_mv) ?_
          (refine WL_effm rfl (E_append H .one (OwnS.new (xs := []) (sp := []) (by assumption) rfl rfl (by omega)) Try.underlying43 Try.typeInfo5 rfl rfl rfl rfl rfl rfl ((hl.monoN H (kCons (by assumption) (kApp hO2.keys hO.keys))).src Try.underlying43 (by simp [Value.oneCell'])) (by simp; omega) (by simp [Try.t5]; omega)) ?_; clear H; intro v3 M3 w99 hO3 H; rw [List.length_map, Nat.zero_add, List.nil_append] at hO3; obtain ⟨b3, cap3, sp3, rfl, hb3, rfl, hsp3, hcap3⟩ := OwnS.pos hO3 (by omega); obtain ⟨y, hy⟩ : ∃ y, y = xs[j] + 1 := ⟨_, rfl⟩; rw [← hy] at hup; rw [List.cons_append, List.nil_append] at H)
          refine WL_stepM rfl (R_as) ?_
          refine WL_nil ?_
          refine W_seq ?_
          refine W_region_l ?_
          refine WL_stepM rfl (R_mv) ?_
          refine WL_stepM rfl (R_mv) ?_
          refine WL_step rfl (R_bits rfl rfl (by simp) (and_mask_i64 16 65536 (by decide) rfl (by decide))) ?_
          refine WL_stepM rfl (R_mv) ?_
          refine WL_step rfl (R_rem rfl rfl (by omega) ((rem_pos (by omega)).trans hj.symm)) ?_
          refine WL_step rfl (R_indexAddr Try.underlying43 Try.sizeOf5 rfl rfl (by omega) (by omega) idx0_cast) ?_
          refine WL_step rfl (R_load Try.isAgg5 rfl (H.get .here) (get_map hjl)) ?_
          (refine WL_step rfl (R_add rfl rfl (u8_add (y := 1))) ?_; rw [← hy])
          refine WL_step rfl (R_indexAddr Try.underlying43 Try.sizeOf5 rfl rfl (by omega) (by omega) idx0_cast) ?_
          (refine WL_effu rfl (E_store (v := (.int _ _)) H Try.sizeOf5 rfl rfl rfl .here (by simp; omega)) ?_; clear H; intro w113 H)
          refine WL_nil ?_
          refine W_seq ?_
          (rw [set_map hjl] at H; refine W_region_l ?_)
          refine WL_stepM rfl (R_mv) ?_
          refine WL_step rfl (R_add rfl rfl (u8_add (y := 1))) ?_
          refine WL_stepM rfl (R_as) ?_
          refine WL_nil ?_
          refine W_seq ?_
          refine W_seq ?_
          refine W_region_l ?_
          refine WL_stepM rfl (R_mv) ?_
          refine WL_stepM rfl (R_mv) ?_
          refine WL_step rfl (R_bits rfl rfl (by simp) (and_mask_i64 16 65536 (by decide) rfl (by decide))) ?_
          refine WL_stepM rfl (R_mv) ?_
          refine WL_step rfl (R_rem rfl rfl (by omega) ((rem_pos (by omega)).trans hj.symm)) ?_
          refine WL_step rfl (R_indexAddr Try.underlying43 Try.sizeOf5 rfl rfl (by omega) (by omega) idx0_cast) ?_
          (refine WL_step rfl (R_load (v := U y) Try.isAgg5 rfl (H.get .here) ((get_map (by simpa using hjl)).trans (by simp))) ?_; by_cases hw : y.toNat = 0)
          · refine WL_step rfl (R_eq_t rfl rfl (by omega)) ?_
            refine WL_nil ?_
            refine W_cond_t rfl ?_
            refine W_region_l ?_
            refine WL_stepM rfl (R_mv) ?_
            refine WL_step rfl (R_sub rfl rfl u8_sub255) ?_
            refine WL_stepM rfl (R_as) ?_
            refine WL_nil ?_
            refine W_seq ?_
            refine W_region_l ?_
            refine WL_stepM rfl (R_mv) ?_
            (refine WL_call rfl (R_call rfl Try.call23 rfl) (sum_ret (RdS.own hO (fun p hp => H.held p (by simp [hp]))) (by simp; omega)) ?_; rintro _ w142 ⟨rfl, H1⟩; rw [sumB_turn]; replace H := H.seq0 H1; clear H1)
            refine WL_stepM rfl (R_mv) ?_
            refine WL_step rfl (R_eq_t rfl rfl (by omega)) ?_
            refine WL_stepM rfl (R_mv) ?_
            refine WL_guard_t rfl rfl ?_
            refine WL_stepM rfl (R_mv) ?_
            refine WL_guard_t rfl rfl ?_
            (refine WL_call rfl (R_call rfl Try.call23 rfl) (sum_ret (RdS.own hO2 (fun p hp => H.held p (by simp [hp]))) (by simp; omega)) ?_; rintro _ w149 ⟨rfl, H1⟩; rw [sumB_more]; replace H := H.seq0 H1; clear H1)
            refine WL_guard_t rfl rfl ?_
            refine WL_stepM rfl (R_mv) ?_
            refine WL_guard_t rfl rfl ?_
            refine WL_step rfl (R_add rfl rfl (u8_add (y := 1))) ?_
            refine WL_guard_t rfl rfl ?_
            refine WL_step rfl (R_eq_t rfl rfl (by omega)) ?_
            refine WL_stepM rfl (R_pk_t rfl) ?_
            refine WL_stepM rfl (R_mv) ?_
            refine WL_guard_t rfl rfl ?_
            refine WL_stepM rfl (R_mv) ?_
            refine WL_guard_t rfl rfl ?_
            (refine WL_call rfl (R_call rfl Try.call23 rfl) (sum_ret (RdS.blk (H.get .here) (by rw [List.drop_zero, List.take_left' (by simp)]) (by simp) hcap3) (by simp; omega)) ?_; rintro _ w161 ⟨rfl, H1⟩; rw [hup]; replace H := H.seq0 H1; clear H1)
            refine WL_guard_t rfl rfl ?_
            refine WL_stepM rfl (R_mv) ?_
            refine WL_guard_t rfl rfl ?_
            refine WL_step rfl (R_eq_t rfl rfl (by omega)) ?_
            refine WL_stepM rfl (R_pk_t rfl) ?_
            refine WL_stepM rfl (R_mv) ?_
            refine WL_guard_t rfl rfl ?_
            (refine WL_call rfl (R_call rfl Try.call23 rfl) (sum_ret (xs := []) RdS.nil (by simp)) ?_; rintro _ w169 ⟨rfl, H1⟩; replace H := H.seq0 H1; clear H1)
            refine WL_guard_t rfl rfl ?_
            refine WL_step rfl (R_eq_t rfl rfl (by decide)) ?_
            refine WL_stepM rfl (R_pk_t rfl) ?_
            refine WL_stepM rfl (R_mv) ?_
            refine WL_guard_t rfl rfl ?_
            (refine WL_call rfl (R_call rfl Try.call22 rfl) (awake_ret _) ?_; rintro _ w175 ⟨rfl, H1⟩; replace H := H.seq0 H1; clear H1)
            refine WL_stepM rfl (R_pk_t rfl) ?_
            refine WL_stepM rfl (R_as) ?_
            refine WL_nil ?_
            refine W_ret ?_
            exact ⟨_, rfl, rfl, H.drop (List.nil_sublist _) (fun p hp _ => kCons hb3 (kApp hO2.keys hO.keys) p hp)⟩
          · refine WL_step rfl (R_eq_f rfl rfl (by omega)) ?_
            refine WL_nil ?_
            refine W_cond_f rfl ?_
            refine W_skip ?_
            refine W_seq ?_
            refine W_region_l ?_
            refine WL_stepM rfl (R_mv) ?_
            (refine WL_call rfl (R_call rfl Try.call23 rfl) (sum_ret (RdS.own hO (fun p hp => H.held p (by simp [hp]))) (by simp; omega)) ?_; rintro _ w188 ⟨rfl, H1⟩; rw [sumB_turn]; replace H := H.seq0 H1; clear H1)
            refine WL_stepM rfl (R_mv) ?_
            refine WL_step rfl (R_eq_t rfl rfl (by omega)) ?_
            refine WL_stepM rfl (R_mv) ?_
            refine WL_guard_t rfl rfl ?_
            refine WL_stepM rfl (R_mv) ?_
            refine WL_guard_t rfl rfl ?_
            (refine WL_call rfl (R_call rfl Try.call23 rfl) (sum_ret (RdS.own hO2 (fun p hp => H.held p (by simp [hp]))) (by simp; omega)) ?_; rintro _ w195 ⟨rfl, H1⟩; rw [sumB_more]; replace H := H.seq0 H1; clear H1)
            refine WL_guard_t rfl rfl ?_
            refine WL_stepM rfl (R_mv) ?_
            refine WL_guard_t rfl rfl ?_
            refine WL_step rfl (R_add rfl rfl (u8_add (y := 1))) ?_
            refine WL_guard_t rfl rfl ?_
            refine WL_step rfl (R_eq_t rfl rfl (by omega)) ?_
            refine WL_stepM rfl (R_pk_t rfl) ?_
            refine WL_stepM rfl (R_mv) ?_
            refine WL_guard_t rfl rfl ?_
            refine WL_stepM rfl (R_mv) ?_
            refine WL_guard_t rfl rfl ?_
            (refine WL_call rfl (R_call rfl Try.call23 rfl) (sum_ret (RdS.blk (H.get .here) (by rw [List.drop_zero, List.take_left' (by simp)]) (by simp) hcap3) (by simp; omega)) ?_; rintro _ w207 ⟨rfl, H1⟩; rw [hup]; replace H := H.seq0 H1; clear H1)
            refine WL_guard_t rfl rfl ?_
            refine WL_stepM rfl (R_mv) ?_
            refine WL_guard_t rfl rfl ?_
            refine WL_step rfl (R_eq_t rfl rfl (by omega)) ?_
            refine WL_stepM rfl (R_pk_t rfl) ?_
            refine WL_stepM rfl (R_mv) ?_
            refine WL_guard_t rfl rfl ?_
            (refine WL_call rfl (R_call rfl Try.call23 rfl) (sum_ret (xs := []) RdS.nil (by simp)) ?_; rintro _ w215 ⟨rfl, H1⟩; replace H := H.seq0 H1; clear H1)
            refine WL_guard_t rfl rfl ?_
            refine WL_step rfl (R_eq_t rfl rfl (by decide)) ?_
            refine WL_stepM rfl (R_pk_t rfl) ?_
            refine WL_stepM rfl (R_mv) ?_
            refine WL_guard_t rfl rfl ?_
            (refine WL_call rfl (R_call rfl Try.call22 rfl) (awake_ret _) ?_; rintro _ w221 ⟨rfl, H1⟩; replace H := H.seq0 H1; clear H1)
            refine WL_stepM rfl (R_pk_t rfl) ?_
            refine WL_stepM rfl (R_as) ?_
            refine WL_nil ?_
            refine W_ret ?_
            exact ⟨_, rfl, rfl, H.drop (List.nil_sublist _) (fun p hp _ => kCons hb3 (kApp hO2.keys hO.keys) p hp)⟩
end Go.Proofs.Ytjfcnmbalojehaa.Codec

/-
  The law CodecLent: what it comes to.
-/
import Derived.Test.YtjfcnmbalojehaaCodecG
namespace Go.Proofs.Ytjfcnmbalojehaa.Codec
open Go Go.Proofs Go.Proofs.Ytjfcnmbalojehaa.Fx
set_option maxRecDepth 100000
set_option linter.unusedVariables false
set_option maxHeartbeats 1000000

theorem lent_ret {xs : List UInt8} {w : World} {l : Value} (hl : RdS w l (xs.map U)) (hb : xs.length ≤ 9223372036854775807) :
    Ret Try.prog 8 #[l] w fun v w' => v = .bool true ∧ Hp w [] w' := by
  refine Ret_of_W (args := [_]) Try.func8 rfl Try.ntmps8 Try.results8 (by simp) ?_
  have H := Hp.refl w
  obtain ⟨ao, ca, rfl, hca, hra⟩ := id hl
  simp only [List.length_map] at hl ⊢
  by_cases hz : xs.length = 0
  · refine W_seq ?_
    refine W_region_l ?_
    refine WL_stepM rfl (R_as) ?_
    refine WL_nil ?_
    refine W_seq ?_
    refine W_seq ?_
    refine W_region_l ?_
    refine WL_stepM rfl (R_mv) ?_
    refine WL_step rfl (R_len_slice Try.underlying43 rfl) ?_
    refine WL_step rfl (R_eq_t rfl rfl (by omega)) ?_
    refine WL_stepM rfl (R_mv) ?_
    refine WL_guard_f rfl rfl (by decide) ?_
    refine WL_guard_f rfl rfl (by decide) ?_
    refine WL_guard_f rfl rfl (by decide) ?_
    refine WL_stepM rfl (R_pk_t rfl) ?_
    refine WL_nil ?_
    refine W_cond_t rfl ?_
    refine W_seq ?_
    refine W_region_l ?_
    (refine WL_call rfl (R_call rfl Try.call22 rfl) (awake_ret _) ?_; rintro _ w20 ⟨rfl, H1⟩; replace H := H.seq0 H1; clear H1)
    refine WL_stepM rfl (R_as) ?_
    refine WL_nil ?_
    refine W_ret ?_
    exact ⟨_, rfl, rfl, H⟩
  · by_cases hz2 : 64 < xs.length
    · refine W_seq ?_
      refine W_region_l ?_
      refine WL_stepM rfl (R_as) ?_
      refine WL_nil ?_
      refine W_seq ?_
      refine W_seq ?_
      refine W_region_l ?_
      refine WL_stepM rfl (R_mv) ?_
      refine WL_step rfl (R_len_slice Try.underlying43 rfl) ?_
      refine WL_step rfl (R_eq_f rfl rfl (by omega)) ?_
      refine WL_stepM rfl (R_mv) ?_
      refine WL_guard_t rfl rfl ?_
      refine WL_stepM rfl (R_mv) ?_
      refine WL_guard_t rfl rfl ?_
      refine WL_step rfl (R_len_slice Try.underlying43 rfl) ?_
      refine WL_guard_t rfl rfl ?_
      refine WL_step rfl (R_gt_t rfl rfl (by omega)) ?_
      refine WL_stepM rfl (R_pk_f rfl) ?_
      refine WL_nil ?_
      refine W_cond_t rfl ?_
      refine W_seq ?_
      refine W_region_l ?_
      (refine WL_call rfl (R_call rfl Try.call22 rfl) (awake_ret _) ?_; rintro _ w23 ⟨rfl, H1⟩; replace H := H.seq0 H1; clear H1)
      refine WL_stepM rfl (R_as) ?_
      refine WL_nil ?_
      refine W_ret ?_
      exact ⟨_, rfl, rfl, H⟩
    · have hsz : szOf xs.length = xs.length := by unfold szOf; omega
      have h0 : 0 < xs.length := by omega
      obtain ⟨bx, ox, rfl, hc1⟩ := hl.cell (i := 0) (u := U xs[0]) (by rw [List.getElem?_map, List.getElem?_eq_getElem h0]; rfl)
      have hi0 : (xs.set 0 (xs[0] + 1))[Int.toNat 0]? = some (xs[0] + 1) := List.getElem?_set_self h0
      refine W_seq ?_
      refine W_region_l ?_
      refine WL_stepM rfl (R_as) ?_
      refine WL_nil ?_
      refine W_seq ?_
      refine W_seq ?_
      refine W_region_l ?_
      refine WL_stepM rfl (R_mv) ?_
      refine WL_step rfl (R_len_slice Try.underlying43 rfl) ?_
      refine WL_step rfl (R_eq_f rfl rfl (by omega)) ?_
      refine WL_stepM rfl (R_mv) ?_
      refine WL_guard_t rfl rfl ?_
      refine WL_stepM rfl (R_mv) ?_
      refine WL_guard_t rfl rfl ?_
      refine WL_step rfl (R_len_slice Try.underlying43 rfl) ?_
      refine WL_guard_t rfl rfl ?_
      refine WL_step rfl (R_gt_f rfl rfl (by omega)) ?_
      refine WL_stepM rfl (R_pk_f rfl) ?_
      refine WL_nil ?_
      refine W_cond_f rfl ?_
      refine W_skip ?_
      refine W_seq ?_
      refine W_region_l ?_
      (refine WL_effn rfl (E_alloc H Try.zeroValue43 rfl) ?_; clear H; intro b24 w24 hb24 H)
      refine WL_nil ?_
      refine W_seq ?_
      refine W_region_l ?_
      refine WL_stepM rfl (R_mv) ?_
      refine WL_step rfl (R_len_slice Try.underlying43 rfl) ?_
      refine WL_step rfl (R_fn1 rfl) ?_
      (refine WL_call rfl (R_call rfl Try.call31 rfl) (newS_ret (.inr ⟨_, _, _, rfl⟩) (.inr ⟨_, _, _, rfl⟩) _) ?_; rintro _ w31 ⟨p, rfl, hp, H1⟩; rw [hsz] at H1; have h31 := H.seq1 hp H1; clear H H1 hp; obtain ⟨hp, H⟩ := h31)
      refine WL_stepM rfl (R_as) ?_
      refine WL_nil ?_
      refine W_seq ?_
      refine W_seq ?_
      refine W_region_l ?_
      refine WL_stepM rfl (R_mv) ?_
      refine WL_step rfl (R_eq_ptr_nil Try.underlying53 rfl rfl) ?_
      refine WL_nil ?_
      refine W_cond_f rfl ?_
      refine W_skip ?_
      refine W_seq ?_
      refine W_region_l ?_
      (refine WL_effn rfl (E_buildSlice (vs := []) H Try.underlying43 Try.sizeOf5 Try.zeroValue5 rfl rfl (by decide) rfl rfl) ?_; clear H; intro b44 w44 hb44 H)
      refine WL_stepM rfl (R_mv) ?_
      (refine WL_effm rfl (E_append H .one (OwnS.new (xs := []) (sp := []) (by assumption) rfl rfl (by omega)) Try.underlying43 Try.typeInfo5 rfl rfl rfl rfl rfl rfl ((hl.monoN H (by repeat' first | exact kNil | apply kCons | apply kApp | assumption | exact OwnS.keys (by assumption))).src Try.underlying43 (by simp [Value.oneCell'])) (by simp; omega) (by simp [Try.t5]; omega)) ?_; clear H; intro vN MN w46 hO H; rw [List.length_map, Nat.zero_add, List.nil_append] at hO; obtain ⟨b3, cap3, sp3, rfl, hb3, rfl, hsp3, hcap3⟩ := OwnS.pos hO (by omega); rw [List.cons_append, List.nil_append] at H)
      refine WL_stepM rfl (R_as) ?_
      refine WL_nil ?_
      refine W_seq ?_
      refine W_region_l ?_
      refine WL_stepM rfl (R_mv) ?_
      refine WL_stepM rfl (R_mv) ?_
      (refine WL_call rfl (R_call rfl Try.call34 rfl) (decL_ret (RdS.own hO (fun q hq => H.held q (by simp [List.mem_singleton.1 hq]))) h0 (by omega) (H.get (.there .here))) ?_; rintro _ w53 ⟨rfl, H1⟩; replace H := H.seq0 H1; clear H1)
      refine WL_stepM rfl (R_mv) ?_
      refine WL_step rfl (R_extract rfl rfl) ?_
      refine WL_step rfl (R_extract rfl rfl) ?_
      refine WL_stepM rfl (R_as) ?_
      refine WL_stepM rfl (R_as) ?_
      refine WL_nil ?_
      refine W_seq ?_
      refine W_region_l ?_
      refine WL_stepM rfl (R_mv) ?_
      refine WL_stepM rfl (R_mv) ?_
      refine WL_step rfl (R_conv_bs Try.underlying43 Try.underlying5 Try.underlying9 rfl (hl.monoN H (by repeat' first | exact kNil | apply kCons | apply kApp | assumption | exact OwnS.keys (by assumption)))) ?_
      (refine WL_call rfl (R_call rfl Try.call35 rfl) (encL_ret (by omega) (H.get (.there .here)) (H.get (.there (.there .here)))) ?_; rintro _ w65 ⟨b4, hb4, rfl, H1⟩; have h65 := Nat.le_trans H.size hb4; replace H := H.seq H1 (okSeq_set (.there (.there .here)) (okSeq_new hb4 okSeq_nil)); clear H1)
      refine WL_stepM rfl (R_mv) ?_
      refine WL_step rfl (R_extract rfl rfl) ?_
      refine WL_step rfl (R_extract rfl rfl) ?_
      refine WL_stepM rfl (R_as) ?_
      refine WL_stepM rfl (R_as) ?_
      refine WL_nil ?_
      refine W_seq ?_
      (refine W_drawH (fun _ => false) (by kernel_rfl) H ?_; clear H; intro w73 H)
      refine WA_takeM 0 rfl rfl rfl (by kernel_rfl) (by kernel_rfl) H (fun _ hC => R_mv) ?_
      refine WA_takeM 1 rfl rfl rfl (by kernel_rfl) (by kernel_rfl) H (fun _ hC => R_mv) ?_
      refine WA_takeGM 2 rfl rfl rfl rfl (by kernel_rfl) (by kernel_rfl) H (fun _ hC => R_mv) ?_
      refine WA_takeM 3 rfl rfl rfl (by kernel_rfl) (by kernel_rfl) H (fun _ hC => R_pk_t rfl) ?_
      refine WA_takeM 4 rfl rfl rfl (by kernel_rfl) (by kernel_rfl) H (fun _ hC => R_mv) ?_
      refine WA_takeGM 5 rfl rfl rfl rfl (by kernel_rfl) (by kernel_rfl) H (fun _ hC => R_mv) ?_
      refine WA_takeG 6 rfl rfl rfl rfl (by kernel_rfl) (by kernel_rfl) H (fun _ hC => R_len_S Try.underlying9 rfl) ?_
      refine WA_takeGM 7 rfl rfl rfl rfl (by kernel_rfl) (by kernel_rfl) H (fun _ hC => R_mv) ?_
      refine WA_takeG 8 rfl rfl rfl rfl (by kernel_rfl) (by kernel_rfl) H (fun _ hC => R_len_slice Try.underlying43 rfl) ?_
      refine WA_takeG 9 rfl rfl rfl rfl (by kernel_rfl) (by kernel_rfl) H (fun _ hC => R_eq_t rfl rfl (by simp)) ?_
      refine WA_takeM 10 rfl rfl rfl (by kernel_rfl) (by kernel_rfl) H (fun _ hC => R_pk_t rfl) ?_
      refine WA_takeM 11 rfl rfl rfl (by kernel_rfl) (by kernel_rfl) H (fun _ hC => R_mv) ?_
      refine WA_takeGM 12 rfl rfl rfl rfl (by kernel_rfl) (by kernel_rfl) H (fun _ hC => R_mv) ?_
      refine WA_takeG 13 rfl rfl rfl rfl (by kernel_rfl) (by kernel_rfl) H (fun _ hC => R_index_S (i := 0) (u := xs[0] + 1) Try.underlying9 rfl rfl (by omega) hi0) ?_
      refine WA_takeGM 14 rfl rfl rfl rfl (by kernel_rfl) (by kernel_rfl) H (fun _ hC => R_mv) ?_
      refine WA_takeG 15 rfl rfl rfl rfl (by kernel_rfl) (by kernel_rfl) H (fun _ hC => R_indexAddr Try.underlying43 Try.sizeOf5 rfl rfl (by omega) (by omega) idx_cast1) ?_
      refine WA_takeG 16 rfl rfl rfl rfl (by kernel_rfl) (by kernel_rfl) H (fun _ hC => R_load_cell Try.isAgg5 rfl (hC.cellN hc1 (by repeat' first | exact kNil | apply kCons | apply kApp | assumption | exact OwnS.keys (by assumption)))) ?_
      refine WA_takeG 17 rfl rfl rfl rfl (by kernel_rfl) (by kernel_rfl) H (fun _ hC => R_add rfl rfl (u8_add (y := 1))) ?_
      refine WA_takeG 18 rfl rfl rfl rfl (by kernel_rfl) (by kernel_rfl) H (fun _ hC => R_eq_t rfl rfl (by omega)) ?_
      refine WA_takeM 19 rfl rfl rfl (by kernel_rfl) (by kernel_rfl) H (fun _ hC => R_pk_t rfl) ?_
      refine WA_takeM 20 rfl rfl rfl (by kernel_rfl) (by kernel_rfl) H (fun _ hC => R_mv) ?_
      refine WA_takeGM 21 rfl rfl rfl rfl (by kernel_rfl) (by kernel_rfl) H (fun _ hC => R_mv) ?_
      refine WA_takeG 22 rfl rfl rfl rfl (by kernel_rfl) (by kernel_rfl) H (fun _ hC => R_conv_bs (xs := xs) Try.underlying43 Try.underlying5 Try.underlying9 rfl (RdS.own hO (fun q hq => hC.held q (by simp [List.mem_singleton.1 hq])))) ?_
      refine WA_takeGM 23 rfl rfl rfl rfl (by kernel_rfl) (by kernel_rfl) H (fun _ hC => R_mv) ?_
      refine WA_takeG 24 rfl rfl rfl rfl (by kernel_rfl) (by kernel_rfl) H (fun _ hC => R_conv_bs (xs := xs) Try.underlying43 Try.underlying5 Try.underlying9 rfl (hl.monoN hC (by repeat' first | exact kNil | apply kCons | apply kApp | assumption | exact OwnS.keys (by assumption)))) ?_
      refine WA_takeG 25 rfl rfl rfl rfl (by kernel_rfl) (by kernel_rfl) H (fun _ hC => R_eq_S_t rfl rfl rfl) ?_
      refine WA_takeM 26 rfl rfl rfl (by kernel_rfl) (by kernel_rfl) H (fun _ hC => R_pk_t rfl) ?_
      refine WA_takeM 27 rfl rfl rfl (by kernel_rfl) (by kernel_rfl) H (fun _ hC => R_mv) ?_
      refine WA_takeGM 28 rfl rfl rfl rfl (by kernel_rfl) (by kernel_rfl) H (fun _ hC => R_mv) ?_
      refine WA_takeG 29 rfl rfl rfl rfl (by kernel_rfl) (by kernel_rfl) H (fun _ hC => R_conv_bs (xs := xs) Try.underlying43 Try.underlying5 Try.underlying9 rfl (RdS.blk (hC.get .here) (by rw [List.drop_zero, List.take_of_length_le (by simp)]) (by simp) (by simp))) ?_
      refine WA_takeGM 30 rfl rfl rfl rfl (by kernel_rfl) (by kernel_rfl) H (fun _ hC => R_mv) ?_
      refine WA_takeG 31 rfl rfl rfl rfl (by kernel_rfl) (by kernel_rfl) H (fun _ hC => R_conv_bs (xs := xs) Try.underlying43 Try.underlying5 Try.underlying9 rfl (hl.monoN hC (by repeat' first | exact kNil | apply kCons | apply kApp | assumption | exact OwnS.keys (by assumption)))) ?_
      refine WA_takeG 32 rfl rfl rfl rfl (by kernel_rfl) (by kernel_rfl) H (fun _ hC => R_eq_S_t rfl rfl rfl) ?_
      refine WA_takeM 33 rfl rfl rfl (by kernel_rfl) (by kernel_rfl) H (fun _ hC => R_pk_t rfl) ?_
      refine WA_takeM 34 rfl rfl rfl (by kernel_rfl) (by kernel_rfl) H (fun _ hC => R_mv) ?_
      refine WA_takeG 35 rfl rfl rfl rfl (by kernel_rfl) (by kernel_rfl) H (fun _ hC => R_load Try.isAgg43 rfl (hC.get (.there (.there (.there .here)))) rfl) ?_
      refine WA_takeG 36 rfl rfl rfl rfl (by kernel_rfl) (by kernel_rfl) H (fun _ hC => R_len_slice Try.underlying43 rfl) ?_
      refine WA_takeGM 37 rfl rfl rfl rfl (by kernel_rfl) (by kernel_rfl) H (fun _ hC => R_mv) ?_
      refine WA_takeG 38 rfl rfl rfl rfl (by kernel_rfl) (by kernel_rfl) H (fun _ hC => R_len_slice Try.underlying43 rfl) ?_
      refine WA_takeG 39 rfl rfl rfl rfl (by kernel_rfl) (by kernel_rfl) H (fun _ hC => R_eq_t rfl rfl (by omega)) ?_
      refine WA_takeM 40 rfl rfl rfl (by kernel_rfl) (by kernel_rfl) H (fun _ hC => R_pk_t rfl) ?_
      refine WA_takeM 41 rfl rfl rfl (by kernel_rfl) (by kernel_rfl) H (fun _ hC => R_mv) ?_
      refine WA_one (i := 42) (by kernel_rfl) ?_
      (refine WI_call rfl (.inr ⟨_, _, rfl, rfl⟩) (R_call rfl Try.call22 rfl) (by exact awake_ret _) (by first | exact fun _ _ hR _ => H.seq0 hR.2 | exact fun _ _ hR h => Bool.noConfusion h | exact fun _ _ hR _ => (H.seq0 hR.2).none (by repeat' first | exact kNil | apply kCons | apply kApp | assumption | exact OwnS.keys (by assumption)) | exact fun _ _ hR _ => (H.seq0 hR.2).dropN (by repeat' first | exact kNil | apply kCons | apply kApp | assumption | exact OwnS.keys (by assumption))) ?_; rintro _ w117 ⟨rfl, H1⟩; replace H := H.seq0 H1; clear H1)
      refine WA_takeM 43 rfl rfl rfl (by kernel_rfl) (by kernel_rfl) H (fun _ hC => R_pk_t rfl) ?_
      refine WA_takeM 44 rfl rfl rfl (by kernel_rfl) (by kernel_rfl) H (fun _ hC => R_as) ?_
      refine WA_done (by kernel_rfl) ?_
      refine W_ret ?_
      exact ⟨_, rfl, rfl, H.none (by repeat' first | exact kNil | apply kCons | apply kApp | assumption | exact OwnS.keys (by assumption))⟩
end Go.Proofs.Ytjfcnmbalojehaa.Codec

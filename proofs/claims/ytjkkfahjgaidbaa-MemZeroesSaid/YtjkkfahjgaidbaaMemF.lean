/-
  The law MemZeroes: what its calls come to.
-/
import Derived.Test.YtjkkfahjgaidbaaMemE
namespace Go.Proofs.Ytjkkfahjgaidbaa.Mem
open Go Go.Proofs Go.Proofs.Ytjkkfahjgaidbaa.Fx
set_option maxRecDepth 100000
set_option linter.unusedVariables false
set_option linter.unusedSimpArgs false
set_option maxHeartbeats 2000000

theorem zero_get {xs : List UInt8} {k i : Nat} (h : k * 64 + 64 ≤ xs.length) (hi : i < xs.length) :
    (put xs (List.replicate 64 0) (k * 64))[i]? = some (if i / 64 = k then 0 else xs[i]) := by
  unfold put
  rw [List.append_assoc, List.getElem?_append, List.getElem?_append, List.length_take, List.length_replicate]
  by_cases h1 : i < k * 64
  · rw [if_pos (by omega), if_neg (by omega), List.getElem?_take, if_pos h1, List.getElem?_eq_getElem hi]
  · rw [if_neg (by omega)]
    by_cases h2 : i < k * 64 + 64
    · rw [if_pos (by omega), if_pos (by omega), List.getElem?_replicate, if_pos (by omega)]
    · rw [if_neg (by omega), if_neg (by omega), List.getElem?_drop, ← List.getElem?_eq_getElem hi]
      congr 1; omega

theorem zeroes_ret {xs : List UInt8} {w : World} {l : Value} (a : Int) (hl : RdS w l (xs.map U)) (hb : xs.length ≤ 9223372036854775807) :
    Ret Try.prog 6 #[l, I a] w fun v w' => v = .bool true ∧ Hp w [] w' := by
  refine Ret_of_W (args := [_, _]) Try.func6 rfl Try.ntmps6 Try.results6 (by simp) ?_
  have H := Hp.refl w
  obtain ⟨ao, ca, rfl, hca, hra⟩ := id hl
  simp only [List.length_map] at hl ⊢
  by_cases hz2 : 192 < xs.length
  · refine W_seq ?_
    refine W_region_l ?_
    refine WL_stepM rfl (R_as) ?_
    refine WL_nil ?_
    refine W_seq ?_
    refine W_region_l ?_
    (refine WL_call rfl (R_call rfl Try.call13 rfl) (new_ret 3 _) ?_; rintro _ w7 ⟨p, b, rfl, H1, hp, hb⟩; replace H := H.seq H1 (okSeq_new hp (okSeq_new hb okSeq_nil)); clear H1)
    refine WL_stepM rfl (R_as) ?_
    refine WL_nil ?_
    refine W_seq ?_
    refine W_seq ?_
    refine W_region_l ?_
    refine WL_stepM rfl (R_mv) ?_
    refine WL_step rfl (R_eq_ptr_nil Try.underlying22 rfl rfl) ?_
    refine WL_stepM rfl (R_mv) ?_
    refine WL_guard_t rfl rfl ?_
    refine WL_stepM rfl (R_mv) ?_
    refine WL_guard_t rfl rfl ?_
    refine WL_step rfl (R_len_slice Try.underlying26 rfl) ?_
    refine WL_guard_t rfl rfl ?_
    refine WL_step rfl (R_gt_t rfl rfl (by omega)) ?_
    refine WL_stepM rfl (R_pk_f rfl) ?_
    refine WL_nil ?_
    refine W_cond_t rfl ?_
    refine W_seq ?_
    refine W_region_l ?_
    refine WL_stepM rfl (R_mv) ?_
    refine WL_step rfl (R_ne_ptr_nil Try.underlying22 rfl rfl) ?_
    refine WL_stepM rfl (R_mv) ?_
    refine WL_guard_t rfl rfl ?_
    (refine WL_call rfl (R_call rfl Try.call18 rfl) (awake_ret _) ?_; rintro _ w31 ⟨rfl, H1⟩; replace H := H.seq0 H1; clear H1)
    refine WL_stepM rfl (R_pk_t rfl) ?_
    refine WL_stepM rfl (R_as) ?_
    refine WL_nil ?_
    refine W_ret ?_
    exact ⟨_, rfl, rfl, H.none (by repeat' first | exact kNil | apply kCons | apply kApp | assumption | exact OwnS.keys (by assumption))⟩
  · obtain ⟨k, hk, hkl⟩ : ∃ k : Nat, (a % 256) % 3 = (k : Int) ∧ k < 3 := ⟨((a % 256) % 3).toNat, by omega, by omega⟩
    obtain ⟨zs, hzs, hzl⟩ : ∃ zs : List UInt8, zs = List.replicate 192 0 ∧ zs.length = 192 := ⟨_, rfl, by simp⟩
    have hN : zs.length ≤ 16384 := by omega
    obtain ⟨ys, hys, hyl⟩ : ∃ ys : List UInt8, ys = put zs xs 0 ∧ ys.length = 192 := ⟨_, rfl, by rw [put_length (by omega), hzl]⟩
    have hM : ys.length ≤ 16384 := by omega
    have hyg : (ys.drop 0).take 192 = ys := by rw [List.drop_zero, List.take_of_length_le (by omega)]
    obtain ⟨us, hus, hul⟩ : ∃ us : List UInt8, us = put ys (List.replicate 64 0) (k * 64) ∧ us.length = 192 := ⟨_, rfl, by rw [put_length (by simp; omega), hyl]⟩
    have hL : us.length ≤ 16384 := by omega
    have hug : (us.drop 0).take 192 = us := by rw [List.drop_zero, List.take_of_length_le (by omega)]
    have hat : ∀ i (h : i < 192), us[i]'(by omega) = if i / 64 = k then 0 else ys[i]'(by omega) := fun i h => by
      have := zero_get (xs := ys) (k := k) (i := i) (by omega) (by omega)
      rw [← hus] at this
      exact (List.getElem?_eq_some_iff.1 this).2
    refine W_seq ?_
    refine W_region_l ?_
    refine WL_stepM rfl (R_as) ?_
    refine WL_nil ?_
    refine W_seq ?_
    refine W_region_l ?_
    (refine WL_call rfl (R_call rfl Try.call13 rfl) (new_ret 3 _) ?_; rintro _ w7 ⟨p, b, rfl, H1, hp, hb⟩; rw [show szOf 3 = 192 from rfl, ← zmap, ← hzs] at H1; replace H := H.seq H1 (okSeq_new hp (okSeq_new hb okSeq_nil)); clear H1)
    refine WL_stepM rfl (R_as) ?_
    refine WL_nil ?_
    refine W_seq ?_
    refine W_seq ?_
    refine W_region_l ?_
    refine WL_stepM rfl (R_mv) ?_
    refine WL_step rfl (R_eq_ptr_nil Try.underlying22 rfl rfl) ?_
    refine WL_stepM rfl (R_mv) ?_
    refine WL_guard_t rfl rfl ?_
    refine WL_stepM rfl (R_mv) ?_
    refine WL_guard_t rfl rfl ?_
    refine WL_step rfl (R_len_slice Try.underlying26 rfl) ?_
    refine WL_guard_t rfl rfl ?_
    refine WL_step rfl (R_gt_f rfl rfl (by omega)) ?_
    refine WL_stepM rfl (R_pk_f rfl) ?_
    refine WL_nil ?_
    refine W_cond_f rfl ?_
    refine W_skip ?_
    refine W_seq ?_
    refine W_region_l ?_
    refine WL_stepM rfl (R_mv) ?_
    refine WL_step rfl (R_bits rfl rfl (by simp) (and_mask_i64 8 256 (by decide) rfl (by decide))) ?_
    refine WL_step rfl (R_rem rfl rfl (by omega) ((rem_pos (by omega)).trans hk)) ?_
    refine WL_stepM rfl (R_as) ?_
    refine WL_nil ?_
    refine W_seq ?_
    refine W_region_l ?_
    refine WL_stepM rfl (R_mv) ?_
    refine WL_stepM rfl (R_mv) ?_
    (refine WL_call rfl (R_call rfl Try.call14 rfl) (store_yes (xs := zs) (ys := xs) 0 (H.get (.there .here)) (H.get .here) hzl hN (hl.monoN H (by repeat' first | exact kNil | apply kCons | apply kApp | assumption | exact OwnS.keys (by assumption))) (by omega)) ?_; rintro _ w37 ⟨rfl, H1⟩; rw [← hys] at H1; replace H := H.seq H1 (okSeq_set .here okSeq_nil); clear H1)
    refine WL_stepM rfl (R_as) ?_
    refine WL_nil ?_
    refine W_seq ?_
    refine W_region_l ?_
    refine WL_stepM rfl (R_mv) ?_
    (refine WL_call rfl (R_call rfl Try.call15 rfl) (load_yes (xs := ys) 0 192 (H.get (.there .here)) (H.get .here) hyl hM (by omega)) ?_; rintro _ w43 ⟨u4, M4, rfl, hO4, H1⟩; rw [hyg] at hO4; have h43 := H.seqO hO4 H1; clear H H1 hO4; obtain ⟨hO4, H⟩ := h43; obtain ⟨b4, cap4, sp4, rfl, hb4, rfl, hsp4, hcap4⟩ := OwnS.pos hO4 (by omega); rw [List.cons_append, List.nil_append] at H)
    refine WL_stepM rfl (R_mv) ?_
    refine WL_step rfl (R_extract rfl rfl) ?_
    refine WL_step rfl (R_extract rfl rfl) ?_
    refine WL_stepM rfl (R_as) ?_
    refine WL_stepM rfl (R_as) ?_
    refine WL_nil ?_
    refine W_seq ?_
    refine W_region_l ?_
    refine WL_stepM rfl (R_mv) ?_
    refine WL_stepM rfl (R_mv) ?_
    (refine WL_call rfl (R_call rfl Try.call20 rfl) (zero_yes (xs := ys) k (H.get (.there (.there .here))) (H.get (.there .here)) hyl hM (by omega)) ?_; rintro _ w54 ⟨rfl, H1⟩; rw [← hus] at H1; replace H := H.seq H1 (okSeq_set (.there .here) okSeq_nil); clear H1)
    refine WL_stepM rfl (R_as) ?_
    refine WL_nil ?_
    refine W_seq ?_
    refine W_region_l ?_
    refine WL_stepM rfl (R_mv) ?_
    (refine WL_call rfl (R_call rfl Try.call15 rfl) (load_yes (xs := us) 0 192 (H.get (.there (.there .here))) (H.get (.there .here)) hul hL (by omega)) ?_; rintro _ w60 ⟨u5, M5, rfl, hO5, H1⟩; rw [hug] at hO5; have h60 := H.seqO hO5 H1; clear H H1 hO5; obtain ⟨hO5, H⟩ := h60; obtain ⟨b5, cap5, sp5, rfl, hb5, rfl, hsp5, hcap5⟩ := OwnS.pos hO5 (by omega); rw [List.cons_append, List.nil_append] at H)
    refine WL_stepM rfl (R_mv) ?_
    refine WL_step rfl (R_extract rfl rfl) ?_
    refine WL_step rfl (R_extract rfl rfl) ?_
    refine WL_stepM rfl (R_as) ?_
    refine WL_stepM rfl (R_as) ?_
    refine WL_nil ?_
    refine W_seq ?_
    refine W_seq ?_
    refine W_region_l ?_
    refine WL_stepM rfl (R_mv) ?_
    refine WL_step rfl (R_ne_f rfl rfl (by omega)) ?_
    refine WL_stepM rfl (R_mv) ?_
    refine WL_guard_t rfl rfl ?_
    refine WL_stepM rfl (R_mv) ?_
    refine WL_guard_t rfl rfl ?_
    refine WL_step rfl (R_ne_f rfl rfl (by omega)) ?_
    refine WL_stepM rfl (R_pk_f rfl) ?_
    refine WL_stepM rfl (R_mv) ?_
    refine WL_guard_t rfl rfl ?_
    refine WL_stepM rfl (R_mv) ?_
    refine WL_guard_t rfl rfl ?_
    refine WL_step rfl (R_ne_f rfl rfl (by omega)) ?_
    refine WL_stepM rfl (R_pk_f rfl) ?_
    refine WL_stepM rfl (R_mv) ?_
    refine WL_guard_t rfl rfl ?_
    refine WL_stepM rfl (R_mv) ?_
    refine WL_guard_t rfl rfl ?_
    refine WL_step rfl (R_ne_f rfl rfl (by omega)) ?_
    refine WL_stepM rfl (R_pk_f rfl) ?_
    refine WL_stepM rfl (R_mv) ?_
    refine WL_guard_t rfl rfl ?_
    refine WL_stepM rfl (R_mv) ?_
    refine WL_guard_t rfl rfl ?_
    refine WL_step rfl (R_len_slice Try.underlying26 rfl) ?_
    refine WL_guard_t rfl rfl ?_
    refine WL_step rfl (R_ne_f rfl rfl (by omega)) ?_
    refine WL_stepM rfl (R_pk_f rfl) ?_
    refine WL_stepM rfl (R_mv) ?_
    refine WL_guard_t rfl rfl ?_
    refine WL_stepM rfl (R_mv) ?_
    refine WL_guard_t rfl rfl ?_
    refine WL_step rfl (R_len_slice Try.underlying26 rfl) ?_
    refine WL_guard_t rfl rfl ?_
    refine WL_step rfl (R_ne_f rfl rfl (by omega)) ?_
    refine WL_stepM rfl (R_pk_f rfl) ?_
    refine WL_nil ?_
    refine W_cond_f rfl ?_
    refine W_skip ?_
    refine W_seq ?_
    refine W_seq ?_
    refine W_region_l ?_
    refine WL_stepM rfl (R_as) ?_
    refine WL_nil ?_
    refine W_block ?_
    refine W_loop (fun (i : Nat) E w' => i ≤ 192 ∧ E 1 = I k ∧ E 5 = ptr p 0 ∧ E 7 = sl b4 0 192 cap4 ∧ E 10 = sl b5 0 192 cap5 ∧ E 12 = I i ∧ Hp w [(b5, blk (us.map U ++ sp5) 5), (b4, blk (ys.map U ++ sp4) 5), (b, blk (us.map U) 5), (p, blk [sl b 0 192 192] 88)] w') (fun i => 192 - i) 0 ?_ ?_
    · exact ⟨by omega, rfl, rfl, rfl, rfl, rfl, H⟩
    · (clear H; rintro i E w1 ⟨hi, h0, h1, h2, h3, h4, H⟩; refine W_know5 h0 h1 h2 h3 h4 ?_; by_cases hlt : i < 192)
      · refine W_seq ?_
        refine W_seq ?_
        refine W_region_l ?_
        refine WL_stepM rfl (R_mv) ?_
        refine WL_step rfl (R_lt_t rfl rfl (by omega)) ?_
        refine WL_nil ?_
        refine W_cond_t rfl ?_
        refine W_skip ?_
        refine W_seq ?_
        refine W_block ?_
        refine W_seq ?_
        (have hiy : i < ys.length := (by omega); have hiu : i < us.length := (by omega); have hai := hat i hlt; by_cases hik : i / 64 = k <;> refine W_region_l ?_)
        · refine WL_stepM rfl (R_mv) ?_
          refine WL_stepM rfl (R_mv) ?_
          refine WL_step rfl (R_indexAddr Try.underlying26 Try.sizeOf5 rfl rfl (by omega) (by omega) idx0_cast) ?_
          refine WL_step rfl (R_load Try.isAgg5 rfl (H.get (.there .here)) (get_map hiy)) ?_
          refine WL_stepM rfl (R_as) ?_
          refine WL_nil ?_
          refine W_seq ?_
          refine W_seq ?_
          refine W_region_l ?_
          refine WL_stepM rfl (R_mv) ?_
          refine WL_step rfl (R_quo rfl rfl (by omega) (quo_pos (by omega) (by omega) (by omega))) ?_
          refine WL_stepM rfl (R_mv) ?_
          refine WL_step rfl (R_eq_t rfl rfl (by omega)) ?_
          refine WL_nil ?_
          refine W_cond_t rfl ?_
          refine W_region_l ?_
          refine WL_stepM rfl (R_as) ?_
          refine WL_nil ?_
          refine W_seq ?_
          refine W_region_l ?_
          refine WL_stepM rfl (R_mv) ?_
          refine WL_stepM rfl (R_mv) ?_
          refine WL_step rfl (R_indexAddr Try.underlying26 Try.sizeOf5 rfl rfl (by omega) (by omega) idx0_cast) ?_
          refine WL_step rfl (R_load Try.isAgg5 rfl (H.get .here) (get_map hiu)) ?_
          refine WL_stepM rfl (R_mv) ?_
          refine WL_step rfl (R_ne_f rfl rfl (by rw [hai, if_pos hik]; rfl)) ?_
          refine WL_nil ?_
          refine W_cond_f rfl ?_
          refine W_skip ?_
          refine W_region_l ?_
          refine WL_stepM rfl (R_mv) ?_
          refine WL_step rfl (R_add rfl rfl (w_i64 (by omega))) ?_
          refine WL_stepM rfl (R_as) ?_
          refine WL_nil ?_
          exact ⟨i + 1, by omega, by omega, rfl, rfl, rfl, rfl, rfl, H⟩
        · refine WL_stepM rfl (R_mv) ?_
          refine WL_stepM rfl (R_mv) ?_
          refine WL_step rfl (R_indexAddr Try.underlying26 Try.sizeOf5 rfl rfl (by omega) (by omega) idx0_cast) ?_
          refine WL_step rfl (R_load Try.isAgg5 rfl (H.get (.there .here)) (get_map hiy)) ?_
          refine WL_stepM rfl (R_as) ?_
          refine WL_nil ?_
          refine W_seq ?_
          refine W_seq ?_
          refine W_region_l ?_
          refine WL_stepM rfl (R_mv) ?_
          refine WL_step rfl (R_quo rfl rfl (by omega) (quo_pos (by omega) (by omega) (by omega))) ?_
          refine WL_stepM rfl (R_mv) ?_
          refine WL_step rfl (R_eq_f rfl rfl (by omega)) ?_
          refine WL_nil ?_
          refine W_cond_f rfl ?_
          refine W_skip ?_
          refine W_seq ?_
          refine W_region_l ?_
          refine WL_stepM rfl (R_mv) ?_
          refine WL_stepM rfl (R_mv) ?_
          refine WL_step rfl (R_indexAddr Try.underlying26 Try.sizeOf5 rfl rfl (by omega) (by omega) idx0_cast) ?_
          refine WL_step rfl (R_load Try.isAgg5 rfl (H.get .here) (get_map hiu)) ?_
          refine WL_stepM rfl (R_mv) ?_
          refine WL_step rfl (R_ne_f rfl rfl (by rw [hai, if_neg hik])) ?_
          refine WL_nil ?_
          refine W_cond_f rfl ?_
          refine W_skip ?_
          refine W_region_l ?_
          refine WL_stepM rfl (R_mv) ?_
          refine WL_step rfl (R_add rfl rfl (w_i64 (by omega))) ?_
          refine WL_stepM rfl (R_as) ?_
          refine WL_nil ?_
          exact ⟨i + 1, by omega, by omega, rfl, rfl, rfl, rfl, rfl, H⟩
      · refine W_seq ?_
        refine W_seq ?_
        refine W_region_l ?_
        refine WL_stepM rfl (R_mv) ?_
        refine WL_step rfl (R_lt_f rfl rfl (by omega)) ?_
        refine WL_nil ?_
        refine W_cond_f rfl ?_
        refine W_exit ?_
        refine (if_pos rfl).mpr ?_
        refine W_seq ?_
        refine W_region_l ?_
        refine WL_stepM rfl (R_mv) ?_
        (refine WL_call rfl (R_call rfl Try.call20 rfl) (zero_no (xs := us) _ (H.get (.there (.there (.there .here)))) hul hL (by omega)) ?_; rintro _ w210 ⟨rfl, H1⟩; replace H := H.seq0 H1; clear H1)
        refine WL_step rfl (R_eq_t rfl rfl (by omega)) ?_
        refine WL_stepM rfl (R_mv) ?_
        refine WL_guard_t rfl rfl ?_
        refine WL_stepM rfl (R_mv) ?_
        refine WL_guard_t rfl rfl ?_
        (refine WL_call rfl (R_call rfl Try.call20 rfl) (zero_no (xs := us) _ (H.get (.there (.there (.there .here)))) hul hL (by omega)) ?_; rintro _ w216 ⟨rfl, H1⟩; replace H := H.seq0 H1; clear H1)
        refine WL_guard_t rfl rfl ?_
        refine WL_step rfl (R_eq_t rfl rfl (by omega)) ?_
        refine WL_stepM rfl (R_pk_t rfl) ?_
        refine WL_stepM rfl (R_mv) ?_
        refine WL_guard_t rfl rfl ?_
        (refine WL_call rfl (R_call rfl Try.call18 rfl) (awake_ret _) ?_; rintro _ w222 ⟨rfl, H1⟩; replace H := H.seq0 H1; clear H1)
        refine WL_stepM rfl (R_pk_t rfl) ?_
        refine WL_stepM rfl (R_as) ?_
        refine WL_nil ?_
        refine W_ret ?_
        exact ⟨_, rfl, rfl, H.none (by repeat' first | exact kNil | apply kCons | apply kApp | assumption | exact OwnS.keys (by assumption))⟩
end Go.Proofs.Ytjkkfahjgaidbaa.Mem

/-
  The law BellOrder: what its calls come to.
-/
import Derived.Test.YtjfcnmbalojehaaBellC
namespace Go.Proofs.Ytjfcnmbalojehaa.Bell
open Go Go.Proofs Go.Proofs.Ytjfcnmbalojehaa.Fx
set_option maxRecDepth 100000
set_option linter.unusedVariables false
set_option maxHeartbeats 1000000

theorem order_ret {xs : List Int} {w : World} {l : Value} (a : Int) (hl : RdS w l (xs.map I)) (hb : xs.length ≤ 9223372036854775807) :
    Ret Try.prog 5 #[I a, l] w fun v w' => v = .bool true ∧ Hp w [] w' := by
  refine Ret_of_W (args := [_, _]) Try.func5 rfl Try.ntmps5 Try.results5 (by simp) ?_
  have H := Hp.refl w
  obtain ⟨ao, ca, rfl, hca, hra⟩ := id hl
  simp only [List.length_map] at hl ⊢
  obtain ⟨n, hn, hn1, hn2⟩ : ∃ n : Nat, (n : Int) = min (xs.length : Int) 80 ∧ n ≤ xs.length ∧ n ≤ 80 := ⟨min xs.length 80, by omega, by omega, by omega⟩
  obtain ⟨sz, hsz, hs1, hs2⟩ : ∃ sz : Nat, (sz : Int) = a % 64 + 1 ∧ 1 ≤ sz ∧ sz ≤ 64 := ⟨(a % 64 + 1).toNat, by omega, by omega, by omega⟩
  obtain ⟨m, hm, hm1, hm2⟩ : ∃ m : Nat, (m : Int) = min (n : Int) (a % 64 + 1) ∧ m ≤ xs.length ∧ m = min n sz := ⟨min n sz, by omega, by omega, rfl⟩
  refine W_seq ?_
  refine W_region_l ?_
  refine WL_stepM rfl (R_as) ?_
  refine WL_nil ?_
  refine W_seq ?_
  refine W_region_l ?_
  refine WL_stepM rfl (R_mv) ?_
  refine WL_step rfl (R_bits rfl rfl (by simp) (and_mask_i64 6 64 (by decide) rfl (by decide))) ?_
  refine WL_step rfl (R_add rfl rfl (w_i64 (by omega))) ?_
  refine WL_stepM rfl (R_as) ?_
  refine WL_nil ?_
  refine W_seq ?_
  refine W_region_l ?_
  refine WL_stepM rfl (R_mv) ?_
  (refine WL_call rfl (R_call rfl Try.call14 rfl) (new_ret (a % 64 + 1) _) ?_; rintro _ w15 ⟨p, b, rfl, hp, hb, H1⟩; rw [show (min (max (a % 64 + 1) 1) 64).toNat = sz from by omega] at H1; replace H := H.seq H1 (okSeq_new hp (okSeq_new hb okSeq_nil)); clear H1)
  refine WL_stepM rfl (R_as) ?_
  refine WL_nil ?_
  refine W_seq ?_
  refine W_seq ?_
  refine W_region_l ?_
  refine WL_stepM rfl (R_mv) ?_
  refine WL_step rfl (R_eq_ptr_nil Try.underlying23 rfl rfl) ?_
  refine WL_nil ?_
  refine W_cond_f rfl ?_
  refine W_skip ?_
  refine W_seq ?_
  refine W_region_l ?_
  refine WL_stepM rfl (R_mv) ?_
  refine WL_step rfl (R_len_slice Try.underlying22 rfl) ?_
  refine WL_step rfl (R_min rfl rfl hn.symm) ?_
  refine WL_stepM rfl (R_as) ?_
  refine WL_nil ?_
  refine W_seq ?_
  refine W_seq ?_
  refine W_region_l ?_
  refine WL_stepM rfl (R_as) ?_
  refine WL_nil ?_
  refine W_block ?_
  refine W_loop (fun (i : Nat) E w' => ∃ s, i ≤ n ∧ E 0 = I (a % 64 + 1) ∧ E 1 = .slice ao xs.length ca ∧ E 5 = ptr p 0 ∧ E 6 = I n ∧ E 7 = I i ∧ Hp w [(b, .chan sz ((xs.take (min i sz)).map I).toArray false s 0 false), (p, blk [.chan (some b)] 90)] w') (fun i => n - i) 0 ?_ ?_
  · exact ⟨_, by omega, rfl, rfl, rfl, rfl, rfl, by simpa using H⟩
  · (clear H; rintro i E w1 ⟨s, hi, h0, h1, h5, h6, h7, H⟩; refine W_know5 h0 h1 h5 h6 h7 ?_; by_cases hlt : i < n)
    · refine W_seq ?_
      refine W_seq ?_
      refine W_region_l ?_
      refine WL_stepM rfl (R_mv) ?_
      refine WL_stepM rfl (R_mv) ?_
      refine WL_step rfl (R_lt_t rfl rfl (by omega)) ?_
      refine WL_nil ?_
      refine W_cond_t rfl ?_
      refine W_skip ?_
      refine W_seq ?_
      refine W_block ?_
      refine W_seq ?_
      (obtain ⟨b1, o1, rfl, hc1⟩ := hl.cell (i := i) (u := I xs[i]) (by rw [List.getElem?_map, List.getElem?_eq_getElem (by omega)]; rfl); by_cases hlt2 : i < sz <;> refine W_region_l ?_)
      · refine WL_stepM rfl (R_mv) ?_
        refine WL_stepM rfl (R_mv) ?_
        refine WL_stepM rfl (R_mv) ?_
        refine WL_step rfl (R_indexAddr Try.underlying22 Try.sizeOf3 rfl rfl (by omega) (by omega) idx_cast1) ?_
        refine WL_step rfl (R_load_cell Try.isAgg3 rfl (H.cellN hc1 (by simp [hp, hb]))) ?_
        (refine WL_call rfl (R_call rfl Try.call15 rfl) (ring_room _ (H.get (.there .here)) (H.get .here) (by simp; omega)) ?_; rintro _ w60 ⟨rfl, H1⟩; replace H := H.seq H1 (okSeq_set .here okSeq_nil); clear H1; rw [show min i sz = i from by omega, take_snoc (by omega), show i + 1 = min (i + 1) sz from by omega] at H)
        refine WL_stepM rfl (R_mv) ?_
        refine WL_stepM rfl (R_mv) ?_
        refine WL_step rfl (R_lt_t rfl rfl (by omega)) ?_
        refine WL_step rfl (R_ne_bool_f Try.underlying4 rfl rfl (by decide)) ?_
        refine WL_nil ?_
        refine W_cond_f rfl ?_
        refine W_skip ?_
        refine W_region_l ?_
        refine WL_stepM rfl (R_mv) ?_
        refine WL_step rfl (R_add rfl rfl (w_i64 (by omega))) ?_
        refine WL_stepM rfl (R_as) ?_
        refine WL_nil ?_
        exact ⟨i + 1, by omega, _, by omega, rfl, rfl, rfl, rfl, rfl, H⟩
      · refine WL_stepM rfl (R_mv) ?_
        refine WL_stepM rfl (R_mv) ?_
        refine WL_stepM rfl (R_mv) ?_
        refine WL_step rfl (R_indexAddr Try.underlying22 Try.sizeOf3 rfl rfl (by omega) (by omega) idx_cast1) ?_
        refine WL_step rfl (R_load_cell Try.isAgg3 rfl (H.cellN hc1 (by simp [hp, hb]))) ?_
        (refine WL_call rfl (R_call rfl Try.call15 rfl) (ring_full _ (H.get (.there .here)) (H.get .here) (by simp; omega)) ?_; rintro _ w79 ⟨rfl, H1⟩; replace H := H.seq0 H1; clear H1; rw [show min i sz = min (i + 1) sz from by omega] at H)
        refine WL_stepM rfl (R_mv) ?_
        refine WL_stepM rfl (R_mv) ?_
        refine WL_step rfl (R_lt_f rfl rfl (by omega)) ?_
        refine WL_step rfl (R_ne_bool_f Try.underlying4 rfl rfl (by decide)) ?_
        refine WL_nil ?_
        refine W_cond_f rfl ?_
        refine W_skip ?_
        refine W_region_l ?_
        refine WL_stepM rfl (R_mv) ?_
        refine WL_step rfl (R_add rfl rfl (w_i64 (by omega))) ?_
        refine WL_stepM rfl (R_as) ?_
        refine WL_nil ?_
        exact ⟨i + 1, by omega, _, by omega, rfl, rfl, rfl, rfl, rfl, H⟩
    · refine W_seq ?_
      refine W_seq ?_
      refine W_region_l ?_
      refine WL_stepM rfl (R_mv) ?_
      refine WL_stepM rfl (R_mv) ?_
      refine WL_step rfl (R_lt_f rfl rfl (by omega)) ?_
      refine WL_nil ?_
      refine W_cond_f rfl ?_
      refine W_exit ?_
      refine (if_pos rfl).mpr ?_
      refine W_seq ?_
      refine W_region_l ?_
      refine WL_stepM rfl (R_mv) ?_
      refine WL_stepM rfl (R_mv) ?_
      refine WL_step rfl (R_min rfl rfl hm.symm) ?_
      refine WL_stepM rfl (R_as) ?_
      refine WL_nil ?_
      refine W_seq ?_
      refine W_seq ?_
      refine W_region_l ?_
      refine WL_stepM rfl (R_as) ?_
      refine WL_nil ?_
      refine W_block ?_
      refine W_loop (fun (i : Nat) E w' => ∃ s r, i ≤ m ∧ E 0 = I (a % 64 + 1) ∧ E 1 = .slice ao xs.length ca ∧ E 5 = ptr p 0 ∧ E 6 = I m ∧ E 8 = I i ∧ Hp w [(b, .chan sz (((xs.take m).drop i).map I).toArray false s r false), (p, blk [.chan (some b)] 90)] w') (fun i => m - i) 0 ?_ ?_
      · (obtain rfl : i = n := (by omega); rw [← hm2] at H; exact ⟨_, _, by omega, rfl, rfl, rfl, rfl, rfl, H⟩)
      · (clear H; rintro i E w1 ⟨s, r, hi, h0, h1, h5, h6, h7, H⟩; refine W_know5 h0 h1 h5 h6 h7 ?_; by_cases hlt : i < m)
        · refine W_seq ?_
          refine W_seq ?_
          refine W_region_l ?_
          refine WL_stepM rfl (R_mv) ?_
          refine WL_stepM rfl (R_mv) ?_
          refine WL_step rfl (R_lt_t rfl rfl (by omega)) ?_
          refine WL_nil ?_
          refine W_cond_t rfl ?_
          refine W_skip ?_
          refine W_seq ?_
          refine W_block ?_
          refine W_seq ?_
          (obtain ⟨b1, o1, rfl, hc1⟩ := hl.cell (i := i) (u := I xs[i]) (by rw [List.getElem?_map, List.getElem?_eq_getElem (by omega)]; rfl); rw [drop_take hlt hm1] at H; refine W_region_l ?_)
          refine WL_stepM rfl (R_mv) ?_
          (refine WL_call rfl (R_call rfl Try.call18 rfl) (take_some (H.get (.there .here)) (H.get .here)) ?_; rintro _ w133 ⟨rfl, H1⟩; replace H := H.seq H1 (okSeq_set .here okSeq_nil); clear H1)
          refine WL_stepM rfl (R_mv) ?_
          refine WL_step rfl (R_extract rfl rfl) ?_
          refine WL_step rfl (R_extract rfl rfl) ?_
          refine WL_stepM rfl (R_as) ?_
          refine WL_stepM rfl (R_as) ?_
          refine WL_nil ?_
          refine W_seq ?_
          refine W_region_l ?_
          refine WL_stepM rfl (R_mv) ?_
          refine WL_step rfl (R_not_t rfl) ?_
          refine WL_stepM rfl (R_mv) ?_
          refine WL_guard_t rfl rfl ?_
          refine WL_stepM rfl (R_mv) ?_
          refine WL_guard_t rfl rfl ?_
          refine WL_stepM rfl (R_mv) ?_
          refine WL_guard_t rfl rfl ?_
          refine WL_stepM rfl (R_mv) ?_
          refine WL_guard_t rfl rfl ?_
          refine WL_step rfl (R_indexAddr Try.underlying22 Try.sizeOf3 rfl rfl (by omega) (by omega) idx_cast1) ?_
          refine WL_guard_t rfl rfl ?_
          refine WL_step rfl (R_load_cell Try.isAgg3 rfl (H.cellN hc1 (by simp [hp, hb]))) ?_
          refine WL_guard_t rfl rfl ?_
          refine WL_step rfl (R_ne_f rfl rfl (by omega)) ?_
          refine WL_stepM rfl (R_pk_f rfl) ?_
          refine WL_stepM rfl (R_mv) ?_
          refine WL_guard_t rfl rfl ?_
          refine WL_stepM rfl (R_mv) ?_
          refine WL_guard_t rfl rfl ?_
          (refine WL_call rfl (R_call rfl Try.call21 rfl) (len_ret (k := m - (i + 1)) (by simp; omega) (H.get (.there .here)) (H.get .here)) ?_; rintro _ w162 ⟨rfl, H1⟩; replace H := H.seq0 H1; clear H1)
          refine WL_guard_t rfl rfl ?_
          refine WL_stepM rfl (R_mv) ?_
          refine WL_guard_t rfl rfl ?_
          refine WL_step rfl (R_sub rfl rfl (w_i64 (by omega))) ?_
          refine WL_guard_t rfl rfl ?_
          refine WL_stepM rfl (R_mv) ?_
          refine WL_guard_t rfl rfl ?_
          refine WL_step rfl (R_sub rfl rfl (w_i64 (by omega))) ?_
          refine WL_guard_t rfl rfl ?_
          refine WL_step rfl (R_ne_f rfl rfl (by omega)) ?_
          refine WL_stepM rfl (R_pk_f rfl) ?_
          refine WL_nil ?_
          refine W_cond_f rfl ?_
          refine W_skip ?_
          refine W_region_l ?_
          refine WL_stepM rfl (R_mv) ?_
          refine WL_step rfl (R_add rfl rfl (w_i64 (by omega))) ?_
          refine WL_stepM rfl (R_as) ?_
          refine WL_nil ?_
          exact ⟨i + 1, by omega, _, _, by omega, rfl, rfl, rfl, rfl, rfl, H⟩
        · refine W_seq ?_
          refine W_seq ?_
          refine W_region_l ?_
          refine WL_stepM rfl (R_mv) ?_
          refine WL_stepM rfl (R_mv) ?_
          refine WL_step rfl (R_lt_f rfl rfl (by omega)) ?_
          refine WL_nil ?_
          refine W_cond_f rfl ?_
          refine W_exit ?_
          refine (if_pos rfl).mpr ?_
          refine W_seq ?_
          (rw [drop_none hlt, List.map_nil] at H; refine W_region_l ?_)
          refine WL_stepM rfl (R_mv) ?_
          (refine WL_call rfl (R_call rfl Try.call16 rfl) (either_none_nil (H.get (.there .here)) (H.get .here)) ?_; rintro _ w196 ⟨rfl, H1⟩; replace H := H.seq0 H1; clear H1)
          refine WL_stepM rfl (R_mv) ?_
          refine WL_step rfl (R_extract rfl rfl) ?_
          refine WL_step rfl (R_extract rfl rfl) ?_
          refine WL_step rfl (R_extract rfl rfl) ?_
          refine WL_stepM rfl (R_as) ?_
          refine WL_stepM rfl (R_as) ?_
          refine WL_stepM rfl (R_as) ?_
          refine WL_nil ?_
          refine W_seq ?_
          refine W_region_l ?_
          (refine WL_call rfl (R_call rfl Try.call16 rfl) either_nil_nil ?_; rintro _ w207 ⟨rfl, H1⟩; replace H := H.seq0 H1; clear H1)
          refine WL_stepM rfl (R_mv) ?_
          refine WL_step rfl (R_extract rfl rfl) ?_
          refine WL_step rfl (R_extract rfl rfl) ?_
          refine WL_step rfl (R_extract rfl rfl) ?_
          refine WL_stepM rfl (R_as) ?_
          refine WL_stepM rfl (R_as) ?_
          refine WL_stepM rfl (R_as) ?_
          refine WL_nil ?_
          refine W_seq ?_
          refine W_region_l ?_
          refine WL_stepM rfl (R_mv) ?_
          refine WL_step rfl (R_not_f rfl) ?_
          refine WL_stepM rfl (R_mv) ?_
          refine WL_guard_t rfl rfl ?_
          refine WL_stepM rfl (R_mv) ?_
          refine WL_guard_t rfl rfl ?_
          refine WL_step rfl (R_not_f rfl) ?_
          refine WL_stepM rfl (R_pk_t rfl) ?_
          refine WL_stepM rfl (R_mv) ?_
          refine WL_guard_t rfl rfl ?_
          refine WL_stepM rfl (R_mv) ?_
          refine WL_guard_t rfl rfl ?_
          (refine WL_call rfl (R_call rfl Try.call20 rfl) (drain_ret (ns := []) (H.get (.there .here)) (H.get .here) (by simp)) ?_; rintro v w230 ⟨M, r1, hO, H1⟩; obtain ⟨ao2, ca2, rfl⟩ := OwnS.form (len := 0) hO; replace H := H.seq (Hp.cut (L := [_]) H1 hO.keys) (okSeq_set .here okSeq_nil); clear H1)
          refine WL_guard_t rfl rfl ?_
          refine WL_step rfl (R_len_slice Try.underlying22 rfl) ?_
          refine WL_guard_t rfl rfl ?_
          refine WL_step rfl (R_eq_t rfl rfl (by omega)) ?_
          refine WL_stepM rfl (R_pk_t rfl) ?_
          refine WL_stepM rfl (R_mv) ?_
          refine WL_guard_t rfl rfl ?_
          (refine WL_call rfl (R_call rfl Try.call17 rfl) (awake_ret _) ?_; rintro _ w238 ⟨rfl, H1⟩; replace H := H.seq0 H1; clear H1)
          refine WL_stepM rfl (R_pk_t rfl) ?_
          refine WL_stepM rfl (R_as) ?_
          refine WL_nil ?_
          refine W_ret ?_
          exact ⟨_, rfl, rfl, (H.pop hb).pop hp⟩
end Go.Proofs.Ytjfcnmbalojehaa.Bell

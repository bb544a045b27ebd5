/-
  The law MemApart: what its calls come to.
-/
import Derived.Test.YtjkkfahjgaidbaaMemE
import Derived.Test.YtjkkfahjgaidbaaMemP
namespace Go.Proofs.Ytjkkfahjgaidbaa.Mem
open Go Go.Proofs Go.Proofs.Ytjkkfahjgaidbaa.Fx
set_option maxRecDepth 100000
set_option linter.unusedVariables false
set_option linter.unusedSimpArgs false
set_option maxHeartbeats 2000000

theorem refBlank_ret {xs : List UInt8} (w : World) (hx : ∀ x ∈ xs, x = 0) (hb : xs.length ≤ 100000) :
    Ret Try.prog 19 #[S xs] w fun v w' => v = .bool true ∧ Hp w [] w' := by
  refine Ret_of_W (args := [_]) Try.func19 rfl Try.ntmps19 Try.results19 (by simp) ?_
  have H := Hp.refl w
  refine W_seq ?_
  refine W_region_l ?_
  refine WL_stepM rfl (R_as) ?_
  refine WL_nil ?_
  refine W_seq ?_
  refine W_seq ?_
  refine W_region_l ?_
  refine WL_stepM rfl (R_as) ?_
  refine WL_nil ?_
  refine W_block ?_
  refine W_loop (fun (i : Nat) E w' => i ≤ xs.length ∧ E 0 = S xs ∧ E 3 = I i ∧ Hp w [] w') (fun i => xs.length - i) 0 ?_ ?_
  · exact ⟨by omega, rfl, rfl, H⟩
  · (clear H; rintro i E w1 ⟨hi, h0, h1, H⟩; refine W_know2 h0 h1 ?_; by_cases hlt : i < xs.length)
    · refine W_seq ?_
      refine W_seq ?_
      refine W_region_l ?_
      refine WL_stepM rfl (R_mv) ?_
      refine WL_stepM rfl (R_mv) ?_
      refine WL_step rfl (R_len_S Try.underlying9 rfl) ?_
      refine WL_step rfl (R_lt_t rfl rfl (by omega)) ?_
      refine WL_nil ?_
      refine W_cond_t rfl ?_
      refine W_skip ?_
      refine W_seq ?_
      refine W_block ?_
      refine W_seq ?_
      refine W_region_l ?_
      refine WL_stepM rfl (R_mv) ?_
      refine WL_stepM rfl (R_mv) ?_
      refine WL_step rfl (R_index_S (u := 0) (i := (i : Int)) Try.underlying9 rfl rfl (by omega) (by rw [Int.toNat_natCast, List.getElem?_eq_getElem hlt, hx _ (List.getElem_mem hlt)])) ?_
      refine WL_step rfl (R_ne_f rfl rfl (by decide)) ?_
      refine WL_nil ?_
      refine W_cond_f rfl ?_
      refine W_skip ?_
      refine W_region_l ?_
      refine WL_stepM rfl (R_mv) ?_
      refine WL_step rfl (R_add rfl rfl (w_i64 (by omega))) ?_
      refine WL_stepM rfl (R_as) ?_
      refine WL_nil ?_
      exact ⟨i + 1, by omega, by omega, rfl, rfl, H⟩
    · refine W_seq ?_
      refine W_seq ?_
      refine W_region_l ?_
      refine WL_stepM rfl (R_mv) ?_
      refine WL_stepM rfl (R_mv) ?_
      refine WL_step rfl (R_len_S Try.underlying9 rfl) ?_
      refine WL_step rfl (R_lt_f rfl rfl (by omega)) ?_
      refine WL_nil ?_
      refine W_cond_f rfl ?_
      refine W_exit ?_
      refine (if_pos rfl).mpr ?_
      refine W_seq ?_
      refine W_region_l ?_
      refine WL_stepM rfl (R_as) ?_
      refine WL_nil ?_
      refine W_ret ?_
      exact ⟨_, rfl, rfl, H⟩

theorem put_behind {xs ys : List UInt8} {i j n : Nat} (h : i + ys.length ≤ xs.length) (hj : i + ys.length ≤ j) : ((put xs ys i).drop j).take n = (xs.drop j).take n := by
  unfold put
  congr 1
  rw [List.drop_append, List.drop_of_length_le (by simp; omega), List.nil_append, List.drop_drop]
  congr 1
  simp; omega

theorem zeros_part (N j n : Nat) : ∀ x ∈ ((List.replicate N (0 : UInt8)).drop j).take n, x = 0 := by
  intro x hx
  exact List.eq_of_mem_replicate (List.mem_of_mem_drop (List.mem_of_mem_take hx))

theorem apart_ret {xs ys : List UInt8} {w : World} {l k : Value} (a c : Int) (hl : RdS w l (xs.map U)) (hb : xs.length ≤ 9223372036854775807) (hk : RdS w k (ys.map U)) (hd : ys.length ≤ 9223372036854775807) :
    Ret Try.prog 4 #[l, k, I a, I c] w fun v w' => v = .bool true ∧ Hp w [] w' := by
  refine Ret_of_W (args := [_, _, _, _]) Try.func4 rfl Try.ntmps4 Try.results4 (by simp) ?_
  have H := Hp.refl w
  obtain ⟨ao, ca, rfl, hca, hra⟩ := id hl
  obtain ⟨ko, ka, rfl, hka, hrk⟩ := id hk
  simp only [List.length_map] at hl hk ⊢
  by_cases hz : 60 < xs.length
  · refine W_seq ?_
    refine W_region_l ?_
    refine WL_stepM rfl (R_as) ?_
    refine WL_nil ?_
    refine W_seq ?_
    refine W_seq ?_
    refine W_region_l ?_
    refine WL_stepM rfl (R_mv) ?_
    refine WL_step rfl (R_len_slice Try.underlying26 rfl) ?_
    refine WL_step rfl (R_gt_t rfl rfl (by omega)) ?_
    refine WL_stepM rfl (R_mv) ?_
    refine WL_guard_f rfl rfl (by decide) ?_
    refine WL_guard_f rfl rfl (by decide) ?_
    refine WL_guard_f rfl rfl (by decide) ?_
    refine WL_stepM rfl (R_pk_t rfl) ?_
    refine WL_nil ?_
    refine W_cond_t rfl ?_
    refine W_seq ?_
    refine W_region_l ?_
    (refine WL_call rfl (R_call rfl Try.call18 rfl) (awake_ret _) ?_; rintro _ w20 ⟨rfl, H1⟩; replace H := H.seq0 H1; clear H1)
    refine WL_stepM rfl (R_as) ?_
    refine WL_nil ?_
    refine W_ret ?_
    exact ⟨_, rfl, rfl, H⟩
  · by_cases hz2 : 60 < ys.length
    · refine W_seq ?_
      refine W_region_l ?_
      refine WL_stepM rfl (R_as) ?_
      refine WL_nil ?_
      refine W_seq ?_
      refine W_seq ?_
      refine W_region_l ?_
      refine WL_stepM rfl (R_mv) ?_
      refine WL_step rfl (R_len_slice Try.underlying26 rfl) ?_
      refine WL_step rfl (R_gt_f rfl rfl (by omega)) ?_
      refine WL_stepM rfl (R_mv) ?_
      refine WL_guard_t rfl rfl ?_
      refine WL_stepM rfl (R_mv) ?_
      refine WL_guard_t rfl rfl ?_
      refine WL_step rfl (R_len_slice Try.underlying26 rfl) ?_
      refine WL_guard_t rfl rfl ?_
      refine WL_step rfl (R_gt_t rfl rfl (by omega)) ?_
      refine WL_stepM rfl (R_pk_f rfl) ?_
      refine WL_nil ?_
      refine W_cond_t rfl ?_
      refine W_seq ?_
      refine W_region_l ?_
      (refine WL_call rfl (R_call rfl Try.call18 rfl) (awake_ret _) ?_; rintro _ w23 ⟨rfl, H1⟩; replace H := H.seq0 H1; clear H1)
      refine WL_stepM rfl (R_as) ?_
      refine WL_nil ?_
      refine W_ret ?_
      exact ⟨_, rfl, rfl, H⟩
    · obtain ⟨i, hi, hi2⟩ : ∃ i : Nat, a % 64 = (i : Int) ∧ i < 64 := ⟨(a % 64).toNat, by omega, by omega⟩
      obtain ⟨j, hj, hj2, hj3⟩ : ∃ j : Nat, 128 + c % 64 = (j : Int) ∧ j < 192 ∧ 128 ≤ j := ⟨(128 + c % 64).toNat, by omega, by omega, by omega⟩
      obtain ⟨zs, hzs, hzl⟩ : ∃ zs : List UInt8, zs = List.replicate 256 0 ∧ zs.length = 256 := ⟨_, rfl, by simp⟩
      have hN : zs.length ≤ 16384 := by omega
      obtain ⟨us, hus, hul⟩ : ∃ us : List UInt8, us = put zs xs i ∧ us.length = 256 := ⟨_, rfl, by rw [put_length (by omega), hzl]⟩
      have hM : us.length ≤ 16384 := by omega
      obtain ⟨vs, hvs, hvl⟩ : ∃ vs : List UInt8, vs = put us ys j ∧ vs.length = 256 := ⟨_, rfl, by rw [put_length (by omega), hul]⟩
      have hL : vs.length ≤ 16384 := by omega
      have hgx : (vs.drop i).take xs.length = xs := by rw [hvs, put_far (by omega) (by omega), hus, put_get (by omega)]
      have hgy : (vs.drop j).take ys.length = ys := by rw [hvs, put_get (by omega)]
      obtain ⟨q, hq⟩ : ∃ q : List UInt8, q = (vs.drop (i + xs.length)).take (j - i - xs.length) := ⟨_, rfl⟩
      have hgz : ∀ x ∈ q, x = 0 := by
        rw [hq, hvs, put_far (by omega) (by omega), hus, put_behind (by omega) (by omega), hzs]
        exact zeros_part _ _ _
      have hql : q.length = j - i - xs.length := by rw [hq]; simp; omega
      refine W_seq ?_
      refine W_region_l ?_
      refine WL_stepM rfl (R_as) ?_
      refine WL_nil ?_
      refine W_seq ?_
      refine W_seq ?_
      refine W_region_l ?_
      refine WL_stepM rfl (R_mv) ?_
      refine WL_step rfl (R_len_slice Try.underlying26 rfl) ?_
      refine WL_step rfl (R_gt_f rfl rfl (by omega)) ?_
      refine WL_stepM rfl (R_mv) ?_
      refine WL_guard_t rfl rfl ?_
      refine WL_stepM rfl (R_mv) ?_
      refine WL_guard_t rfl rfl ?_
      refine WL_step rfl (R_len_slice Try.underlying26 rfl) ?_
      refine WL_guard_t rfl rfl ?_
      refine WL_step rfl (R_gt_f rfl rfl (by omega)) ?_
      refine WL_stepM rfl (R_pk_f rfl) ?_
      refine WL_nil ?_
      refine W_cond_f rfl ?_
      refine W_skip ?_
      refine W_seq ?_
      refine W_region_l ?_
      (refine WL_call rfl (R_call rfl Try.call13 rfl) (new_ret 4 _) ?_; rintro _ w24 ⟨p, b, rfl, H1, hp, hb⟩; rw [show szOf 4 = 256 from rfl, ← zmap, ← hzs] at H1; replace H := H.seq H1 (okSeq_new hp (okSeq_new hb okSeq_nil)); clear H1)
      refine WL_stepM rfl (R_as) ?_
      refine WL_nil ?_
      refine W_seq ?_
      refine W_seq ?_
      refine W_region_l ?_
      refine WL_stepM rfl (R_mv) ?_
      refine WL_step rfl (R_eq_ptr_nil Try.underlying22 rfl rfl) ?_
      refine WL_nil ?_
      refine W_cond_f rfl ?_
      refine W_skip ?_
      refine W_seq ?_
      refine W_region_l ?_
      refine WL_stepM rfl (R_mv) ?_
      (refine WL_step rfl (R_bits rfl rfl (by simp) ((and_mask_i64 6 64 (by decide) rfl (by decide)).trans hi)) ?_)
      refine WL_stepM rfl (R_mv) ?_
      refine WL_step rfl (R_bits rfl rfl (by simp) (and_mask_i64 6 64 (by decide) rfl (by decide))) ?_
      (refine WL_step rfl (R_add rfl rfl ((w_i64 (by omega)).trans hj)) ?_)
      refine WL_stepM rfl (R_as) ?_
      refine WL_stepM rfl (R_as) ?_
      refine WL_nil ?_
      refine W_seq ?_
      refine W_region_l ?_
      refine WL_stepM rfl (R_mv) ?_
      refine WL_stepM rfl (R_mv) ?_
      refine WL_stepM rfl (R_mv) ?_
      (refine WL_call rfl (R_call rfl Try.call14 rfl) (store_yes (xs := zs) (ys := xs) i (H.get (.there .here)) (H.get .here) hzl hN (hl.monoN H (by repeat' first | exact kNil | apply kCons | apply kApp | assumption | exact OwnS.keys (by assumption))) (by omega)) ?_; rintro _ w50 ⟨rfl, H1⟩; rw [← hus] at H1; replace H := H.seq H1 (okSeq_set .here okSeq_nil); clear H1)
      refine WL_stepM rfl (R_mv) ?_
      refine WL_stepM rfl (R_mv) ?_
      refine WL_stepM rfl (R_mv) ?_
      (refine WL_call rfl (R_call rfl Try.call14 rfl) (store_yes (xs := us) (ys := ys) j (H.get (.there .here)) (H.get .here) hul hM (hk.monoN H (by repeat' first | exact kNil | apply kCons | apply kApp | assumption | exact OwnS.keys (by assumption))) (by omega)) ?_; rintro _ w54 ⟨rfl, H1⟩; rw [← hvs] at H1; replace H := H.seq H1 (okSeq_set .here okSeq_nil); clear H1)
      refine WL_stepM rfl (R_as) ?_
      refine WL_stepM rfl (R_as) ?_
      refine WL_nil ?_
      refine W_seq ?_
      refine W_region_l ?_
      refine WL_stepM rfl (R_mv) ?_
      refine WL_stepM rfl (R_mv) ?_
      refine WL_stepM rfl (R_mv) ?_
      refine WL_step rfl (R_len_slice Try.underlying26 rfl) ?_
      (refine WL_call rfl (R_call rfl Try.call15 rfl) (load_yes (xs := vs) i xs.length (H.get (.there .here)) (H.get .here) hvl hL (by omega)) ?_; rintro _ w64 ⟨u4, M4, rfl, hO4, H1⟩; rw [hgx] at hO4; have h64 := H.seqO hO4 H1; clear H H1 hO4; obtain ⟨hO4, H⟩ := h64)
      refine WL_stepM rfl (R_mv) ?_
      refine WL_step rfl (R_extract rfl rfl) ?_
      refine WL_step rfl (R_extract rfl rfl) ?_
      refine WL_stepM rfl (R_as) ?_
      refine WL_stepM rfl (R_as) ?_
      refine WL_nil ?_
      refine W_seq ?_
      refine W_region_l ?_
      refine WL_stepM rfl (R_mv) ?_
      refine WL_stepM rfl (R_mv) ?_
      refine WL_stepM rfl (R_mv) ?_
      refine WL_step rfl (R_len_slice Try.underlying26 rfl) ?_
      (refine WL_call rfl (R_call rfl Try.call15 rfl) (load_yes (xs := vs) j ys.length (H.get (.app _ (.there .here))) (H.get (.app _ .here)) hvl hL (by omega)) ?_; rintro _ w77 ⟨u5, M5, rfl, hO5, H1⟩; rw [hgy] at hO5; have h77 := H.seqO hO5 H1; clear H H1 hO5; obtain ⟨hO5, H⟩ := h77)
      refine WL_stepM rfl (R_mv) ?_
      refine WL_step rfl (R_extract rfl rfl) ?_
      refine WL_step rfl (R_extract rfl rfl) ?_
      refine WL_stepM rfl (R_as) ?_
      refine WL_stepM rfl (R_as) ?_
      refine WL_nil ?_
      refine W_seq ?_
      refine W_region_l ?_
      refine WL_stepM rfl (R_mv) ?_
      refine WL_stepM rfl (R_mv) ?_
      refine WL_stepM rfl (R_mv) ?_
      refine WL_step rfl (R_len_slice Try.underlying26 rfl) ?_
      refine WL_step rfl (R_add (r := ((i + xs.length : Nat) : Int)) rfl rfl (by rw [w_i64 (by omega)]; omega)) ?_
      refine WL_stepM rfl (R_mv) ?_
      refine WL_stepM rfl (R_mv) ?_
      refine WL_step rfl (R_sub rfl rfl (w_i64 (by omega))) ?_
      refine WL_stepM rfl (R_mv) ?_
      refine WL_step rfl (R_len_slice Try.underlying26 rfl) ?_
      refine WL_step rfl (R_sub (r := ((j - i - xs.length : Nat) : Int)) rfl rfl (by rw [w_i64 (by omega)]; omega)) ?_
      (refine WL_call rfl (R_call rfl Try.call15 rfl) (load_yes (xs := vs) (i + xs.length) (j - i - xs.length) (H.get (.app _ (.app _ (.there .here)))) (H.get (.app _ (.app _ .here))) hvl hL (by omega)) ?_; rintro _ w97 ⟨u6, M6, rfl, hO6, H1⟩; rw [← hq] at hO6; have h97 := H.seqO hO6 H1; clear H H1 hO6; obtain ⟨hO6, H⟩ := h97)
      refine WL_stepM rfl (R_mv) ?_
      refine WL_step rfl (R_extract rfl rfl) ?_
      refine WL_step rfl (R_extract rfl rfl) ?_
      refine WL_stepM rfl (R_as) ?_
      refine WL_stepM rfl (R_as) ?_
      refine WL_nil ?_
      refine W_seq ?_
      refine W_region_l ?_
      refine WL_stepM rfl (R_mv) ?_
      refine WL_step rfl (R_eq_t rfl rfl (by omega)) ?_
      refine WL_stepM rfl (R_mv) ?_
      refine WL_guard_t rfl rfl ?_
      refine WL_stepM rfl (R_mv) ?_
      refine WL_guard_t rfl rfl ?_
      refine WL_step rfl (R_eq_t rfl rfl (by omega)) ?_
      refine WL_stepM rfl (R_pk_t rfl) ?_
      refine WL_stepM rfl (R_mv) ?_
      refine WL_guard_t rfl rfl ?_
      refine WL_stepM rfl (R_mv) ?_
      refine WL_guard_t rfl rfl ?_
      refine WL_step rfl (R_eq_t rfl rfl (by omega)) ?_
      refine WL_stepM rfl (R_pk_t rfl) ?_
      refine WL_stepM rfl (R_mv) ?_
      refine WL_guard_t rfl rfl ?_
      refine WL_stepM rfl (R_mv) ?_
      refine WL_guard_t rfl rfl ?_
      refine WL_step rfl (R_eq_t rfl rfl (by omega)) ?_
      refine WL_stepM rfl (R_pk_t rfl) ?_
      refine WL_stepM rfl (R_mv) ?_
      refine WL_guard_t rfl rfl ?_
      refine WL_stepM rfl (R_mv) ?_
      refine WL_guard_t rfl rfl ?_
      refine WL_step rfl (R_eq_t rfl rfl (by omega)) ?_
      refine WL_stepM rfl (R_pk_t rfl) ?_
      refine WL_stepM rfl (R_mv) ?_
      refine WL_guard_t rfl rfl ?_
      refine WL_stepM rfl (R_mv) ?_
      refine WL_guard_t rfl rfl ?_
      refine WL_step rfl (R_conv_bs (xs := xs) Try.underlying26 Try.underlying5 Try.underlying9 rfl (RdS.own hO4 (fun q hq => H.held q (by simp [hq])))) ?_
      refine WL_guard_t rfl rfl ?_
      refine WL_stepM rfl (R_mv) ?_
      refine WL_guard_t rfl rfl ?_
      refine WL_step rfl (R_conv_bs (xs := xs) Try.underlying26 Try.underlying5 Try.underlying9 rfl (hl.monoN H (by repeat' first | exact kNil | apply kCons | apply kApp | assumption | exact OwnS.keys (by assumption)))) ?_
      refine WL_guard_t rfl rfl ?_
      refine WL_step rfl (R_eq_S_t rfl rfl rfl) ?_
      refine WL_stepM rfl (R_pk_t rfl) ?_
      refine WL_stepM rfl (R_mv) ?_
      refine WL_guard_t rfl rfl ?_
      refine WL_stepM rfl (R_mv) ?_
      refine WL_guard_t rfl rfl ?_
      refine WL_step rfl (R_conv_bs (xs := ys) Try.underlying26 Try.underlying5 Try.underlying9 rfl (RdS.own hO5 (fun q hq => H.held q (by simp [hq])))) ?_
      refine WL_guard_t rfl rfl ?_
      refine WL_stepM rfl (R_mv) ?_
      refine WL_guard_t rfl rfl ?_
      refine WL_step rfl (R_conv_bs (xs := ys) Try.underlying26 Try.underlying5 Try.underlying9 rfl (hk.monoN H (by repeat' first | exact kNil | apply kCons | apply kApp | assumption | exact OwnS.keys (by assumption)))) ?_
      refine WL_guard_t rfl rfl ?_
      refine WL_step rfl (R_eq_S_t rfl rfl rfl) ?_
      refine WL_stepM rfl (R_pk_t rfl) ?_
      refine WL_stepM rfl (R_mv) ?_
      refine WL_guard_t rfl rfl ?_
      refine WL_stepM rfl (R_mv) ?_
      refine WL_guard_t rfl rfl ?_
      refine WL_step rfl (R_conv_bs (xs := q) Try.underlying26 Try.underlying5 Try.underlying9 rfl (RdS.own (hql ▸ hO6) (fun q hq => H.held q (by simp [hq])))) ?_
      refine WL_guard_t rfl rfl ?_
      (refine WL_call rfl (R_call rfl Try.call19 rfl) (refBlank_ret _ hgz (by omega)) ?_; rintro _ w162 ⟨rfl, H1⟩; replace H := H.seq0 H1; clear H1)
      refine WL_stepM rfl (R_pk_t rfl) ?_
      refine WL_stepM rfl (R_mv) ?_
      refine WL_guard_t rfl rfl ?_
      (refine WL_call rfl (R_call rfl Try.call18 rfl) (awake_ret _) ?_; rintro _ w166 ⟨rfl, H1⟩; replace H := H.seq0 H1; clear H1)
      refine WL_stepM rfl (R_pk_t rfl) ?_
      refine WL_stepM rfl (R_as) ?_
      refine WL_nil ?_
      refine W_ret ?_
      exact ⟨_, rfl, rfl, H.none (by repeat' first | exact kNil | apply kCons | apply kApp | assumption | exact OwnS.keys (by assumption))⟩
end Go.Proofs.Ytjkkfahjgaidbaa.Mem

/-
  The law MemEnds: what its calls come to.
-/
import Derived.Test.YtjkkfahjgaidbaaMemC
import Derived.Test.YtjkkfahjgaidbaaRef1
namespace Go.Proofs.Ytjkkfahjgaidbaa.Mem
open Go Go.Proofs Go.Proofs.Ytjkkfahjgaidbaa.Fx
set_option maxRecDepth 100000
set_option linter.unusedVariables false
set_option linter.unusedSimpArgs false
set_option maxHeartbeats 2000000

theorem ends_ret (a c : Int) (w : World) : Ret Try.prog 3 #[I a, I c] w fun v w' => v = .bool true ∧ Hp w [] w' := by
  refine Ret_of_W (args := [_, _]) Try.func3 rfl Try.ntmps3 Try.results3 (by simp) ?_
  have H := Hp.refl w
  obtain ⟨i, hi, hi2⟩ : ∃ i : Nat, a % 64 = (i : Int) ∧ i < 64 := ⟨(a % 64).toNat, by omega, by omega⟩
  obtain ⟨n, hn, hn2⟩ : ∃ n : Nat, c % 128 = (n : Int) ∧ n < 128 := ⟨(c % 128).toNat, by omega, by omega⟩
  obtain ⟨xs, hxs, hx⟩ : ∃ xs : List UInt8, xs = List.replicate 64 0 ∧ xs.length = 64 := ⟨_, rfl, by simp⟩
  have hN : xs.length ≤ 16384 := by omega
  by_cases hin : n ≤ 64 - i
  · obtain ⟨ys, hys, hy⟩ : ∃ ys : List UInt8, ys = put xs (List.replicate n 0) i ∧ ys.length = 64 := ⟨_, rfl, by rw [put_length (by simp; omega), hx]⟩
    have hM : ys.length ≤ 16384 := by omega
    refine W_seq ?_
    refine W_region_l ?_
    refine WL_stepM rfl (R_as) ?_
    refine WL_nil ?_
    refine W_seq ?_
    refine W_region_l ?_
    (refine WL_call rfl (R_call rfl Try.call13 rfl) (new_ret 1 _) ?_; rintro _ w7 ⟨p, b, rfl, H1, hp, hb⟩; rw [show szOf 1 = 64 from rfl, ← zmap, ← hxs] at H1; replace H := H.seq H1 (okSeq_new hp (okSeq_new hb okSeq_nil)); clear H1)
    refine WL_stepM rfl (R_as) ?_
    refine WL_nil ?_
    refine W_seq ?_
    refine W_seq ?_
    refine W_region_l ?_
    refine WL_stepM rfl (R_mv) ?_
    refine WL_step rfl (R_eq_ptr_nil Try.underlying22 rfl rfl) ?_
    refine WL_nil ?_
    refine W_cond_f rfl ?_
    refine W_skip ?_
    refine W_seq ?_
    refine W_region_l ?_
    refine WL_stepM rfl (R_mv) ?_
    (refine WL_step rfl (R_bits rfl rfl (by simp) ((and_mask_i64 6 64 (by decide) rfl (by decide)).trans hi)) ?_)
    refine WL_stepM rfl (R_mv) ?_
    (refine WL_step rfl (R_bits rfl rfl (by simp) ((and_mask_i64 7 128 (by decide) rfl (by decide)).trans hn)) ?_)
    refine WL_stepM rfl (R_as) ?_
    refine WL_stepM rfl (R_as) ?_
    refine WL_nil ?_
    refine W_seq ?_
    refine W_region_l ?_
    refine WL_stepM rfl (R_mv) ?_
    refine WL_stepM rfl (R_mv) ?_
    refine WL_step rfl (R_sub rfl rfl (w_i64 (by omega))) ?_
    refine WL_step rfl (R_le_t rfl rfl (by omega)) ?_
    refine WL_stepM rfl (R_as) ?_
    refine WL_nil ?_
    refine W_seq ?_
    refine W_region_l ?_
    refine WL_stepM rfl (R_mv) ?_
    refine WL_stepM rfl (R_mv) ?_
    refine WL_stepM rfl (R_mv) ?_
    (refine WL_effn rfl (E_makeSlice H Try.underlying26 Try.sizeOf5 Try.typeInfo5 Try.zeroValue5 rfl rfl rfl (by omega) (by omega) (by omega) (by simp only [Try.t5]; omega)) ?_; clear H; intro b40 w40 hb40 H)
    (refine WL_call rfl (R_call rfl Try.call14 rfl) (store_yes (xs := xs) (ys := List.replicate n 0) i (H.get (.there (.there .here))) (H.get (.there .here)) hx hN (RdS.blk (H.get .here) (by simp [zmap]) (by simp) (by simp)) (by simp; omega)) ?_; rintro _ w41 ⟨rfl, H1⟩; rw [← hys] at H1; replace H := (H.seq H1 (okSeq_set (.there .here) okSeq_nil)).pop (by assumption); clear H1)
    refine WL_stepM rfl (R_as) ?_
    refine WL_nil ?_
    refine W_seq ?_
    refine W_region_l ?_
    refine WL_stepM rfl (R_mv) ?_
    refine WL_stepM rfl (R_mv) ?_
    refine WL_stepM rfl (R_mv) ?_
    (refine WL_call rfl (R_call rfl Try.call15 rfl) (load_yes (xs := ys) i n (H.get (.there .here)) (H.get .here) hy hM (by omega)) ?_; rintro _ w49 ⟨u, M, rfl, hO, H1⟩; replace H := H.seqD H1 hO.keys; clear H1 hO)
    refine WL_stepM rfl (R_mv) ?_
    refine WL_step rfl (R_extract rfl rfl) ?_
    refine WL_step rfl (R_extract rfl rfl) ?_
    refine WL_stepM rfl (R_as) ?_
    refine WL_stepM rfl (R_as) ?_
    refine WL_nil ?_
    refine W_seq ?_
    refine W_region_l ?_
    refine WL_stepM rfl (R_mv) ?_
    (refine WL_call rfl (R_call rfl Try.call16 rfl) (word_no (xs := ys) 61 (H.get (.there .here)) hy hM (by omega)) ?_; rintro _ w59 ⟨rfl, H1⟩; replace H := H.seq0 H1; clear H1)
    refine WL_stepM rfl (R_mv) ?_
    refine WL_step rfl (R_extract rfl rfl) ?_
    refine WL_step rfl (R_extract rfl rfl) ?_
    refine WL_stepM rfl (R_as) ?_
    refine WL_stepM rfl (R_as) ?_
    refine WL_nil ?_
    refine W_seq ?_
    refine W_region_l ?_
    refine WL_stepM rfl (R_mv) ?_
    (refine WL_call rfl (R_call rfl Try.call16 rfl) (word_yes (xs := ys) 60 (H.get (.there .here)) (H.get .here) hy hM (by omega)) ?_; rintro _ w69 ⟨rfl, H1⟩; replace H := H.seq0 H1; clear H1)
    refine WL_stepM rfl (R_mv) ?_
    refine WL_step rfl (R_extract rfl rfl) ?_
    refine WL_step rfl (R_extract rfl rfl) ?_
    refine WL_stepM rfl (R_as) ?_
    refine WL_stepM rfl (R_as) ?_
    refine WL_nil ?_
    refine W_seq ?_
    refine W_region_l ?_
    refine WL_stepM rfl (R_mv) ?_
    (refine WL_call rfl (R_call rfl Try.call15 rfl) (load_yes (xs := ys) 64 0 (H.get (.there .here)) (H.get .here) hy hM (by omega)) ?_; rintro _ w79 ⟨u2, M2, rfl, hO, H1⟩; replace H := H.seqD H1 hO.keys; clear H1 hO)
    refine WL_stepM rfl (R_mv) ?_
    refine WL_step rfl (R_extract rfl rfl) ?_
    refine WL_step rfl (R_extract rfl rfl) ?_
    refine WL_stepM rfl (R_as) ?_
    refine WL_stepM rfl (R_as) ?_
    refine WL_nil ?_
    refine W_seq ?_
    refine W_region_l ?_
    refine WL_stepM rfl (R_mv) ?_
    (refine WL_call rfl (R_call rfl Try.call15 rfl) (load_no (xs := ys) 65 0 (H.get (.there .here)) hy hM (by omega)) ?_; rintro _ w89 ⟨rfl, H1⟩; replace H := H.seq0 H1; clear H1)
    refine WL_stepM rfl (R_mv) ?_
    refine WL_step rfl (R_extract rfl rfl) ?_
    refine WL_step rfl (R_extract rfl rfl) ?_
    refine WL_stepM rfl (R_as) ?_
    refine WL_stepM rfl (R_as) ?_
    refine WL_nil ?_
    refine W_seq ?_
    refine W_region_l ?_
    refine WL_stepM rfl (R_mv) ?_
    refine WL_step rfl (R_eq_t rfl rfl (by omega)) ?_
    refine WL_stepM rfl (R_mv) ?_
    refine WL_step rfl (R_eq_bool_t Try.underlying4 rfl rfl (by decide)) ?_
    refine WL_stepM rfl (R_mv) ?_
    refine WL_guard_t rfl rfl ?_
    refine WL_stepM rfl (R_mv) ?_
    refine WL_guard_t rfl rfl ?_
    refine WL_step rfl (R_eq_t rfl rfl (by omega)) ?_
    refine WL_guard_t rfl rfl ?_
    refine WL_stepM rfl (R_mv) ?_
    refine WL_guard_t rfl rfl ?_
    refine WL_step rfl (R_eq_bool_t Try.underlying4 rfl rfl (by decide)) ?_
    refine WL_stepM rfl (R_pk_t rfl) ?_
    refine WL_stepM rfl (R_mv) ?_
    refine WL_guard_t rfl rfl ?_
    refine WL_stepM rfl (R_mv) ?_
    refine WL_guard_t rfl rfl ?_
    refine WL_step rfl (R_eq_t rfl rfl (by omega)) ?_
    refine WL_stepM rfl (R_pk_t rfl) ?_
    refine WL_stepM rfl (R_mv) ?_
    refine WL_guard_t rfl rfl ?_
    refine WL_stepM rfl (R_mv) ?_
    refine WL_guard_t rfl rfl ?_
    refine WL_step rfl (R_eq_t rfl rfl (by omega)) ?_
    refine WL_stepM rfl (R_pk_t rfl) ?_
    refine WL_stepM rfl (R_mv) ?_
    refine WL_guard_t rfl rfl ?_
    refine WL_stepM rfl (R_mv) ?_
    refine WL_guard_t rfl rfl ?_
    refine WL_step rfl (R_eq_t rfl rfl (by omega)) ?_
    refine WL_stepM rfl (R_pk_t rfl) ?_
    refine WL_stepM rfl (R_mv) ?_
    refine WL_guard_t rfl rfl ?_
    refine WL_stepM rfl (R_mv) ?_
    refine WL_guard_t rfl rfl ?_
    refine WL_step rfl (R_eq_t rfl rfl (by omega)) ?_
    refine WL_stepM rfl (R_pk_t rfl) ?_
    refine WL_stepM rfl (R_mv) ?_
    refine WL_guard_t rfl rfl ?_
    refine WL_stepM rfl (R_mv) ?_
    refine WL_guard_t rfl rfl ?_
    (refine WL_call rfl (R_call rfl Try.call14 rfl) (store_yes (xs := ys) (ys := []) 64 (H.get (.there .here)) (H.get .here) hy hM RdS.nil (by simp; omega)) ?_; rintro _ w140 ⟨rfl, H1⟩; replace H := H.seq H1 (okSeq_set .here okSeq_nil); clear H1)
    refine WL_guard_t rfl rfl ?_
    refine WL_step rfl (R_eq_t rfl rfl (by omega)) ?_
    refine WL_stepM rfl (R_pk_t rfl) ?_
    refine WL_stepM rfl (R_mv) ?_
    refine WL_guard_t rfl rfl ?_
    refine WL_stepM rfl (R_mv) ?_
    refine WL_guard_t rfl rfl ?_
    refine WL_stepM rfl (R_mv) ?_
    refine WL_guard_t rfl rfl ?_
    (refine WL_call rfl (R_call rfl Try.call17 rfl) (Ref1.within_yes _ (by omega) (by omega) (by omega) (by omega) (by omega)) ?_; rintro _ w150 ⟨rfl, H1⟩; replace H := H.seq0 H1; clear H1)
    refine WL_guard_t rfl rfl ?_
    refine WL_stepM rfl (R_mv) ?_
    refine WL_guard_t rfl rfl ?_
    refine WL_step rfl (R_eq_bool_t Try.underlying4 rfl rfl (by decide)) ?_
    refine WL_stepM rfl (R_pk_t rfl) ?_
    refine WL_stepM rfl (R_mv) ?_
    refine WL_guard_t rfl rfl ?_
    (refine WL_call rfl (R_call rfl Try.call18 rfl) (awake_ret _) ?_; rintro _ w158 ⟨rfl, H1⟩; replace H := H.seq0 H1; clear H1)
    refine WL_stepM rfl (R_pk_t rfl) ?_
    refine WL_stepM rfl (R_as) ?_
    refine WL_nil ?_
    refine W_ret ?_
    exact ⟨_, rfl, rfl, H.none (by repeat' first | exact kNil | apply kCons | apply kApp | assumption | exact OwnS.keys (by assumption))⟩
  · refine W_seq ?_
    refine W_region_l ?_
    refine WL_stepM rfl (R_as) ?_
    refine WL_nil ?_
    refine W_seq ?_
    refine W_region_l ?_
    (refine WL_call rfl (R_call rfl Try.call13 rfl) (new_ret 1 _) ?_; rintro _ w7 ⟨p, b, rfl, H1, hp, hb⟩; rw [show szOf 1 = 64 from rfl, ← zmap, ← hxs] at H1; replace H := H.seq H1 (okSeq_new hp (okSeq_new hb okSeq_nil)); clear H1)
    refine WL_stepM rfl (R_as) ?_
    refine WL_nil ?_
    refine W_seq ?_
    refine W_seq ?_
    refine W_region_l ?_
    refine WL_stepM rfl (R_mv) ?_
    refine WL_step rfl (R_eq_ptr_nil Try.underlying22 rfl rfl) ?_
    refine WL_nil ?_
    refine W_cond_f rfl ?_
    refine W_skip ?_
    refine W_seq ?_
    refine W_region_l ?_
    refine WL_stepM rfl (R_mv) ?_
    (refine WL_step rfl (R_bits rfl rfl (by simp) ((and_mask_i64 6 64 (by decide) rfl (by decide)).trans hi)) ?_)
    refine WL_stepM rfl (R_mv) ?_
    (refine WL_step rfl (R_bits rfl rfl (by simp) ((and_mask_i64 7 128 (by decide) rfl (by decide)).trans hn)) ?_)
    refine WL_stepM rfl (R_as) ?_
    refine WL_stepM rfl (R_as) ?_
    refine WL_nil ?_
    refine W_seq ?_
    refine W_region_l ?_
    refine WL_stepM rfl (R_mv) ?_
    refine WL_stepM rfl (R_mv) ?_
    refine WL_step rfl (R_sub rfl rfl (w_i64 (by omega))) ?_
    refine WL_step rfl (R_le_f rfl rfl (by omega)) ?_
    refine WL_stepM rfl (R_as) ?_
    refine WL_nil ?_
    refine W_seq ?_
    refine W_region_l ?_
    refine WL_stepM rfl (R_mv) ?_
    refine WL_stepM rfl (R_mv) ?_
    refine WL_stepM rfl (R_mv) ?_
    (refine WL_effn rfl (E_makeSlice H Try.underlying26 Try.sizeOf5 Try.typeInfo5 Try.zeroValue5 rfl rfl rfl (by omega) (by omega) (by omega) (by simp only [Try.t5]; omega)) ?_; clear H; intro b40 w40 hb40 H)
    (refine WL_call rfl (R_call rfl Try.call14 rfl) (store_no (xs := xs) (ys := List.replicate n (Value.int .u8 0)) i (H.get (.there (.there .here))) hx hN (RdS.blk (H.get .here) (by simp) (by simp) (by simp)) (by simp; omega) (by simp; omega)) ?_; rintro _ w41 ⟨rfl, H1⟩; replace H := (H.seq0 H1).pop (by assumption); clear H1)
    refine WL_stepM rfl (R_as) ?_
    refine WL_nil ?_
    refine W_seq ?_
    refine W_region_l ?_
    refine WL_stepM rfl (R_mv) ?_
    refine WL_stepM rfl (R_mv) ?_
    refine WL_stepM rfl (R_mv) ?_
    (refine WL_call rfl (R_call rfl Try.call15 rfl) (load_no (xs := xs) i n (H.get (.there .here)) hx hN (by omega)) ?_; rintro _ w49 ⟨rfl, H1⟩; replace H := H.seq0 H1; clear H1)
    refine WL_stepM rfl (R_mv) ?_
    refine WL_step rfl (R_extract rfl rfl) ?_
    refine WL_step rfl (R_extract rfl rfl) ?_
    refine WL_stepM rfl (R_as) ?_
    refine WL_stepM rfl (R_as) ?_
    refine WL_nil ?_
    refine W_seq ?_
    refine W_region_l ?_
    refine WL_stepM rfl (R_mv) ?_
    (refine WL_call rfl (R_call rfl Try.call16 rfl) (word_no (xs := xs) 61 (H.get (.there .here)) hx hN (by omega)) ?_; rintro _ w59 ⟨rfl, H1⟩; replace H := H.seq0 H1; clear H1)
    refine WL_stepM rfl (R_mv) ?_
    refine WL_step rfl (R_extract rfl rfl) ?_
    refine WL_step rfl (R_extract rfl rfl) ?_
    refine WL_stepM rfl (R_as) ?_
    refine WL_stepM rfl (R_as) ?_
    refine WL_nil ?_
    refine W_seq ?_
    refine W_region_l ?_
    refine WL_stepM rfl (R_mv) ?_
    (refine WL_call rfl (R_call rfl Try.call16 rfl) (word_yes (xs := xs) 60 (H.get (.there .here)) (H.get .here) hx hN (by omega)) ?_; rintro _ w69 ⟨rfl, H1⟩; replace H := H.seq0 H1; clear H1)
    refine WL_stepM rfl (R_mv) ?_
    refine WL_step rfl (R_extract rfl rfl) ?_
    refine WL_step rfl (R_extract rfl rfl) ?_
    refine WL_stepM rfl (R_as) ?_
    refine WL_stepM rfl (R_as) ?_
    refine WL_nil ?_
    refine W_seq ?_
    refine W_region_l ?_
    refine WL_stepM rfl (R_mv) ?_
    (refine WL_call rfl (R_call rfl Try.call15 rfl) (load_yes (xs := xs) 64 0 (H.get (.there .here)) (H.get .here) hx hN (by omega)) ?_; rintro _ w79 ⟨u2, M2, rfl, hO, H1⟩; replace H := H.seqD H1 hO.keys; clear H1 hO)
    refine WL_stepM rfl (R_mv) ?_
    refine WL_step rfl (R_extract rfl rfl) ?_
    refine WL_step rfl (R_extract rfl rfl) ?_
    refine WL_stepM rfl (R_as) ?_
    refine WL_stepM rfl (R_as) ?_
    refine WL_nil ?_
    refine W_seq ?_
    refine W_region_l ?_
    refine WL_stepM rfl (R_mv) ?_
    (refine WL_call rfl (R_call rfl Try.call15 rfl) (load_no (xs := xs) 65 0 (H.get (.there .here)) hx hN (by omega)) ?_; rintro _ w89 ⟨rfl, H1⟩; replace H := H.seq0 H1; clear H1)
    refine WL_stepM rfl (R_mv) ?_
    refine WL_step rfl (R_extract rfl rfl) ?_
    refine WL_step rfl (R_extract rfl rfl) ?_
    refine WL_stepM rfl (R_as) ?_
    refine WL_stepM rfl (R_as) ?_
    refine WL_nil ?_
    refine W_seq ?_
    refine W_region_l ?_
    refine WL_stepM rfl (R_mv) ?_
    refine WL_step rfl (R_eq_f rfl rfl (by omega)) ?_
    refine WL_stepM rfl (R_mv) ?_
    refine WL_step rfl (R_eq_bool_t Try.underlying4 rfl rfl (by decide)) ?_
    refine WL_stepM rfl (R_mv) ?_
    refine WL_guard_t rfl rfl ?_
    refine WL_stepM rfl (R_mv) ?_
    refine WL_guard_t rfl rfl ?_
    refine WL_step rfl (R_eq_f rfl rfl (by omega)) ?_
    refine WL_guard_t rfl rfl ?_
    refine WL_stepM rfl (R_mv) ?_
    refine WL_guard_t rfl rfl ?_
    refine WL_step rfl (R_eq_bool_t Try.underlying4 rfl rfl (by decide)) ?_
    refine WL_stepM rfl (R_pk_t rfl) ?_
    refine WL_stepM rfl (R_mv) ?_
    refine WL_guard_t rfl rfl ?_
    refine WL_stepM rfl (R_mv) ?_
    refine WL_guard_t rfl rfl ?_
    refine WL_step rfl (R_eq_t rfl rfl (by omega)) ?_
    refine WL_stepM rfl (R_pk_t rfl) ?_
    refine WL_stepM rfl (R_mv) ?_
    refine WL_guard_t rfl rfl ?_
    refine WL_stepM rfl (R_mv) ?_
    refine WL_guard_t rfl rfl ?_
    refine WL_step rfl (R_eq_t rfl rfl (by omega)) ?_
    refine WL_stepM rfl (R_pk_t rfl) ?_
    refine WL_stepM rfl (R_mv) ?_
    refine WL_guard_t rfl rfl ?_
    refine WL_stepM rfl (R_mv) ?_
    refine WL_guard_t rfl rfl ?_
    refine WL_step rfl (R_eq_t rfl rfl (by omega)) ?_
    refine WL_stepM rfl (R_pk_t rfl) ?_
    refine WL_stepM rfl (R_mv) ?_
    refine WL_guard_t rfl rfl ?_
    refine WL_stepM rfl (R_mv) ?_
    refine WL_guard_t rfl rfl ?_
    refine WL_step rfl (R_eq_t rfl rfl (by omega)) ?_
    refine WL_stepM rfl (R_pk_t rfl) ?_
    refine WL_stepM rfl (R_mv) ?_
    refine WL_guard_t rfl rfl ?_
    refine WL_stepM rfl (R_mv) ?_
    refine WL_guard_t rfl rfl ?_
    (refine WL_call rfl (R_call rfl Try.call14 rfl) (store_yes (xs := xs) (ys := []) 64 (H.get (.there .here)) (H.get .here) hx hN RdS.nil (by simp; omega)) ?_; rintro _ w140 ⟨rfl, H1⟩; replace H := H.seq H1 (okSeq_set .here okSeq_nil); clear H1)
    refine WL_guard_t rfl rfl ?_
    refine WL_step rfl (R_eq_t rfl rfl (by omega)) ?_
    refine WL_stepM rfl (R_pk_t rfl) ?_
    refine WL_stepM rfl (R_mv) ?_
    refine WL_guard_t rfl rfl ?_
    refine WL_stepM rfl (R_mv) ?_
    refine WL_guard_t rfl rfl ?_
    refine WL_stepM rfl (R_mv) ?_
    refine WL_guard_t rfl rfl ?_
    (refine WL_call rfl (R_call rfl Try.call17 rfl) (Ref1.within_no _ (by omega) (by omega)) ?_; rintro _ w150 ⟨rfl, H1⟩; replace H := H.seq0 H1; clear H1)
    refine WL_guard_t rfl rfl ?_
    refine WL_stepM rfl (R_mv) ?_
    refine WL_guard_t rfl rfl ?_
    refine WL_step rfl (R_eq_bool_t Try.underlying4 rfl rfl (by decide)) ?_
    refine WL_stepM rfl (R_pk_t rfl) ?_
    refine WL_stepM rfl (R_mv) ?_
    refine WL_guard_t rfl rfl ?_
    (refine WL_call rfl (R_call rfl Try.call18 rfl) (awake_ret _) ?_; rintro _ w158 ⟨rfl, H1⟩; replace H := H.seq0 H1; clear H1)
    refine WL_stepM rfl (R_pk_t rfl) ?_
    refine WL_stepM rfl (R_as) ?_
    refine WL_nil ?_
    refine W_ret ?_
    exact ⟨_, rfl, rfl, H.none (by repeat' first | exact kNil | apply kCons | apply kApp | assumption | exact OwnS.keys (by assumption))⟩
end Go.Proofs.Ytjkkfahjgaidbaa.Mem

/-
  The law SectAgain.
-/
import Derived.Test.YtaclingiedmpbaaSectD
namespace Go.Proofs.Ytaclingiedmpbaa.Sect
open Go Go.Proofs Go.Proofs.Ytaclingiedmpbaa.Fx
set_option maxRecDepth 100000
set_option linter.unusedVariables false
set_option linter.unusedSimpArgs false
set_option maxHeartbeats 1000000

/-- a, and on, k numbers -/
def up (a : Int) : Nat → List Int
  | 0 => []
  | k + 1 => a :: up (a + 1) k
theorem up_length (a : Int) (k : Nat) : (up a k).length = k := by
  induction k generalizing a with
  | zero => rfl
  | succ k ih => simp [up, ih]
theorem up_mem {x a : Int} {k : Nat} : x ∈ up a k ↔ a ≤ x ∧ x < a + k := by
  induction k generalizing a with
  | zero => simp only [up, List.not_mem_nil, false_iff]; omega
  | succ k ih => simp only [up, List.mem_cons, ih]; omega
theorem up_snoc (a : Int) (k : Nat) : up a (k + 1) = up a k ++ [a + k] := by
  induction k generalizing a with
  | zero => simp [up]
  | succ k ih => rw [up, ih (a + 1), up, List.cons_append]; congr 3; push_cast; omega

/-- nought holds from nought on, others wait -/
def ag1 (k : Nat) : Sx := ⟨1000, true, 0, 1, 0, up 1 k, 0, 0, 1⟩
def ag0 (k : Nat) : Sx := ⟨1000, false, 0, 1, 0, up 1 k, 0, 0, 1⟩
/-- the turn of the j-th one who waited -/
def ag2 (n j : Nat) : Sx := ⟨1000, false, (j : Int) - 1, j, 0, up j (n + 1 - j) ++ [0], 0, 0, j⟩
/-- it is in -/
def ag3 (n j : Nat) : Sx := ⟨1000, true, j, (j : Int) + 1, 0, up ((j : Int) + 1) (n - j) ++ [0], 0, 0, (j : Int) + 1⟩
theorem ag3_q (n j : Nat) : (ag3 n j).q = (ag2 n (j + 1)).q := by simp [ag2, ag3]
theorem ag3_out {n j : Nat} (h : j ≤ n) : leaveSx (ag3 n j) j ((j : Int) + 1) = ag2 n (j + 1) := by
  unfold leaveSx
  rw [if_pos ⟨rfl, rfl, rfl⟩]
  have e : (j : Int) + 1 - 1 = j := by omega
  simp [ag2, ag3, e]

theorem ag_start : enter (newSx 1000) 0 0 = (ag1 0, 1, true) := by
  rw [newSx_ok (by omega) (by omega)]
  simp [enter, enterA, enterB, en2, en3, en4, en5, ag1, up]
theorem ag_wait {k : Nat} (h : k < 90) : enter (ag1 k) ((k : Int) + 1) 0 = (ag1 (k + 1), 0, false) := by
  have hm : ¬ ((k : Int) + 1 ∈ up 1 k) := fun h => by have := up_mem.1 h; omega
  have h1 : ¬ ((k : Int) + 1 < 0 ∨ 99 < (k : Int) + 1) := by omega
  have h2 : ¬ (0 : Int) = (k : Int) + 1 := by omega
  have hu : up 1 k ++ [(k : Int) + 1] = up 1 (k + 1) := by rw [up_snoc, Int.add_comm]
  unfold enter enterA enterB en2 en3
  rw [if_neg h1]
  by_cases h0 : up 1 k = []
  · simp [ag1, hm, h2, hu, h0]
    rw [← hu, h0]; rfl
  · simp [ag1, hm, h2, hu, h0]
theorem ag_back {n : Nat} (h : 1 ≤ n) (hn : n < 90) : enter (ag0 n) 0 0 = (ag2 n 1, 0, false) := by
  obtain ⟨k, rfl⟩ : ∃ k, n = k + 1 := ⟨n - 1, by omega⟩
  have hm : ¬ ((0 : Int) ∈ up 2 k) := fun h => by have := up_mem.1 h; omega
  have e : k + 1 + 1 - 1 = k + 1 := by omega
  simp [enter, enterA, enterB, en2, en3, en4, ag0, ag2, hm, up]
theorem ag_turn {n j : Nat} (h : 1 ≤ j) (hj : j ≤ n) (hn : n < 90) : enter (ag2 n j) j 0 = (ag3 n j, (j : Int) + 1, true) := by
  obtain ⟨k, hk⟩ : ∃ k, n + 1 - j = k + 1 := ⟨n - j, by omega⟩
  have hk2 : n - j = k := by omega
  have h1 : ¬ ((j : Int) < 0 ∨ 99 < (j : Int)) := by omega
  have e : (j : Int) + 1 - 1 = j := by omega
  simp [enter, enterA, enterB, en2, en3, en4, en5, ag2, ag3, hk, hk2, up, h1, e]
theorem ag_last {n : Nat} (hn : n < 90) : enter (ag2 n (n + 1)) 0 0 = (⟨1000, true, 0, (n : Int) + 2, 0, [], 0, 0, (n : Int) + 2⟩, (n : Int) + 2, true) := by
  have e : (n : Int) + 1 + 1 = n + 2 := by omega
  simp [enter, enterA, enterB, en2, en3, en4, en5, ag2, up, e]

theorem ag_bd1 {k : Nat} (h : k < 90) : Bd (ag1 k) 10 := by
  refine ⟨(by decide : (1 : Int) ≤ 1000), (by decide : (0 : Int) ≤ 0), (by decide : (0 : Int) ≤ 10), (by decide : (0 : Int) ≤ 0), (by decide : (0 : Int) ≤ 10), (by decide : (0 : Int) ≤ 0), (by decide : (0 : Int) ≤ 10), (by decide : (0 : Int) ≤ 1), (by decide : (1 : Int) ≤ 1000000), ?_⟩
  show (up 1 k).length ≤ _
  rw [up_length]; omega
theorem ag_bd0 {k : Nat} (h : k < 90) : Bd (ag0 k) 10 := by
  obtain ⟨a, b, c, d, e, f, g, i, j, l⟩ := ag_bd1 h
  exact ⟨a, b, c, d, e, f, g, i, j, l⟩
theorem ag_bd2 {n j : Nat} (h : n < 90) (hj : j ≤ n + 1) : Bd (ag2 n j) 10 := by
  refine ⟨(by decide : (1 : Int) ≤ 1000), (by decide : (0 : Int) ≤ 0), (by decide : (0 : Int) ≤ 10), (by decide : (0 : Int) ≤ 0), (by decide : (0 : Int) ≤ 10), (by decide : (0 : Int) ≤ 0), (by decide : (0 : Int) ≤ 10), ?_, ?_, ?_⟩
  · show (0 : Int) ≤ j; omega
  · show (j : Int) ≤ _; omega
  · show (up j (n + 1 - j) ++ [0]).length ≤ _
    rw [List.length_append, up_length]; simp; omega

section
variable {w : World} {p : Nat}

theorem again_ret (a : Int) (w : World) :
    Ret Try.prog 4 #[I a] w fun v w' => v = .bool true ∧ Hp w [] w' := by
  refine Ret_of_W (args := [_]) Try.func4 rfl Try.ntmps4 Try.results4 (by simp) ?_
  have H := Hp.refl w
  have hQ := OwnQ.nil w.heap.size 3
  obtain ⟨n, hn, hn1, hn2⟩ : ∃ n : Nat, a % 8 + 1 = (n : Int) ∧ 1 ≤ n ∧ n ≤ 8 := ⟨(a % 8 + 1).toNat, by omega, by omega, by omega⟩
  refine W_seq ?_
  refine W_region_l ?_
  refine WL_stepM rfl (R_as) ?_
  refine WL_nil ?_
  refine W_seq ?_
  refine W_region_l ?_
  refine WL_stepM rfl (R_mv) ?_
  refine WL_step rfl (R_bits rfl rfl (by simp) (and_mask_i64 3 8 (by decide) rfl (by decide))) ?_
  refine WL_step rfl (R_add rfl rfl (w_i64 (by omega))) ?_
  refine WL_stepM rfl (R_as) ?_
  refine WL_nil ?_
  refine W_seq ?_
  (rw [hn]) <;> refine W_region_l ?_
  (refine WL_call rfl (R_call rfl Try.call14 rfl) (new_ret 1000 _) ?_; clear H; rintro _ w14 ⟨p, rfl, hp, H⟩)
  refine WL_stepM rfl (R_as) ?_
  refine WL_nil ?_
  refine W_seq ?_
  refine W_seq ?_
  refine W_region_l ?_
  refine WL_stepM rfl (R_mv) ?_
  refine WL_step rfl (R_eq_ptr_nil Try.underlying23 rfl rfl) ?_
  refine WL_nil ?_
  refine W_cond_f rfl ?_
  refine W_skip ?_
  refine W_seq ?_
  refine W_region_l ?_
  refine WL_stepM rfl (R_mv) ?_
  (refine WL_call rfl (R_call rfl Try.call15 rfl) (enter_to (Mq := []) (R := []) (T := 10) 0 0 ag_start hQ H ((Bk.new _).bd' (by omega)) (by omega) (by omega)) ?_; clear H hQ; rintro _ w28 ⟨q1, M1, rfl, hQ, H⟩)
  refine WL_stepM rfl (R_mv) ?_
  refine WL_step rfl (R_extract rfl rfl) ?_
  refine WL_step rfl (R_extract rfl rfl) ?_
  refine WL_stepM rfl (R_as) ?_
  refine WL_stepM rfl (R_as) ?_
  refine WL_nil ?_
  refine W_seq ?_
  refine W_seq ?_
  refine W_region_l ?_
  refine WL_stepM rfl (R_as) ?_
  refine WL_nil ?_
  refine W_block ?_
  refine W_loopS [(2, 2), (6, 8), (27, 38)] (fun (k : Nat) E w' => ∃ qv M, k ≤ n ∧ E 6 = I ((k : Int) + 1) ∧ OwnQ w.heap.size 3 qv ((ag1 k).q.map I) M ∧ Hp w (M ++ ((p, blk (sxC (ag1 k) qv) 64) :: [])) w') (fun k => n - k) 0 ?e0 ?r0
  · exact ⟨_, _, by omega, rfl, hQ, H⟩
  · (clear H hQ; rintro k E w1 ⟨qv, M, hk, h0, hQ, H⟩; refine W_kn h0 ?_)
    refine W_seq ?_
    refine W_seq ?_
    refine W_region_l ?_
    refine WL_stepM rfl (R_mv) ?_
    refine WL_stepM rfl (R_mv) ?_
    refine WL_step rfl (R_le rfl rfl) ?_
    refine WL_nil ?_
    refine W_if rfl (fun h50 => ?_) (fun h50 => ?_)
    · refine W_skip ?_
      refine W_seq ?_
      refine W_block ?_
      refine W_seq ?_
      refine W_region_l ?_
      refine WL_stepM rfl (R_mv) ?_
      refine WL_stepM rfl (R_mv) ?_
      (refine WL_call rfl (R_call rfl Try.call15 rfl) (enter_to (R := []) (T := 10) _ 0 (ag_wait (k := k) (by omega)) hQ H (ag_bd1 (by omega)) (by omega) (by omega)) ?_; clear H hQ; rintro _ w58 ⟨q1, M1, rfl, hQ, H⟩)
      refine WL_stepM rfl (R_mv) ?_
      refine WL_step rfl (R_extract rfl rfl) ?_
      refine WL_step rfl (R_extract rfl rfl) ?_
      refine WL_stepM rfl (R_as) ?_
      refine WL_stepM rfl (R_as) ?_
      refine WL_nil ?_
      refine W_seq ?_
      refine W_region_l ?_
      refine WL_stepM rfl (R_mv) ?_
      refine WL_nil ?_
      refine W_cond_f rfl ?_
      refine W_skip ?_
      refine W_region_l ?_
      refine WL_stepM rfl (R_mv) ?_
      refine WL_step rfl (R_add rfl rfl (w_i64 (by omega))) ?_
      refine WL_stepM rfl (R_as) ?_
      refine WL_nil ?_
      exact ⟨(by repeat' first | refine same_updo rfl ?_ | refine same_mov rfl ?_ | refine same_upd rfl ?_ | refine same_updn ?_ | refine same_know rfl ?_ | exact same_ovr | refine same_in rfl ?_ | exact Same.refl), k + 1, by omega, _, _, by omega, rfl, hQ, H⟩
    · refine W_exit ?_
      refine (if_pos rfl).mpr ?_
      refine W_seq ?_
      refine W_seq ?_
      ((obtain rfl : k = n := by omega)) <;> refine W_region_l ?_
      refine WL_stepM rfl (R_mv) ?_
      refine WL_step rfl (R_not_t rfl) ?_
      refine WL_stepM rfl (R_mv) ?_
      refine WL_guard_t rfl rfl ?_
      refine WL_stepM rfl (R_mv) ?_
      refine WL_guard_t rfl rfl ?_
      refine WL_stepM rfl (R_mv) ?_
      refine WL_guard_t rfl rfl ?_
      (refine WL_call rfl (R_call rfl Try.call17 rfl) (leave_to 0 1 (s' := ag0 k) (b := true) rfl rfl H) ?_; clear H; rintro _ w90 ⟨rfl, H⟩)
      refine WL_guard_t rfl rfl ?_
      refine WL_step rfl (R_not_t rfl) ?_
      refine WL_stepM rfl (R_pk_f rfl) ?_
      refine WL_nil ?_
      refine W_cond_f rfl ?_
      refine W_skip ?_
      refine W_seq ?_
      refine W_seq ?_
      refine W_region_l ?_
      refine WL_stepM rfl (R_mv) ?_
      (refine WL_call rfl (R_call rfl Try.call15 rfl) (enter_to (R := []) (T := 10) 0 0 (ag_back hn1 (by omega)) hQ H (ag_bd0 (k := k) (by omega)) (by omega) (by omega)) ?_; clear H hQ; rintro _ w101 ⟨q1, M1, rfl, hQ, H⟩)
      refine WL_stepM rfl (R_mv) ?_
      refine WL_step rfl (R_extract rfl rfl) ?_
      refine WL_step rfl (R_extract rfl rfl) ?_
      refine WL_stepM rfl (R_as) ?_
      refine WL_stepM rfl (R_as) ?_
      refine WL_nil ?_
      refine W_seq ?_
      refine W_region_l ?_
      refine WL_stepM rfl (R_mv) ?_
      refine WL_nil ?_
      refine W_cond_f rfl ?_
      refine W_skip ?_
      refine W_seq ?_
      refine W_seq ?_
      refine W_region_l ?_
      refine WL_stepM rfl (R_as) ?_
      refine WL_nil ?_
      refine W_block ?_
      refine W_loopS [(2, 2), (11, 13), (53, 79)] (fun (j : Nat) E w' => ∃ qv M, 1 ≤ j ∧ j ≤ k + 1 ∧ E 11 = I j ∧ OwnQ w.heap.size 3 qv ((ag2 k j).q.map I) M ∧ Hp w (M ++ ((p, blk (sxC (ag2 k j) qv) 64) :: [])) w') (fun j => k + 1 - j) 1 ?e2 ?r2
      · exact ⟨_, _, by omega, by omega, rfl, hQ, H⟩
      · (clear H hQ; rintro j E w1 ⟨qv, M, hj1, hj2, h1, hQ, H⟩; refine W_kn h1 ?_)
        refine W_seq ?_
        refine W_seq ?_
        refine W_region_l ?_
        refine WL_stepM rfl (R_mv) ?_
        refine WL_stepM rfl (R_mv) ?_
        refine WL_step rfl (R_le rfl rfl) ?_
        refine WL_nil ?_
        refine W_if rfl (fun h129 => ?_) (fun h129 => ?_)
        · refine W_skip ?_
          refine W_seq ?_
          refine W_block ?_
          refine W_seq ?_
          refine W_region_l ?_
          refine WL_stepM rfl (R_mv) ?_
          refine WL_stepM rfl (R_mv) ?_
          (refine WL_call rfl (R_call rfl Try.call15 rfl) (enter_to (R := []) (T := 10) _ 0 (ag_turn (n := k) (j := j) hj1 (by omega) (by omega)) hQ H (ag_bd2 (by omega) (by omega)) (by omega) (by omega)) ?_; clear H hQ; rintro _ w137 ⟨q1, M1, rfl, hQ, H⟩)
          refine WL_stepM rfl (R_mv) ?_
          refine WL_step rfl (R_extract rfl rfl) ?_
          refine WL_step rfl (R_extract rfl rfl) ?_
          refine WL_stepM rfl (R_as) ?_
          refine WL_stepM rfl (R_as) ?_
          refine WL_nil ?_
          refine W_seq ?_
          refine W_region_l ?_
          refine WL_stepM rfl (R_mv) ?_
          refine WL_step rfl (R_not_t rfl) ?_
          refine WL_stepM rfl (R_mv) ?_
          refine WL_guard_t rfl rfl ?_
          refine WL_stepM rfl (R_mv) ?_
          refine WL_guard_t rfl rfl ?_
          refine WL_stepM rfl (R_mv) ?_
          refine WL_guard_t rfl rfl ?_
          refine WL_stepM rfl (R_mv) ?_
          refine WL_guard_t rfl rfl ?_
          refine WL_step rfl (R_add rfl rfl (w_i64 (by omega))) ?_
          refine WL_guard_t rfl rfl ?_
          refine WL_step rfl (R_ne_f rfl rfl (by omega)) ?_
          refine WL_stepM rfl (R_pk_f rfl) ?_
          refine WL_stepM rfl (R_mv) ?_
          refine WL_guard_t rfl rfl ?_
          refine WL_stepM rfl (R_mv) ?_
          refine WL_guard_t rfl rfl ?_
          refine WL_stepM rfl (R_mv) ?_
          refine WL_guard_t rfl rfl ?_
          refine WL_stepM rfl (R_mv) ?_
          refine WL_guard_t rfl rfl ?_
          (refine WL_call rfl (R_call rfl Try.call17 rfl) (leave_to _ _ (s' := ag2 k (j + 1)) (b := true) (decide_eq_true ⟨rfl, rfl, rfl⟩) (ag3_out (by omega)) H) ?_; clear H; rintro _ w168 ⟨rfl, H⟩; rw [ag3_q] at hQ)
          refine WL_guard_t rfl rfl ?_
          refine WL_step rfl (R_not_t rfl) ?_
          refine WL_stepM rfl (R_pk_f rfl) ?_
          refine WL_nil ?_
          refine W_cond_f rfl ?_
          refine W_skip ?_
          refine W_region_l ?_
          refine WL_stepM rfl (R_mv) ?_
          refine WL_step rfl (R_add rfl rfl (w_i64 (by omega))) ?_
          refine WL_stepM rfl (R_as) ?_
          refine WL_nil ?_
          exact ⟨(by repeat' first | refine same_updo rfl ?_ | refine same_mov rfl ?_ | refine same_upd rfl ?_ | refine same_updn ?_ | refine same_know rfl ?_ | exact same_ovr | refine same_in rfl ?_ | exact Same.refl), j + 1, by omega, _, _, by omega, by omega, rfl, hQ, H⟩
        · refine W_exit ?_
          refine (if_pos rfl).mpr ?_
          refine W_seq ?_
          ((obtain rfl : j = k + 1 := by omega)) <;> refine W_region_l ?_
          refine WL_stepM rfl (R_mv) ?_
          (refine WL_call rfl (R_call rfl Try.call15 rfl) (enter_to (R := []) (T := 10) _ 0 (ag_last (n := k) (by omega)) hQ H (ag_bd2 (by omega) (by omega)) (by omega) (by omega)) ?_; clear H hQ; rintro _ w186 ⟨q1, M1, rfl, hQ, H⟩)
          refine WL_stepM rfl (R_mv) ?_
          refine WL_step rfl (R_extract rfl rfl) ?_
          refine WL_step rfl (R_extract rfl rfl) ?_
          refine WL_stepM rfl (R_as) ?_
          refine WL_stepM rfl (R_as) ?_
          refine WL_nil ?_
          refine W_seq ?_
          refine W_region_l ?_
          refine WL_stepM rfl (R_mv) ?_
          refine WL_stepM rfl (R_mv) ?_
          refine WL_guard_t rfl rfl ?_
          refine WL_stepM rfl (R_mv) ?_
          refine WL_guard_t rfl rfl ?_
          refine WL_stepM rfl (R_mv) ?_
          refine WL_guard_t rfl rfl ?_
          refine WL_stepM rfl (R_mv) ?_
          refine WL_guard_t rfl rfl ?_
          refine WL_step rfl (R_add rfl rfl (w_i64 (by omega))) ?_
          refine WL_guard_t rfl rfl ?_
          refine WL_step rfl (R_add rfl rfl (w_i64 (by omega))) ?_
          refine WL_guard_t rfl rfl ?_
          refine WL_step rfl (R_eq_t rfl rfl (by omega)) ?_
          refine WL_stepM rfl (R_pk_t rfl) ?_
          refine WL_stepM rfl (R_mv) ?_
          refine WL_guard_t rfl rfl ?_
          refine WL_stepM rfl (R_mv) ?_
          refine WL_guard_t rfl rfl ?_
          (refine WL_call rfl (R_call rfl Try.call19 rfl) (queue_ret (xs := []) hQ H (by decide)) ?_; rintro v5 w214 ⟨M5, hO5, H5⟩; obtain ⟨a5, c5, rfl⟩ := hO5.form; replace H := H.seqD H5 hO5.keys; clear H5)
          refine WL_guard_t rfl rfl ?_
          refine WL_step rfl (R_len_slice Try.underlying22 rfl) ?_
          refine WL_guard_t rfl rfl ?_
          refine WL_step rfl (R_eq_t rfl rfl (by decide)) ?_
          refine WL_stepM rfl (R_pk_t rfl) ?_
          refine WL_stepM rfl (R_mv) ?_
          refine WL_guard_t rfl rfl ?_
          (refine WL_call rfl (R_call rfl Try.call18 rfl) (awake_ret _) ?_; rintro _ w222 ⟨rfl, H1⟩; replace H := H.seq0 H1; clear H1)
          refine WL_stepM rfl (R_pk_t rfl) ?_
          refine WL_stepM rfl (R_as) ?_
          refine WL_nil ?_
          refine W_ret ?_
          exact ⟨_, rfl, rfl, H.none (kApp hQ.keys (kCons hp kNil))⟩
end
end Go.Proofs.Ytaclingiedmpbaa.Sect

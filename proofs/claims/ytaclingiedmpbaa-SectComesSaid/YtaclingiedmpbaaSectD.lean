/-
  The laws SectLease and SectAgain.
-/
import Derived.Test.YtaclingiedmpbaaSectC
namespace Go.Proofs.Ytaclingiedmpbaa.Sect
open Go Go.Proofs Go.Proofs.Ytaclingiedmpbaa.Fx
set_option maxRecDepth 100000
set_option linter.unusedVariables false
set_option linter.unusedSimpArgs false
set_option maxHeartbeats 1000000

theorem newSx_ok {L : Int} (h1 : 1 ≤ L) (h2 : L ≤ 1000) : newSx L = ⟨L, false, 0, 0, 0, [], 0, 0, 0⟩ := by
  unfold newSx
  rw [show min (max L 1) 1000 = L by omega]

/-- one holds from nought on -/
def lsSx (L : Int) (q : List Int) (f n : Int) : Sx := ⟨L, true, 1, 1, 0, q, f, n, 1⟩

theorem ls_start {L : Int} (h1 : 1 ≤ L) (h2 : L ≤ 1000) : enter (newSx L) 1 0 = (lsSx L [] 0 0, 1, true) := by
  rw [newSx_ok h1 h2]
  simp [enter, enterA, enterB, en2, en3, en4, en5, lsSx]
theorem ls_wait {L f n m : Int} {q : List Int} (h : q = [] ∨ q = [2]) (hn : n ≤ m) (hm : m < L) : enter (lsSx L q f n) 2 m = (lsSx L [2] m m, 0, false) := by
  have e : max m n = m := by omega
  have e2 : ¬ L ≤ m := by omega
  rcases h with rfl | rfl <;> simp [enter, enterA, enterB, en2, en3, en4, en5, lsSx, e, e2]
theorem ls_in {L f n m : Int} {q : List Int} (h : q = [] ∨ q = [2]) (hn : n ≤ m) (hm : L ≤ m) : enter (lsSx L q f n) 2 m = (⟨L, true, 2, 2, m, [], m, m, 2⟩, 2, true) := by
  have e : max m n = m := by omega
  rcases h with rfl | rfl <;> simp [enter, enterA, enterB, en2, en3, en4, en5, lsSx, e, hm]
theorem ls_own {L f n : Int} {q : List Int} : enter (lsSx L q f n) 1 n = (lsSx L q f n, 1, true) := by
  have e : max n n = n := by omega
  simp [enter, enterA, lsSx, e]
theorem ls_bd {L f n : Int} {q : List Int} (h : q = [] ∨ q = [2]) (h1 : 1 ≤ L) (hf : 0 ≤ f) (hn : f ≤ n) (h2 : n ≤ 10000) : Bd (lsSx L q f n) 10000 := by
  refine ⟨h1, (by decide : (0 : Int) ≤ 0), (by decide : (0 : Int) ≤ 10000), hf, Int.le_trans hn h2, Int.le_trans hf hn, h2, (by decide : (0 : Int) ≤ 1), (by decide : (1 : Int) ≤ 1000000), ?_⟩
  show q.length ≤ _
  rcases h with rfl | rfl <;> decide

section
variable {w : World} {p : Nat}

theorem lease_ret {xs : List Int} {l : Value} (a : Int) (hl : RdS w l (xs.map I)) (hb : xs.length ≤ 9223372036854775807) :
    Ret Try.prog 3 #[I a, l] w fun v w' => v = .bool true ∧ Hp w [] w' := by
  refine Ret_of_W (args := [_, _]) Try.func3 rfl Try.ntmps3 Try.results3 (by simp) ?_
  have H := Hp.refl w
  have hQ := OwnQ.nil w.heap.size 3
  obtain ⟨ao, ca, rfl⟩ := hl.form
  simp only [List.length_map] at hl ⊢
  obtain ⟨L, hL, hL1, hL2⟩ : ∃ L : Int, a % 256 % 100 + 1 = L ∧ 1 ≤ L ∧ L ≤ 100 := ⟨_, rfl, by omega, by omega⟩
  refine W_seq ?_
  refine W_region_l ?_
  refine WL_stepM rfl (R_as) ?_
  refine WL_nil ?_
  refine W_seq ?_
  refine W_region_l ?_
  refine WL_stepM rfl (R_mv) ?_
  refine WL_step rfl (R_bits rfl rfl (by simp) (and_mask_i64 8 256 (by decide) rfl (by decide))) ?_
  refine WL_step rfl (R_rem rfl rfl (by omega) (rem_pos (by omega))) ?_
  refine WL_step rfl (R_add rfl rfl (w_i64 (by omega))) ?_
  refine WL_stepM rfl (R_as) ?_
  refine WL_nil ?_
  refine W_seq ?_
  (rw [hL]) <;> refine W_region_l ?_
  refine WL_stepM rfl (R_mv) ?_
  (refine WL_call rfl (R_call rfl Try.call14 rfl) (new_ret L _) ?_; clear H; rintro _ w16 ⟨p, rfl, hp, H⟩)
  refine WL_stepM rfl (R_as) ?_
  refine WL_nil ?_
  refine W_seq ?_
  refine W_seq ?_
  refine W_region_l ?_
  refine WL_stepM rfl (R_mv) ?_
  refine WL_step rfl (R_eq_ptr_nil Try.underlying23 rfl rfl) ?_
  refine WL_nil ?_
  refine W_cond_f rfl ?_
  refine W_skip ?_
  refine W_seq ?_
  refine W_region_l ?_
  refine WL_stepM rfl (R_mv) ?_
  (refine WL_call rfl (R_call rfl Try.call15 rfl) (enter_to (n := 1) (b := true) (Mq := []) (R := []) (T := 10) 1 0 (ls_start hL1 (by omega)) hQ H ((Bk.new L).bd' (by omega)) (by omega) (by omega)) ?_; clear H hQ; rintro _ w30 ⟨q1, M1, rfl, hQ, H⟩)
  refine WL_stepM rfl (R_mv) ?_
  refine WL_step rfl (R_extract rfl rfl) ?_
  refine WL_step rfl (R_extract rfl rfl) ?_
  refine WL_stepM rfl (R_as) ?_
  refine WL_stepM rfl (R_as) ?_
  refine WL_nil ?_
  refine W_seq ?_
  refine W_seq ?_
  refine W_region_l ?_
  refine WL_stepM rfl (R_mv) ?_
  refine WL_step rfl (R_not_t rfl) ?_
  refine WL_nil ?_
  refine W_cond_f rfl ?_
  refine W_skip ?_
  refine W_seq ?_
  refine W_region_l ?_
  refine WL_stepM rfl (R_as) ?_
  refine WL_nil ?_
  refine W_seq ?_
  refine W_seq ?_
  refine W_region_l ?_
  refine WL_stepM rfl (R_as) ?_
  refine WL_nil ?_
  refine W_block ?_
  refine W_loopS [(4, 4), (8, 11), (29, 87)] (fun (k : Nat) E w' => ∃ q f n qv M, k ≤ xs.length ∧ k ≤ 30 ∧ E 8 = I n ∧ E 9 = I k ∧ (q = [] ∨ q = [2]) ∧ 0 ≤ f ∧ f ≤ n ∧ n ≤ 31 * k ∧ n < L ∧ OwnQ w.heap.size 3 qv (q.map I) M ∧ Hp w (M ++ ((p, blk (sxC (lsSx L q f n) qv) 64) :: [])) w') (fun k => 30 - k) 0 ?e0 ?r0
  · exact ⟨_, _, _, _, _, by omega, by omega, rfl, rfl, .inl rfl, by omega, by omega, by omega, by omega, hQ, H⟩
  · (clear H hQ; rintro k E w1 ⟨q, f, n, qv, M, hk, hk2, h0, h1, hq, hf0, hf1, hn1, hn2, hQ, H⟩; refine W_kn2 h0 h1 ?_)
    refine W_seq ?_
    refine W_seq ?_
    refine W_region_l ?_
    refine WL_stepM rfl (R_mv) ?_
    refine WL_stepM rfl (R_mv) ?_
    refine WL_step rfl (R_len_slice Try.underlying22 rfl) ?_
    refine WL_step rfl (R_lt rfl rfl) ?_
    refine WL_stepM rfl (R_mv) ?_
    apply WL_andK 3 33 36 [(34, 36)] H
    case hc => rfl
    case h1 =>
      intro h65
      refine WL_guard_t rfl rfl ?_
      refine WL_stepM rfl (R_mv) ?_
      refine WL_guard_t rfl rfl ?_
      refine WL_step rfl (R_lt rfl rfl) ?_
      refine WL_stepM rfl (R_pk_t rfl) ?_
      refine WL_nil ?_
      exact ⟨(by repeat' first | refine same_updo rfl ?_ | refine same_mov rfl ?_ | refine same_upd rfl ?_ | refine same_updn ?_ | refine same_know rfl ?_ | exact same_ovr | refine same_in rfl ?_ | exact Same.refl), rfl, H⟩
    case h0 =>
      intro h65
      refine WL_guard_f rfl rfl (by decide) ?_
      refine WL_guard_f rfl rfl (by decide) ?_
      refine WL_stepM rfl (R_pk_f rfl) ?_
      refine WL_nil ?_
      exact ⟨(by repeat' first | refine same_updo rfl ?_ | refine same_mov rfl ?_ | refine same_upd rfl ?_ | refine same_updn ?_ | refine same_know rfl ?_ | exact same_ovr | refine same_in rfl ?_ | exact Same.refl), rfl, H⟩
    case h2 =>
      (clear H; intro E65 w65 H)
      refine WL_nil ?_
      refine W_if rfl (fun h79 => ?_) (fun h79 => ?_)
      · refine W_skip ?_
        refine W_seq ?_
        refine W_block ?_
        refine W_seq ?_
        (obtain ⟨b1, o1, rfl, hc1⟩ := hl.cell (i := k) (u := I xs[k]) (by rw [List.getElem?_map, List.getElem?_eq_getElem (by omega)]; rfl)) <;> refine W_region_l ?_
        refine WL_stepM rfl (R_mv) ?_
        refine WL_stepM rfl (R_mv) ?_
        refine WL_stepM rfl (R_mv) ?_
        refine WL_step rfl (R_indexAddr Try.underlying22 Try.sizeOf3 rfl rfl (by omega) (by omega) idx_cast1) ?_
        refine WL_step rfl (R_load_cell Try.isAgg3 rfl (H.cellN hc1 (kApp hQ.keys (kCons hp kNil)))) ?_
        refine WL_step rfl (R_bits rfl rfl (by simp) (and_mask_i64 5 32 (by decide) rfl (by decide))) ?_
        refine WL_step rfl (R_add rfl rfl (w_i64 (by omega))) ?_
        refine WL_stepM rfl (R_as) ?_
        refine WL_nil ?_
        refine W_seq ?_
        (by_cases hm : n + xs[k] % 32 < L) <;> refine W_region_l ?_
        · refine WL_stepM rfl (R_mv) ?_
          refine WL_stepM rfl (R_mv) ?_
          (refine WL_call rfl (R_call rfl Try.call15 rfl) (enter_to (R := []) (T := 10000) 2 _ (ls_wait hq (by omega) hm) hQ H (ls_bd hq hL1 hf0 hf1 (by omega)) (by omega) (by omega)) ?_; clear H hQ; rintro _ w98 ⟨q1, M1, rfl, hQ, H⟩)
          refine WL_stepM rfl (R_mv) ?_
          refine WL_step rfl (R_extract rfl rfl) ?_
          refine WL_step rfl (R_extract rfl rfl) ?_
          refine WL_stepM rfl (R_as) ?_
          refine WL_stepM rfl (R_as) ?_
          refine WL_nil ?_
          refine W_seq ?_
          refine W_seq ?_
          refine W_region_l ?_
          refine WL_stepM rfl (R_mv) ?_
          refine WL_stepM rfl (R_mv) ?_
          refine WL_stepM rfl (R_mv) ?_
          refine WL_step rfl (R_ge_f rfl rfl (by omega)) ?_
          refine WL_step rfl (R_ne_bool_f Try.underlying4 rfl rfl (by decide)) ?_
          refine WL_stepM rfl (R_mv) ?_
          refine WL_guard_t rfl rfl ?_
          refine WL_stepM rfl (R_mv) ?_
          refine WL_guard_t rfl rfl ?_
          refine WL_stepM rfl (R_mv) ?_
          refine WL_guard_t rfl rfl ?_
          (refine WL_call rfl (R_call rfl Try.call16 rfl) (holds_to 1 1 (b := true) rfl H) ?_; clear H; rintro _ w119 ⟨rfl, H⟩)
          refine WL_guard_t rfl rfl ?_
          refine WL_stepM rfl (R_mv) ?_
          refine WL_guard_t rfl rfl ?_
          refine WL_step rfl (R_eq_bool_f Try.underlying4 rfl rfl (by decide)) ?_
          refine WL_stepM rfl (R_pk_f rfl) ?_
          refine WL_nil ?_
          refine W_cond_f rfl ?_
          refine W_skip ?_
          refine W_seq ?_
          refine W_region_l ?_
          refine WL_stepM rfl (R_mv) ?_
          refine WL_nil ?_
          refine W_cond_f rfl ?_
          refine W_skip ?_
          refine W_region_l ?_
          refine WL_stepM rfl (R_mv) ?_
          refine WL_step rfl (R_add rfl rfl (w_i64 (by omega))) ?_
          refine WL_stepM rfl (R_as) ?_
          refine WL_nil ?_
          exact ⟨(by repeat' first | refine same_updo rfl ?_ | refine same_mov rfl ?_ | refine same_upd rfl ?_ | refine same_updn ?_ | refine same_know rfl ?_ | exact same_ovr | refine same_in rfl ?_ | exact Same.refl), k + 1, by omega, _, _, _, _, _, by omega, by omega, rfl, rfl, .inr rfl, by omega, by omega, by omega, by omega, hQ, H⟩
        · refine WL_stepM rfl (R_mv) ?_
          refine WL_stepM rfl (R_mv) ?_
          (refine WL_call rfl (R_call rfl Try.call15 rfl) (enter_to (R := []) (T := 10000) 2 _ (ls_in hq (by omega) (Int.not_lt.1 hm)) hQ H (ls_bd hq hL1 hf0 hf1 (by omega)) (by omega) (by omega)) ?_; clear H hQ; rintro _ w142 ⟨q1, M1, rfl, hQ, H⟩)
          refine WL_stepM rfl (R_mv) ?_
          refine WL_step rfl (R_extract rfl rfl) ?_
          refine WL_step rfl (R_extract rfl rfl) ?_
          refine WL_stepM rfl (R_as) ?_
          refine WL_stepM rfl (R_as) ?_
          refine WL_nil ?_
          refine W_seq ?_
          refine W_seq ?_
          refine W_region_l ?_
          refine WL_stepM rfl (R_mv) ?_
          refine WL_stepM rfl (R_mv) ?_
          refine WL_stepM rfl (R_mv) ?_
          refine WL_step rfl (R_ge_t rfl rfl (by omega)) ?_
          refine WL_step rfl (R_ne_bool_f Try.underlying4 rfl rfl (by decide)) ?_
          refine WL_stepM rfl (R_mv) ?_
          refine WL_guard_t rfl rfl ?_
          refine WL_stepM rfl (R_mv) ?_
          refine WL_guard_t rfl rfl ?_
          refine WL_stepM rfl (R_mv) ?_
          refine WL_guard_t rfl rfl ?_
          (refine WL_call rfl (R_call rfl Try.call16 rfl) (holds_to 1 1 (b := false) rfl H) ?_; clear H; rintro _ w163 ⟨rfl, H⟩)
          refine WL_guard_t rfl rfl ?_
          refine WL_stepM rfl (R_mv) ?_
          refine WL_guard_t rfl rfl ?_
          refine WL_step rfl (R_eq_bool_f Try.underlying4 rfl rfl (by decide)) ?_
          refine WL_stepM rfl (R_pk_f rfl) ?_
          refine WL_nil ?_
          refine W_cond_f rfl ?_
          refine W_skip ?_
          refine W_seq ?_
          refine W_region_l ?_
          refine WL_stepM rfl (R_mv) ?_
          refine WL_nil ?_
          refine W_cond_t rfl ?_
          refine W_seq ?_
          refine W_region_l ?_
          refine WL_stepM rfl (R_mv) ?_
          refine WL_stepM rfl (R_mv) ?_
          refine WL_step rfl (R_add (r := 2) rfl rfl (by decide)) ?_
          refine WL_step rfl (R_eq_t rfl rfl (by omega)) ?_
          refine WL_stepM rfl (R_mv) ?_
          refine WL_guard_t rfl rfl ?_
          refine WL_stepM rfl (R_mv) ?_
          refine WL_guard_t rfl rfl ?_
          refine WL_stepM rfl (R_mv) ?_
          refine WL_guard_t rfl rfl ?_
          (refine WL_call rfl (R_call rfl Try.call16 rfl) (holds_to 2 2 (b := true) rfl H) ?_; clear H; rintro _ w189 ⟨rfl, H⟩)
          refine WL_stepM rfl (R_pk_t rfl) ?_
          refine WL_stepM rfl (R_mv) ?_
          refine WL_guard_t rfl rfl ?_
          refine WL_stepM rfl (R_mv) ?_
          refine WL_guard_t rfl rfl ?_
          refine WL_stepM rfl (R_mv) ?_
          refine WL_guard_t rfl rfl ?_
          (refine WL_call rfl (R_call rfl Try.call17 rfl) (leave_to 1 1 (b := false) rfl rfl H) ?_; clear H; rintro _ w197 ⟨rfl, H⟩)
          refine WL_guard_t rfl rfl ?_
          refine WL_step rfl (R_not_f rfl) ?_
          refine WL_stepM rfl (R_pk_t rfl) ?_
          refine WL_stepM rfl (R_mv) ?_
          refine WL_guard_t rfl rfl ?_
          refine WL_stepM rfl (R_mv) ?_
          refine WL_guard_t rfl rfl ?_
          refine WL_stepM rfl (R_mv) ?_
          refine WL_guard_t rfl rfl ?_
          (refine WL_call rfl (R_call rfl Try.call17 rfl) (leave_to 2 2 (b := true) rfl rfl H) ?_; clear H; rintro _ w207 ⟨rfl, H⟩)
          refine WL_stepM rfl (R_pk_t rfl) ?_
          refine WL_stepM rfl (R_mv) ?_
          refine WL_guard_t rfl rfl ?_
          (refine WL_call rfl (R_call rfl Try.call18 rfl) (awake_ret _) ?_; rintro _ w211 ⟨rfl, H1⟩; replace H := H.seq0 H1; clear H1)
          refine WL_stepM rfl (R_pk_t rfl) ?_
          refine WL_stepM rfl (R_as) ?_
          refine WL_nil ?_
          refine W_ret ?_
          exact ⟨_, rfl, rfl, H.none (kApp hQ.keys (kCons hp kNil))⟩
      · refine W_exit ?_
        refine (if_pos rfl).mpr ?_
        refine W_seq ?_
        refine W_region_l ?_
        refine WL_stepM rfl (R_mv) ?_
        refine WL_stepM rfl (R_mv) ?_
        (refine WL_call rfl (R_call rfl Try.call15 rfl) (enter_to (R := []) (T := 10000) 1 _ ls_own hQ H (ls_bd hq hL1 hf0 hf1 (by omega)) (by omega) (by omega)) ?_; clear H hQ; rintro _ w223 ⟨q1, M1, rfl, hQ, H⟩)
        refine WL_stepM rfl (R_mv) ?_
        refine WL_step rfl (R_extract rfl rfl) ?_
        refine WL_step rfl (R_extract rfl rfl) ?_
        refine WL_stepM rfl (R_as) ?_
        refine WL_stepM rfl (R_as) ?_
        refine WL_nil ?_
        refine W_seq ?_
        refine W_region_l ?_
        refine WL_stepM rfl (R_mv) ?_
        refine WL_stepM rfl (R_mv) ?_
        refine WL_guard_t rfl rfl ?_
        refine WL_stepM rfl (R_mv) ?_
        refine WL_guard_t rfl rfl ?_
        refine WL_stepM rfl (R_mv) ?_
        refine WL_guard_t rfl rfl ?_
        refine WL_step rfl (R_eq_t rfl rfl (by omega)) ?_
        refine WL_stepM rfl (R_pk_t rfl) ?_
        refine WL_stepM rfl (R_mv) ?_
        refine WL_guard_t rfl rfl ?_
        refine WL_stepM rfl (R_mv) ?_
        refine WL_guard_t rfl rfl ?_
        refine WL_stepM rfl (R_mv) ?_
        refine WL_guard_t rfl rfl ?_
        (refine WL_call rfl (R_call rfl Try.call17 rfl) (leave_to 1 1 (b := true) rfl rfl H) ?_; clear H; rintro _ w247 ⟨rfl, H⟩)
        refine WL_stepM rfl (R_pk_t rfl) ?_
        refine WL_stepM rfl (R_mv) ?_
        refine WL_guard_t rfl rfl ?_
        refine WL_stepM rfl (R_mv) ?_
        refine WL_guard_t rfl rfl ?_
        refine WL_stepM rfl (R_mv) ?_
        refine WL_guard_t rfl rfl ?_
        (refine WL_call rfl (R_call rfl Try.call17 rfl) (leave_to 1 1 (b := false) rfl rfl H) ?_; clear H; rintro _ w255 ⟨rfl, H⟩)
        refine WL_guard_t rfl rfl ?_
        refine WL_step rfl (R_not_f rfl) ?_
        refine WL_stepM rfl (R_pk_t rfl) ?_
        refine WL_stepM rfl (R_mv) ?_
        refine WL_guard_t rfl rfl ?_
        (refine WL_call rfl (R_call rfl Try.call18 rfl) (awake_ret _) ?_; rintro _ w261 ⟨rfl, H1⟩; replace H := H.seq0 H1; clear H1)
        refine WL_stepM rfl (R_pk_t rfl) ?_
        refine WL_stepM rfl (R_as) ?_
        refine WL_nil ?_
        refine W_ret ?_
        exact ⟨_, rfl, rfl, H.none (kApp hQ.keys (kCons hp kNil))⟩
end
end Go.Proofs.Ytaclingiedmpbaa.Sect

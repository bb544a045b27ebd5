/-
  The law PredTells.
-/
import Derived.Test.YtaclingiedmpbaaPredG
namespace Go.Proofs.Ytaclingiedmpbaa.Pred
open Go Go.Proofs Go.Proofs.Ytaclingiedmpbaa.Fx
set_option maxRecDepth 100000
set_option linter.unusedVariables false
set_option linter.unusedSimpArgs false
set_option maxHeartbeats 1000000

theorem tells_ret {raw : List In} {xs : List Int} {view : List UInt8} {w : World} {rv lv v : Value} (now : Int) (hr : RdR insC w rv raw) (hbr : raw.length ≤ 9223372036854775807)
    (hx : RdS w lv (xs.map I)) (hb : xs.length ≤ 9223372036854775807) (hv : RdS w v (view.map U)) (hbv : view.length ≤ 9223372036854775807) :
    Ret Try.prog 10 #[rv, lv, v, I now] w fun r w' => r = .bool true ∧ Hp w [] w' := by
  refine Ret_of_W (args := [_, _, _, _]) Try.func10 rfl Try.ntmps10 Try.results10 (by simp) ?_
  obtain ⟨ar, cr, rfl⟩ := hr.form
  obtain ⟨av, cv, rfl⟩ := hv.form
  simp only [List.length_map] at hv ⊢
  have H := Hp.refl w
  have hlen := tameL_length xs
  refine W_seq ?_
  refine W_region_l ?_
  refine WL_stepM rfl (R_as) ?_
  refine WL_nil ?_
  refine W_seq ?_
  refine W_seq ?_
  refine W_region_l ?_
  refine WL_stepM rfl (R_mv) ?_
  refine WL_step rfl (R_len_slice Try.underlying45 rfl) ?_
  refine WL_step rfl (R_gt rfl rfl) ?_
  refine WL_stepM rfl (R_mv) ?_
  apply WL_orK 4 18 22 [(19, 22)] H
  case hc => rfl
  case h1 =>
    intro h12
    refine WL_guard_t rfl rfl ?_
    refine WL_stepM rfl (R_mv) ?_
    refine WL_guard_t rfl rfl ?_
    refine WL_step rfl (R_len_slice Try.underlying42 rfl) ?_
    refine WL_guard_t rfl rfl ?_
    refine WL_step rfl (R_gt rfl rfl) ?_
    refine WL_stepM rfl (R_pk_f rfl) ?_
    refine WL_nil ?_
    exact ⟨(by repeat' first | refine same_updo rfl ?_ | refine same_mov rfl ?_ | refine same_upd rfl ?_ | refine same_updn ?_ | refine same_know rfl ?_ | exact same_ovr | refine same_in rfl ?_ | exact Same.refl), rfl, H⟩
  case h0 =>
    intro h12
    refine WL_guard_f rfl rfl (by decide) ?_
    refine WL_guard_f rfl rfl (by decide) ?_
    refine WL_guard_f rfl rfl (by decide) ?_
    refine WL_stepM rfl (R_pk_t rfl) ?_
    refine WL_nil ?_
    exact ⟨(by repeat' first | refine same_updo rfl ?_ | refine same_mov rfl ?_ | refine same_upd rfl ?_ | refine same_updn ?_ | refine same_know rfl ?_ | exact same_ovr | refine same_in rfl ?_ | exact Same.refl), rfl, H⟩
  case h2 =>
    (clear H; intro E12 w12 H)
    refine WL_nil ?_
    refine W_if rfl (fun h29 => ?_) (fun h29 => ?_)
    · refine W_seq ?_
      refine W_region_l ?_
      (refine WL_call rfl (R_call rfl Try.call22 rfl) (awake_ret _) ?_; rintro _ w32 ⟨rfl, H1⟩; replace H := H.seq0 H1; clear H1)
      refine WL_stepM rfl (R_as) ?_
      refine WL_nil ?_
      refine W_ret ?_
      exact ⟨_, rfl, rfl, H.none (by repeat' first | exact kNil | apply kCons | apply kApp | assumption | exact OwnS.keys (by assumption))⟩
    · refine W_skip ?_
      refine W_seq ?_
      refine W_region_l ?_
      refine WL_stepM rfl (R_mv) ?_
      refine WL_stepM rfl (R_as) ?_
      refine WL_nil ?_
      refine W_seq ?_
      refine W_seq ?_
      refine W_region_l ?_
      refine WL_stepM rfl (R_as) ?_
      refine WL_nil ?_
      refine W_block ?_
      refine W_loopS [(8, 14), (25, 60)] (fun (i : Nat) E w' => ∃ L v M, i ≤ 2 ∧ (∀ p ∈ M, w.heap.size ≤ p.1) ∧ E 9 = v ∧ E 10 = I i ∧ L.length ≤ 60 ∧ (i = 0 ∨ L = tameL xs) ∧ (∀ w2, Hp w M w2 → RdR insC w2 v L) ∧ Hp w M w') (fun i => 2 - i) 0 ?e0 ?r0
      · exact ⟨raw, _, [], by omega, kNil, rfl, rfl, by omega, .inl rfl, (fun w2 H => hr.monoN H kNil), H⟩
      · (clear H; rintro i E w1 ⟨L, v9, M, hi, hM, h0, h1, hL, hiL, hR, H⟩; refine W_kn2 h0 h1 ?_)
        refine W_seq ?_
        refine W_seq ?_
        refine W_region_l ?_
        refine WL_stepM rfl (R_mv) ?_
        refine WL_step rfl (R_lt rfl rfl) ?_
        refine WL_nil ?_
        refine W_if rfl (fun h57 => ?_) (fun h57 => ?_)
        · refine W_skip ?_
          refine W_seq ?_
          refine W_block ?_
          refine W_seq ?_
          refine W_region_l ?_
          refine WL_stepM rfl (R_mv) ?_
          refine WL_stepM rfl (R_mv) ?_
          refine WL_stepM rfl (R_mv) ?_
          (refine WL_call rfl (R_call rfl Try.call23 rfl) (eval_ret now (hv.monoN H hM) (hR _ H) hbv (by omega)) ?_; rintro _ w66 ⟨rfl, H1⟩; replace H := H.seq0 H1; clear H1)
          refine WL_stepM rfl (R_mv) ?_
          refine WL_step rfl (R_extract rfl rfl) ?_
          refine WL_step rfl (R_extract rfl rfl) ?_
          refine WL_stepM rfl (R_as) ?_
          refine WL_stepM rfl (R_as) ?_
          refine WL_nil ?_
          refine W_seq ?_
          refine W_region_l ?_
          refine WL_stepM rfl (R_mv) ?_
          refine WL_step rfl (R_conv_bs Try.underlying42 Try.underlying5 Try.underlying9 rfl (hv.monoN H hM)) ?_
          refine WL_stepM rfl (R_mv) ?_
          refine WL_stepM rfl (R_mv) ?_
          (refine WL_call rfl (R_call rfl Try.call26 rfl) (reval_ret now (hR _ H) hbv (by omega)) ?_; rintro _ w79 ⟨rfl, H1⟩; replace H := H.seq0 H1; clear H1)
          refine WL_stepM rfl (R_mv) ?_
          refine WL_step rfl (R_extract rfl rfl) ?_
          refine WL_step rfl (R_extract rfl rfl) ?_
          refine WL_stepM rfl (R_as) ?_
          refine WL_stepM rfl (R_as) ?_
          refine WL_nil ?_
          refine W_seq ?_
          refine W_seq ?_
          refine W_region_l ?_
          refine WL_stepM rfl (R_mv) ?_
          (refine WL_call rfl (R_call rfl Try.call24 rfl) (check_ret (hR _ H) (by omega)) ?_; rintro _ w90 ⟨rfl, H1⟩; replace H := H.seq0 H1; clear H1)
          refine WL_stepM rfl (R_mv) ?_
          (refine WL_call rfl (R_call rfl Try.call25 rfl) (rcheck_ret (hR _ H) (by omega)) ?_; rintro _ w92 ⟨rfl, H1⟩; replace H := H.seq0 H1; clear H1)
          refine WL_step rfl (R_ne_f rfl rfl (by omega)) ?_
          refine WL_stepM rfl (R_mv) ?_
          refine WL_guard_t rfl rfl ?_
          refine WL_stepM rfl (R_mv) ?_
          refine WL_guard_t rfl rfl ?_
          refine WL_stepM rfl (R_mv) ?_
          refine WL_guard_t rfl rfl ?_
          refine WL_step rfl (R_ne_bool_f Try.underlying4 rfl rfl rfl) ?_
          refine WL_stepM rfl (R_pk_f rfl) ?_
          refine WL_stepM rfl (R_mv) ?_
          refine WL_guard_t rfl rfl ?_
          refine WL_stepM rfl (R_mv) ?_
          refine WL_guard_t rfl rfl ?_
          refine WL_stepM rfl (R_mv) ?_
          refine WL_guard_t rfl rfl ?_
          refine WL_step rfl (R_ne_f rfl rfl (by omega)) ?_
          refine WL_stepM rfl (R_pk_f rfl) ?_
          refine WL_nil ?_
          refine W_cond_f rfl ?_
          refine W_skip ?_
          refine W_region_l ?_
          refine WL_stepM rfl (R_mv) ?_
          (refine WL_call rfl (R_call rfl Try.call27 rfl) (tame_ret (hx.monoN H hM) hb) ?_; rintro v5 w115 ⟨M2, hO, H1⟩; obtain ⟨hO, H⟩ := H.seqO hO H1; replace H := H.cut hM; clear H1)
          refine WL_stepM rfl (R_as) ?_
          refine WL_nil ?_
          refine W_region_l ?_
          refine WL_stepM rfl (R_mv) ?_
          refine WL_step rfl (R_add rfl rfl (w_i64 (by omega))) ?_
          refine WL_stepM rfl (R_as) ?_
          refine WL_nil ?_
          exact ⟨(by repeat' first | refine same_updo rfl ?_ | refine same_mov rfl ?_ | refine same_upd rfl ?_ | refine same_updn ?_ | refine same_know rfl ?_ | exact same_ovr | refine same_in rfl ?_ | exact Same.refl), i + 1, by omega, tameL xs, _, M2, by omega, hO.keys, rfl, rfl, by omega, .inr rfl, (fun w2 H => RdR.own insC_len hO rfl H.held), H⟩
        · refine W_exit ?_
          refine (if_pos rfl).mpr ?_
          refine W_seq ?_
          (obtain rfl : L = tameL xs := (by rcases hiL with h | h; omega; exact h)) <;> refine W_region_l ?_
          refine WL_stepM rfl (R_mv) ?_
          (refine WL_call rfl (R_call rfl Try.call25 rfl) (rcheck_ret (hR _ H) (by omega)) ?_; rintro _ w129 ⟨rfl, H1⟩; replace H := H.seq0 H1; clear H1)
          refine WL_step rfl (R_eq rfl rfl) ?_
          refine WL_stepM rfl (R_mv) ?_
          apply WL_andK 2 64 66 [(65, 66)] H
          case hc => rfl
          case h1 =>
            intro h132
            refine WL_guard_t rfl rfl ?_
            (refine WL_call rfl (R_call rfl Try.call22 rfl) (awake_ret _) ?_; rintro _ w134 ⟨rfl, H1⟩; replace H := H.seq0 H1; clear H1)
            refine WL_stepM rfl (R_pk_t rfl) ?_
            refine WL_nil ?_
            exact ⟨(by repeat' first | refine same_updo rfl ?_ | refine same_mov rfl ?_ | refine same_upd rfl ?_ | refine same_updn ?_ | refine same_know rfl ?_ | exact same_ovr | refine same_in rfl ?_ | exact Same.refl), decV rfl, H⟩
          case h0 =>
            intro h132
            refine WL_guard_f rfl rfl (by decide) ?_
            refine WL_stepM rfl (R_pk_f rfl) ?_
            refine WL_nil ?_
            exact ⟨(by repeat' first | refine same_updo rfl ?_ | refine same_mov rfl ?_ | refine same_upd rfl ?_ | refine same_updn ?_ | refine same_know rfl ?_ | exact same_ovr | refine same_in rfl ?_ | exact Same.refl), rfl, H⟩
          case h2 =>
            (clear H; intro E132 w132 H)
            refine WL_stepM rfl (R_as) ?_
            refine WL_nil ?_
            refine W_ret ?_
            exact ⟨_, rfl, congrArg Value.bool (decide_eq_true (by simp [tameL_chk])), H.none hM⟩
end Go.Proofs.Ytaclingiedmpbaa.Pred

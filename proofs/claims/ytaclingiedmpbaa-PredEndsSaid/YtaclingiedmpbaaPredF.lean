/-
  The law PredEnds.
-/
import Derived.Test.YtaclingiedmpbaaPredE
namespace Go.Proofs.Ytaclingiedmpbaa.Pred
open Go Go.Proofs Go.Proofs.Ytaclingiedmpbaa.Fx
set_option maxRecDepth 100000
set_option linter.unusedVariables false
set_option linter.unusedSimpArgs false
set_option maxHeartbeats 1000000

theorem evS_le (view : List UInt8) (now : Int) : ∀ (f : Nat) (l : List In) (n : Int), (evS view now f l n).2 ≤ l.length
  | 0, _, _ => Nat.zero_le _
  | _ + 1, [], _ => Nat.le_refl _
  | f + 1, i :: l, n => by
    unfold evS
    split
    · simp
    · have := evS_le view now f (l.drop (doS n i).toNat) (doN view now n i)
      rw [List.length_drop] at this
      simp only [List.length_cons]
      omega
theorem evS_some (view : List UInt8) (now : Int) : ∀ (f : Nat) (l : List In) (n : Int), (evS view now f l n).1 = true → (l.any fun i => decide (i.op = 6)) = true
  | 0, _, _, h => by cases h
  | _ + 1, [], _, h => by cases h
  | f + 1, i :: l, n, h => by
    unfold evS at h
    rw [List.any_cons]
    split at h
    · rename_i h6; rw [decide_eq_true h6, Bool.true_or]
    · have := evS_some view now f (l.drop (doS n i).toNat) (doN view now n i) h
      obtain ⟨x, hx, h6⟩ := List.any_eq_true.1 this
      rw [List.any_eq_true.2 ⟨x, List.mem_of_mem_drop hx, h6⟩, Bool.or_true]
theorem evP_le {view now} {l : List In} : (evP view now l).2 ≤ l.length := by
  unfold evP; split
  · exact evS_le _ _ _ _ _
  · exact Nat.zero_le _
theorem evP_some {view now} {l : List In} (h : (evP view now l).1 = true) : (l.any fun i => decide (i.op = 6)) = true := by
  unfold evP at h; split at h
  · exact evS_some _ _ _ _ _ h
  · cases h

theorem any_step {l : List In} {k : Nat} {i : In} (h : l[k]? = some i) {p : In → Bool} : (l.take (k + 1)).any p = ((l.take k).any p || p i) := by
  obtain ⟨hk, rfl⟩ := List.getElem?_eq_some_iff.1 h
  rw [List.take_succ_eq_append_getElem hk, List.any_append]
  simp

theorem dec_or {b : Bool} {p : Prop} [Decidable p] : decide (b = true ∨ p) = (b || decide p) := by cases b <;> simp

theorem ends_ret {xs : List Int} {view : List UInt8} {w : World} {v lv : Value} (now : Int) (hx : RdS w lv (xs.map I)) (hb : xs.length ≤ 9223372036854775807) (hv : RdS w v (view.map U)) (hbv : view.length ≤ 9223372036854775807) :
    Ret Try.prog 11 #[lv, v, I now] w fun r w' => r = .bool true ∧ Hp w [] w' := by
  refine Ret_of_W (args := [_, _, _]) Try.func11 rfl Try.ntmps11 Try.results11 (by simp) ?_
  have H := Hp.refl w
  have hlen := tameL_length xs
  refine W_seq ?_
  refine W_region_l ?_
  refine WL_stepM rfl (R_as) ?_
  refine WL_nil ?_
  refine W_seq ?_
  refine W_region_l ?_
  refine WL_stepM rfl (R_mv) ?_
  (refine WL_call rfl (R_call rfl Try.call27 rfl) (tame_ret hx hb) ?_; rintro v5 w8 ⟨M, hO, H1⟩; obtain ⟨hO, H⟩ := H.seqO hO H1; rw [List.append_nil] at H; clear H1; obtain ⟨a1, c1, rfl⟩ := hO.form)
  refine WL_stepM rfl (R_as) ?_
  refine WL_nil ?_
  refine W_seq ?_
  refine W_region_l ?_
  refine WL_stepM rfl (R_mv) ?_
  refine WL_stepM rfl (R_mv) ?_
  refine WL_stepM rfl (R_mv) ?_
  (refine WL_call rfl (R_call rfl Try.call23 rfl) (eval_ret now (hv.monoN H (by repeat' first | exact kNil | apply kCons | apply kApp | assumption | exact OwnS.keys (by assumption))) (RdR.own insC_len hO rfl H.held) hbv (by omega)) ?_; rintro _ w16 ⟨rfl, H1⟩; replace H := H.seq0 H1; clear H1)
  refine WL_stepM rfl (R_mv) ?_
  refine WL_step rfl (R_extract rfl rfl) ?_
  refine WL_step rfl (R_extract rfl rfl) ?_
  refine WL_stepM rfl (R_as) ?_
  refine WL_stepM rfl (R_as) ?_
  refine WL_nil ?_
  refine W_seq ?_
  refine W_region_l ?_
  refine WL_stepM rfl (R_mv) ?_
  refine WL_stepM rfl (R_mv) ?_
  refine WL_stepM rfl (R_mv) ?_
  (refine WL_call rfl (R_call rfl Try.call23 rfl) (eval_ret now (hv.monoN H (by repeat' first | exact kNil | apply kCons | apply kApp | assumption | exact OwnS.keys (by assumption))) (RdR.own insC_len hO rfl H.held) hbv (by omega)) ?_; rintro _ w28 ⟨rfl, H1⟩; replace H := H.seq0 H1; clear H1)
  refine WL_stepM rfl (R_mv) ?_
  refine WL_step rfl (R_extract rfl rfl) ?_
  refine WL_step rfl (R_extract rfl rfl) ?_
  refine WL_stepM rfl (R_as) ?_
  refine WL_stepM rfl (R_as) ?_
  refine WL_nil ?_
  refine W_seq ?_
  refine W_seq ?_
  (have hle := evP_le (view := view) (now := now) (l := tameL xs)) <;> refine W_region_l ?_
  refine WL_stepM rfl (R_mv) ?_
  (refine WL_call rfl (R_call rfl Try.call24 rfl) (check_ret (RdR.own insC_len hO rfl H.held) (by omega)) ?_; rintro _ w39 ⟨rfl, H1⟩; rw [tameL_chk]; replace H := H.seq0 H1; clear H1)
  refine WL_step rfl (R_ne_f rfl rfl (by omega)) ?_
  refine WL_stepM rfl (R_mv) ?_
  refine WL_guard_t rfl rfl ?_
  refine WL_stepM rfl (R_mv) ?_
  refine WL_guard_t rfl rfl ?_
  refine WL_stepM rfl (R_mv) ?_
  refine WL_guard_t rfl rfl ?_
  refine WL_step rfl (R_len_slice Try.underlying45 rfl) ?_
  refine WL_guard_t rfl rfl ?_
  refine WL_step rfl (R_gt_f rfl rfl (by omega)) ?_
  refine WL_stepM rfl (R_pk_f rfl) ?_
  refine WL_stepM rfl (R_mv) ?_
  refine WL_guard_t rfl rfl ?_
  refine WL_stepM rfl (R_mv) ?_
  refine WL_guard_t rfl rfl ?_
  refine WL_step rfl (R_lt_f rfl rfl (by omega)) ?_
  refine WL_stepM rfl (R_pk_f rfl) ?_
  refine WL_stepM rfl (R_mv) ?_
  refine WL_guard_t rfl rfl ?_
  refine WL_stepM rfl (R_mv) ?_
  refine WL_guard_t rfl rfl ?_
  refine WL_stepM rfl (R_mv) ?_
  refine WL_guard_t rfl rfl ?_
  refine WL_step rfl (R_ne_bool_f Try.underlying4 rfl rfl rfl) ?_
  refine WL_stepM rfl (R_pk_f rfl) ?_
  refine WL_stepM rfl (R_mv) ?_
  refine WL_guard_t rfl rfl ?_
  refine WL_stepM rfl (R_mv) ?_
  refine WL_guard_t rfl rfl ?_
  refine WL_stepM rfl (R_mv) ?_
  refine WL_guard_t rfl rfl ?_
  refine WL_step rfl (R_ne_f rfl rfl (by omega)) ?_
  refine WL_stepM rfl (R_pk_f rfl) ?_
  refine WL_nil ?_
  refine W_cond_f rfl ?_
  refine W_skip ?_
  refine W_seq ?_
  refine W_region_l ?_
  refine WL_stepM rfl (R_as) ?_
  refine WL_nil ?_
  refine W_seq ?_
  refine W_seq ?_
  refine W_region_l ?_
  refine WL_stepM rfl (R_as) ?_
  refine WL_nil ?_
  refine W_block ?_
  refine W_loopS [(12, 13), (53, 67)] (fun (k : Nat) E w' => k ≤ (tameL xs).length ∧ E 13 = I k ∧ E 12 = .bool (((tameL xs).take k).any fun i => decide (i.op = 6)) ∧ Hp w M w') (fun k => (tameL xs).length - k) 0 ?e0 ?r0
  · exact ⟨by omega, rfl, rfl, H⟩
  · (clear H; rintro k E w1 ⟨hk, h0, h1, H⟩; refine W_kn2 h0 h1 ?_)
    refine W_seq ?_
    refine W_seq ?_
    refine W_region_l ?_
    refine WL_stepM rfl (R_mv) ?_
    refine WL_stepM rfl (R_mv) ?_
    refine WL_step rfl (R_len_slice Try.underlying45 rfl) ?_
    refine WL_step rfl (R_lt rfl rfl) ?_
    refine WL_nil ?_
    refine W_if rfl (fun h96 => ?_) (fun h96 => ?_)
    · refine W_skip ?_
      refine W_seq ?_
      refine W_block ?_
      (obtain ⟨i, hi⟩ : ∃ i, (tameL xs)[k]? = some i := ⟨_, List.getElem?_eq_getElem (by omega)⟩; obtain ⟨b, off, rfl, hc⟩ := (RdR.own insC_len hO rfl H.held).cell insC_len hi) <;> refine W_region_l ?_
      refine WL_stepM rfl (R_mv) ?_
      refine WL_stepM rfl (R_mv) ?_
      apply WL_orK 7 60 67 [(61, 67)] H
      case hc => exact decV rfl
      case h1 =>
        intro h103
        refine WL_guard_t rfl rfl ?_
        refine WL_stepM rfl (R_mv) ?_
        refine WL_guard_t rfl rfl ?_
        refine WL_stepM rfl (R_mv) ?_
        refine WL_guard_t rfl rfl ?_
        refine WL_step rfl (R_indexAddr Try.underlying45 Try.sizeOf44 rfl rfl (by omega) (by omega) idx_castn) ?_
        refine WL_guard_t rfl rfl ?_
        refine WL_step rfl (R_fieldAddr Try.underlying44 rfl Try.sizeOf3 (by decide) rfl rfl) ?_
        refine WL_guard_t rfl rfl ?_
        refine WL_step rfl (R_load_cell Try.isAgg3 rfl (hc 0 (I i.op) rfl)) ?_
        refine WL_guard_t rfl rfl ?_
        refine WL_step rfl (R_eq rfl rfl) ?_
        refine WL_stepM rfl (R_pk_f rfl) ?_
        refine WL_nil ?_
        exact ⟨(by repeat' first | refine same_updo rfl ?_ | refine same_mov rfl ?_ | refine same_upd rfl ?_ | refine same_updn ?_ | refine same_know rfl ?_ | exact same_ovr | refine same_in rfl ?_ | exact Same.refl), rfl, H⟩
      case h0 =>
        intro h103
        refine WL_guard_f rfl rfl (by decide) ?_
        refine WL_guard_f rfl rfl (by decide) ?_
        refine WL_guard_f rfl rfl (by decide) ?_
        refine WL_guard_f rfl rfl (by decide) ?_
        refine WL_guard_f rfl rfl (by decide) ?_
        refine WL_guard_f rfl rfl (by decide) ?_
        refine WL_stepM rfl (R_pk_t rfl) ?_
        refine WL_nil ?_
        exact ⟨(by repeat' first | refine same_updo rfl ?_ | refine same_mov rfl ?_ | refine same_upd rfl ?_ | refine same_updn ?_ | refine same_know rfl ?_ | exact same_ovr | refine same_in rfl ?_ | exact Same.refl), rfl, H⟩
      case h2 =>
        (clear H; intro E103 w103 H)
        refine WL_stepM rfl (R_as) ?_
        refine WL_nil ?_
        refine W_region_l ?_
        refine WL_stepM rfl (R_mv) ?_
        refine WL_step rfl (R_add rfl rfl (w_i64 (by omega))) ?_
        refine WL_stepM rfl (R_as) ?_
        refine WL_nil ?_
        exact ⟨(by repeat' first | refine same_updo rfl ?_ | refine same_mov rfl ?_ | refine same_upd rfl ?_ | refine same_updn ?_ | refine same_know rfl ?_ | exact same_ovr | refine same_in rfl ?_ | exact Same.refl), k + 1, by omega, by omega, rfl, congrArg Value.bool (by rw [any_step hi]; exact dec_or), H⟩
    · refine W_exit ?_
      refine (if_pos rfl).mpr ?_
      refine W_seq ?_
      (rw [List.take_of_length_le (by omega)]; cases hev : (evP view now (tameL xs)).1 <;> first | rw [evP_some hev] | skip) <;> refine W_region_l ?_
      · refine WL_stepM rfl (R_mv) ?_
        refine WL_stepM rfl (R_mv) ?_
        apply WL_orK 3 69 72 [(70, 72)] H
        case hc => exact decV rfl
        case h1 =>
          intro h142
          refine WL_guard_t rfl rfl ?_
          refine WL_stepM rfl (R_mv) ?_
          refine WL_guard_t rfl rfl ?_
          refine WL_step rfl (R_not_f rfl) ?_
          refine WL_stepM rfl (R_pk_f rfl) ?_
          refine WL_nil ?_
          exact ⟨(by repeat' first | refine same_updo rfl ?_ | refine same_mov rfl ?_ | refine same_upd rfl ?_ | refine same_updn ?_ | refine same_know rfl ?_ | exact same_ovr | refine same_in rfl ?_ | exact Same.refl), decV rfl, H⟩
        case h0 =>
          intro h142
          refine WL_guard_f rfl rfl (by decide) ?_
          refine WL_guard_f rfl rfl (by decide) ?_
          refine WL_stepM rfl (R_pk_t rfl) ?_
          refine WL_nil ?_
          exact ⟨(by repeat' first | refine same_updo rfl ?_ | refine same_mov rfl ?_ | refine same_upd rfl ?_ | refine same_updn ?_ | refine same_know rfl ?_ | exact same_ovr | refine same_in rfl ?_ | exact Same.refl), rfl, H⟩
        case h2 =>
          (clear H; intro E142 w142 H)
          refine WL_stepM rfl (R_mv) ?_
          apply WL_andK 2 73 75 [(74, 75)] H
          case hc => rfl
          case h1 =>
            intro h156
            refine WL_guard_t rfl rfl ?_
            (refine WL_call rfl (R_call rfl Try.call22 rfl) (awake_ret _) ?_; rintro _ w158 ⟨rfl, H1⟩; replace H := H.seq0 H1; clear H1)
            refine WL_stepM rfl (R_pk_t rfl) ?_
            refine WL_nil ?_
            exact ⟨(by repeat' first | refine same_updo rfl ?_ | refine same_mov rfl ?_ | refine same_upd rfl ?_ | refine same_updn ?_ | refine same_know rfl ?_ | exact same_ovr | refine same_in rfl ?_ | exact Same.refl), decV rfl, H⟩
          case h0 =>
            intro h156
            refine WL_guard_f rfl rfl (by decide) ?_
            refine WL_stepM rfl (R_pk_f rfl) ?_
            refine WL_nil ?_
            exact ⟨(by repeat' first | refine same_updo rfl ?_ | refine same_mov rfl ?_ | refine same_upd rfl ?_ | refine same_updn ?_ | refine same_know rfl ?_ | exact same_ovr | refine same_in rfl ?_ | exact Same.refl), rfl, H⟩
          case h2 =>
            (clear H; intro E156 w156 H)
            refine WL_stepM rfl (R_as) ?_
            refine WL_nil ?_
            refine W_ret ?_
            exact ⟨_, rfl, congrArg Value.bool (decide_eq_true (by simp)), H.none (by repeat' first | exact kNil | apply kCons | apply kApp | assumption | exact OwnS.keys (by assumption))⟩
      · refine WL_stepM rfl (R_mv) ?_
        refine WL_stepM rfl (R_mv) ?_
        refine WL_guard_f rfl rfl (by decide) ?_
        refine WL_guard_f rfl rfl (by decide) ?_
        refine WL_stepM rfl (R_pk_t rfl) ?_
        refine WL_stepM rfl (R_mv) ?_
        refine WL_guard_t rfl rfl ?_
        (refine WL_call rfl (R_call rfl Try.call22 rfl) (awake_ret _) ?_; rintro _ w177 ⟨rfl, H1⟩; replace H := H.seq0 H1; clear H1)
        refine WL_stepM rfl (R_pk_t rfl) ?_
        refine WL_stepM rfl (R_as) ?_
        refine WL_nil ?_
        refine W_ret ?_
        exact ⟨_, rfl, rfl, H.none (by repeat' first | exact kNil | apply kCons | apply kApp | assumption | exact OwnS.keys (by assumption))⟩
end Go.Proofs.Ytaclingiedmpbaa.Pred

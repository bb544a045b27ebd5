/-
  The law PredEither.
-/
import Derived.Test.YtaclingiedmpbaaPredL
namespace Go.Proofs.Ytaclingiedmpbaa.Pred
open Go Go.Proofs Go.Proofs.Ytaclingiedmpbaa.Fx
set_option maxRecDepth 100000
set_option linter.unusedVariables false
set_option linter.unusedSimpArgs false
set_option maxHeartbeats 1000000

theorem own_rdN {l : List In} {B : Nat} {w w0 : World} {v : Value} {M L : List (Nat × Obj)} (hO : OwnS B 44 3 v l.length (rows insC l) M) (H : Hp w0 L w) (hs : M ⊆ L) : RdR insC w v l :=
  RdR.own insC_len hO rfl fun p hp => H.held p (hs hp)

theorem allOk_mono : ∀ {l R : List In}, allOk l = true → allOk R = true → allOk (l ++ R) = true
  | [], _, _, h => h
  | i :: l, R, h, hR => by
    unfold allOk at h
    simp only [Bool.and_eq_true, decide_eq_true_eq] at h
    show (decide (okP i ((l ++ R).length : Nat)) && allOk (l ++ R)) = true
    rw [allOk_mono h.2 hR, Bool.and_true]
    refine decide_eq_true ?_
    have h1 := h.1
    unfold okP at h1 ⊢
    rw [List.length_append]
    omega
theorem tame_allOk (xs : List Int) : allOk (tameL xs) = true := (chk_zero (tameL_chk xs)).2
theorem tame_either {xs ys : List Int} : eitherP (tameL xs) (tameL ys) ↔ (tameL xs).length + (tameL ys).length ≤ 32 := by
  unfold eitherP
  constructor
  · intro h
    have := (chk_zero h.2.2).1
    rwa [List.length_append] at this
  · intro h
    exact ⟨tameL_chk xs, tameL_chk ys, chk_of (by rw [List.length_append]; exact h) (allOk_mono (tame_allOk xs) (tame_allOk ys))⟩
theorem raw_either {l : List In} : eitherP l [] ↔ chk l = 0 := by
  unfold eitherP
  rw [List.append_nil]
  exact ⟨fun h => h.1, fun h => ⟨h, rfl, h⟩⟩
/-- what the first one answers, the both answer -/
theorem evS_app {view : List UInt8} {now : Int} : ∀ {f g : Nat} {l R : List In} {n : Int}, allOk l = true → l.length ≤ f → (l ++ R).length ≤ g → (evS view now f l n).1 = true → (evS view now g (l ++ R) n).1 = true
  | 0, _, _, _, _, _, _, _, h => by cases h
  | _ + 1, _, [], _, _, _, _, _, h => by cases h
  | _ + 1, 0, _ :: _, _, _, _, _, hg, _ => by simp at hg
  | f + 1, g + 1, i :: l, R, n, hok, hf, hg, h => by
    unfold evS at h
    rw [List.cons_append]
    unfold evS
    split at h
    · rename_i h6; rw [if_pos h6]
    · rename_i h6
      rw [if_neg h6]
      unfold allOk at hok
      simp only [Bool.and_eq_true, decide_eq_true_eq] at hok
      have hs := doS_bd (n := n) hok.1 (by omega)
      have e1 : (l ++ R).drop (doS n i).toNat = l.drop (doS n i).toNat ++ R := by rw [List.drop_append_of_le_length (by omega)]
      rw [e1]
      have hd : allOk (l.drop (doS n i).toNat) = true := by
        have : ∀ {l : List In} (k : Nat), allOk l = true → allOk (l.drop k) = true := by
          intro l k
          induction k generalizing l with
          | zero => intro h; exact h
          | succ k ih =>
            intro h
            cases l with
            | nil => exact h
            | cons a l =>
              unfold allOk at h
              simp only [Bool.and_eq_true] at h
              exact ih h.2
        exact this _ hok.2
      simp only [List.length_cons, List.cons_append] at hf hg
      refine evS_app hd (by rw [List.length_drop]; omega) (by rw [← e1, List.length_drop]; omega) h
theorem evP_app {view : List UInt8} {now : Int} {l R : List In} (h : eitherP l R) (he : (evP view now l).1 = true) : (evP view now (l ++ R)).1 = true := by
  unfold evP at he ⊢
  rw [if_pos h.1] at he
  rw [if_pos h.2.2]
  exact evS_app (chk_zero h.1).2 (Nat.le_refl _) (Nat.le_refl _) he

theorem eitherLaw_ret {raw : List In} {xs ys : List Int} {view : List UInt8} {w : World} {lv mv rv v : Value} (hx : RdS w lv (xs.map I)) (hbx : xs.length ≤ 9223372036854775807) (hy : RdS w mv (ys.map I)) (hby : ys.length ≤ 9223372036854775807)
    (hr : RdR insC w rv raw) (hbr : raw.length ≤ 9223372036854775807) (hv : RdS w v (view.map U)) (hbv : view.length ≤ 9223372036854775807) :
    Ret Try.prog 12 #[lv, mv, rv, v] w fun r w' => r = .bool true ∧ Hp w [] w' := by
  refine Ret_of_W (args := [_, _, _, _]) Try.func12 rfl Try.ntmps12 Try.results12 (by simp) ?_
  obtain ⟨ar, cr, rfl⟩ := hr.form
  obtain ⟨av, cv, rfl⟩ := hv.form
  simp only [List.length_map] at hv ⊢
  have H := Hp.refl w
  have hl1 := tameL_length xs
  have hl2 := tameL_length ys
  refine W_seq ?_
  refine W_region_l ?_
  refine WL_stepM rfl (R_as) ?_
  refine WL_nil ?_
  refine W_seq ?_
  refine W_seq ?_
  refine W_region_l ?_
  refine WL_stepM rfl (R_mv) ?_
  refine WL_step rfl (R_len_slice Try.underlying45 rfl) ?_
  refine WL_step rfl (R_gt rfl rfl) ?_
  refine WL_stepM rfl (R_mv) ?_
  apply WL_orK 4 23 27 [(24, 27)] H
  case hc => rfl
  case h1 =>
    intro h12
    refine WL_guard_t rfl rfl ?_
    refine WL_stepM rfl (R_mv) ?_
    refine WL_guard_t rfl rfl ?_
    refine WL_step rfl (R_len_slice Try.underlying42 rfl) ?_
    refine WL_guard_t rfl rfl ?_
    refine WL_step rfl (R_gt rfl rfl) ?_
    refine WL_stepM rfl (R_pk_f rfl) ?_
    refine WL_nil ?_
    exact ⟨(by repeat' first | refine same_updo rfl ?_ | refine same_mov rfl ?_ | refine same_upd rfl ?_ | refine same_updn ?_ | refine same_know rfl ?_ | exact same_ovr | refine same_in rfl ?_ | exact Same.refl), rfl, H⟩
  case h0 =>
    intro h12
    refine WL_guard_f rfl rfl (by decide) ?_
    refine WL_guard_f rfl rfl (by decide) ?_
    refine WL_guard_f rfl rfl (by decide) ?_
    refine WL_stepM rfl (R_pk_t rfl) ?_
    refine WL_nil ?_
    exact ⟨(by repeat' first | refine same_updo rfl ?_ | refine same_mov rfl ?_ | refine same_upd rfl ?_ | refine same_updn ?_ | refine same_know rfl ?_ | exact same_ovr | refine same_in rfl ?_ | exact Same.refl), rfl, H⟩
  case h2 =>
    (clear H; intro E12 w12 H)
    refine WL_nil ?_
    refine W_if rfl (fun h29 => ?_) (fun h29 => ?_)
    · refine W_seq ?_
      refine W_region_l ?_
      (refine WL_call rfl (R_call rfl Try.call22 rfl) (awake_ret _) ?_; rintro _ w32 ⟨rfl, H1⟩; replace H := H.seq0 H1; clear H1)
      refine WL_stepM rfl (R_as) ?_
      refine WL_nil ?_
      refine W_ret ?_
      exact ⟨_, rfl, rfl, H.none (by repeat' first | exact kNil | apply kCons | apply kApp | assumption | exact OwnS.keys (by assumption))⟩
    · refine W_skip ?_
      refine W_seq ?_
      refine W_region_l ?_
      refine WL_stepM rfl (R_mv) ?_
      (refine WL_call rfl (R_call rfl Try.call27 rfl) (tame_ret (hx.monoN H kNil) hbx) ?_; rintro v1 w41 ⟨M1, hO1, H1⟩; obtain ⟨hO1, H⟩ := H.seqO hO1 H1; rw [List.append_nil] at H; clear H1; obtain ⟨a1, c1, rfl⟩ := hO1.form)
      refine WL_stepM rfl (R_mv) ?_
      (refine WL_call rfl (R_call rfl Try.call27 rfl) (tame_ret (hy.monoN H hO1.keys) hby) ?_; rintro v2 w43 ⟨M2, hO2, H1⟩; obtain ⟨hO2, H⟩ := H.seqO hO2 H1; clear H1; obtain ⟨a2, c2, rfl⟩ := hO2.form)
      refine WL_stepM rfl (R_as) ?_
      refine WL_stepM rfl (R_as) ?_
      refine WL_nil ?_
      refine W_seq ?_
      refine W_region_l ?_
      refine WL_stepM rfl (R_mv) ?_
      refine WL_stepM rfl (R_mv) ?_
      (refine WL_call rfl (R_call rfl Try.call28 rfl) (either_ret (own_rdN hO1 H (fun p hp => by simp [hp])) (own_rdN hO2 H (fun p hp => by simp [hp])) (by omega) (by omega)) ?_; rintro _ w51 ⟨v5, M5, rfl, hM5, H1, hR⟩; have hM6 : ∀ p ∈ M5, w.heap.size ≤ p.1 := (fun p hp => Nat.le_trans H.size (hM5 p hp)); have hK5 := H1.kp; replace H := H.seqN H1 hM5; clear H1 hM5; by_cases hE : eitherP (tameL xs) (tameL ys); rw [decide_eq_true hE]; rw [if_pos hE] at hR; obtain ⟨a5, c5, rfl⟩ := (hR _ hK5).form; have hE2 := tame_either.1 hE; rotate_left; rw [decide_eq_false hE]; rw [if_neg hE] at hR; obtain ⟨a5, c5, rfl⟩ : ∃ a c, v5 = .slice a 0 c := (hR _ hK5).form; have hE2 : ¬ ((tameL xs).length + (tameL ys).length ≤ 32) := (fun h => hE (tame_either.2 h)); rotate_left)
      · refine WL_stepM rfl (R_mv) ?_
        refine WL_step rfl (R_extract rfl rfl) ?_
        refine WL_step rfl (R_extract rfl rfl) ?_
        refine WL_stepM rfl (R_as) ?_
        refine WL_stepM rfl (R_as) ?_
        refine WL_nil ?_
        refine W_seq ?_
        refine W_region_l ?_
        refine WL_stepM rfl (R_mv) ?_
        refine WL_step rfl (R_len_slice Try.underlying45 rfl) ?_
        refine WL_stepM rfl (R_mv) ?_
        refine WL_step rfl (R_len_slice Try.underlying45 rfl) ?_
        refine WL_step rfl (R_add rfl rfl (w_i64 (by omega))) ?_
        refine WL_step rfl (R_le_t rfl rfl (by omega)) ?_
        refine WL_stepM rfl (R_as) ?_
        refine WL_nil ?_
        refine W_seq ?_
        refine W_seq ?_
        refine W_region_l ?_
        refine WL_stepM rfl (R_mv) ?_
        refine WL_stepM rfl (R_mv) ?_
        refine WL_step rfl (R_ne_bool_f Try.underlying4 rfl rfl (by decide)) ?_
        refine WL_stepM rfl (R_mv) ?_
        refine WL_guard_t rfl rfl ?_
        refine WL_stepM rfl (R_mv) ?_
        refine WL_guard_t rfl rfl ?_
        refine WL_stepM rfl (R_mv) ?_
        refine WL_guard_t rfl rfl ?_
        refine WL_stepM rfl (R_mv) ?_
        refine WL_guard_t rfl rfl ?_
        (refine WL_effn rfl (E_buildSlice (vs := []) H Try.underlying45 Try.sizeOf44 Try.zeroValue44 rfl rfl (by decide) rfl rfl) ?_; clear H; intro b82 w82 hb82 H)
        refine WL_guard_t rfl rfl ?_
        refine WL_stepM rfl (R_mv) ?_
        refine WL_guard_t rfl rfl ?_
        (refine WL_effm rfl (E_append (news := rows insC (tameL xs)) (m := (tameL xs).length) H .one (OwnS.new (xs := []) (sp := []) (by assumption) rfl rfl (by decide)) Try.underlying45 Try.typeInfo44 rfl rfl rfl rfl rfl rfl ((own_rdN hO1 H (fun p hp => by simp [hp])).src insC_len Try.underlying45 (rows_one' insC_one _)) (by omega) (by simp only [Try.t44]; omega)) ?_; clear H; intro v7 M7 w86 hO7 H; rw [Nat.zero_add, List.nil_append] at hO7)
        refine WL_guard_t rfl rfl ?_
        refine WL_stepM rfl (R_mv) ?_
        refine WL_guard_t rfl rfl ?_
        (refine WL_effm rfl (E_append (news := rows insC (tameL ys)) (m := (tameL ys).length) H .here hO7 Try.underlying45 Try.typeInfo44 rfl rfl rfl rfl rfl rfl ((own_rdN hO2 H (fun p hp => by simp [hp])).src insC_len Try.underlying45 (rows_one' insC_one _)) (by omega) (by simp only [Try.t44]; omega)) ?_; clear H hO7; intro v7 M7 w90 hO7 H; rw [← rows_append, ← List.length_append] at hO7)
        refine WL_guard_t rfl rfl ?_
        (refine WL_call rfl (R_call rfl Try.call29 rfl) (sameIns_ret (xs := tameL xs ++ tameL ys) (ys := tameL xs ++ tameL ys) (hR _ (H.kp.sub (fun p hp => by simp [hp]))) (own_rdN hO7 H (fun p hp => by simp [hp])) (by rw [List.length_append]; omega) (by rw [List.length_append]; omega)) ?_; rintro _ w92 ⟨rfl, H1⟩; rw [decide_eq_true rfl]; replace H := H.seq0 H1; clear H1)
        refine WL_guard_t rfl rfl ?_
        refine WL_step rfl (R_not_t rfl) ?_
        refine WL_guard_t rfl rfl ?_
        refine WL_stepM rfl (R_pk_t rfl) ?_
        refine WL_stepM rfl (R_pk_f rfl) ?_
        refine WL_stepM rfl (R_mv) ?_
        refine WL_guard_t rfl rfl ?_
        refine WL_stepM rfl (R_mv) ?_
        refine WL_guard_t rfl rfl ?_
        refine WL_step rfl (R_not_t rfl) ?_
        refine WL_guard_t rfl rfl ?_
        refine WL_stepM rfl (R_mv) ?_
        refine WL_guard_f rfl rfl (by decide) ?_
        refine WL_guard_f rfl rfl (by decide) ?_
        refine WL_guard_f rfl rfl (by decide) ?_
        refine WL_guard_t rfl rfl ?_
        refine WL_stepM rfl (R_pk_f rfl) ?_
        refine WL_stepM rfl (R_pk_f rfl) ?_
        refine WL_nil ?_
        refine W_cond_f rfl ?_
        refine W_skip ?_
        refine W_seq ?_
        refine W_region_l ?_
        refine WL_stepM rfl (R_mv) ?_
        refine WL_step rfl (R_conv_bs Try.underlying42 Try.underlying5 Try.underlying9 rfl (hv.monoN H (by repeat' first | exact kNil | apply kCons | apply kApp | assumption | exact OwnS.keys (by assumption)))) ?_
        refine WL_stepM rfl (R_mv) ?_
        (refine WL_call rfl (R_call rfl Try.call26 rfl) (reval_ret 5 (own_rdN hO1 H (fun p hp => by simp [hp])) hbv (by omega)) ?_; rintro _ w119 ⟨rfl, H1⟩; replace H := H.seq0 H1; clear H1)
        refine WL_stepM rfl (R_mv) ?_
        refine WL_step rfl (R_extract rfl rfl) ?_
        refine WL_step rfl (R_extract rfl rfl) ?_
        refine WL_stepM rfl (R_as) ?_
        refine WL_stepM rfl (R_as) ?_
        refine WL_nil ?_
        refine W_seq ?_
        refine W_region_l ?_
        refine WL_stepM rfl (R_mv) ?_
        refine WL_stepM rfl (R_mv) ?_
        (refine WL_call rfl (R_call rfl Try.call23 rfl) (eval_ret 5 (hv.monoN H (by repeat' first | exact kNil | apply kCons | apply kApp | assumption | exact OwnS.keys (by assumption))) (hR _ (H.kp.sub (fun p hp => by simp [hp]))) hbv (by first | (rw [List.length_append]; omega) | simp)) ?_; rintro _ w130 ⟨rfl, H1⟩; replace H := H.seq0 H1; clear H1)
        refine WL_stepM rfl (R_mv) ?_
        refine WL_step rfl (R_extract rfl rfl) ?_
        refine WL_step rfl (R_extract rfl rfl) ?_
        refine WL_stepM rfl (R_as) ?_
        refine WL_stepM rfl (R_as) ?_
        refine WL_nil ?_
        refine W_seq ?_
        refine W_seq ?_
        (cases hx1 : (evP view 5 (tameL xs)).1 <;> first | rw [evP_app hE hx1] | skip) <;> refine W_region_l ?_
        · refine WL_stepM rfl (R_mv) ?_
          refine WL_stepM rfl (R_mv) ?_
          refine WL_guard_t rfl rfl ?_
          refine WL_stepM rfl (R_mv) ?_
          refine WL_stepM rfl (R_pk_t rfl) ?_
          refine WL_stepM rfl (R_mv) ?_
          refine WL_guard_f rfl rfl (by decide) ?_
          refine WL_guard_f rfl rfl (by decide) ?_
          refine WL_stepM rfl (R_pk_f rfl) ?_
          refine WL_nil ?_
          refine W_cond_f rfl ?_
          refine W_skip ?_
          refine W_seq ?_
          refine W_region_l ?_
          refine WL_stepM rfl (R_mv) ?_
          (refine WL_call rfl (R_call rfl Try.call28 rfl) (either_ret (l1 := raw) (l2 := []) (hr.monoN H (by repeat' first | exact kNil | apply kCons | apply kApp | assumption | exact OwnS.keys (by assumption))) RdR.nil (by omega) (by simp)) ?_; rintro _ w155 ⟨v8, M8, rfl, hM8, H1, hR8⟩; have hM9 : ∀ p ∈ M8, w.heap.size ≤ p.1 := (fun p hp => Nat.le_trans H.size (hM8 p hp)); replace H := H.seqN H1 hM8; clear H1 hM8 hR8)
          refine WL_stepM rfl (R_mv) ?_
          refine WL_step rfl (R_extract rfl rfl) ?_
          refine WL_step rfl (R_extract rfl rfl) ?_
          refine WL_stepM rfl (R_as) ?_
          refine WL_stepM rfl (R_as) ?_
          refine WL_nil ?_
          refine W_seq ?_
          refine W_region_l ?_
          refine WL_stepM rfl (R_mv) ?_
          refine WL_stepM rfl (R_mv) ?_
          (refine WL_call rfl (R_call rfl Try.call25 rfl) (rcheck_ret (hr.monoN H (by repeat' first | exact kNil | apply kCons | apply kApp | assumption | exact OwnS.keys (by assumption))) hbr) ?_; rintro _ w166 ⟨rfl, H1⟩; replace H := H.seq0 H1; clear H1)
          refine WL_step rfl (R_eq rfl rfl) ?_
          refine WL_step rfl (R_eq_dec_t Try.underlying4 rfl rfl raw_either) ?_
          refine WL_stepM rfl (R_mv) ?_
          refine WL_guard_t rfl rfl ?_
          (refine WL_call rfl (R_call rfl Try.call22 rfl) (awake_ret _) ?_; rintro _ w171 ⟨rfl, H1⟩; replace H := H.seq0 H1; clear H1)
          refine WL_stepM rfl (R_pk_t rfl) ?_
          refine WL_stepM rfl (R_as) ?_
          refine WL_nil ?_
          refine W_ret ?_
          exact ⟨_, rfl, rfl, H.none (by repeat' first | exact kNil | apply kCons | apply kApp | assumption | exact OwnS.keys (by assumption))⟩
        · refine WL_stepM rfl (R_mv) ?_
          refine WL_stepM rfl (R_mv) ?_
          refine WL_guard_t rfl rfl ?_
          refine WL_stepM rfl (R_mv) ?_
          refine WL_stepM rfl (R_pk_t rfl) ?_
          refine WL_stepM rfl (R_mv) ?_
          refine WL_guard_t rfl rfl ?_
          refine WL_stepM rfl (R_mv) ?_
          refine WL_guard_t rfl rfl ?_
          refine WL_step rfl (R_not_t rfl) ?_
          refine WL_stepM rfl (R_pk_t rfl) ?_
          refine WL_nil ?_
          refine W_cond_f rfl ?_
          refine W_skip ?_
          refine W_seq ?_
          refine W_region_l ?_
          refine WL_stepM rfl (R_mv) ?_
          (refine WL_call rfl (R_call rfl Try.call28 rfl) (either_ret (l1 := raw) (l2 := []) (hr.monoN H (by repeat' first | exact kNil | apply kCons | apply kApp | assumption | exact OwnS.keys (by assumption))) RdR.nil (by omega) (by simp)) ?_; rintro _ w194 ⟨v8, M8, rfl, hM8, H1, hR8⟩; have hM9 : ∀ p ∈ M8, w.heap.size ≤ p.1 := (fun p hp => Nat.le_trans H.size (hM8 p hp)); replace H := H.seqN H1 hM8; clear H1 hM8 hR8)
          refine WL_stepM rfl (R_mv) ?_
          refine WL_step rfl (R_extract rfl rfl) ?_
          refine WL_step rfl (R_extract rfl rfl) ?_
          refine WL_stepM rfl (R_as) ?_
          refine WL_stepM rfl (R_as) ?_
          refine WL_nil ?_
          refine W_seq ?_
          refine W_region_l ?_
          refine WL_stepM rfl (R_mv) ?_
          refine WL_stepM rfl (R_mv) ?_
          (refine WL_call rfl (R_call rfl Try.call25 rfl) (rcheck_ret (hr.monoN H (by repeat' first | exact kNil | apply kCons | apply kApp | assumption | exact OwnS.keys (by assumption))) hbr) ?_; rintro _ w205 ⟨rfl, H1⟩; replace H := H.seq0 H1; clear H1)
          refine WL_step rfl (R_eq rfl rfl) ?_
          refine WL_step rfl (R_eq_dec_t Try.underlying4 rfl rfl raw_either) ?_
          refine WL_stepM rfl (R_mv) ?_
          refine WL_guard_t rfl rfl ?_
          (refine WL_call rfl (R_call rfl Try.call22 rfl) (awake_ret _) ?_; rintro _ w210 ⟨rfl, H1⟩; replace H := H.seq0 H1; clear H1)
          refine WL_stepM rfl (R_pk_t rfl) ?_
          refine WL_stepM rfl (R_as) ?_
          refine WL_nil ?_
          refine W_ret ?_
          exact ⟨_, rfl, rfl, H.none (by repeat' first | exact kNil | apply kCons | apply kApp | assumption | exact OwnS.keys (by assumption))⟩
      · refine WL_stepM rfl (R_mv) ?_
        refine WL_step rfl (R_extract rfl rfl) ?_
        refine WL_step rfl (R_extract rfl rfl) ?_
        refine WL_stepM rfl (R_as) ?_
        refine WL_stepM rfl (R_as) ?_
        refine WL_nil ?_
        refine W_seq ?_
        refine W_region_l ?_
        refine WL_stepM rfl (R_mv) ?_
        refine WL_step rfl (R_len_slice Try.underlying45 rfl) ?_
        refine WL_stepM rfl (R_mv) ?_
        refine WL_step rfl (R_len_slice Try.underlying45 rfl) ?_
        refine WL_step rfl (R_add rfl rfl (w_i64 (by omega))) ?_
        refine WL_step rfl (R_le_f rfl rfl (by omega)) ?_
        refine WL_stepM rfl (R_as) ?_
        refine WL_nil ?_
        refine W_seq ?_
        refine W_seq ?_
        refine W_region_l ?_
        refine WL_stepM rfl (R_mv) ?_
        refine WL_stepM rfl (R_mv) ?_
        refine WL_step rfl (R_ne_bool_f Try.underlying4 rfl rfl (by decide)) ?_
        refine WL_stepM rfl (R_mv) ?_
        refine WL_guard_t rfl rfl ?_
        refine WL_stepM rfl (R_mv) ?_
        refine WL_guard_t rfl rfl ?_
        refine WL_stepM rfl (R_mv) ?_
        refine WL_guard_f rfl rfl (by decide) ?_
        refine WL_guard_f rfl rfl (by decide) ?_
        refine WL_guard_f rfl rfl (by decide) ?_
        refine WL_guard_f rfl rfl (by decide) ?_
        refine WL_guard_f rfl rfl (by decide) ?_
        refine WL_guard_f rfl rfl (by decide) ?_
        refine WL_guard_f rfl rfl (by decide) ?_
        refine WL_guard_f rfl rfl (by decide) ?_
        refine WL_guard_t rfl rfl ?_
        refine WL_stepM rfl (R_pk_f rfl) ?_
        refine WL_stepM rfl (R_pk_f rfl) ?_
        refine WL_stepM rfl (R_mv) ?_
        refine WL_guard_t rfl rfl ?_
        refine WL_stepM rfl (R_mv) ?_
        refine WL_guard_t rfl rfl ?_
        refine WL_step rfl (R_not_f rfl) ?_
        refine WL_guard_t rfl rfl ?_
        refine WL_stepM rfl (R_mv) ?_
        refine WL_guard_t rfl rfl ?_
        refine WL_stepM rfl (R_mv) ?_
        refine WL_guard_t rfl rfl ?_
        refine WL_step rfl (R_len_slice Try.underlying45 rfl) ?_
        refine WL_guard_t rfl rfl ?_
        refine WL_step rfl (R_ne_f rfl rfl (by omega)) ?_
        refine WL_guard_t rfl rfl ?_
        refine WL_stepM rfl (R_pk_t rfl) ?_
        refine WL_stepM rfl (R_pk_f rfl) ?_
        refine WL_nil ?_
        refine W_cond_f rfl ?_
        refine W_skip ?_
        refine W_seq ?_
        refine W_region_l ?_
        refine WL_stepM rfl (R_mv) ?_
        refine WL_step rfl (R_conv_bs Try.underlying42 Try.underlying5 Try.underlying9 rfl (hv.monoN H (by repeat' first | exact kNil | apply kCons | apply kApp | assumption | exact OwnS.keys (by assumption)))) ?_
        refine WL_stepM rfl (R_mv) ?_
        (refine WL_call rfl (R_call rfl Try.call26 rfl) (reval_ret 5 (own_rdN hO1 H (fun p hp => by simp [hp])) hbv (by omega)) ?_; rintro _ w278 ⟨rfl, H1⟩; replace H := H.seq0 H1; clear H1)
        refine WL_stepM rfl (R_mv) ?_
        refine WL_step rfl (R_extract rfl rfl) ?_
        refine WL_step rfl (R_extract rfl rfl) ?_
        refine WL_stepM rfl (R_as) ?_
        refine WL_stepM rfl (R_as) ?_
        refine WL_nil ?_
        refine W_seq ?_
        refine W_region_l ?_
        refine WL_stepM rfl (R_mv) ?_
        refine WL_stepM rfl (R_mv) ?_
        (refine WL_call rfl (R_call rfl Try.call23 rfl) (eval_ret 5 (hv.monoN H (by repeat' first | exact kNil | apply kCons | apply kApp | assumption | exact OwnS.keys (by assumption))) (hR _ (H.kp.sub (fun p hp => by simp [hp]))) hbv (by first | (rw [List.length_append]; omega) | simp)) ?_; rintro _ w289 ⟨rfl, H1⟩; replace H := H.seq0 H1; clear H1)
        refine WL_stepM rfl (R_mv) ?_
        refine WL_step rfl (R_extract rfl rfl) ?_
        refine WL_step rfl (R_extract rfl rfl) ?_
        refine WL_stepM rfl (R_as) ?_
        refine WL_stepM rfl (R_as) ?_
        refine WL_nil ?_
        refine W_seq ?_
        refine W_seq ?_
        (cases hx1 : (evP view 5 (tameL xs)).1 <;> first | rw [evP_app hE hx1] | skip) <;> refine W_region_l ?_
        · refine WL_stepM rfl (R_mv) ?_
          refine WL_stepM rfl (R_mv) ?_
          refine WL_guard_f rfl rfl (by decide) ?_
          refine WL_stepM rfl (R_pk_f rfl) ?_
          refine WL_stepM rfl (R_mv) ?_
          refine WL_guard_f rfl rfl (by decide) ?_
          refine WL_guard_f rfl rfl (by decide) ?_
          refine WL_stepM rfl (R_pk_f rfl) ?_
          refine WL_nil ?_
          refine W_cond_f rfl ?_
          refine W_skip ?_
          refine W_seq ?_
          refine W_region_l ?_
          refine WL_stepM rfl (R_mv) ?_
          (refine WL_call rfl (R_call rfl Try.call28 rfl) (either_ret (l1 := raw) (l2 := []) (hr.monoN H (by repeat' first | exact kNil | apply kCons | apply kApp | assumption | exact OwnS.keys (by assumption))) RdR.nil (by omega) (by simp)) ?_; rintro _ w313 ⟨v8, M8, rfl, hM8, H1, hR8⟩; have hM9 : ∀ p ∈ M8, w.heap.size ≤ p.1 := (fun p hp => Nat.le_trans H.size (hM8 p hp)); replace H := H.seqN H1 hM8; clear H1 hM8 hR8)
          refine WL_stepM rfl (R_mv) ?_
          refine WL_step rfl (R_extract rfl rfl) ?_
          refine WL_step rfl (R_extract rfl rfl) ?_
          refine WL_stepM rfl (R_as) ?_
          refine WL_stepM rfl (R_as) ?_
          refine WL_nil ?_
          refine W_seq ?_
          refine W_region_l ?_
          refine WL_stepM rfl (R_mv) ?_
          refine WL_stepM rfl (R_mv) ?_
          (refine WL_call rfl (R_call rfl Try.call25 rfl) (rcheck_ret (hr.monoN H (by repeat' first | exact kNil | apply kCons | apply kApp | assumption | exact OwnS.keys (by assumption))) hbr) ?_; rintro _ w324 ⟨rfl, H1⟩; replace H := H.seq0 H1; clear H1)
          refine WL_step rfl (R_eq rfl rfl) ?_
          refine WL_step rfl (R_eq_dec_t Try.underlying4 rfl rfl raw_either) ?_
          refine WL_stepM rfl (R_mv) ?_
          refine WL_guard_t rfl rfl ?_
          (refine WL_call rfl (R_call rfl Try.call22 rfl) (awake_ret _) ?_; rintro _ w329 ⟨rfl, H1⟩; replace H := H.seq0 H1; clear H1)
          refine WL_stepM rfl (R_pk_t rfl) ?_
          refine WL_stepM rfl (R_as) ?_
          refine WL_nil ?_
          refine W_ret ?_
          exact ⟨_, rfl, rfl, H.none (by repeat' first | exact kNil | apply kCons | apply kApp | assumption | exact OwnS.keys (by assumption))⟩
        · refine WL_stepM rfl (R_mv) ?_
          refine WL_stepM rfl (R_mv) ?_
          refine WL_guard_f rfl rfl (by decide) ?_
          refine WL_stepM rfl (R_pk_f rfl) ?_
          refine WL_stepM rfl (R_mv) ?_
          refine WL_guard_f rfl rfl (by decide) ?_
          refine WL_guard_f rfl rfl (by decide) ?_
          refine WL_stepM rfl (R_pk_f rfl) ?_
          refine WL_nil ?_
          refine W_cond_f rfl ?_
          refine W_skip ?_
          refine W_seq ?_
          refine W_region_l ?_
          refine WL_stepM rfl (R_mv) ?_
          (refine WL_call rfl (R_call rfl Try.call28 rfl) (either_ret (l1 := raw) (l2 := []) (hr.monoN H (by repeat' first | exact kNil | apply kCons | apply kApp | assumption | exact OwnS.keys (by assumption))) RdR.nil (by omega) (by simp)) ?_; rintro _ w349 ⟨v8, M8, rfl, hM8, H1, hR8⟩; have hM9 : ∀ p ∈ M8, w.heap.size ≤ p.1 := (fun p hp => Nat.le_trans H.size (hM8 p hp)); replace H := H.seqN H1 hM8; clear H1 hM8 hR8)
          refine WL_stepM rfl (R_mv) ?_
          refine WL_step rfl (R_extract rfl rfl) ?_
          refine WL_step rfl (R_extract rfl rfl) ?_
          refine WL_stepM rfl (R_as) ?_
          refine WL_stepM rfl (R_as) ?_
          refine WL_nil ?_
          refine W_seq ?_
          refine W_region_l ?_
          refine WL_stepM rfl (R_mv) ?_
          refine WL_stepM rfl (R_mv) ?_
          (refine WL_call rfl (R_call rfl Try.call25 rfl) (rcheck_ret (hr.monoN H (by repeat' first | exact kNil | apply kCons | apply kApp | assumption | exact OwnS.keys (by assumption))) hbr) ?_; rintro _ w360 ⟨rfl, H1⟩; replace H := H.seq0 H1; clear H1)
          refine WL_step rfl (R_eq rfl rfl) ?_
          refine WL_step rfl (R_eq_dec_t Try.underlying4 rfl rfl raw_either) ?_
          refine WL_stepM rfl (R_mv) ?_
          refine WL_guard_t rfl rfl ?_
          (refine WL_call rfl (R_call rfl Try.call22 rfl) (awake_ret _) ?_; rintro _ w365 ⟨rfl, H1⟩; replace H := H.seq0 H1; clear H1)
          refine WL_stepM rfl (R_pk_t rfl) ?_
          refine WL_stepM rfl (R_as) ?_
          refine WL_nil ?_
          refine W_ret ?_
          exact ⟨_, rfl, rfl, H.none (by repeat' first | exact kNil | apply kCons | apply kApp | assumption | exact OwnS.keys (by assumption))⟩
end Go.Proofs.Ytaclingiedmpbaa.Pred

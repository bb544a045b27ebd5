/-
  The law SigPlays: the walk.
-/
import Derived.Test.YtneeoicjipglkaaDoorSigM
import Derived.Test.YtneeoicjipglkaaDoorSameI
namespace Go.Proofs.YtneeoicjipglkaaDoor.Slot
open Go Go.Proofs Go.Proofs.YtneeoicjipglkaaDoor.Fx
set_option maxRecDepth 100000
set_option linter.unusedVariables false
set_option linter.unusedSimpArgs false
set_option maxHeartbeats 16000000

theorem deliv_len : ∀ (n : Nat) (p : Pi), (delivN n p).2.1.length ≤ n
  | 0, p => by simp [delivN]
  | n + 1, p => by
    have h1 := deliv_len n (clr p (nextN p))
    rcases nextW_cases p with h | h | h | h | h
    · rw [deliv_none h]; simp
    · rw [deliv_1 h]; omega
    · rw [deliv_2 h]; simp; omega
    · rw [deliv_3 h]; simp
    · rw [deliv_4 h]; simp
theorem nI_map (l : List Nat) : l.map nI = (l.map fun n : Nat => (n : Int)).map I := by rw [List.map_map]; rfl

theorem plays_ret {xs : List Int} {os : List SOp} {w : World} {l lo : Value} (raw : Pi) (hl : RdS w l (xs.map fun x => I x)) (hb : xs.length ≤ 9223372036854775807) (ho : RdR sopC w lo os) (hob : os.length ≤ 9223372036854775807) (hT : TabZ w) :
    Ret Tryd.prog 5 #[vP raw, l, lo] w fun v w' => v = .bool true ∧ Hp w [] w' := by
  refine Ret_of_W (args := [_, _, _]) Tryd.func5 rfl Tryd.ntmps5 Tryd.results5 (by simp) ?_
  have H := Hp.refl w
  obtain ⟨ao, co, rfl⟩ := ho.form
  refine W_seq ?_
  refine W_region_l ?_
  (refine WL_effn rfl (E_boxP H rfl) ?_; clear H; intro c3 w3 hc3 H)
  refine WL_stepM rfl (R_as) ?_
  refine WL_nil ?_
  refine W_seq ?_
  refine W_region_l ?_
  refine WL_step rfl (R_loadP rfl (H.get .here)) ?_
  (refine WL_effn rfl (E_allocP H) ?_; clear H; intro c7 w9 hc7 H)
  (refine WL_effu rfl (E_storeP H rfl rfl .here) ?_; clear H; intro w10 H)
  refine WL_nil ?_
  refine W_seq ?_
  refine W_seq ?_
  refine W_region_l ?_
  refine WL_stepM rfl (R_as) ?_
  refine WL_nil ?_
  refine W_block ?_
  refine W_loopS [(6, 6), (8, 34), (36, 199)] (fun (k : Nat) E w' => ∃ q, k ≤ 2 ∧ E 8 = I k ∧ Hp w [(c7, blk (piC q) 25), (c3, blk (piC raw) 25)] w') (fun k => 2 - k) 0 ?e0 ?r0
  · exact ⟨raw, by omega, rfl, H⟩
  · (clear H; rintro k E w1 ⟨q, hk, h0, H⟩; refine W_kn h0 ?_)
    refine W_seq ?_
    refine W_seq ?_
    refine W_region_l ?_
    refine WL_stepM rfl (R_mv) ?_
    refine WL_step rfl (R_lt rfl rfl) ?_
    refine WL_nil ?_
    refine W_if rfl (fun h26 => ?_) (fun h26 => ?_)
    · refine W_skip ?_
      refine W_seq ?_
      refine W_block ?_
      refine W_seq ?_
      refine W_seq ?_
      refine W_region_l ?_
      refine WL_stepM rfl (R_as) ?_
      refine WL_nil ?_
      refine W_block ?_
      refine W_loopS [(6, 6), (9, 34), (40, 197)] (fun (i : Nat) E w' => ∃ q, i ≤ os.length ∧ i ≤ 60 ∧ E 9 = I i ∧ Hp w [(c7, blk (piC q) 25), (c3, blk (piC raw) 25)] w') (fun i => 60 - i) 0 ?e2 ?r2
      · exact ⟨q, by omega, by omega, rfl, H⟩
      · (clear H; clear q; rintro i E w1 ⟨q, hi, hi2, h0, H⟩; refine W_kn h0 ?_)
        refine W_seq ?_
        refine W_seq ?_
        refine W_region_l ?_
        refine WL_stepM rfl (R_mv) ?_
        refine WL_stepM rfl (R_mv) ?_
        refine WL_step rfl (R_len_slice Tryd.underlying39 rfl) ?_
        refine WL_step rfl (R_lt rfl rfl) ?_
        refine WL_stepM rfl (R_mv) ?_
        apply WL_andK 3 44 47 [(45, 47)] H
        case hc => rfl
        case h1 =>
          intro h46
          refine WL_guard_t rfl rfl ?_
          refine WL_stepM rfl (R_mv) ?_
          refine WL_guard_t rfl rfl ?_
          refine WL_step rfl (R_lt rfl rfl) ?_
          refine WL_stepM rfl (R_pk_t rfl) ?_
          refine WL_nil ?_
          exact ⟨(same_mov rfl (same_updo rfl (same_mov rfl Same.refl))), rfl, H⟩
        case h0 =>
          intro h46
          refine WL_guard_f rfl rfl (by decide) ?_
          refine WL_guard_f rfl rfl (by decide) ?_
          refine WL_stepM rfl (R_pk_f rfl) ?_
          refine WL_nil ?_
          exact ⟨(same_mov rfl (same_updo rfl (same_updo rfl Same.refl))), rfl, H⟩
        case h2 =>
          (clear H; intro E46 w46 H)
          refine WL_nil ?_
          refine W_if rfl (fun h60 => ?_) (fun h60 => ?_)
          · refine W_skip ?_
            refine W_seq ?_
            refine W_block ?_
            refine W_seq ?_
            ((obtain ⟨⟨ok, on, oh⟩, ho1⟩ : ∃ o, os[i]? = some o := ⟨_, List.getElem?_eq_getElem (by omega)⟩; obtain ⟨bz, oz, rfl, hc⟩ := ho.cell sopC_len ho1)) <;> refine W_region_l ?_
            refine WL_stepM rfl (R_mv) ?_
            refine WL_stepM rfl (R_mv) ?_
            refine WL_step rfl (R_indexAddr Tryd.underlying39 Tryd.sizeOf41 rfl rfl (by omega) (by omega) idx_castn) ?_
            refine WL_step rfl (R_loadA_cell (vs := [I ok, I on, I oh]) Tryd.isAgg41 Tryd.sizeOf41 rfl (fun j v hj => H.cellN (hc j v hj) (by repeat' first | exact kNil | apply kCons | apply kApp | assumption | exact OwnS.keys (by assumption))) rfl) ?_
            (refine WL_effn rfl (E_alloc H Tryd.zeroValue41 rfl) ?_; clear H; intro c10 w70 hc10 H)
            (refine WL_effu rfl (E_storeA (vs := [(.int _ _), (.int _ _), (.int _ _)]) H Tryd.sizeOf41 rfl rfl (by simp [Value.oneCell']) .here (by simp)) ?_; clear H; intro w71 H)
            refine WL_nil ?_
            refine W_seqS [(6, 6), (11, 30), (54, 172)] (fun E w' => ∃ q2, Hp w [(c7, blk (piC q2) 25), (c3, blk (piC raw) 25)] w') ?c9 ?k9
            · refine W_seq ?_
              ((rcases (show ok = 0 ∨ ok = 1 ∨ ok = 2 ∨ (ok ≠ 0 ∧ ok ≠ 1 ∧ ok ≠ 2) by omega) with hk | hk | hk | hk)) <;> refine W_region_l ?_
              · refine WL_step rfl (R_fieldAddr (off' := 0) Tryd.underlying41 rfl Tryd.sizeOf3 (by decide) rfl rfl) ?_
                refine WL_step rfl (R_load Tryd.isAgg3 rfl (H.get .here) rfl) ?_
                refine WL_nil ?_
                refine W_block ?_
                refine W_seq ?_
                refine W_region_l ?_
                refine WL_step rfl (R_eq_t rfl rfl (by omega)) ?_
                refine WL_stepM rfl (R_as) ?_
                refine WL_nil ?_
                refine W_cond_t rfl ?_
                refine W_seq ?_
                ((by_cases hv : (1 ≤ on ∧ on ≤ 15) ∧ (q.s = 1 ∨ q.s = 3); obtain ⟨k, rfl⟩ : ∃ k : Nat, on = k := ⟨on.toNat, by omega⟩)) <;> refine W_region_l ?_
                · refine WL_step rfl (R_loadP rfl (H.get (.there .here))) ?_
                  refine WL_step rfl (R_fieldAddr (off' := 1) Tryd.underlying41 rfl Tryd.sizeOf3 (by decide) rfl rfl) ?_
                  refine WL_step rfl (R_load Tryd.isAgg3 rfl (H.get .here) rfl) ?_
                  (refine WL_call rfl (R_call rfl Tryd.call9 rfl) (raise_yes (p := q) (k := k) (by omega) (by omega) hv.2 _) ?_; rintro _ w91 ⟨rfl, H1⟩; replace H := H.seq0 H1; clear H1)
                  refine WL_stepM rfl (R_mv) ?_
                  refine WL_step rfl (R_extract rfl rfl) ?_
                  refine WL_step rfl (R_extract rfl rfl) ?_
                  (refine WL_effn rfl (E_allocP H) ?_; clear H; intro c95 w95 hc95 H)
                  (refine WL_effu rfl (E_storeP H rfl rfl .here) ?_; clear H; intro w96 H)
                  refine WL_stepM rfl (R_as) ?_
                  refine WL_nil ?_
                  refine W_seq ?_
                  refine W_region_l ?_
                  refine WL_step rfl (R_loadP rfl (H.get (.there (.there .here)))) ?_
                  refine WL_step rfl (R_fieldAddr (off' := 1) Tryd.underlying41 rfl Tryd.sizeOf3 (by decide) rfl rfl) ?_
                  refine WL_step rfl (R_load Tryd.isAgg3 rfl (H.get (.there .here)) rfl) ?_
                  (refine WL_call rfl (R_call rfl Tryd.call15 rfl) (refRaise_yes (p := q) (k := k) (by omega) (by omega) hv.2 _) ?_; rintro _ w104 ⟨rfl, H1⟩; replace H := H.seq0 H1; clear H1)
                  refine WL_stepM rfl (R_mv) ?_
                  refine WL_step rfl (R_extract rfl rfl) ?_
                  refine WL_step rfl (R_extract rfl rfl) ?_
                  (refine WL_effn rfl (E_allocP H) ?_; clear H; intro c108 w108 hc108 H)
                  (refine WL_effu rfl (E_storeP H rfl rfl .here) ?_; clear H; intro w109 H)
                  refine WL_stepM rfl (R_as) ?_
                  refine WL_nil ?_
                  refine W_seq ?_
                  refine W_seq ?_
                  refine W_region_l ?_
                  refine WL_step rfl (R_loadP rfl (H.get (.there .here))) ?_
                  refine WL_step rfl (R_loadP rfl (H.get .here)) ?_
                  refine WL_step rfl (R_ne_P_f rfl rfl) ?_
                  refine WL_stepM rfl (R_mv) ?_
                  refine WL_guard_t rfl rfl ?_
                  refine WL_stepM rfl (R_mv) ?_
                  refine WL_guard_t rfl rfl ?_
                  refine WL_stepM rfl (R_mv) ?_
                  refine WL_guard_t rfl rfl ?_
                  refine WL_step rfl (R_ne_bool_f Tryd.underlying4 rfl rfl (by decide)) ?_
                  refine WL_stepM rfl (R_pk_f rfl) ?_
                  refine WL_nil ?_
                  refine W_cond_f rfl ?_
                  refine W_skip ?_
                  refine W_region_l ?_
                  refine WL_step rfl (R_loadP rfl (H.get (.there .here))) ?_
                  (refine WL_effu rfl (E_storeP H rfl rfl (.there (.there (.there .here)))) ?_; clear H; intro w131 H)
                  refine WL_nil ?_
                  exact ⟨(same_updn (same_updo rfl (same_mov rfl (same_updo rfl (same_mov rfl (same_mov rfl (same_mov rfl (same_updo rfl (same_updo rfl (same_updo rfl (same_mov rfl (same_updn (same_updo rfl (same_updo rfl (same_updo rfl (same_mov rfl (same_updo rfl (same_updo rfl (same_updo rfl (same_updo rfl (same_mov rfl (same_updn (same_updo rfl (same_updo rfl (same_updo rfl (same_mov rfl (same_updo rfl (same_updo rfl (same_updo rfl (same_updo rfl (same_mov rfl (same_updo rfl (same_updo rfl (same_updo rfl Same.refl)))))))))))))))))))))))))))))))))), _, Hp.dropN (M := [_, _, _]) H (by repeat' first | exact kNil | apply kCons | apply kApp | assumption | exact OwnS.keys (by assumption))⟩
                · refine WL_step rfl (R_loadP rfl (H.get (.there .here))) ?_
                  refine WL_step rfl (R_fieldAddr (off' := 1) Tryd.underlying41 rfl Tryd.sizeOf3 (by decide) rfl rfl) ?_
                  refine WL_step rfl (R_load Tryd.isAgg3 rfl (H.get .here) rfl) ?_
                  (refine WL_call rfl (R_call rfl Tryd.call9 rfl) (raise_no hv _) ?_; rintro _ w137 ⟨rfl, H1⟩; replace H := H.seq0 H1; clear H1)
                  refine WL_stepM rfl (R_mv) ?_
                  refine WL_step rfl (R_extract rfl rfl) ?_
                  refine WL_step rfl (R_extract rfl rfl) ?_
                  (refine WL_effn rfl (E_allocP H) ?_; clear H; intro c141 w141 hc141 H)
                  (refine WL_effu rfl (E_storeP H rfl rfl .here) ?_; clear H; intro w142 H)
                  refine WL_stepM rfl (R_as) ?_
                  refine WL_nil ?_
                  refine W_seq ?_
                  refine W_region_l ?_
                  refine WL_step rfl (R_loadP rfl (H.get (.there (.there .here)))) ?_
                  refine WL_step rfl (R_fieldAddr (off' := 1) Tryd.underlying41 rfl Tryd.sizeOf3 (by decide) rfl rfl) ?_
                  refine WL_step rfl (R_load Tryd.isAgg3 rfl (H.get (.there .here)) rfl) ?_
                  (refine WL_call rfl (R_call rfl Tryd.call15 rfl) (refRaise_no hv _) ?_; rintro _ w150 ⟨rfl, H1⟩; replace H := H.seq0 H1; clear H1)
                  refine WL_stepM rfl (R_mv) ?_
                  refine WL_step rfl (R_extract rfl rfl) ?_
                  refine WL_step rfl (R_extract rfl rfl) ?_
                  (refine WL_effn rfl (E_allocP H) ?_; clear H; intro c154 w154 hc154 H)
                  (refine WL_effu rfl (E_storeP H rfl rfl .here) ?_; clear H; intro w155 H)
                  refine WL_stepM rfl (R_as) ?_
                  refine WL_nil ?_
                  refine W_seq ?_
                  refine W_seq ?_
                  refine W_region_l ?_
                  refine WL_step rfl (R_loadP rfl (H.get (.there .here))) ?_
                  refine WL_step rfl (R_loadP rfl (H.get .here)) ?_
                  refine WL_step rfl (R_ne_P_f rfl rfl) ?_
                  refine WL_stepM rfl (R_mv) ?_
                  refine WL_guard_t rfl rfl ?_
                  refine WL_stepM rfl (R_mv) ?_
                  refine WL_guard_t rfl rfl ?_
                  refine WL_stepM rfl (R_mv) ?_
                  refine WL_guard_t rfl rfl ?_
                  refine WL_step rfl (R_ne_bool_f Tryd.underlying4 rfl rfl (by decide)) ?_
                  refine WL_stepM rfl (R_pk_f rfl) ?_
                  refine WL_nil ?_
                  refine W_cond_f rfl ?_
                  refine W_skip ?_
                  refine W_region_l ?_
                  refine WL_step rfl (R_loadP rfl (H.get (.there .here))) ?_
                  (refine WL_effu rfl (E_storeP H rfl rfl (.there (.there (.there .here)))) ?_; clear H; intro w177 H)
                  refine WL_nil ?_
                  exact ⟨(same_updn (same_updo rfl (same_mov rfl (same_updo rfl (same_mov rfl (same_mov rfl (same_mov rfl (same_updo rfl (same_updo rfl (same_updo rfl (same_mov rfl (same_updn (same_updo rfl (same_updo rfl (same_updo rfl (same_mov rfl (same_updo rfl (same_updo rfl (same_updo rfl (same_updo rfl (same_mov rfl (same_updn (same_updo rfl (same_updo rfl (same_updo rfl (same_mov rfl (same_updo rfl (same_updo rfl (same_updo rfl (same_updo rfl (same_mov rfl (same_updo rfl (same_updo rfl (same_updo rfl Same.refl)))))))))))))))))))))))))))))))))), _, Hp.dropN (M := [_, _, _]) H (by repeat' first | exact kNil | apply kCons | apply kApp | assumption | exact OwnS.keys (by assumption))⟩
              · refine WL_step rfl (R_fieldAddr (off' := 0) Tryd.underlying41 rfl Tryd.sizeOf3 (by decide) rfl rfl) ?_
                refine WL_step rfl (R_load Tryd.isAgg3 rfl (H.get .here) rfl) ?_
                refine WL_nil ?_
                refine W_block ?_
                refine W_seq ?_
                refine W_region_l ?_
                refine WL_step rfl (R_eq_f rfl rfl (by omega)) ?_
                refine WL_stepM rfl (R_as) ?_
                refine WL_nil ?_
                refine W_cond_f rfl ?_
                refine W_seq ?_
                refine W_region_l ?_
                refine WL_step rfl (R_eq_t rfl rfl (by omega)) ?_
                refine WL_stepM rfl (R_as) ?_
                refine WL_nil ?_
                refine W_cond_t rfl ?_
                refine W_seq ?_
                refine W_region_l ?_
                refine WL_step rfl (R_loadP rfl (H.get (.there .here))) ?_
                (refine WL_call rfl (R_call rfl Tryd.call10 rfl) (deliver_ret q (hT.mono H (by repeat' first | exact kNil | apply kCons | apply kApp | assumption | exact OwnS.keys (by assumption)))) ?_; rintro _ w199 ⟨u1, M1, rfl, hO1, H1⟩; have hdl := deliv_len 16 q; have h199 := H.seqO hO1 H1; clear H H1 hO1; obtain ⟨hO1, H⟩ := h199; obtain ⟨a1, c1, rfl⟩ := OwnS.form hO1)
                refine WL_stepM rfl (R_mv) ?_
                refine WL_step rfl (R_extract rfl rfl) ?_
                refine WL_step rfl (R_extract rfl rfl) ?_
                refine WL_step rfl (R_extract rfl rfl) ?_
                (refine WL_effn rfl (E_allocP H) ?_; clear H; intro c204 w204 hc204 H)
                (refine WL_effu rfl (E_storeP H rfl rfl .here) ?_; clear H; intro w205 H)
                refine WL_stepM rfl (R_as) ?_
                refine WL_stepM rfl (R_as) ?_
                refine WL_nil ?_
                refine W_seq ?_
                refine W_region_l ?_
                refine WL_step rfl (R_loadP rfl (H.get (.there (.app _ (.there .here))))) ?_
                (refine WL_call rfl (R_call rfl Tryd.call16 rfl) (refDeliver_ret q _) ?_; rintro _ w212 ⟨u2, M2, rfl, hO2, H1⟩; have h212 := H.seqO hO2 H1; clear H H1 hO2; obtain ⟨hO2, H⟩ := h212; obtain ⟨a2, c2, rfl⟩ := OwnS.form hO2)
                refine WL_stepM rfl (R_mv) ?_
                refine WL_step rfl (R_extract rfl rfl) ?_
                refine WL_step rfl (R_extract rfl rfl) ?_
                refine WL_step rfl (R_extract rfl rfl) ?_
                (refine WL_effn rfl (E_allocP H) ?_; clear H; intro c217 w217 hc217 H)
                (refine WL_effu rfl (E_storeP H rfl rfl .here) ?_; clear H; intro w218 H)
                refine WL_stepM rfl (R_as) ?_
                refine WL_stepM rfl (R_as) ?_
                refine WL_nil ?_
                refine W_seq ?_
                refine W_seq ?_
                refine W_region_l ?_
                refine WL_step rfl (R_loadP rfl (H.get (.there (.app _ .here)))) ?_
                refine WL_step rfl (R_loadP rfl (H.get .here)) ?_
                refine WL_step rfl (R_ne_P_f rfl rfl) ?_
                refine WL_stepM rfl (R_mv) ?_
                refine WL_guard_t rfl rfl ?_
                refine WL_stepM rfl (R_mv) ?_
                refine WL_guard_t rfl rfl ?_
                refine WL_stepM rfl (R_mv) ?_
                refine WL_guard_t rfl rfl ?_
                (refine WL_call rfl (R_call rfl Tryd.call17 rfl) (Bell.sameInts_ret (xs := (delivN 16 q).2.1.map fun n : Nat => (n : Int)) (ys := (delivN 16 q).2.1.map fun n : Nat => (n : Int)) (by rw [← nI_map]; exact RdS.own hO1 (fun p hp => H.held p (by simp [hp]))) (by rw [← nI_map]; exact RdS.own hO2 (fun p hp => H.held p (by simp [hp]))) (by rw [List.length_map]; omega) (by rw [List.length_map]; omega)) ?_; rintro _ w234 ⟨rfl, H1⟩; rw [decide_eq_true rfl]; replace H := H.seq0 H1; clear H1)
                refine WL_guard_t rfl rfl ?_
                refine WL_step rfl (R_not_t rfl) ?_
                refine WL_stepM rfl (R_pk_f rfl) ?_
                refine WL_stepM rfl (R_mv) ?_
                refine WL_guard_t rfl rfl ?_
                refine WL_stepM rfl (R_mv) ?_
                refine WL_guard_t rfl rfl ?_
                refine WL_stepM rfl (R_mv) ?_
                refine WL_guard_t rfl rfl ?_
                refine WL_step rfl (R_ne_f rfl rfl rfl) ?_
                refine WL_stepM rfl (R_pk_f rfl) ?_
                refine WL_nil ?_
                refine W_cond_f rfl ?_
                refine W_skip ?_
                refine W_region_l ?_
                refine WL_step rfl (R_loadP rfl (H.get (.there (.app _ .here)))) ?_
                (refine WL_effu rfl (E_storeP H rfl rfl (.there (.app _ (.there (.app _ (.there .here)))))) ?_; clear H; intro w251 H)
                refine WL_nil ?_
                (have _g := hO1; exact ⟨(same_updn (same_updo rfl (same_mov rfl (same_updo rfl (same_mov rfl (same_mov rfl (same_mov rfl (same_mov rfl (same_updo rfl (same_updo rfl (same_mov rfl (same_mov rfl (same_mov rfl (same_updo rfl (same_updo rfl (same_updo rfl (same_mov rfl (same_mov rfl (same_updn (same_updo rfl (same_updo rfl (same_updo rfl (same_updo rfl (same_mov rfl (same_updo rfl (same_updo rfl (same_mov rfl (same_mov rfl (same_updn (same_updo rfl (same_updo rfl (same_updo rfl (same_updo rfl (same_mov rfl (same_updo rfl (same_updo rfl (same_mov rfl (same_updo rfl (same_mov rfl (same_updo rfl (same_updo rfl (same_updo rfl Same.refl)))))))))))))))))))))))))))))))))))))))))), _, Hp.dropN (M := [_]) (Hp.dropN (M := M1) (Hp.dropN (M := [_]) (Hp.dropN (M := M2) (Hp.dropN (M := [_]) H (by repeat' first | exact kNil | apply kCons | apply kApp | assumption | exact OwnS.keys (by assumption))) (by repeat' first | exact kNil | apply kCons | apply kApp | assumption | exact OwnS.keys (by assumption))) (by repeat' first | exact kNil | apply kCons | apply kApp | assumption | exact OwnS.keys (by assumption))) (by repeat' first | exact kNil | apply kCons | apply kApp | assumption | exact OwnS.keys (by assumption))) (by repeat' first | exact kNil | apply kCons | apply kApp | assumption | exact OwnS.keys (by assumption))⟩)
              · refine WL_step rfl (R_fieldAddr (off' := 0) Tryd.underlying41 rfl Tryd.sizeOf3 (by decide) rfl rfl) ?_
                refine WL_step rfl (R_load Tryd.isAgg3 rfl (H.get .here) rfl) ?_
                refine WL_nil ?_
                refine W_block ?_
                refine W_seq ?_
                refine W_region_l ?_
                refine WL_step rfl (R_eq_f rfl rfl (by omega)) ?_
                refine WL_stepM rfl (R_as) ?_
                refine WL_nil ?_
                refine W_cond_f rfl ?_
                refine W_seq ?_
                refine W_region_l ?_
                refine WL_step rfl (R_eq_f rfl rfl (by omega)) ?_
                refine WL_stepM rfl (R_as) ?_
                refine WL_nil ?_
                refine W_cond_f rfl ?_
                refine W_seq ?_
                refine W_region_l ?_
                refine WL_step rfl (R_eq_t rfl rfl (by omega)) ?_
                refine WL_stepM rfl (R_as) ?_
                refine WL_nil ?_
                refine W_cond_t rfl ?_
                refine W_seq ?_
                ((by_cases hok : okH on oh; obtain ⟨⟨hk1, hk15⟩, hk9, hk14, hh0, hh2⟩ := id hok; obtain ⟨k, rfl⟩ : ∃ k : Nat, on = k := ⟨on.toNat, by omega⟩; rcases (show oh = 0 ∨ oh = 1 ∨ oh = 2 by omega) with rfl | rfl | rfl)) <;> refine W_region_l ?_
                · refine WL_step rfl (R_loadP rfl (H.get (.there .here))) ?_
                  refine WL_step rfl (R_fieldAddr (off' := 1) Tryd.underlying41 rfl Tryd.sizeOf3 (by decide) rfl rfl) ?_
                  refine WL_step rfl (R_load Tryd.isAgg3 rfl (H.get .here) rfl) ?_
                  refine WL_step rfl (R_fieldAddr (off' := 2) Tryd.underlying41 rfl Tryd.sizeOf3 (by decide) rfl rfl) ?_
                  refine WL_step rfl (R_load Tryd.isAgg3 rfl (H.get .here) rfl) ?_
                  (refine WL_call rfl (R_call rfl Tryd.call14 rfl) (handle_0 (p := q) (k := k) (by omega) (by omega) (by omega) (by omega) _) ?_; rintro _ w283 ⟨rfl, H1⟩; replace H := H.seq0 H1; clear H1)
                  refine WL_stepM rfl (R_mv) ?_
                  refine WL_step rfl (R_extract rfl rfl) ?_
                  refine WL_step rfl (R_extract rfl rfl) ?_
                  (refine WL_effn rfl (E_allocP H) ?_; clear H; intro c287 w287 hc287 H)
                  (refine WL_effu rfl (E_storeP H rfl rfl .here) ?_; clear H; intro w288 H)
                  refine WL_stepM rfl (R_as) ?_
                  refine WL_nil ?_
                  refine W_seq ?_
                  refine W_region_l ?_
                  refine WL_step rfl (R_loadP rfl (H.get (.there (.there .here)))) ?_
                  refine WL_step rfl (R_fieldAddr (off' := 1) Tryd.underlying41 rfl Tryd.sizeOf3 (by decide) rfl rfl) ?_
                  refine WL_step rfl (R_load Tryd.isAgg3 rfl (H.get (.there .here)) rfl) ?_
                  refine WL_step rfl (R_fieldAddr (off' := 2) Tryd.underlying41 rfl Tryd.sizeOf3 (by decide) rfl rfl) ?_
                  refine WL_step rfl (R_load Tryd.isAgg3 rfl (H.get (.there .here)) rfl) ?_
                  (refine WL_call rfl (R_call rfl Tryd.call18 rfl) (refHandle_0 (p := q) (k := k) (by omega) (by omega) (by omega) (by omega) _) ?_; rintro _ w298 ⟨rfl, H1⟩; replace H := H.seq0 H1; clear H1)
                  refine WL_stepM rfl (R_mv) ?_
                  refine WL_step rfl (R_extract rfl rfl) ?_
                  refine WL_step rfl (R_extract rfl rfl) ?_
                  (refine WL_effn rfl (E_allocP H) ?_; clear H; intro c302 w302 hc302 H)
                  (refine WL_effu rfl (E_storeP H rfl rfl .here) ?_; clear H; intro w303 H)
                  refine WL_stepM rfl (R_as) ?_
                  refine WL_nil ?_
                  refine W_seq ?_
                  refine W_seq ?_
                  refine W_region_l ?_
                  refine WL_step rfl (R_loadP rfl (H.get (.there .here))) ?_
                  refine WL_step rfl (R_loadP rfl (H.get .here)) ?_
                  refine WL_step rfl (R_ne_P_f rfl rfl) ?_
                  refine WL_stepM rfl (R_mv) ?_
                  refine WL_guard_t rfl rfl ?_
                  refine WL_stepM rfl (R_mv) ?_
                  refine WL_guard_t rfl rfl ?_
                  refine WL_stepM rfl (R_mv) ?_
                  refine WL_guard_t rfl rfl ?_
                  refine WL_step rfl (R_ne_f rfl rfl (by omega)) ?_
                  refine WL_stepM rfl (R_pk_f rfl) ?_
                  refine WL_nil ?_
                  refine W_cond_f rfl ?_
                  refine W_skip ?_
                  refine W_seq ?_
                  refine W_region_l ?_
                  refine WL_stepM rfl (R_mv) ?_
                  refine WL_step rfl (R_eq_t rfl rfl (by omega)) ?_
                  refine WL_nil ?_
                  refine W_cond_t rfl ?_
                  refine W_region_l ?_
                  refine WL_step rfl (R_loadP rfl (H.get (.there .here))) ?_
                  (refine WL_effu rfl (E_storeP H rfl rfl (.there (.there (.there .here)))) ?_; clear H; intro w331 H)
                  refine WL_nil ?_
                  exact ⟨(same_updn (same_updo rfl (same_updo rfl (same_mov rfl (same_mov rfl (same_updo rfl (same_mov rfl (same_mov rfl (same_mov rfl (same_updo rfl (same_updo rfl (same_updo rfl (same_mov rfl (same_updn (same_updo rfl (same_updo rfl (same_updo rfl (same_mov rfl (same_updo rfl (same_updo rfl (same_updo rfl (same_updo rfl (same_updo rfl (same_updo rfl (same_mov rfl (same_updn (same_updo rfl (same_updo rfl (same_updo rfl (same_mov rfl (same_updo rfl (same_updo rfl (same_updo rfl (same_updo rfl (same_updo rfl (same_updo rfl (same_mov rfl (same_updo rfl (same_mov rfl (same_updo rfl (same_mov rfl (same_updo rfl (same_updo rfl (same_updo rfl Same.refl)))))))))))))))))))))))))))))))))))))))))))), _, Hp.dropN (M := [_, _, _]) H (by repeat' first | exact kNil | apply kCons | apply kApp | assumption | exact OwnS.keys (by assumption))⟩
                · refine WL_step rfl (R_loadP rfl (H.get (.there .here))) ?_
                  refine WL_step rfl (R_fieldAddr (off' := 1) Tryd.underlying41 rfl Tryd.sizeOf3 (by decide) rfl rfl) ?_
                  refine WL_step rfl (R_load Tryd.isAgg3 rfl (H.get .here) rfl) ?_
                  refine WL_step rfl (R_fieldAddr (off' := 2) Tryd.underlying41 rfl Tryd.sizeOf3 (by decide) rfl rfl) ?_
                  refine WL_step rfl (R_load Tryd.isAgg3 rfl (H.get .here) rfl) ?_
                  (refine WL_call rfl (R_call rfl Tryd.call14 rfl) (handle_1 (p := q) (k := k) (by omega) (by omega) (by omega) (by omega) _) ?_; rintro _ w339 ⟨rfl, H1⟩; replace H := H.seq0 H1; clear H1)
                  refine WL_stepM rfl (R_mv) ?_
                  refine WL_step rfl (R_extract rfl rfl) ?_
                  refine WL_step rfl (R_extract rfl rfl) ?_
                  (refine WL_effn rfl (E_allocP H) ?_; clear H; intro c343 w343 hc343 H)
                  (refine WL_effu rfl (E_storeP H rfl rfl .here) ?_; clear H; intro w344 H)
                  refine WL_stepM rfl (R_as) ?_
                  refine WL_nil ?_
                  refine W_seq ?_
                  refine W_region_l ?_
                  refine WL_step rfl (R_loadP rfl (H.get (.there (.there .here)))) ?_
                  refine WL_step rfl (R_fieldAddr (off' := 1) Tryd.underlying41 rfl Tryd.sizeOf3 (by decide) rfl rfl) ?_
                  refine WL_step rfl (R_load Tryd.isAgg3 rfl (H.get (.there .here)) rfl) ?_
                  refine WL_step rfl (R_fieldAddr (off' := 2) Tryd.underlying41 rfl Tryd.sizeOf3 (by decide) rfl rfl) ?_
                  refine WL_step rfl (R_load Tryd.isAgg3 rfl (H.get (.there .here)) rfl) ?_
                  (refine WL_call rfl (R_call rfl Tryd.call18 rfl) (refHandle_1 (p := q) (k := k) (by omega) (by omega) (by omega) (by omega) _) ?_; rintro _ w354 ⟨rfl, H1⟩; replace H := H.seq0 H1; clear H1)
                  refine WL_stepM rfl (R_mv) ?_
                  refine WL_step rfl (R_extract rfl rfl) ?_
                  refine WL_step rfl (R_extract rfl rfl) ?_
                  (refine WL_effn rfl (E_allocP H) ?_; clear H; intro c358 w358 hc358 H)
                  (refine WL_effu rfl (E_storeP H rfl rfl .here) ?_; clear H; intro w359 H)
                  refine WL_stepM rfl (R_as) ?_
                  refine WL_nil ?_
                  refine W_seq ?_
                  refine W_seq ?_
                  refine W_region_l ?_
                  refine WL_step rfl (R_loadP rfl (H.get (.there .here))) ?_
                  refine WL_step rfl (R_loadP rfl (H.get .here)) ?_
                  refine WL_step rfl (R_ne_P_f rfl rfl) ?_
                  refine WL_stepM rfl (R_mv) ?_
                  refine WL_guard_t rfl rfl ?_
                  refine WL_stepM rfl (R_mv) ?_
                  refine WL_guard_t rfl rfl ?_
                  refine WL_stepM rfl (R_mv) ?_
                  refine WL_guard_t rfl rfl ?_
                  refine WL_step rfl (R_ne_f rfl rfl (by omega)) ?_
                  refine WL_stepM rfl (R_pk_f rfl) ?_
                  refine WL_nil ?_
                  refine W_cond_f rfl ?_
                  refine W_skip ?_
                  refine W_seq ?_
                  refine W_region_l ?_
                  refine WL_stepM rfl (R_mv) ?_
                  refine WL_step rfl (R_eq_t rfl rfl (by omega)) ?_
                  refine WL_nil ?_
                  refine W_cond_t rfl ?_
                  refine W_region_l ?_
                  refine WL_step rfl (R_loadP rfl (H.get (.there .here))) ?_
                  (refine WL_effu rfl (E_storeP H rfl rfl (.there (.there (.there .here)))) ?_; clear H; intro w387 H)
                  refine WL_nil ?_
                  exact ⟨(same_updn (same_updo rfl (same_updo rfl (same_mov rfl (same_mov rfl (same_updo rfl (same_mov rfl (same_mov rfl (same_mov rfl (same_updo rfl (same_updo rfl (same_updo rfl (same_mov rfl (same_updn (same_updo rfl (same_updo rfl (same_updo rfl (same_mov rfl (same_updo rfl (same_updo rfl (same_updo rfl (same_updo rfl (same_updo rfl (same_updo rfl (same_mov rfl (same_updn (same_updo rfl (same_updo rfl (same_updo rfl (same_mov rfl (same_updo rfl (same_updo rfl (same_updo rfl (same_updo rfl (same_updo rfl (same_updo rfl (same_mov rfl (same_updo rfl (same_mov rfl (same_updo rfl (same_mov rfl (same_updo rfl (same_updo rfl (same_updo rfl Same.refl)))))))))))))))))))))))))))))))))))))))))))), _, Hp.dropN (M := [_, _, _]) H (by repeat' first | exact kNil | apply kCons | apply kApp | assumption | exact OwnS.keys (by assumption))⟩
                · refine WL_step rfl (R_loadP rfl (H.get (.there .here))) ?_
                  refine WL_step rfl (R_fieldAddr (off' := 1) Tryd.underlying41 rfl Tryd.sizeOf3 (by decide) rfl rfl) ?_
                  refine WL_step rfl (R_load Tryd.isAgg3 rfl (H.get .here) rfl) ?_
                  refine WL_step rfl (R_fieldAddr (off' := 2) Tryd.underlying41 rfl Tryd.sizeOf3 (by decide) rfl rfl) ?_
                  refine WL_step rfl (R_load Tryd.isAgg3 rfl (H.get .here) rfl) ?_
                  (refine WL_call rfl (R_call rfl Tryd.call14 rfl) (handle_2 (p := q) (k := k) (by omega) (by omega) (by omega) (by omega) _) ?_; rintro _ w395 ⟨rfl, H1⟩; replace H := H.seq0 H1; clear H1)
                  refine WL_stepM rfl (R_mv) ?_
                  refine WL_step rfl (R_extract rfl rfl) ?_
                  refine WL_step rfl (R_extract rfl rfl) ?_
                  (refine WL_effn rfl (E_allocP H) ?_; clear H; intro c399 w399 hc399 H)
                  (refine WL_effu rfl (E_storeP H rfl rfl .here) ?_; clear H; intro w400 H)
                  refine WL_stepM rfl (R_as) ?_
                  refine WL_nil ?_
                  refine W_seq ?_
                  refine W_region_l ?_
                  refine WL_step rfl (R_loadP rfl (H.get (.there (.there .here)))) ?_
                  refine WL_step rfl (R_fieldAddr (off' := 1) Tryd.underlying41 rfl Tryd.sizeOf3 (by decide) rfl rfl) ?_
                  refine WL_step rfl (R_load Tryd.isAgg3 rfl (H.get (.there .here)) rfl) ?_
                  refine WL_step rfl (R_fieldAddr (off' := 2) Tryd.underlying41 rfl Tryd.sizeOf3 (by decide) rfl rfl) ?_
                  refine WL_step rfl (R_load Tryd.isAgg3 rfl (H.get (.there .here)) rfl) ?_
                  (refine WL_call rfl (R_call rfl Tryd.call18 rfl) (refHandle_2 (p := q) (k := k) (by omega) (by omega) (by omega) (by omega) _) ?_; rintro _ w410 ⟨rfl, H1⟩; replace H := H.seq0 H1; clear H1)
                  refine WL_stepM rfl (R_mv) ?_
                  refine WL_step rfl (R_extract rfl rfl) ?_
                  refine WL_step rfl (R_extract rfl rfl) ?_
                  (refine WL_effn rfl (E_allocP H) ?_; clear H; intro c414 w414 hc414 H)
                  (refine WL_effu rfl (E_storeP H rfl rfl .here) ?_; clear H; intro w415 H)
                  refine WL_stepM rfl (R_as) ?_
                  refine WL_nil ?_
                  refine W_seq ?_
                  refine W_seq ?_
                  refine W_region_l ?_
                  refine WL_step rfl (R_loadP rfl (H.get (.there .here))) ?_
                  refine WL_step rfl (R_loadP rfl (H.get .here)) ?_
                  refine WL_step rfl (R_ne_P_f rfl rfl) ?_
                  refine WL_stepM rfl (R_mv) ?_
                  refine WL_guard_t rfl rfl ?_
                  refine WL_stepM rfl (R_mv) ?_
                  refine WL_guard_t rfl rfl ?_
                  refine WL_stepM rfl (R_mv) ?_
                  refine WL_guard_t rfl rfl ?_
                  refine WL_step rfl (R_ne_f rfl rfl (by omega)) ?_
                  refine WL_stepM rfl (R_pk_f rfl) ?_
                  refine WL_nil ?_
                  refine W_cond_f rfl ?_
                  refine W_skip ?_
                  refine W_seq ?_
                  refine W_region_l ?_
                  refine WL_stepM rfl (R_mv) ?_
                  refine WL_step rfl (R_eq_t rfl rfl (by omega)) ?_
                  refine WL_nil ?_
                  refine W_cond_t rfl ?_
                  refine W_region_l ?_
                  refine WL_step rfl (R_loadP rfl (H.get (.there .here))) ?_
                  (refine WL_effu rfl (E_storeP H rfl rfl (.there (.there (.there .here)))) ?_; clear H; intro w443 H)
                  refine WL_nil ?_
                  exact ⟨(same_updn (same_updo rfl (same_updo rfl (same_mov rfl (same_mov rfl (same_updo rfl (same_mov rfl (same_mov rfl (same_mov rfl (same_updo rfl (same_updo rfl (same_updo rfl (same_mov rfl (same_updn (same_updo rfl (same_updo rfl (same_updo rfl (same_mov rfl (same_updo rfl (same_updo rfl (same_updo rfl (same_updo rfl (same_updo rfl (same_updo rfl (same_mov rfl (same_updn (same_updo rfl (same_updo rfl (same_updo rfl (same_mov rfl (same_updo rfl (same_updo rfl (same_updo rfl (same_updo rfl (same_updo rfl (same_updo rfl (same_mov rfl (same_updo rfl (same_mov rfl (same_updo rfl (same_mov rfl (same_updo rfl (same_updo rfl (same_updo rfl Same.refl)))))))))))))))))))))))))))))))))))))))))))), _, Hp.dropN (M := [_, _, _]) H (by repeat' first | exact kNil | apply kCons | apply kApp | assumption | exact OwnS.keys (by assumption))⟩
                · refine WL_step rfl (R_loadP rfl (H.get (.there .here))) ?_
                  refine WL_step rfl (R_fieldAddr (off' := 1) Tryd.underlying41 rfl Tryd.sizeOf3 (by decide) rfl rfl) ?_
                  refine WL_step rfl (R_load Tryd.isAgg3 rfl (H.get .here) rfl) ?_
                  refine WL_step rfl (R_fieldAddr (off' := 2) Tryd.underlying41 rfl Tryd.sizeOf3 (by decide) rfl rfl) ?_
                  refine WL_step rfl (R_load Tryd.isAgg3 rfl (H.get .here) rfl) ?_
                  (refine WL_call rfl (R_call rfl Tryd.call14 rfl) (handle_no hok _) ?_; rintro _ w451 ⟨rfl, H1⟩; replace H := H.seq0 H1; clear H1)
                  refine WL_stepM rfl (R_mv) ?_
                  refine WL_step rfl (R_extract rfl rfl) ?_
                  refine WL_step rfl (R_extract rfl rfl) ?_
                  (refine WL_effn rfl (E_allocP H) ?_; clear H; intro c455 w455 hc455 H)
                  (refine WL_effu rfl (E_storeP H rfl rfl .here) ?_; clear H; intro w456 H)
                  refine WL_stepM rfl (R_as) ?_
                  refine WL_nil ?_
                  refine W_seq ?_
                  refine W_region_l ?_
                  refine WL_step rfl (R_loadP rfl (H.get (.there (.there .here)))) ?_
                  refine WL_step rfl (R_fieldAddr (off' := 1) Tryd.underlying41 rfl Tryd.sizeOf3 (by decide) rfl rfl) ?_
                  refine WL_step rfl (R_load Tryd.isAgg3 rfl (H.get (.there .here)) rfl) ?_
                  refine WL_step rfl (R_fieldAddr (off' := 2) Tryd.underlying41 rfl Tryd.sizeOf3 (by decide) rfl rfl) ?_
                  refine WL_step rfl (R_load Tryd.isAgg3 rfl (H.get (.there .here)) rfl) ?_
                  (refine WL_call rfl (R_call rfl Tryd.call18 rfl) (refHandle_no hok _) ?_; rintro _ w466 ⟨rfl, H1⟩; replace H := H.seq0 H1; clear H1)
                  refine WL_stepM rfl (R_mv) ?_
                  refine WL_step rfl (R_extract rfl rfl) ?_
                  refine WL_step rfl (R_extract rfl rfl) ?_
                  (refine WL_effn rfl (E_allocP H) ?_; clear H; intro c470 w470 hc470 H)
                  (refine WL_effu rfl (E_storeP H rfl rfl .here) ?_; clear H; intro w471 H)
                  refine WL_stepM rfl (R_as) ?_
                  refine WL_nil ?_
                  refine W_seq ?_
                  refine W_seq ?_
                  refine W_region_l ?_
                  refine WL_step rfl (R_loadP rfl (H.get (.there .here))) ?_
                  refine WL_step rfl (R_loadP rfl (H.get .here)) ?_
                  refine WL_step rfl (R_ne_P_f rfl rfl) ?_
                  refine WL_stepM rfl (R_mv) ?_
                  refine WL_guard_t rfl rfl ?_
                  refine WL_stepM rfl (R_mv) ?_
                  refine WL_guard_t rfl rfl ?_
                  refine WL_stepM rfl (R_mv) ?_
                  refine WL_guard_t rfl rfl ?_
                  refine WL_step rfl (R_ne_f rfl rfl (by omega)) ?_
                  refine WL_stepM rfl (R_pk_f rfl) ?_
                  refine WL_nil ?_
                  refine W_cond_f rfl ?_
                  refine W_skip ?_
                  refine W_seq ?_
                  refine W_region_l ?_
                  refine WL_stepM rfl (R_mv) ?_
                  refine WL_step rfl (R_eq_f rfl rfl (by omega)) ?_
                  refine WL_nil ?_
                  refine W_cond_f rfl ?_
                  refine W_skip ?_
                  exact ⟨(same_updo rfl (same_mov rfl (same_mov rfl (same_updo rfl (same_mov rfl (same_mov rfl (same_mov rfl (same_updo rfl (same_updo rfl (same_updo rfl (same_mov rfl (same_updn (same_updo rfl (same_updo rfl (same_updo rfl (same_mov rfl (same_updo rfl (same_updo rfl (same_updo rfl (same_updo rfl (same_updo rfl (same_updo rfl (same_mov rfl (same_updn (same_updo rfl (same_updo rfl (same_updo rfl (same_mov rfl (same_updo rfl (same_updo rfl (same_updo rfl (same_updo rfl (same_updo rfl (same_updo rfl (same_mov rfl (same_updo rfl (same_mov rfl (same_updo rfl (same_mov rfl (same_updo rfl (same_updo rfl (same_updo rfl Same.refl)))))))))))))))))))))))))))))))))))))))))), _, Hp.dropN (M := [_, _, _]) H (by repeat' first | exact kNil | apply kCons | apply kApp | assumption | exact OwnS.keys (by assumption))⟩
              · refine WL_step rfl (R_fieldAddr (off' := 0) Tryd.underlying41 rfl Tryd.sizeOf3 (by decide) rfl rfl) ?_
                refine WL_step rfl (R_load Tryd.isAgg3 rfl (H.get .here) rfl) ?_
                refine WL_nil ?_
                refine W_block ?_
                refine W_seq ?_
                refine W_region_l ?_
                refine WL_step rfl (R_eq_f rfl rfl (by omega)) ?_
                refine WL_stepM rfl (R_as) ?_
                refine WL_nil ?_
                refine W_cond_f rfl ?_
                refine W_seq ?_
                refine W_region_l ?_
                refine WL_step rfl (R_eq_f rfl rfl (by omega)) ?_
                refine WL_stepM rfl (R_as) ?_
                refine WL_nil ?_
                refine W_cond_f rfl ?_
                refine W_seq ?_
                refine W_region_l ?_
                refine WL_step rfl (R_eq_f rfl rfl (by omega)) ?_
                refine WL_stepM rfl (R_as) ?_
                refine WL_nil ?_
                refine W_cond_f rfl ?_
                refine W_seq ?_
                ((by_cases hm : on < 0 ∨ 65535 < on; have hmE : (maskP q on).2.2 = 122 := (by unfold maskP; rw [if_pos hm]); rotate_left; have hmE : (maskP q on).2.2 = 0 := (by unfold maskP; rw [if_neg hm]))) <;> refine W_region_l ?_
                · refine WL_step rfl (R_loadP rfl (H.get (.there .here))) ?_
                  refine WL_step rfl (R_fieldAddr (off' := 1) Tryd.underlying41 rfl Tryd.sizeOf3 (by decide) rfl rfl) ?_
                  refine WL_step rfl (R_load Tryd.isAgg3 rfl (H.get .here) rfl) ?_
                  (refine WL_call rfl (R_call rfl Tryd.call19 rfl) (mask_ret q on _) ?_; rintro _ w526 ⟨rfl, H1⟩; rw [hmE]; replace H := H.seq0 H1; clear H1)
                  refine WL_stepM rfl (R_mv) ?_
                  refine WL_step rfl (R_extract rfl rfl) ?_
                  refine WL_step rfl (R_extract rfl rfl) ?_
                  refine WL_step rfl (R_extract rfl rfl) ?_
                  (refine WL_effn rfl (E_allocP H) ?_; clear H; intro c531 w531 hc531 H)
                  (refine WL_effu rfl (E_storeP H rfl rfl .here) ?_; clear H; intro w532 H)
                  refine WL_stepM rfl (R_as) ?_
                  refine WL_stepM rfl (R_as) ?_
                  refine WL_nil ?_
                  refine W_seq ?_
                  refine W_region_l ?_
                  refine WL_step rfl (R_loadP rfl (H.get (.there (.there .here)))) ?_
                  refine WL_step rfl (R_fieldAddr (off' := 1) Tryd.underlying41 rfl Tryd.sizeOf3 (by decide) rfl rfl) ?_
                  refine WL_step rfl (R_load Tryd.isAgg3 rfl (H.get (.there .here)) rfl) ?_
                  (refine WL_call rfl (R_call rfl Tryd.call20 rfl) (refMask_ret q on _) ?_; rintro _ w541 ⟨rfl, H1⟩; rw [hmE]; replace H := H.seq0 H1; clear H1)
                  refine WL_stepM rfl (R_mv) ?_
                  refine WL_step rfl (R_extract rfl rfl) ?_
                  refine WL_step rfl (R_extract rfl rfl) ?_
                  refine WL_step rfl (R_extract rfl rfl) ?_
                  (refine WL_effn rfl (E_allocP H) ?_; clear H; intro c546 w546 hc546 H)
                  (refine WL_effu rfl (E_storeP H rfl rfl .here) ?_; clear H; intro w547 H)
                  refine WL_stepM rfl (R_as) ?_
                  refine WL_stepM rfl (R_as) ?_
                  refine WL_nil ?_
                  refine W_seq ?_
                  refine W_seq ?_
                  refine W_region_l ?_
                  refine WL_step rfl (R_loadP rfl (H.get (.there .here))) ?_
                  refine WL_step rfl (R_loadP rfl (H.get .here)) ?_
                  refine WL_step rfl (R_ne_P_f rfl rfl) ?_
                  refine WL_stepM rfl (R_mv) ?_
                  refine WL_guard_t rfl rfl ?_
                  refine WL_stepM rfl (R_mv) ?_
                  refine WL_guard_t rfl rfl ?_
                  refine WL_stepM rfl (R_mv) ?_
                  refine WL_guard_t rfl rfl ?_
                  refine WL_step rfl (R_ne_f rfl rfl rfl) ?_
                  refine WL_stepM rfl (R_pk_f rfl) ?_
                  refine WL_stepM rfl (R_mv) ?_
                  refine WL_guard_t rfl rfl ?_
                  refine WL_stepM rfl (R_mv) ?_
                  refine WL_guard_t rfl rfl ?_
                  refine WL_stepM rfl (R_mv) ?_
                  refine WL_guard_t rfl rfl ?_
                  refine WL_step rfl (R_ne_f rfl rfl (by omega)) ?_
                  refine WL_stepM rfl (R_pk_f rfl) ?_
                  refine WL_nil ?_
                  refine W_cond_f rfl ?_
                  refine W_skip ?_
                  refine W_seq ?_
                  refine W_region_l ?_
                  refine WL_stepM rfl (R_mv) ?_
                  refine WL_step rfl (R_eq_t rfl rfl (by omega)) ?_
                  refine WL_nil ?_
                  refine W_cond_t rfl ?_
                  refine W_region_l ?_
                  refine WL_step rfl (R_loadP rfl (H.get (.there .here))) ?_
                  (refine WL_effu rfl (E_storeP H rfl rfl (.there (.there (.there .here)))) ?_; clear H; intro w584 H)
                  refine WL_nil ?_
                  exact ⟨(same_updn (same_updo rfl (same_updo rfl (same_mov rfl (same_mov rfl (same_updo rfl (same_mov rfl (same_mov rfl (same_mov rfl (same_mov rfl (same_updo rfl (same_mov rfl (same_mov rfl (same_mov rfl (same_updo rfl (same_updo rfl (same_updo rfl (same_mov rfl (same_mov rfl (same_updn (same_updo rfl (same_updo rfl (same_updo rfl (same_updo rfl (same_mov rfl (same_updo rfl (same_updo rfl (same_updo rfl (same_updo rfl (same_mov rfl (same_mov rfl (same_updn (same_updo rfl (same_updo rfl (same_updo rfl (same_updo rfl (same_mov rfl (same_updo rfl (same_updo rfl (same_updo rfl (same_updo rfl (same_mov rfl (same_updo rfl (same_mov rfl (same_updo rfl (same_mov rfl (same_updo rfl (same_updo rfl (same_updo rfl Same.refl))))))))))))))))))))))))))))))))))))))))))))))))), _, Hp.dropN (M := [_, _, _]) H (by repeat' first | exact kNil | apply kCons | apply kApp | assumption | exact OwnS.keys (by assumption))⟩
                · refine WL_step rfl (R_loadP rfl (H.get (.there .here))) ?_
                  refine WL_step rfl (R_fieldAddr (off' := 1) Tryd.underlying41 rfl Tryd.sizeOf3 (by decide) rfl rfl) ?_
                  refine WL_step rfl (R_load Tryd.isAgg3 rfl (H.get .here) rfl) ?_
                  (refine WL_call rfl (R_call rfl Tryd.call19 rfl) (mask_ret q on _) ?_; rintro _ w590 ⟨rfl, H1⟩; rw [hmE]; replace H := H.seq0 H1; clear H1)
                  refine WL_stepM rfl (R_mv) ?_
                  refine WL_step rfl (R_extract rfl rfl) ?_
                  refine WL_step rfl (R_extract rfl rfl) ?_
                  refine WL_step rfl (R_extract rfl rfl) ?_
                  (refine WL_effn rfl (E_allocP H) ?_; clear H; intro c595 w595 hc595 H)
                  (refine WL_effu rfl (E_storeP H rfl rfl .here) ?_; clear H; intro w596 H)
                  refine WL_stepM rfl (R_as) ?_
                  refine WL_stepM rfl (R_as) ?_
                  refine WL_nil ?_
                  refine W_seq ?_
                  refine W_region_l ?_
                  refine WL_step rfl (R_loadP rfl (H.get (.there (.there .here)))) ?_
                  refine WL_step rfl (R_fieldAddr (off' := 1) Tryd.underlying41 rfl Tryd.sizeOf3 (by decide) rfl rfl) ?_
                  refine WL_step rfl (R_load Tryd.isAgg3 rfl (H.get (.there .here)) rfl) ?_
                  (refine WL_call rfl (R_call rfl Tryd.call20 rfl) (refMask_ret q on _) ?_; rintro _ w605 ⟨rfl, H1⟩; rw [hmE]; replace H := H.seq0 H1; clear H1)
                  refine WL_stepM rfl (R_mv) ?_
                  refine WL_step rfl (R_extract rfl rfl) ?_
                  refine WL_step rfl (R_extract rfl rfl) ?_
                  refine WL_step rfl (R_extract rfl rfl) ?_
                  (refine WL_effn rfl (E_allocP H) ?_; clear H; intro c610 w610 hc610 H)
                  (refine WL_effu rfl (E_storeP H rfl rfl .here) ?_; clear H; intro w611 H)
                  refine WL_stepM rfl (R_as) ?_
                  refine WL_stepM rfl (R_as) ?_
                  refine WL_nil ?_
                  refine W_seq ?_
                  refine W_seq ?_
                  refine W_region_l ?_
                  refine WL_step rfl (R_loadP rfl (H.get (.there .here))) ?_
                  refine WL_step rfl (R_loadP rfl (H.get .here)) ?_
                  refine WL_step rfl (R_ne_P_f rfl rfl) ?_
                  refine WL_stepM rfl (R_mv) ?_
                  refine WL_guard_t rfl rfl ?_
                  refine WL_stepM rfl (R_mv) ?_
                  refine WL_guard_t rfl rfl ?_
                  refine WL_stepM rfl (R_mv) ?_
                  refine WL_guard_t rfl rfl ?_
                  refine WL_step rfl (R_ne_f rfl rfl rfl) ?_
                  refine WL_stepM rfl (R_pk_f rfl) ?_
                  refine WL_stepM rfl (R_mv) ?_
                  refine WL_guard_t rfl rfl ?_
                  refine WL_stepM rfl (R_mv) ?_
                  refine WL_guard_t rfl rfl ?_
                  refine WL_stepM rfl (R_mv) ?_
                  refine WL_guard_t rfl rfl ?_
                  refine WL_step rfl (R_ne_f rfl rfl (by omega)) ?_
                  refine WL_stepM rfl (R_pk_f rfl) ?_
                  refine WL_nil ?_
                  refine W_cond_f rfl ?_
                  refine W_skip ?_
                  refine W_seq ?_
                  refine W_region_l ?_
                  refine WL_stepM rfl (R_mv) ?_
                  refine WL_step rfl (R_eq_f rfl rfl (by omega)) ?_
                  refine WL_nil ?_
                  refine W_cond_f rfl ?_
                  refine W_skip ?_
                  exact ⟨(same_updo rfl (same_mov rfl (same_mov rfl (same_updo rfl (same_mov rfl (same_mov rfl (same_mov rfl (same_mov rfl (same_updo rfl (same_mov rfl (same_mov rfl (same_mov rfl (same_updo rfl (same_updo rfl (same_updo rfl (same_mov rfl (same_mov rfl (same_updn (same_updo rfl (same_updo rfl (same_updo rfl (same_updo rfl (same_mov rfl (same_updo rfl (same_updo rfl (same_updo rfl (same_updo rfl (same_mov rfl (same_mov rfl (same_updn (same_updo rfl (same_updo rfl (same_updo rfl (same_updo rfl (same_mov rfl (same_updo rfl (same_updo rfl (same_updo rfl (same_updo rfl (same_mov rfl (same_updo rfl (same_mov rfl (same_updo rfl (same_mov rfl (same_updo rfl (same_updo rfl (same_updo rfl Same.refl))))))))))))))))))))))))))))))))))))))))))))))), _, Hp.dropN (M := [_, _, _]) H (by repeat' first | exact kNil | apply kCons | apply kApp | assumption | exact OwnS.keys (by assumption))⟩
            · (clear H; clear q; rintro E w1 ⟨q, H⟩)
              refine W_seq ?_
              refine W_region_l ?_
              refine WL_step rfl (R_loadP rfl (H.get .here)) ?_
              (refine WL_call rfl (R_call rfl Tryd.call21 rfl) (sigNext_ret q (hT.mono H (by repeat' first | exact kNil | apply kCons | apply kApp | assumption | exact OwnS.keys (by assumption)))) ?_; rintro _ w652 ⟨rfl, H1⟩; replace H := H.seq0 H1; clear H1)
              refine WL_stepM rfl (R_mv) ?_
              refine WL_step rfl (R_extract rfl rfl) ?_
              refine WL_step rfl (R_extract rfl rfl) ?_
              refine WL_stepM rfl (R_as) ?_
              refine WL_stepM rfl (R_as) ?_
              refine WL_nil ?_
              refine W_seq ?_
              refine W_region_l ?_
              refine WL_step rfl (R_loadP rfl (H.get .here)) ?_
              (refine WL_call rfl (R_call rfl Tryd.call22 rfl) (refNext_ret q _) ?_; rintro _ w662 ⟨rfl, H1⟩; replace H := H.seq0 H1; clear H1)
              refine WL_stepM rfl (R_mv) ?_
              refine WL_step rfl (R_extract rfl rfl) ?_
              refine WL_step rfl (R_extract rfl rfl) ?_
              refine WL_stepM rfl (R_as) ?_
              refine WL_stepM rfl (R_as) ?_
              refine WL_nil ?_
              refine W_seq ?_
              (refine W_draw (KH w [(c7, blk (piC q) 25)]) (fun _ => false) (by kernel_rfl) H ?_; clear H; intro w670 H)
              refine WA_takeM 0 rfl rfl rfl (by kernel_rfl) (by kernel_rfl) (H.kh (by simp) (by repeat' first | exact kNil | apply kCons | apply kApp | assumption | exact OwnS.keys (by assumption))) (fun _ hC => R_mv) ?_
              refine WA_takeM 1 rfl rfl rfl (by kernel_rfl) (by kernel_rfl) (H.kh (by simp) (by repeat' first | exact kNil | apply kCons | apply kApp | assumption | exact OwnS.keys (by assumption))) (fun _ hC => R_mv) ?_
              refine WA_take 2 rfl rfl rfl (by kernel_rfl) (by kernel_rfl) (H.kh (by simp) (by repeat' first | exact kNil | apply kCons | apply kApp | assumption | exact OwnS.keys (by assumption))) (fun _ hC => R_ne_f rfl rfl rfl) ?_
              refine WA_takeM 3 rfl rfl rfl (by kernel_rfl) (by kernel_rfl) (H.kh (by simp) (by repeat' first | exact kNil | apply kCons | apply kApp | assumption | exact OwnS.keys (by assumption))) (fun _ hC => R_mv) ?_
              refine WA_takeGM 4 rfl rfl rfl rfl (by kernel_rfl) (by kernel_rfl) (H.kh (by simp) (by repeat' first | exact kNil | apply kCons | apply kApp | assumption | exact OwnS.keys (by assumption))) (fun _ hC => R_mv) ?_
              refine WA_takeGM 5 rfl rfl rfl rfl (by kernel_rfl) (by kernel_rfl) (H.kh (by simp) (by repeat' first | exact kNil | apply kCons | apply kApp | assumption | exact OwnS.keys (by assumption))) (fun _ hC => R_mv) ?_
              refine WA_takeG 6 rfl rfl rfl rfl (by kernel_rfl) (by kernel_rfl) (H.kh (by simp) (by repeat' first | exact kNil | apply kCons | apply kApp | assumption | exact OwnS.keys (by assumption))) (fun _ hC => R_ne_f rfl rfl rfl) ?_
              refine WA_takeM 7 rfl rfl rfl (by kernel_rfl) (by kernel_rfl) (H.kh (by simp) (by repeat' first | exact kNil | apply kCons | apply kApp | assumption | exact OwnS.keys (by assumption))) (fun _ hC => R_pk_f rfl) ?_
              refine WA_takeM 8 rfl rfl rfl (by kernel_rfl) (by kernel_rfl) (H.kh (by simp) (by repeat' first | exact kNil | apply kCons | apply kApp | assumption | exact OwnS.keys (by assumption))) (fun _ hC => R_mv) ?_
              refine WA_takeG 9 rfl rfl rfl rfl (by kernel_rfl) (by kernel_rfl) (H.kh (by simp) (by repeat' first | exact kNil | apply kCons | apply kApp | assumption | exact OwnS.keys (by assumption))) (fun _ hC => R_loadP rfl (hC.get .here)) ?_
              refine WA_takeG 11 rfl rfl rfl rfl (by kernel_rfl) (by kernel_rfl) (H.kh (by simp) (by repeat' first | exact kNil | apply kCons | apply kApp | assumption | exact OwnS.keys (by assumption))) (fun _ hC => R_loadP rfl (hC.get .here)) ?_
              refine WA_one (i := 10) (by kernel_rfl) ?_
              (refine WI_call rfl (.inr ⟨_, _, rfl, rfl⟩) (R_call rfl Tryd.call11 rfl) (wakes_ret q (hT.mono H (by repeat' first | exact kNil | apply kCons | apply kApp | assumption | exact OwnS.keys (by assumption)))) (fun _ _ hR _ => (H.seq0 hR.2).kh (by simp) (by repeat' first | exact kNil | apply kCons | apply kApp | assumption | exact OwnS.keys (by assumption))) ?_; rintro _ w683 ⟨rfl, H1⟩; replace H := H.seq0 H1; clear H1)
              refine WA_one (i := 12) (by kernel_rfl) ?_
              (refine WI_call rfl (.inr ⟨_, _, rfl, rfl⟩) (R_call rfl Tryd.call23 rfl) (refWakes_ret q _) (fun _ _ hR _ => (H.seq0 hR.2).kh (by simp) (by repeat' first | exact kNil | apply kCons | apply kApp | assumption | exact OwnS.keys (by assumption))) ?_; rintro _ w685 ⟨rfl, H1⟩; replace H := H.seq0 H1; clear H1)
              refine WA_takeG 13 rfl rfl rfl rfl (by kernel_rfl) (by kernel_rfl) (H.kh (by simp) (by repeat' first | exact kNil | apply kCons | apply kApp | assumption | exact OwnS.keys (by assumption))) (fun _ hC => R_ne_bool_f Tryd.underlying4 rfl rfl rfl) ?_
              refine WA_takeM 14 rfl rfl rfl (by kernel_rfl) (by kernel_rfl) (H.kh (by simp) (by repeat' first | exact kNil | apply kCons | apply kApp | assumption | exact OwnS.keys (by assumption))) (fun _ hC => R_pk_f rfl) ?_
              refine WA_done (by kernel_rfl) ?_
              refine W_cond_f rfl ?_
              refine W_skip ?_
              refine W_region_l ?_
              refine WL_stepM rfl (R_mv) ?_
              refine WL_step rfl (R_add rfl rfl (w_i64 (by omega))) ?_
              refine WL_stepM rfl (R_as) ?_
              refine WL_nil ?_
              exact ⟨(same_mov rfl (same_updo rfl (same_mov rfl (same_mov rfl (same_updo rfl (same_updo rfl (same_updo rfl (same_updo rfl (same_updo rfl (same_mov rfl (same_mov rfl (same_updo rfl (same_mov rfl (same_mov rfl (same_mov rfl (same_updo rfl (same_mov rfl (same_mov rfl (same_mov rfl (same_mov rfl (same_updo rfl (same_updo rfl (same_mov rfl (same_updo rfl (same_updo rfl (same_mov rfl (same_mov rfl (same_updo rfl (same_updo rfl (same_mov rfl (same_updo rfl (same_updo rfl (same_in rfl (same_updn (same_updo rfl (same_updo rfl (same_updo rfl (same_mov rfl (same_mov rfl (same_know rfl (same_in rfl (same_mov rfl (same_updo rfl (same_updo rfl (same_mov rfl (same_mov rfl same_ovr)))))))))))))))))))))))))))))))))))))))))))))), i + 1, by omega, q, by omega, by omega, rfl, H⟩
          · refine W_exit ?_
            refine (if_pos rfl).mpr ?_
            refine W_region_l ?_
            refine WL_stepM rfl (R_mv) ?_
            (refine WL_call rfl (R_call rfl Tryd.call13 rfl) (proc_ret (hl.monoN H (by repeat' first | exact kNil | apply kCons | apply kApp | assumption | exact OwnS.keys (by assumption))) hb) ?_; rintro _ w701 ⟨p, hp, rfl, H1⟩; replace H := H.seq0 H1; clear H1)
            (refine WL_effu rfl (E_storeP H rfl rfl .here) ?_; clear H; intro w702 H)
            refine WL_nil ?_
            refine W_region_l ?_
            refine WL_stepM rfl (R_mv) ?_
            refine WL_step rfl (R_add rfl rfl (w_i64 (by omega))) ?_
            refine WL_stepM rfl (R_as) ?_
            refine WL_nil ?_
            exact ⟨(same_mov rfl (same_updo rfl (same_mov rfl (same_updn (same_updo rfl (same_mov rfl (same_know rfl (same_in rfl (same_mov rfl (same_updo rfl (same_updo rfl (same_mov rfl (same_mov rfl (same_in rfl (same_mov rfl (same_know rfl (same_updo rfl (same_mov rfl same_ovr)))))))))))))))))), k + 1, by omega, _, by omega, rfl, H⟩
    · refine W_exit ?_
      refine (if_pos rfl).mpr ?_
      refine W_seq ?_
      refine W_region_l ?_
      (refine WL_call rfl (R_call rfl Tryd.call12 rfl) (awake_ret (hT.mono H (by repeat' first | exact kNil | apply kCons | apply kApp | assumption | exact OwnS.keys (by assumption)))) ?_; rintro _ w714 ⟨rfl, H1⟩; replace H := H.seq0 H1; clear H1)
      refine WL_stepM rfl (R_as) ?_
      refine WL_nil ?_
      refine W_ret ?_
      exact ⟨_, rfl, rfl, H.none (by repeat' first | exact kNil | apply kCons | apply kApp | assumption | exact OwnS.keys (by assumption))⟩
end Go.Proofs.YtneeoicjipglkaaDoor.Slot

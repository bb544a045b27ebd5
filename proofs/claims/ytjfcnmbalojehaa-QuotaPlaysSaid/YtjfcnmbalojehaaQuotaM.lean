/-
  The law QuotaPlays.
-/
import Derived.Test.YtjfcnmbalojehaaQuotaL
namespace Go.Proofs.Ytjfcnmbalojehaa.Quota
open Go Go.Proofs Go.Proofs.Ytjfcnmbalojehaa.Fx
set_option maxRecDepth 100000
set_option linter.unusedVariables false
set_option linter.unusedSimpArgs false
set_option maxHeartbeats 2000000

theorem frame_yes {ins : List (Nat × List Int)} {s k : Int} (h : ownP ins s k) : frameQ ins s k = ((firstQ ins s : Int) + k, true) := if_pos h
theorem frame_nay {ins : List (Nat × List Int)} {s k : Int} (h : ¬ ownP ins s k) : frameQ ins s k = (0, false) := if_neg h
theorem plays_ret {fs : List Int} {xs : List QOp} {f l : Value} {w : World} (hf : RdS w f (fs.map I)) (hfb : fs.length ≤ 9223372036854775807) (hl : RdR opC w l xs) (hb : xs.length ≤ 9223372036854775807) :
    Ret Try.prog 12 #[f, l] w fun v w' => v = .bool true ∧ Hp w [] w' := by
  refine Ret_of_W (args := [_, _]) Try.func12 rfl Try.ntmps12 Try.results12 (by simp) ?_
  have H := Hp.refl w
  obtain ⟨ao, ca, rfl⟩ := hl.form
  obtain ⟨fo, fc, rfl⟩ := hf.form
  simp only [List.length_map] at hf ⊢
  refine W_seq ?_
  refine W_region_l ?_
  refine WL_stepM rfl (R_as) ?_
  refine WL_nil ?_
  refine W_seq ?_
  refine W_seq ?_
  refine W_region_l ?_
  refine WL_stepM rfl (R_mv) ?_
  refine WL_step rfl (R_len_slice Try.underlying22 rfl) ?_
  refine WL_step rfl (R_gt rfl rfl) ?_
  refine WL_nil ?_
  refine W_if rfl (fun h12 => ?_) (fun h12 => ?_)
  · refine W_seq ?_
    refine W_region_l ?_
    (refine WL_call rfl (R_call rfl Try.call50 rfl) (awake_ret _) ?_; rintro _ w15 ⟨rfl, H1⟩; replace H := H.seq0 H1; clear H1)
    refine WL_stepM rfl (R_as) ?_
    refine WL_nil ?_
    refine W_ret ?_
    exact ⟨_, rfl, rfl, H⟩
  · refine W_skip ?_
    refine W_seq ?_
    refine W_region_l ?_
    refine WL_stepM rfl (R_mv) ?_
    (refine WL_call rfl (R_call rfl Try.call47 rfl) (new_any hf (by omega)) ?_; clear H; rintro _ w24 ⟨pa, ua, ia, Ma, rfl, hrowa, hHa, hka, hpa⟩; have sa := hHa.sa hka; have H := hHa.H; clear hHa hka)
    refine WL_stepM rfl (R_as) ?_
    refine WL_nil ?_
    refine W_seq ?_
    refine W_seq ?_
    refine W_region_l ?_
    refine WL_stepM rfl (R_mv) ?_
    refine WL_step rfl (R_eq_ptr_nil Try.underlying67 rfl rfl) ?_
    refine WL_stepM rfl (R_mv) ?_
    refine WL_guard_t rfl rfl ?_
    (refine WL_call rfl (R_call rfl Try.call50 rfl) (awake_ret _) ?_; rintro _ w34 ⟨rfl, H1⟩; replace H := H.seq0 H1; clear H1)
    refine WL_guard_t rfl rfl ?_
    refine WL_step rfl (R_not_t rfl) ?_
    refine WL_stepM rfl (R_pk_f rfl) ?_
    refine WL_nil ?_
    refine W_cond_f rfl ?_
    refine W_skip ?_
    refine W_seq ?_
    refine W_region_l ?_
    refine WL_stepM rfl (R_mv) ?_
    (have hsz := H.size; refine WL_call rfl (R_call rfl Try.call51 rfl) (newR_ret (hf.monoN H (kApp (qBlks_keys sa.key) (kApp sa.hO.keys (kCons hpa kNil)))) (by omega)) ?_; rintro _ w44 ⟨pb, ub, ib, Mb, rfl, hrowb, hHb, hkb, hpb⟩; have sb : SB w.heap.size ub ib Mb := ⟨hHb.hO.mono hsz, hHb.len, hHb.small, hHb.bits, fun x hx => Nat.le_trans hsz (hkb x hx)⟩; have hpb2 := Nat.le_trans hsz hpb; replace H := two_both (H.seqN hHb.H (kApp (rBlks_keys hkb) (kApp hHb.hO.keys (kCons hpb kNil)))); clear hHb hkb hpb hsz; have hrow : ia.map (·.2) = ib.map (·.2) := hrowa.trans hrowb.symm)
    refine WL_stepM rfl (R_as) ?_
    refine WL_nil ?_
    refine W_seq ?_
    refine W_seq ?_
    refine W_region_l ?_
    refine WL_stepM rfl (R_as) ?_
    refine WL_nil ?_
    refine W_block ?_
    refine W_loopS [(4, 4), (7, 15), (30, 142)] (fun (k : Nat) E w' => ∃ ia ib, k ≤ xs.length ∧ k ≤ 150 ∧ E 7 = I k ∧ SA w.heap.size ua ia Ma ∧ SB w.heap.size ub ib Mb ∧ ia.map (·.2) = ib.map (·.2) ∧ Hp w (qBlks ia ++ (Ma ++ ((pa, blk [ua] 101) :: (rBlks ib ++ (Mb ++ [(pb, blk [ub] 105)]))))) w') (fun k => 150 - k) 0 ?e0 ?r0
    · exact ⟨ia, ib, by omega, by omega, rfl, sa, sb, hrow, H⟩
    · (clear H sa sb hrow hrowa hrowb; clear ia ib; rintro k E w1 ⟨ia, ib, hk, hk2, h0, sa, sb, hrow, H⟩; refine W_kn h0 ?_)
      refine W_seq ?_
      refine W_seq ?_
      refine W_region_l ?_
      refine WL_stepM rfl (R_mv) ?_
      refine WL_stepM rfl (R_mv) ?_
      refine WL_step rfl (R_len_slice Try.underlying75 rfl) ?_
      refine WL_step rfl (R_lt rfl rfl) ?_
      refine WL_stepM rfl (R_mv) ?_
      apply WL_andK 3 34 37 [(35, 37)] H
      case hc => rfl
      case h1 =>
        intro h63
        refine WL_guard_t rfl rfl ?_
        refine WL_stepM rfl (R_mv) ?_
        refine WL_guard_t rfl rfl ?_
        refine WL_step rfl (R_lt rfl rfl) ?_
        refine WL_stepM rfl (R_pk_t rfl) ?_
        refine WL_nil ?_
        exact ⟨(by repeat' first | with_reducible exact Same.refl | refine same_updo rfl ?_ | refine same_mov rfl ?_ | refine same_upd rfl ?_ | refine same_updn ?_ | refine same_know rfl ?_ | exact same_ovr | refine same_in rfl ?_ | exact Same.refl), rfl, H⟩
      case h0 =>
        intro h63
        refine WL_guard_f rfl rfl (by decide) ?_
        refine WL_guard_f rfl rfl (by decide) ?_
        refine WL_stepM rfl (R_pk_f rfl) ?_
        refine WL_nil ?_
        exact ⟨(by repeat' first | with_reducible exact Same.refl | refine same_updo rfl ?_ | refine same_mov rfl ?_ | refine same_upd rfl ?_ | refine same_updn ?_ | refine same_know rfl ?_ | exact same_ovr | refine same_in rfl ?_ | exact Same.refl), rfl, H⟩
      case h2 =>
        (clear H; intro E63 w63 H)
        refine WL_nil ?_
        refine W_if rfl (fun h77 => ?_) (fun h77 => ?_)
        · refine W_skip ?_
          refine W_seq ?_
          refine W_block ?_
          refine W_seq ?_
          (obtain ⟨⟨oa, s, oc⟩, ho⟩ : ∃ o, xs[k]? = some o := ⟨_, List.getElem?_eq_getElem (by omega)⟩; obtain ⟨b1, o1, rfl, hc⟩ := hl.cell opC_len ho) <;> refine W_region_l ?_
          refine WL_stepM rfl (R_mv) ?_
          refine WL_stepM rfl (R_mv) ?_
          refine WL_step rfl (R_indexAddr Try.underlying75 Try.sizeOf79 rfl rfl (by omega) (by omega) idx_castn) ?_
          refine WL_step rfl (R_loadA_cell (vs := [I oa, I s, I oc]) Try.isAgg79 Try.sizeOf79 rfl (fun j v hj => H.cellN (hc j v hj) (kApp (qBlks_keys sa.key) (kApp sa.hO.keys (kCons hpa (kApp (rBlks_keys sb.key) (kApp sb.hO.keys (kCons hpb2 kNil))))))) rfl) ?_
          (refine WL_effn rfl (E_alloc H Try.zeroValue79 rfl) ?_; clear H; intro bo w87 hbo H)
          (refine WL_effu rfl (E_storeA (vs := [(.int _ _), (.int _ _), (.int _ _)]) H Try.sizeOf79 rfl rfl (by simp [Value.oneCell']) .here (by simp)) ?_; clear H; intro w88 H)
          refine WL_nil ?_
          (replace H := to_end H; refine W_seqS [(4, 4), (9, 12), (44, 81)] (fun E w' => ∃ ia ib, SA w.heap.size ua ia Ma ∧ SB w.heap.size ub ib Mb ∧ ia.map (·.2) = ib.map (·.2) ∧ Hp w (qBlks ia ++ (Ma ++ ((pa, blk [ua] 101) :: (rBlks ib ++ (Mb ++ [(pb, blk [ub] 105), (bo, blk [I oa, I s, I oc] 79)]))))) w') ?c11 ?k11)
          · refine W_seq ?_
            refine W_region_l ?_
            refine WL_step rfl (R_fieldAddr (off' := 0) Try.underlying79 rfl Try.sizeOf3 (by decide) rfl rfl) ?_
            refine WL_step rfl (R_load Try.isAgg3 rfl (H.get (.app _ (.app _ (.there (.app _ (.app _ (.there .here))))))) rfl) ?_
            refine WL_step rfl (R_eq rfl rfl) ?_
            refine WL_nil ?_
            refine W_if rfl (fun h97 => ?_) (fun h97 => ?_)
            · refine W_seq ?_
              ((obtain ⟨⟨ia', k1, e1⟩, hea⟩ : ∃ x, allocQ ia s = x := ⟨_, rfl⟩; obtain ⟨ib', heb, hrow'⟩ := alloc_rows hrow hea)) <;> refine W_region_l ?_
              refine WL_stepM rfl (R_mv) ?_
              refine WL_step rfl (R_fieldAddr (off' := 1) Try.underlying79 rfl Try.sizeOf3 (by decide) rfl rfl) ?_
              refine WL_step rfl (R_load Try.isAgg3 rfl (H.get (.app _ (.app _ (.there (.app _ (.app _ (.there .here))))))) rfl) ?_
              (refine WL_call rfl (R_call rfl Try.call48 rfl) (alloc_to s hea (sa.has H)) ?_; clear H; rintro _ w103 ⟨rfl, hH⟩; have sa' := hH.sa (alloc_key sa.key hea); have H := hH.H; clear hH)
              refine WL_stepM rfl (R_mv) ?_
              refine WL_step rfl (R_extract rfl rfl) ?_
              refine WL_step rfl (R_extract rfl rfl) ?_
              refine WL_stepM rfl (R_as) ?_
              refine WL_stepM rfl (R_as) ?_
              refine WL_nil ?_
              refine W_seq ?_
              refine W_region_l ?_
              refine WL_stepM rfl (R_mv) ?_
              refine WL_step rfl (R_fieldAddr (off' := 1) Try.underlying79 rfl Try.sizeOf3 (by decide) rfl rfl) ?_
              refine WL_step rfl (R_load Try.isAgg3 rfl (H.get (.app _ (.app _ (.there (.app _ (.app _ (.there .here))))))) rfl) ?_
              (refine WL_call rfl (R_call rfl Try.call52 rfl) (allocR_to s heb (sb.has (turn H))) ?_; clear H; rintro _ w115 ⟨rfl, hH⟩; have sb' := hH.sb (alloc_key sb.key heb); have H := turn hH.H; clear hH)
              refine WL_stepM rfl (R_mv) ?_
              refine WL_step rfl (R_extract rfl rfl) ?_
              refine WL_step rfl (R_extract rfl rfl) ?_
              refine WL_stepM rfl (R_as) ?_
              refine WL_stepM rfl (R_as) ?_
              refine WL_nil ?_
              refine W_seq ?_
              refine W_region_l ?_
              refine WL_stepM rfl (R_mv) ?_
              refine WL_stepM rfl (R_mv) ?_
              refine WL_step rfl (R_ne_f rfl rfl (by omega)) ?_
              refine WL_stepM rfl (R_mv) ?_
              refine WL_guard_t rfl rfl ?_
              refine WL_stepM rfl (R_mv) ?_
              refine WL_guard_t rfl rfl ?_
              refine WL_stepM rfl (R_mv) ?_
              refine WL_guard_t rfl rfl ?_
              refine WL_step rfl (R_ne_f rfl rfl (by omega)) ?_
              refine WL_stepM rfl (R_pk_f rfl) ?_
              refine WL_nil ?_
              refine W_cond_f rfl ?_
              refine W_skip ?_
              exact ⟨(by repeat' first | with_reducible exact Same.refl | refine same_updo rfl ?_ | refine same_mov rfl ?_ | refine same_upd rfl ?_ | refine same_updn ?_ | refine same_know rfl ?_ | exact same_ovr | refine same_in rfl ?_ | exact Same.refl), ia', ib', sa', sb', hrow', H⟩
            · refine W_seq ?_
              (obtain ⟨⟨ia', e1⟩, hea⟩ : ∃ x, freeQ ia s oc = x := ⟨_, rfl⟩; obtain ⟨ib', heb, hrow'⟩ := free_rows hrow hea; refine W_draw (Kp [(bo, blk [I oa, I s, I oc] 79)]) (fun _ => false) (by kernel_rfl) H ?_; clear H; intro w140 H)
              refine WA_takeM 0 rfl rfl rfl (by kernel_rfl) (by kernel_rfl) (H.kp.sub (by simp)) (fun _ hC => R_mv) ?_
              refine WA_take 1 rfl rfl rfl (by kernel_rfl) (by kernel_rfl) (H.kp.sub (by simp)) (fun _ hC => R_fieldAddr (off' := 1) Try.underlying79 rfl Try.sizeOf3 (by decide) rfl rfl) ?_
              refine WA_take 2 rfl rfl rfl (by kernel_rfl) (by kernel_rfl) (H.kp.sub (by simp)) (fun _ hC => R_load Try.isAgg3 rfl (hC.get .here) rfl) ?_
              refine WA_take 3 rfl rfl rfl (by kernel_rfl) (by kernel_rfl) (H.kp.sub (by simp)) (fun _ hC => R_fieldAddr (off' := 2) Try.underlying79 rfl Try.sizeOf3 (by decide) rfl rfl) ?_
              refine WA_take 4 rfl rfl rfl (by kernel_rfl) (by kernel_rfl) (H.kp.sub (by simp)) (fun _ hC => R_load Try.isAgg3 rfl (hC.get .here) rfl) ?_
              refine WA_takeM 6 rfl rfl rfl (by kernel_rfl) (by kernel_rfl) (H.kp.sub (by simp)) (fun _ hC => R_mv) ?_
              refine WA_take 7 rfl rfl rfl (by kernel_rfl) (by kernel_rfl) (H.kp.sub (by simp)) (fun _ hC => R_fieldAddr (off' := 1) Try.underlying79 rfl Try.sizeOf3 (by decide) rfl rfl) ?_
              refine WA_take 8 rfl rfl rfl (by kernel_rfl) (by kernel_rfl) (H.kp.sub (by simp)) (fun _ hC => R_load Try.isAgg3 rfl (hC.get .here) rfl) ?_
              refine WA_take 9 rfl rfl rfl (by kernel_rfl) (by kernel_rfl) (H.kp.sub (by simp)) (fun _ hC => R_fieldAddr (off' := 2) Try.underlying79 rfl Try.sizeOf3 (by decide) rfl rfl) ?_
              refine WA_take 10 rfl rfl rfl (by kernel_rfl) (by kernel_rfl) (H.kp.sub (by simp)) (fun _ hC => R_load Try.isAgg3 rfl (hC.get .here) rfl) ?_
              refine WA_one (i := 5) (by kernel_rfl) ?_
              (refine WI_call rfl (.inl rfl) (R_call rfl Try.call53 rfl) (free_to s oc hea (sa.has H)) (fun _ _ hR _ => hR.2.H.kp.sub (by simp)) ?_; clear H; rintro _ w152 ⟨rfl, hH⟩; have sa' := hH.sa (free_key sa.key hea); have H := hH.H; clear hH)
              refine WA_one (i := 11) (by kernel_rfl) ?_
              (refine WI_call rfl (.inl rfl) (R_call rfl Try.call54 rfl) (freeR_to s oc heb (sb.has (turn H))) (fun _ _ hR _ => hR.2.H.kp.sub (by simp)) ?_; clear H; rintro _ w154 ⟨rfl, hH⟩; have sb' := hH.sb (free_key sb.key heb); have H := turn hH.H; clear hH)
              refine WA_take 12 rfl rfl rfl (by kernel_rfl) (by kernel_rfl) (H.kp.sub (by simp)) (fun _ hC => R_ne_f rfl rfl (by omega)) ?_
              refine WA_done (by kernel_rfl) ?_
              refine W_cond_f rfl ?_
              refine W_skip ?_
              exact ⟨(by repeat' first | with_reducible exact Same.refl | refine same_updo rfl ?_ | refine same_mov rfl ?_ | refine same_upd rfl ?_ | refine same_updn ?_ | refine same_know rfl ?_ | exact same_ovr | refine same_in rfl ?_ | exact Same.refl), ia', ib', sa', sb', hrow', H⟩
          · (clear H sa sb hrow; clear ia ib; rintro E w1 ⟨ia, ib, sa, sb, hrow, H⟩; have hfq := first_rows hrow s; have huq := used_rows hrow s; by_cases hz : ownP ia s oc)
            · refine W_seq ?_
              ((have hzb := (own_rows hrow s oc).1 hz; have hfl := firstQ_le (sa.has H).sees hz.1.1.1; have h64 := sa.small _ (rowD_mem hz.1.1.1); have hk0 := hz.1.1.2; have hk1 := hz.1.2; have hfr := frame_yes hz)) <;> refine W_region_l ?_
              refine WL_stepM rfl (R_mv) ?_
              refine WL_step rfl (R_fieldAddr (off' := 1) Try.underlying79 rfl Try.sizeOf3 (by decide) rfl rfl) ?_
              refine WL_step rfl (R_load Try.isAgg3 rfl (H.get (.app _ (.app _ (.there (.app _ (.app _ (.there .here))))))) rfl) ?_
              refine WL_step rfl (R_fieldAddr (off' := 2) Try.underlying79 rfl Try.sizeOf3 (by decide) rfl rfl) ?_
              refine WL_step rfl (R_load Try.isAgg3 rfl (H.get (.app _ (.app _ (.there (.app _ (.app _ (.there .here))))))) rfl) ?_
              (refine WL_call rfl (R_call rfl Try.call49 rfl) (frame_to s oc hfr (sa.has H).sees) ?_; rintro _ w168 ⟨rfl, H1⟩; replace H := H.seq0 H1; clear H1)
              refine WL_stepM rfl (R_mv) ?_
              refine WL_step rfl (R_extract rfl rfl) ?_
              refine WL_step rfl (R_extract rfl rfl) ?_
              refine WL_stepM rfl (R_as) ?_
              refine WL_stepM rfl (R_as) ?_
              refine WL_nil ?_
              refine W_seq ?_
              refine W_region_l ?_
              refine WL_stepM rfl (R_as) ?_
              refine WL_nil ?_
              refine W_seq ?_
              refine W_seq ?_
              refine W_region_l ?_
              refine WL_stepM rfl (R_mv) ?_
              refine WL_step rfl (R_fieldAddr (off' := 1) Try.underlying79 rfl Try.sizeOf3 (by decide) rfl rfl) ?_
              refine WL_step rfl (R_load Try.isAgg3 rfl (H.get (.app _ (.app _ (.there (.app _ (.app _ (.there .here))))))) rfl) ?_
              refine WL_step rfl (R_fieldAddr (off' := 2) Try.underlying79 rfl Try.sizeOf3 (by decide) rfl rfl) ?_
              refine WL_step rfl (R_load Try.isAgg3 rfl (H.get (.app _ (.app _ (.there (.app _ (.app _ (.there .here))))))) rfl) ?_
              (refine WL_call rfl (R_call rfl Try.call55 rfl) (ownsR_to s oc (decide_eq_true hzb) (sb.has (turn H)).sees) ?_; rintro _ w187 ⟨rfl, H1⟩; replace H := H.seq0 H1; clear H1)
              refine WL_nil ?_
              refine W_cond_t rfl ?_
              (refine W_drawH (fun _ => false) (by kernel_rfl) H ?_; clear H; intro w190 H)
              refine WA_takeM 0 rfl rfl rfl (by kernel_rfl) (by kernel_rfl) H (fun _ hC => R_mv) ?_
              refine WA_take 1 rfl rfl rfl (by kernel_rfl) (by kernel_rfl) H (fun _ hC => R_fieldAddr (off' := 1) Try.underlying79 rfl Try.sizeOf3 (by decide) rfl rfl) ?_
              refine WA_take 2 rfl rfl rfl (by kernel_rfl) (by kernel_rfl) H (fun _ hC => R_load Try.isAgg3 rfl (hC.get (.app _ (.app _ (.there (.app _ (.app _ (.there .here))))))) rfl) ?_
              refine WA_take 4 rfl rfl rfl (by kernel_rfl) (by kernel_rfl) H (fun _ hC => R_fieldAddr (off' := 2) Try.underlying79 rfl Try.sizeOf3 (by decide) rfl rfl) ?_
              refine WA_take 5 rfl rfl rfl (by kernel_rfl) (by kernel_rfl) H (fun _ hC => R_load Try.isAgg3 rfl (hC.get (.app _ (.app _ (.there (.app _ (.app _ (.there .here))))))) rfl) ?_
              refine WA_one (i := 3) (by kernel_rfl) ?_
              (refine WI_call rfl (.inl rfl) (R_call rfl Try.call56 rfl) (by exact firstR_ret s (sb.has (turn H)).sees hzb.1.1.1) (by first | exact fun _ _ hR _ => H.seq0 hR.2 | exact fun _ _ hR h => Bool.noConfusion h | exact fun _ _ hR _ => (H.seq0 hR.2).none (by repeat' first | exact kNil | apply kCons | apply kApp | assumption | exact OwnS.keys (by assumption)) | exact fun _ _ hR _ => (H.seq0 hR.2).dropN (by repeat' first | exact kNil | apply kCons | apply kApp | assumption | exact OwnS.keys (by assumption))) ?_; rintro _ w197 ⟨rfl, H1⟩; rw [← hfq]; replace H := H.seq0 H1; clear H1)
              refine WA_take 6 rfl rfl rfl (by kernel_rfl) (by kernel_rfl) H (fun _ hC => R_add rfl rfl (w_i64 (by omega))) ?_
              refine WA_takeM 7 rfl rfl rfl (by kernel_rfl) (by kernel_rfl) H (fun _ hC => R_as) ?_
              refine WA_done (by kernel_rfl) ?_
              refine W_seq ?_
              (refine W_drawH (fun _ => false) (by kernel_rfl) H ?_; clear H; intro w202 H)
              refine WA_takeM 0 rfl rfl rfl (by kernel_rfl) (by kernel_rfl) H (fun _ hC => R_mv) ?_
              refine WA_take 1 rfl rfl rfl (by kernel_rfl) (by kernel_rfl) H (fun _ hC => R_fieldAddr (off' := 1) Try.underlying79 rfl Try.sizeOf3 (by decide) rfl rfl) ?_
              refine WA_take 2 rfl rfl rfl (by kernel_rfl) (by kernel_rfl) H (fun _ hC => R_load Try.isAgg3 rfl (hC.get (.app _ (.app _ (.there (.app _ (.app _ (.there .here))))))) rfl) ?_
              refine WA_take 3 rfl rfl rfl (by kernel_rfl) (by kernel_rfl) H (fun _ hC => R_fieldAddr (off' := 2) Try.underlying79 rfl Try.sizeOf3 (by decide) rfl rfl) ?_
              refine WA_take 4 rfl rfl rfl (by kernel_rfl) (by kernel_rfl) H (fun _ hC => R_load Try.isAgg3 rfl (hC.get (.app _ (.app _ (.there (.app _ (.app _ (.there .here))))))) rfl) ?_
              refine WA_takeM 6 rfl rfl rfl (by kernel_rfl) (by kernel_rfl) H (fun _ hC => R_mv) ?_
              refine WA_take 7 rfl rfl rfl (by kernel_rfl) (by kernel_rfl) H (fun _ hC => R_fieldAddr (off' := 1) Try.underlying79 rfl Try.sizeOf3 (by decide) rfl rfl) ?_
              refine WA_take 8 rfl rfl rfl (by kernel_rfl) (by kernel_rfl) H (fun _ hC => R_load Try.isAgg3 rfl (hC.get (.app _ (.app _ (.there (.app _ (.app _ (.there .here))))))) rfl) ?_
              refine WA_take 9 rfl rfl rfl (by kernel_rfl) (by kernel_rfl) H (fun _ hC => R_fieldAddr (off' := 2) Try.underlying79 rfl Try.sizeOf3 (by decide) rfl rfl) ?_
              refine WA_take 10 rfl rfl rfl (by kernel_rfl) (by kernel_rfl) H (fun _ hC => R_load Try.isAgg3 rfl (hC.get (.app _ (.app _ (.there (.app _ (.app _ (.there .here))))))) rfl) ?_
              refine WA_one (i := 5) (by kernel_rfl) ?_
              (refine WI_call rfl (.inl rfl) (R_call rfl Try.call57 rfl) (by exact owns_to s oc (decide_eq_true hz) (sa.has H).sees) (by first | exact fun _ _ hR _ => H.seq0 hR.2 | exact fun _ _ hR h => Bool.noConfusion h | exact fun _ _ hR _ => (H.seq0 hR.2).none (by repeat' first | exact kNil | apply kCons | apply kApp | assumption | exact OwnS.keys (by assumption)) | exact fun _ _ hR _ => (H.seq0 hR.2).dropN (by repeat' first | exact kNil | apply kCons | apply kApp | assumption | exact OwnS.keys (by assumption))) ?_; rintro _ w214 ⟨rfl, H1⟩; replace H := H.seq0 H1; clear H1)
              refine WA_one (i := 11) (by kernel_rfl) ?_
              (refine WI_call rfl (.inl rfl) (R_call rfl Try.call55 rfl) (by exact ownsR_to s oc (decide_eq_true hzb) (sb.has (turn H)).sees) (by first | exact fun _ _ hR _ => H.seq0 hR.2 | exact fun _ _ hR h => Bool.noConfusion h | exact fun _ _ hR _ => (H.seq0 hR.2).none (by repeat' first | exact kNil | apply kCons | apply kApp | assumption | exact OwnS.keys (by assumption)) | exact fun _ _ hR _ => (H.seq0 hR.2).dropN (by repeat' first | exact kNil | apply kCons | apply kApp | assumption | exact OwnS.keys (by assumption))) ?_; rintro _ w216 ⟨rfl, H1⟩; replace H := H.seq0 H1; clear H1)
              refine WA_take 12 rfl rfl rfl (by kernel_rfl) (by kernel_rfl) H (fun _ hC => R_ne_bool_f Try.underlying4 rfl rfl (by decide)) ?_
              refine WA_takeM 13 rfl rfl rfl (by kernel_rfl) (by kernel_rfl) H (fun _ hC => R_mv) ?_
              refine WA_takeGM 14 rfl rfl rfl rfl (by kernel_rfl) (by kernel_rfl) H (fun _ hC => R_mv) ?_
              refine WA_takeGM 15 rfl rfl rfl rfl (by kernel_rfl) (by kernel_rfl) H (fun _ hC => R_mv) ?_
              refine WA_takeG 16 rfl rfl rfl rfl (by kernel_rfl) (by kernel_rfl) H (fun _ hC => R_fieldAddr (off' := 1) Try.underlying79 rfl Try.sizeOf3 (by decide) rfl rfl) ?_
              refine WA_takeG 17 rfl rfl rfl rfl (by kernel_rfl) (by kernel_rfl) H (fun _ hC => R_load Try.isAgg3 rfl (hC.get (.app _ (.app _ (.there (.app _ (.app _ (.there .here))))))) rfl) ?_
              refine WA_takeG 18 rfl rfl rfl rfl (by kernel_rfl) (by kernel_rfl) H (fun _ hC => R_fieldAddr (off' := 2) Try.underlying79 rfl Try.sizeOf3 (by decide) rfl rfl) ?_
              refine WA_takeG 19 rfl rfl rfl rfl (by kernel_rfl) (by kernel_rfl) H (fun _ hC => R_load Try.isAgg3 rfl (hC.get (.app _ (.app _ (.there (.app _ (.app _ (.there .here))))))) rfl) ?_
              refine WA_one (i := 20) (by kernel_rfl) ?_
              (refine WI_call rfl (.inr ⟨_, _, rfl, rfl⟩) (R_call rfl Try.call55 rfl) (by exact ownsR_to s oc (decide_eq_true hzb) (sb.has (turn H)).sees) (by first | exact fun _ _ hR _ => H.seq0 hR.2 | exact fun _ _ hR h => Bool.noConfusion h | exact fun _ _ hR _ => (H.seq0 hR.2).none (by repeat' first | exact kNil | apply kCons | apply kApp | assumption | exact OwnS.keys (by assumption)) | exact fun _ _ hR _ => (H.seq0 hR.2).dropN (by repeat' first | exact kNil | apply kCons | apply kApp | assumption | exact OwnS.keys (by assumption))) ?_; rintro _ w226 ⟨rfl, H1⟩; replace H := H.seq0 H1; clear H1)
              refine WA_takeG 21 rfl rfl rfl rfl (by kernel_rfl) (by kernel_rfl) H (fun _ hC => R_ne_bool_f Try.underlying4 rfl rfl (by decide)) ?_
              refine WA_takeM 22 rfl rfl rfl (by kernel_rfl) (by kernel_rfl) H (fun _ hC => R_pk_f rfl) ?_
              refine WA_takeM 23 rfl rfl rfl (by kernel_rfl) (by kernel_rfl) H (fun _ hC => R_mv) ?_
              refine WA_takeGM 24 rfl rfl rfl rfl (by kernel_rfl) (by kernel_rfl) H (fun _ hC => R_mv) ?_
              refine WA_takeGM 25 rfl rfl rfl rfl (by kernel_rfl) (by kernel_rfl) H (fun _ hC => R_mv) ?_
              refine WA_takeG 26 rfl rfl rfl rfl (by kernel_rfl) (by kernel_rfl) H (fun _ hC => R_ne_f rfl rfl (by omega)) ?_
              refine WA_takeM 27 rfl rfl rfl (by kernel_rfl) (by kernel_rfl) H (fun _ hC => R_pk_f rfl) ?_
              refine WA_takeM 28 rfl rfl rfl (by kernel_rfl) (by kernel_rfl) H (fun _ hC => R_mv) ?_
              refine WA_takeGM 29 rfl rfl rfl rfl (by kernel_rfl) (by kernel_rfl) H (fun _ hC => R_mv) ?_
              refine WA_takeG 30 rfl rfl rfl rfl (by kernel_rfl) (by kernel_rfl) H (fun _ hC => R_fieldAddr (off' := 1) Try.underlying79 rfl Try.sizeOf3 (by decide) rfl rfl) ?_
              refine WA_takeG 31 rfl rfl rfl rfl (by kernel_rfl) (by kernel_rfl) H (fun _ hC => R_load Try.isAgg3 rfl (hC.get (.app _ (.app _ (.there (.app _ (.app _ (.there .here))))))) rfl) ?_
              refine WA_takeGM 33 rfl rfl rfl rfl (by kernel_rfl) (by kernel_rfl) H (fun _ hC => R_mv) ?_
              refine WA_takeG 34 rfl rfl rfl rfl (by kernel_rfl) (by kernel_rfl) H (fun _ hC => R_fieldAddr (off' := 1) Try.underlying79 rfl Try.sizeOf3 (by decide) rfl rfl) ?_
              refine WA_takeG 35 rfl rfl rfl rfl (by kernel_rfl) (by kernel_rfl) H (fun _ hC => R_load Try.isAgg3 rfl (hC.get (.app _ (.app _ (.there (.app _ (.app _ (.there .here))))))) rfl) ?_
              refine WA_one (i := 32) (by kernel_rfl) ?_
              (refine WI_call rfl (.inr ⟨_, _, rfl, rfl⟩) (R_call rfl Try.call58 rfl) (by exact used_to s huq (sa.has H).sees) (by first | exact fun _ _ hR _ => H.seq0 hR.2 | exact fun _ _ hR h => Bool.noConfusion h | exact fun _ _ hR _ => (H.seq0 hR.2).none (by repeat' first | exact kNil | apply kCons | apply kApp | assumption | exact OwnS.keys (by assumption)) | exact fun _ _ hR _ => (H.seq0 hR.2).dropN (by repeat' first | exact kNil | apply kCons | apply kApp | assumption | exact OwnS.keys (by assumption))) ?_; rintro _ w242 ⟨rfl, H1⟩; replace H := H.seq0 H1; clear H1)
              refine WA_one (i := 36) (by kernel_rfl) ?_
              (refine WI_call rfl (.inr ⟨_, _, rfl, rfl⟩) (R_call rfl Try.call59 rfl) (by exact usedR_ret s (sb.has (turn H)).sees) (by first | exact fun _ _ hR _ => H.seq0 hR.2 | exact fun _ _ hR h => Bool.noConfusion h | exact fun _ _ hR _ => (H.seq0 hR.2).none (by repeat' first | exact kNil | apply kCons | apply kApp | assumption | exact OwnS.keys (by assumption)) | exact fun _ _ hR _ => (H.seq0 hR.2).dropN (by repeat' first | exact kNil | apply kCons | apply kApp | assumption | exact OwnS.keys (by assumption))) ?_; rintro _ w244 ⟨rfl, H1⟩; replace H := H.seq0 H1; clear H1)
              refine WA_takeG 37 rfl rfl rfl rfl (by kernel_rfl) (by kernel_rfl) H (fun _ hC => R_ne_f rfl rfl (by omega)) ?_
              refine WA_takeM 38 rfl rfl rfl (by kernel_rfl) (by kernel_rfl) H (fun _ hC => R_pk_f rfl) ?_
              refine WA_done (by kernel_rfl) ?_
              refine W_cond_f rfl ?_
              refine W_skip ?_
              refine W_region_l ?_
              refine WL_stepM rfl (R_mv) ?_
              refine WL_step rfl (R_add rfl rfl (w_i64 (by omega))) ?_
              refine WL_stepM rfl (R_as) ?_
              refine WL_nil ?_
              exact ⟨(by repeat' first | with_reducible exact Same.refl | refine same_updo rfl ?_ | refine same_mov rfl ?_ | refine same_upd rfl ?_ | refine same_updn ?_ | refine same_know rfl ?_ | exact same_ovr | refine same_in rfl ?_ | exact Same.refl), k + 1, by omega, ia, ib, by omega, by omega, rfl, sa, sb, hrow, of_end H hbo⟩
            · refine W_seq ?_
              ((have hzb : ¬ ownP ib s oc := (fun h' => hz ((own_rows hrow s oc).2 h')); have hfr := frame_nay hz)) <;> refine W_region_l ?_
              refine WL_stepM rfl (R_mv) ?_
              refine WL_step rfl (R_fieldAddr (off' := 1) Try.underlying79 rfl Try.sizeOf3 (by decide) rfl rfl) ?_
              refine WL_step rfl (R_load Try.isAgg3 rfl (H.get (.app _ (.app _ (.there (.app _ (.app _ (.there .here))))))) rfl) ?_
              refine WL_step rfl (R_fieldAddr (off' := 2) Try.underlying79 rfl Try.sizeOf3 (by decide) rfl rfl) ?_
              refine WL_step rfl (R_load Try.isAgg3 rfl (H.get (.app _ (.app _ (.there (.app _ (.app _ (.there .here))))))) rfl) ?_
              (refine WL_call rfl (R_call rfl Try.call49 rfl) (frame_to s oc hfr (sa.has H).sees) ?_; rintro _ w263 ⟨rfl, H1⟩; replace H := H.seq0 H1; clear H1)
              refine WL_stepM rfl (R_mv) ?_
              refine WL_step rfl (R_extract rfl rfl) ?_
              refine WL_step rfl (R_extract rfl rfl) ?_
              refine WL_stepM rfl (R_as) ?_
              refine WL_stepM rfl (R_as) ?_
              refine WL_nil ?_
              refine W_seq ?_
              refine W_region_l ?_
              refine WL_stepM rfl (R_as) ?_
              refine WL_nil ?_
              refine W_seq ?_
              refine W_seq ?_
              refine W_region_l ?_
              refine WL_stepM rfl (R_mv) ?_
              refine WL_step rfl (R_fieldAddr (off' := 1) Try.underlying79 rfl Try.sizeOf3 (by decide) rfl rfl) ?_
              refine WL_step rfl (R_load Try.isAgg3 rfl (H.get (.app _ (.app _ (.there (.app _ (.app _ (.there .here))))))) rfl) ?_
              refine WL_step rfl (R_fieldAddr (off' := 2) Try.underlying79 rfl Try.sizeOf3 (by decide) rfl rfl) ?_
              refine WL_step rfl (R_load Try.isAgg3 rfl (H.get (.app _ (.app _ (.there (.app _ (.app _ (.there .here))))))) rfl) ?_
              (refine WL_call rfl (R_call rfl Try.call55 rfl) (ownsR_to s oc (decide_eq_false hzb) (sb.has (turn H)).sees) ?_; rintro _ w282 ⟨rfl, H1⟩; replace H := H.seq0 H1; clear H1)
              refine WL_nil ?_
              refine W_cond_f rfl ?_
              refine W_skip ?_
              refine W_seq ?_
              (refine W_drawH (fun _ => false) (by kernel_rfl) H ?_; clear H; intro w287 H)
              refine WA_takeM 0 rfl rfl rfl (by kernel_rfl) (by kernel_rfl) H (fun _ hC => R_mv) ?_
              refine WA_take 1 rfl rfl rfl (by kernel_rfl) (by kernel_rfl) H (fun _ hC => R_fieldAddr (off' := 1) Try.underlying79 rfl Try.sizeOf3 (by decide) rfl rfl) ?_
              refine WA_take 2 rfl rfl rfl (by kernel_rfl) (by kernel_rfl) H (fun _ hC => R_load Try.isAgg3 rfl (hC.get (.app _ (.app _ (.there (.app _ (.app _ (.there .here))))))) rfl) ?_
              refine WA_take 3 rfl rfl rfl (by kernel_rfl) (by kernel_rfl) H (fun _ hC => R_fieldAddr (off' := 2) Try.underlying79 rfl Try.sizeOf3 (by decide) rfl rfl) ?_
              refine WA_take 4 rfl rfl rfl (by kernel_rfl) (by kernel_rfl) H (fun _ hC => R_load Try.isAgg3 rfl (hC.get (.app _ (.app _ (.there (.app _ (.app _ (.there .here))))))) rfl) ?_
              refine WA_takeM 6 rfl rfl rfl (by kernel_rfl) (by kernel_rfl) H (fun _ hC => R_mv) ?_
              refine WA_take 7 rfl rfl rfl (by kernel_rfl) (by kernel_rfl) H (fun _ hC => R_fieldAddr (off' := 1) Try.underlying79 rfl Try.sizeOf3 (by decide) rfl rfl) ?_
              refine WA_take 8 rfl rfl rfl (by kernel_rfl) (by kernel_rfl) H (fun _ hC => R_load Try.isAgg3 rfl (hC.get (.app _ (.app _ (.there (.app _ (.app _ (.there .here))))))) rfl) ?_
              refine WA_take 9 rfl rfl rfl (by kernel_rfl) (by kernel_rfl) H (fun _ hC => R_fieldAddr (off' := 2) Try.underlying79 rfl Try.sizeOf3 (by decide) rfl rfl) ?_
              refine WA_take 10 rfl rfl rfl (by kernel_rfl) (by kernel_rfl) H (fun _ hC => R_load Try.isAgg3 rfl (hC.get (.app _ (.app _ (.there (.app _ (.app _ (.there .here))))))) rfl) ?_
              refine WA_one (i := 5) (by kernel_rfl) ?_
              (refine WI_call rfl (.inl rfl) (R_call rfl Try.call57 rfl) (by exact owns_to s oc (decide_eq_false hz) (sa.has H).sees) (by first | exact fun _ _ hR _ => H.seq0 hR.2 | exact fun _ _ hR h => Bool.noConfusion h | exact fun _ _ hR _ => (H.seq0 hR.2).none (by repeat' first | exact kNil | apply kCons | apply kApp | assumption | exact OwnS.keys (by assumption)) | exact fun _ _ hR _ => (H.seq0 hR.2).dropN (by repeat' first | exact kNil | apply kCons | apply kApp | assumption | exact OwnS.keys (by assumption))) ?_; rintro _ w299 ⟨rfl, H1⟩; replace H := H.seq0 H1; clear H1)
              refine WA_one (i := 11) (by kernel_rfl) ?_
              (refine WI_call rfl (.inl rfl) (R_call rfl Try.call55 rfl) (by exact ownsR_to s oc (decide_eq_false hzb) (sb.has (turn H)).sees) (by first | exact fun _ _ hR _ => H.seq0 hR.2 | exact fun _ _ hR h => Bool.noConfusion h | exact fun _ _ hR _ => (H.seq0 hR.2).none (by repeat' first | exact kNil | apply kCons | apply kApp | assumption | exact OwnS.keys (by assumption)) | exact fun _ _ hR _ => (H.seq0 hR.2).dropN (by repeat' first | exact kNil | apply kCons | apply kApp | assumption | exact OwnS.keys (by assumption))) ?_; rintro _ w301 ⟨rfl, H1⟩; replace H := H.seq0 H1; clear H1)
              refine WA_take 12 rfl rfl rfl (by kernel_rfl) (by kernel_rfl) H (fun _ hC => R_ne_bool_f Try.underlying4 rfl rfl (by decide)) ?_
              refine WA_takeM 13 rfl rfl rfl (by kernel_rfl) (by kernel_rfl) H (fun _ hC => R_mv) ?_
              refine WA_takeGM 14 rfl rfl rfl rfl (by kernel_rfl) (by kernel_rfl) H (fun _ hC => R_mv) ?_
              refine WA_takeGM 15 rfl rfl rfl rfl (by kernel_rfl) (by kernel_rfl) H (fun _ hC => R_mv) ?_
              refine WA_takeG 16 rfl rfl rfl rfl (by kernel_rfl) (by kernel_rfl) H (fun _ hC => R_fieldAddr (off' := 1) Try.underlying79 rfl Try.sizeOf3 (by decide) rfl rfl) ?_
              refine WA_takeG 17 rfl rfl rfl rfl (by kernel_rfl) (by kernel_rfl) H (fun _ hC => R_load Try.isAgg3 rfl (hC.get (.app _ (.app _ (.there (.app _ (.app _ (.there .here))))))) rfl) ?_
              refine WA_takeG 18 rfl rfl rfl rfl (by kernel_rfl) (by kernel_rfl) H (fun _ hC => R_fieldAddr (off' := 2) Try.underlying79 rfl Try.sizeOf3 (by decide) rfl rfl) ?_
              refine WA_takeG 19 rfl rfl rfl rfl (by kernel_rfl) (by kernel_rfl) H (fun _ hC => R_load Try.isAgg3 rfl (hC.get (.app _ (.app _ (.there (.app _ (.app _ (.there .here))))))) rfl) ?_
              refine WA_one (i := 20) (by kernel_rfl) ?_
              (refine WI_call rfl (.inr ⟨_, _, rfl, rfl⟩) (R_call rfl Try.call55 rfl) (by exact ownsR_to s oc (decide_eq_false hzb) (sb.has (turn H)).sees) (by first | exact fun _ _ hR _ => H.seq0 hR.2 | exact fun _ _ hR h => Bool.noConfusion h | exact fun _ _ hR _ => (H.seq0 hR.2).none (by repeat' first | exact kNil | apply kCons | apply kApp | assumption | exact OwnS.keys (by assumption)) | exact fun _ _ hR _ => (H.seq0 hR.2).dropN (by repeat' first | exact kNil | apply kCons | apply kApp | assumption | exact OwnS.keys (by assumption))) ?_; rintro _ w311 ⟨rfl, H1⟩; replace H := H.seq0 H1; clear H1)
              refine WA_takeG 21 rfl rfl rfl rfl (by kernel_rfl) (by kernel_rfl) H (fun _ hC => R_ne_bool_f Try.underlying4 rfl rfl (by decide)) ?_
              refine WA_takeM 22 rfl rfl rfl (by kernel_rfl) (by kernel_rfl) H (fun _ hC => R_pk_f rfl) ?_
              refine WA_takeM 23 rfl rfl rfl (by kernel_rfl) (by kernel_rfl) H (fun _ hC => R_mv) ?_
              refine WA_takeGM 24 rfl rfl rfl rfl (by kernel_rfl) (by kernel_rfl) H (fun _ hC => R_mv) ?_
              refine WA_takeGM 25 rfl rfl rfl rfl (by kernel_rfl) (by kernel_rfl) H (fun _ hC => R_mv) ?_
              refine WA_takeG 26 rfl rfl rfl rfl (by kernel_rfl) (by kernel_rfl) H (fun _ hC => R_ne_f rfl rfl (by omega)) ?_
              refine WA_takeM 27 rfl rfl rfl (by kernel_rfl) (by kernel_rfl) H (fun _ hC => R_pk_f rfl) ?_
              refine WA_takeM 28 rfl rfl rfl (by kernel_rfl) (by kernel_rfl) H (fun _ hC => R_mv) ?_
              refine WA_takeGM 29 rfl rfl rfl rfl (by kernel_rfl) (by kernel_rfl) H (fun _ hC => R_mv) ?_
              refine WA_takeG 30 rfl rfl rfl rfl (by kernel_rfl) (by kernel_rfl) H (fun _ hC => R_fieldAddr (off' := 1) Try.underlying79 rfl Try.sizeOf3 (by decide) rfl rfl) ?_
              refine WA_takeG 31 rfl rfl rfl rfl (by kernel_rfl) (by kernel_rfl) H (fun _ hC => R_load Try.isAgg3 rfl (hC.get (.app _ (.app _ (.there (.app _ (.app _ (.there .here))))))) rfl) ?_
              refine WA_takeGM 33 rfl rfl rfl rfl (by kernel_rfl) (by kernel_rfl) H (fun _ hC => R_mv) ?_
              refine WA_takeG 34 rfl rfl rfl rfl (by kernel_rfl) (by kernel_rfl) H (fun _ hC => R_fieldAddr (off' := 1) Try.underlying79 rfl Try.sizeOf3 (by decide) rfl rfl) ?_
              refine WA_takeG 35 rfl rfl rfl rfl (by kernel_rfl) (by kernel_rfl) H (fun _ hC => R_load Try.isAgg3 rfl (hC.get (.app _ (.app _ (.there (.app _ (.app _ (.there .here))))))) rfl) ?_
              refine WA_one (i := 32) (by kernel_rfl) ?_
              (refine WI_call rfl (.inr ⟨_, _, rfl, rfl⟩) (R_call rfl Try.call58 rfl) (by exact used_to s huq (sa.has H).sees) (by first | exact fun _ _ hR _ => H.seq0 hR.2 | exact fun _ _ hR h => Bool.noConfusion h | exact fun _ _ hR _ => (H.seq0 hR.2).none (by repeat' first | exact kNil | apply kCons | apply kApp | assumption | exact OwnS.keys (by assumption)) | exact fun _ _ hR _ => (H.seq0 hR.2).dropN (by repeat' first | exact kNil | apply kCons | apply kApp | assumption | exact OwnS.keys (by assumption))) ?_; rintro _ w327 ⟨rfl, H1⟩; replace H := H.seq0 H1; clear H1)
              refine WA_one (i := 36) (by kernel_rfl) ?_
              (refine WI_call rfl (.inr ⟨_, _, rfl, rfl⟩) (R_call rfl Try.call59 rfl) (by exact usedR_ret s (sb.has (turn H)).sees) (by first | exact fun _ _ hR _ => H.seq0 hR.2 | exact fun _ _ hR h => Bool.noConfusion h | exact fun _ _ hR _ => (H.seq0 hR.2).none (by repeat' first | exact kNil | apply kCons | apply kApp | assumption | exact OwnS.keys (by assumption)) | exact fun _ _ hR _ => (H.seq0 hR.2).dropN (by repeat' first | exact kNil | apply kCons | apply kApp | assumption | exact OwnS.keys (by assumption))) ?_; rintro _ w329 ⟨rfl, H1⟩; replace H := H.seq0 H1; clear H1)
              refine WA_takeG 37 rfl rfl rfl rfl (by kernel_rfl) (by kernel_rfl) H (fun _ hC => R_ne_f rfl rfl (by omega)) ?_
              refine WA_takeM 38 rfl rfl rfl (by kernel_rfl) (by kernel_rfl) H (fun _ hC => R_pk_f rfl) ?_
              refine WA_done (by kernel_rfl) ?_
              refine W_cond_f rfl ?_
              refine W_skip ?_
              refine W_region_l ?_
              refine WL_stepM rfl (R_mv) ?_
              refine WL_step rfl (R_add rfl rfl (w_i64 (by omega))) ?_
              refine WL_stepM rfl (R_as) ?_
              refine WL_nil ?_
              exact ⟨(by repeat' first | with_reducible exact Same.refl | refine same_updo rfl ?_ | refine same_mov rfl ?_ | refine same_upd rfl ?_ | refine same_updn ?_ | refine same_know rfl ?_ | exact same_ovr | refine same_in rfl ?_ | exact Same.refl), k + 1, by omega, ia, ib, by omega, by omega, rfl, sa, sb, hrow, of_end H hbo⟩
        · refine W_exit ?_
          refine (if_pos rfl).mpr ?_
          refine W_seq ?_
          refine W_region_l ?_
          refine WL_stepM rfl (R_as) ?_
          refine WL_nil ?_
          refine W_ret ?_
          exact ⟨_, rfl, rfl, H.none (kApp (qBlks_keys sa.key) (kApp sa.hO.keys (kCons hpa (kApp (rBlks_keys sb.key) (kApp sb.hO.keys (kCons hpb2 kNil))))))⟩
end Go.Proofs.Ytjfcnmbalojehaa.Quota

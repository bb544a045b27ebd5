/-
  TopReached, walked up to what awake does.
-/
import Derived.Test.YtlpmfldijgdcoaaGreatDoorPlanH
namespace Go.Proofs.YtlpmfldijgdcoaaGreatDoor.Top
open Go Go.Proofs Go.Proofs.YtlpmfldijgdcoaaGreatDoor.Fx
set_option maxRecDepth 100000
set_option linter.unusedVariables false
set_option linter.unusedSimpArgs false
set_option maxHeartbeats 32000000

theorem reached_ret (haw : ∀ w : World, Ret Tryz.prog 10 #[] w fun v w' => v = .bool true ∧ Hp w [] w') {xs : List Int} {lease : Int} {w : World} {v0 : Value} (h0 : RdS w v0 (xs.map fun x => I x)) (h0b : xs.length ≤ 9223372036854775807) :
    Ret Tryz.prog 7 #[v0, I lease] w fun v w' => v = .bool true ∧ Hp w [] w' := by
  refine Ret_of_W (args := [_, _]) Tryz.func7 rfl Tryz.ntmps7 Tryz.results7 (by simp) ?_
  have H := Hp.refl w
  refine W_seq ?_
  refine W_region_l ?_
  refine WL_stepM rfl (R_as) ?_
  refine WL_nil ?_
  refine W_seq ?_
  refine W_region_l ?_
  refine WL_stepM rfl (R_mv) ?_
  refine WL_stepM rfl (R_mv) ?_
  (refine WL_call rfl (R_call rfl Tryz.call8 rfl) (Plan_ret (h0.same H) h0b) ?_; rintro _ w9 ⟨ms, bs, ls, vm, vb, M1, M2, rfl, hms, hbl, hbo, hls, hO1, hO2, H1⟩; have k1 := hO1.keys; have k2 := hO2.keys; have hO1 := hO1.mono H.size; have hO2 := hO2.mono H.size; replace H := H.seqN H1 (by intro p hp; rcases List.mem_append.1 hp with hp | hp; exact k2 p hp; exact k1 p hp); clear H1 k1 k2; rw [List.append_nil] at H; obtain ⟨bm, mc, spm, rfl, hbm, rfl, hspm, hmc⟩ := OwnS.pos hO1 (by omega); obtain ⟨qa, qc, rfl⟩ := hO2.form; have hK2 := hO2.keys; obtain ⟨C, hC0⟩ : ∃ C, cloTo ms bs ms.length = C := ⟨_, rfl⟩; have hCl : C.length = ms.length := (by rw [← hC0]; exact cloTo_len _ _ _); have hwa := want_all hbo; rw [hC0] at hwa)
  (refine WL_effn rfl (E_alloc (vs := [nilS, nilS, I 0]) H Tryz.zeroValue27 (by kernel_rfl)) ?_; clear H; intro c5 w10 hc5 H)
  (refine WL_effu rfl (E_storeA (vs := [sl bm 0 ms.length mc, .slice qa bs.length qc, I ls]) H Tryz.sizeOf27 rfl rfl (by simp [Value.oneCell']) .here (by simp)) ?_; clear H; intro w11 H; replace H : Hp w ((c5, blk [sl bm 0 ms.length mc, .slice qa bs.length qc, I ls] 27) :: (M2 ++ [(bm, blk (ms.map Bo ++ spm) 4)])) _ := H)
  refine WL_nil ?_
  refine W_seq ?_
  refine W_region_l ?_
  refine WL_step rfl (R_loadA (vs := [sl bm 0 ms.length mc, .slice qa bs.length qc, I ls]) Tryz.isAgg27 Tryz.sizeOf27 rfl (H.get .here) rfl (by simp)) ?_
  (refine WL_call rfl (R_call rfl Tryz.call17 rfl) (closT_ret (ms := ms) (bs := bs) (ls := ls) ⟨⟨_, _, rfl, RdS.own hO1 (fun p hp => H.held p (by simp [List.mem_singleton.1 hp])), RdR.own brC_len hO2 rfl (fun p hp => H.held p (by simp [hp]))⟩, hms.1, hms.2, hbl, hbo, hls.1, hls.2⟩) ?_; rintro vc w16 ⟨MC, hOC, H1⟩; rw [hC0] at hOC; have h16 := H.seqO hOC H1; clear H H1 hOC; obtain ⟨hOC, H⟩ := h16; obtain ⟨q1, qc1, sp1, rfl, hq1, rfl, hsp1, hqc1⟩ := OwnS.pos hOC (by omega); replace H : Hp w ((q1, blk (C.map Bo ++ sp1) 4) :: (c5, blk [sl bm 0 ms.length mc, .slice qa bs.length qc, I ls] 27) :: (M2 ++ [(bm, blk (ms.map Bo ++ spm) 4)])) _ := H)
  refine WL_stepM rfl (R_as) ?_
  refine WL_nil ?_
  refine W_seq ?_
  refine W_seq ?_
  refine W_region_l ?_
  refine WL_stepM rfl (R_mv) ?_
  refine WL_step rfl (R_len_slice Tryz.underlying24 rfl) ?_
  refine WL_step rfl (R_fieldAddr (off' := 0) Tryz.underlying27 rfl Tryz.sizeOf24 (by decide) rfl rfl) ?_
  refine WL_step rfl (R_load Tryz.isAgg24 rfl (H.get (.there .here)) rfl) ?_
  refine WL_step rfl (R_len_slice Tryz.underlying24 rfl) ?_
  refine WL_step rfl (R_ne_f rfl rfl (by omega)) ?_
  refine WL_nil ?_
  refine W_cond_f rfl ?_
  refine W_skip ?_
  refine W_seq ?_
  refine W_region_l ?_
  refine WL_step rfl (R_loadA (vs := [sl bm 0 ms.length mc, .slice qa bs.length qc, I ls]) Tryz.isAgg27 Tryz.sizeOf27 rfl (H.get (.there .here)) rfl (by simp)) ?_
  (refine WL_call rfl (R_call rfl Tryz.call18 rfl) (closD_ret (ms := ms) (bs := bs) (ls := ls) ⟨⟨_, _, rfl, RdS.own hO1 (fun p hp => H.held p (by simp [List.mem_singleton.1 hp])), RdR.own brC_len hO2 rfl (fun p hp => H.held p (by simp [hp]))⟩, hms.1, hms.2, hbl, hbo, hls.1, hls.2⟩) ?_; rintro vd w34 ⟨MD, hOD, H1⟩; rw [hC0] at hOD; have h34 := H.seqO hOD H1; clear H H1 hOD; obtain ⟨hOD, H⟩ := h34; obtain ⟨q2, qc2, sp2, rfl, hq2, rfl, hsp2, hqc2⟩ := OwnS.pos hOD (by omega); replace H : Hp w ((q2, blk (C.map Bo ++ sp2) 4) :: (q1, blk (C.map Bo ++ sp1) 4) :: (c5, blk [sl bm 0 ms.length mc, .slice qa bs.length qc, I ls] 27) :: (M2 ++ [(bm, blk (ms.map Bo ++ spm) 4)])) _ := H)
  refine WL_stepM rfl (R_as) ?_
  refine WL_nil ?_
  refine W_seq ?_
  refine W_seq ?_
  refine W_region_l ?_
  refine WL_stepM rfl (R_as) ?_
  refine WL_nil ?_
  refine W_block ?_
  refine W_loopS [(4, 4), (8, 11), (28, 91)] (fun (i : Nat) E w' => i ≤ ms.length ∧ E 8 = I i ∧ Hp w ((q2, blk (C.map Bo ++ sp2) 4) :: (q1, blk (C.map Bo ++ sp1) 4) :: (c5, blk [sl bm 0 ms.length mc, .slice qa bs.length qc, I ls] 27) :: (M2 ++ [(bm, blk (ms.map Bo ++ spm) 4)])) w') (fun i => ms.length - i) 0 ?e0 ?r0
  · exact ⟨by omega, rfl, H⟩
  · (clear H; rintro i E w1 ⟨hi, h8, H⟩; refine W_kn h8 ?_)
    refine W_seq ?_
    refine W_seq ?_
    refine W_region_l ?_
    refine WL_stepM rfl (R_mv) ?_
    refine WL_stepM rfl (R_mv) ?_
    refine WL_step rfl (R_len_slice Tryz.underlying24 rfl) ?_
    refine WL_step rfl (R_lt rfl rfl) ?_
    refine WL_nil ?_
    refine W_if rfl (fun h53 => ?_) (fun h53 => ?_)
    · refine W_skip ?_
      refine W_seq ?_
      refine W_block ?_
      refine W_seq ?_
      ((obtain ⟨m, hm⟩ : ∃ m, ms[i]? = some m := ⟨_, List.getElem?_eq_getElem (by omega)⟩; obtain ⟨c, hc⟩ : ∃ c, C[i]? = some c := ⟨_, List.getElem?_eq_getElem (by omega)⟩; have hw0 : wantTo ms C bs i 0 = m := (by rw [want_zero, List.getD_eq_getElem?_getD, hm]; rfl))) <;> refine W_region_l ?_
      refine WL_step rfl (R_fieldAddr (off' := 0) Tryz.underlying27 rfl Tryz.sizeOf24 (by decide) rfl rfl) ?_
      refine WL_step rfl (R_load Tryz.isAgg24 rfl (H.get (.there (.there .here))) rfl) ?_
      refine WL_stepM rfl (R_mv) ?_
      refine WL_step rfl (R_indexAddr (off' := i) Tryz.underlying24 Tryz.sizeOf4 rfl rfl (by omega) (by omega) (by omega)) ?_
      refine WL_step rfl (R_load (v := .bool (wantTo ms C bs i 0)) Tryz.isAgg4 rfl (H.get (.there (.there (.there (.app M2 .here))))) (by rw [List.getElem?_append_left (by rw [List.length_map]; omega), List.getElem?_map, hm, hw0]; rfl)) ?_
      refine WL_stepM rfl (R_as) ?_
      refine WL_nil ?_
      refine W_seq ?_
      refine W_seq ?_
      refine W_region_l ?_
      refine WL_stepM rfl (R_as) ?_
      refine WL_nil ?_
      refine W_block ?_
      refine W_loopS [(9, 11), (39, 74)] (fun (k : Nat) E w' => k ≤ bs.length ∧ E 10 = I k ∧ E 9 = .bool (wantTo ms C bs i k) ∧ Hp w ((q2, blk (C.map Bo ++ sp2) 4) :: (q1, blk (C.map Bo ++ sp1) 4) :: (c5, blk [sl bm 0 ms.length mc, .slice qa bs.length qc, I ls] 27) :: (M2 ++ [(bm, blk (ms.map Bo ++ spm) 4)])) w') (fun k => bs.length - k) 0 ?e2 ?r2
      · exact ⟨by omega, rfl, rfl, H⟩
      · (clear H; rintro k E w1 ⟨hk, h10, h9, H⟩; refine W_kn2 h10 h9 ?_)
        refine W_seq ?_
        refine W_seq ?_
        refine W_region_l ?_
        refine WL_stepM rfl (R_mv) ?_
        refine WL_step rfl (R_fieldAddr (off' := 1) Tryz.underlying27 rfl Tryz.sizeOf25 (by decide) rfl rfl) ?_
        refine WL_step rfl (R_load Tryz.isAgg25 rfl (H.get (.there (.there .here))) rfl) ?_
        refine WL_step rfl (R_len_slice Tryz.underlying25 rfl) ?_
        refine WL_step rfl (R_lt rfl rfl) ?_
        refine WL_nil ?_
        refine W_if rfl (fun h83 => ?_) (fun h83 => ?_)
        · refine W_skip ?_
          refine W_seq ?_
          refine W_block ?_
          refine W_seq ?_
          ((obtain ⟨⟨A, B⟩, hr⟩ : ∃ r, bs[k]? = some r := ⟨_, List.getElem?_eq_getElem (by omega)⟩; obtain ⟨hA, hB, hAB⟩ := hbo _ (List.mem_of_getElem? hr); simp only at hA hB hAB; obtain ⟨b1, o1, rfl, hcc⟩ := (RdR.own brC_len hO2 rfl (fun p hp => H.held p (by simp [hp]))).cell brC_len hr; obtain ⟨x, hx⟩ : ∃ x, C[A]? = some x := ⟨_, List.getElem?_eq_getElem (by omega)⟩; obtain ⟨y, hy⟩ : ∃ y, C[B]? = some y := ⟨_, List.getElem?_eq_getElem (by omega)⟩; have hws := want_succ (ms := ms) (C := C) (i := i) hr; rw [want_one hx hy] at hws; cases x <;> cases y <;> by_cases hAi : A = i <;> by_cases hBi : B = i)) <;> refine W_region_l ?_
          · refine WL_step rfl (R_fieldAddr (off' := 1) Tryz.underlying27 rfl Tryz.sizeOf25 (by decide) rfl rfl) ?_
            refine WL_step rfl (R_load Tryz.isAgg25 rfl (H.get (.there (.there .here))) rfl) ?_
            refine WL_stepM rfl (R_mv) ?_
            refine WL_step rfl (R_indexAddr (off' := o1 + k * 2) Tryz.underlying25 Tryz.sizeOf64 rfl rfl (by omega) (by omega) (by omega)) ?_
            refine WL_step rfl (R_loadA_cell (vs := [I A, I B]) Tryz.isAgg64 Tryz.sizeOf64 rfl (fun j v hj => hcc j v hj) rfl) ?_
            (refine WL_effn rfl (E_alloc (vs := [I 0, I 0]) H Tryz.zeroValue64 (by kernel_rfl)) ?_; clear H; intro c11 w94 hc11 H)
            (refine WL_effu rfl (E_storeA (vs := [(.int _ _), (.int _ _)]) H Tryz.sizeOf64 rfl rfl (by simp [Value.oneCell']) .here (by simp)) ?_; clear H; intro w95 H)
            refine WL_nil ?_
            refine W_seq ?_
            refine W_region_l ?_
            refine WL_step rfl (R_fieldAddr (off' := 0) Tryz.underlying64 rfl Tryz.sizeOf3 (by decide) rfl rfl) ?_
            refine WL_step rfl (R_load Tryz.isAgg3 rfl (H.get .here) rfl) ?_
            refine WL_stepM rfl (R_mv) ?_
            refine WL_step rfl (R_eq_t rfl rfl (by omega)) ?_
            refine WL_stepM rfl (R_mv) ?_
            refine WL_guard_t rfl rfl ?_
            refine WL_stepM rfl (R_mv) ?_
            refine WL_guard_t rfl rfl ?_
            refine WL_step rfl (R_fieldAddr (off' := 1) Tryz.underlying64 rfl Tryz.sizeOf3 (by decide) rfl rfl) ?_
            refine WL_guard_t rfl rfl ?_
            refine WL_step rfl (R_load Tryz.isAgg3 rfl (H.get .here) rfl) ?_
            refine WL_guard_t rfl rfl ?_
            refine WL_step rfl (R_indexAddr (off' := B) Tryz.underlying24 Tryz.sizeOf4 rfl rfl (by omega) (by omega) (by omega)) ?_
            refine WL_guard_t rfl rfl ?_
            refine WL_step rfl (R_load (v := .bool false) Tryz.isAgg4 rfl (H.get (.there (.there .here))) (by rw [List.getElem?_append_left (by rw [List.length_map]; omega), List.getElem?_map, hy]; rfl)) ?_
            refine WL_stepM rfl (R_pk_t rfl) ?_
            refine WL_stepM rfl (R_mv) ?_
            refine WL_guard_t rfl rfl ?_
            refine WL_step rfl (R_fieldAddr (off' := 1) Tryz.underlying64 rfl Tryz.sizeOf3 (by decide) rfl rfl) ?_
            refine WL_guard_t rfl rfl ?_
            refine WL_step rfl (R_load Tryz.isAgg3 rfl (H.get .here) rfl) ?_
            refine WL_guard_t rfl rfl ?_
            refine WL_stepM rfl (R_mv) ?_
            refine WL_guard_t rfl rfl ?_
            refine WL_step rfl (R_eq_t rfl rfl (by omega)) ?_
            refine WL_guard_t rfl rfl ?_
            refine WL_stepM rfl (R_mv) ?_
            refine WL_guard_t rfl rfl ?_
            refine WL_stepM rfl (R_mv) ?_
            refine WL_guard_t rfl rfl ?_
            refine WL_step rfl (R_fieldAddr (off' := 0) Tryz.underlying64 rfl Tryz.sizeOf3 (by decide) rfl rfl) ?_
            refine WL_guard_t rfl rfl ?_
            refine WL_step rfl (R_load Tryz.isAgg3 rfl (H.get .here) rfl) ?_
            refine WL_guard_t rfl rfl ?_
            refine WL_step rfl (R_indexAddr (off' := A) Tryz.underlying24 Tryz.sizeOf4 rfl rfl (by omega) (by omega) (by omega)) ?_
            refine WL_guard_t rfl rfl ?_
            refine WL_step rfl (R_load (v := .bool false) Tryz.isAgg4 rfl (H.get (.there (.there .here))) (by rw [List.getElem?_append_left (by rw [List.length_map]; omega), List.getElem?_map, hx]; rfl)) ?_
            refine WL_guard_t rfl rfl ?_
            refine WL_stepM rfl (R_pk_t rfl) ?_
            refine WL_stepM rfl (R_pk_f rfl) ?_
            refine WL_nil ?_
            refine W_cond_f rfl ?_
            refine W_skip ?_
            refine W_region_l ?_
            refine WL_stepM rfl (R_mv) ?_
            refine WL_step rfl (R_add rfl rfl (w_i64 (by omega))) ?_
            refine WL_stepM rfl (R_as) ?_
            refine WL_nil ?_
            exact ⟨(same_mov rfl (same_updo rfl (same_mov rfl (same_mov rfl (same_mov rfl (same_updo rfl (same_updo rfl (same_updo rfl (same_updo rfl (same_mov rfl (same_mov rfl (same_updo rfl (same_mov rfl (same_updo rfl (same_updo rfl (same_mov rfl (same_mov rfl (same_updo rfl (same_updo rfl (same_updo rfl (same_updo rfl (same_mov rfl (same_mov rfl (same_updo rfl (same_mov rfl (same_updo rfl (same_updo rfl (same_updn (same_updo rfl (same_updo rfl (same_updo rfl (same_mov rfl (same_updo rfl (same_updo rfl (same_know rfl (same_updo rfl (same_updo rfl (same_updo rfl (same_updo rfl (same_mov rfl same_ovr)))))))))))))))))))))))))))))))))))))))), k + 1, by omega, by omega, rfl, congrArg Value.bool (show wantTo ms C bs i k = wantTo ms C bs i (k + 1) from by rw [hws]; simp [hAi, hBi]), H.pop (by assumption)⟩
          · refine WL_step rfl (R_fieldAddr (off' := 1) Tryz.underlying27 rfl Tryz.sizeOf25 (by decide) rfl rfl) ?_
            refine WL_step rfl (R_load Tryz.isAgg25 rfl (H.get (.there (.there .here))) rfl) ?_
            refine WL_stepM rfl (R_mv) ?_
            refine WL_step rfl (R_indexAddr (off' := o1 + k * 2) Tryz.underlying25 Tryz.sizeOf64 rfl rfl (by omega) (by omega) (by omega)) ?_
            refine WL_step rfl (R_loadA_cell (vs := [I A, I B]) Tryz.isAgg64 Tryz.sizeOf64 rfl (fun j v hj => hcc j v hj) rfl) ?_
            (refine WL_effn rfl (E_alloc (vs := [I 0, I 0]) H Tryz.zeroValue64 (by kernel_rfl)) ?_; clear H; intro c11 w153 hc11 H)
            (refine WL_effu rfl (E_storeA (vs := [(.int _ _), (.int _ _)]) H Tryz.sizeOf64 rfl rfl (by simp [Value.oneCell']) .here (by simp)) ?_; clear H; intro w154 H)
            refine WL_nil ?_
            refine W_seq ?_
            refine W_region_l ?_
            refine WL_step rfl (R_fieldAddr (off' := 0) Tryz.underlying64 rfl Tryz.sizeOf3 (by decide) rfl rfl) ?_
            refine WL_step rfl (R_load Tryz.isAgg3 rfl (H.get .here) rfl) ?_
            refine WL_stepM rfl (R_mv) ?_
            refine WL_step rfl (R_eq_t rfl rfl (by omega)) ?_
            refine WL_stepM rfl (R_mv) ?_
            refine WL_guard_t rfl rfl ?_
            refine WL_stepM rfl (R_mv) ?_
            refine WL_guard_t rfl rfl ?_
            refine WL_step rfl (R_fieldAddr (off' := 1) Tryz.underlying64 rfl Tryz.sizeOf3 (by decide) rfl rfl) ?_
            refine WL_guard_t rfl rfl ?_
            refine WL_step rfl (R_load Tryz.isAgg3 rfl (H.get .here) rfl) ?_
            refine WL_guard_t rfl rfl ?_
            refine WL_step rfl (R_indexAddr (off' := B) Tryz.underlying24 Tryz.sizeOf4 rfl rfl (by omega) (by omega) (by omega)) ?_
            refine WL_guard_t rfl rfl ?_
            refine WL_step rfl (R_load (v := .bool false) Tryz.isAgg4 rfl (H.get (.there (.there .here))) (by rw [List.getElem?_append_left (by rw [List.length_map]; omega), List.getElem?_map, hy]; rfl)) ?_
            refine WL_stepM rfl (R_pk_t rfl) ?_
            refine WL_stepM rfl (R_mv) ?_
            refine WL_guard_t rfl rfl ?_
            refine WL_step rfl (R_fieldAddr (off' := 1) Tryz.underlying64 rfl Tryz.sizeOf3 (by decide) rfl rfl) ?_
            refine WL_guard_t rfl rfl ?_
            refine WL_step rfl (R_load Tryz.isAgg3 rfl (H.get .here) rfl) ?_
            refine WL_guard_t rfl rfl ?_
            refine WL_stepM rfl (R_mv) ?_
            refine WL_guard_t rfl rfl ?_
            refine WL_step rfl (R_eq_f rfl rfl (by omega)) ?_
            refine WL_guard_t rfl rfl ?_
            refine WL_stepM rfl (R_mv) ?_
            refine WL_guard_f rfl rfl (by decide) ?_
            refine WL_guard_f rfl rfl (by decide) ?_
            refine WL_guard_f rfl rfl (by decide) ?_
            refine WL_guard_f rfl rfl (by decide) ?_
            refine WL_guard_f rfl rfl (by decide) ?_
            refine WL_guard_t rfl rfl ?_
            refine WL_stepM rfl (R_pk_f rfl) ?_
            refine WL_stepM rfl (R_pk_f rfl) ?_
            refine WL_nil ?_
            refine W_cond_f rfl ?_
            refine W_skip ?_
            refine W_region_l ?_
            refine WL_stepM rfl (R_mv) ?_
            refine WL_step rfl (R_add rfl rfl (w_i64 (by omega))) ?_
            refine WL_stepM rfl (R_as) ?_
            refine WL_nil ?_
            exact ⟨(same_mov rfl (same_updo rfl (same_mov rfl (same_mov rfl (same_mov rfl (same_updo rfl (same_updo rfl (same_updo rfl (same_updo rfl (same_updo rfl (same_mov rfl (same_updo rfl (same_mov rfl (same_updo rfl (same_updo rfl (same_mov rfl (same_mov rfl (same_updo rfl (same_updo rfl (same_updo rfl (same_updo rfl (same_mov rfl (same_mov rfl (same_updo rfl (same_mov rfl (same_updo rfl (same_updo rfl (same_updn (same_updo rfl (same_updo rfl (same_updo rfl (same_mov rfl (same_updo rfl (same_updo rfl (same_know rfl (same_updo rfl (same_updo rfl (same_updo rfl (same_updo rfl (same_mov rfl same_ovr)))))))))))))))))))))))))))))))))))))))), k + 1, by omega, by omega, rfl, congrArg Value.bool (show wantTo ms C bs i k = wantTo ms C bs i (k + 1) from by rw [hws]; simp [hAi, hBi]), H.pop (by assumption)⟩
          · refine WL_step rfl (R_fieldAddr (off' := 1) Tryz.underlying27 rfl Tryz.sizeOf25 (by decide) rfl rfl) ?_
            refine WL_step rfl (R_load Tryz.isAgg25 rfl (H.get (.there (.there .here))) rfl) ?_
            refine WL_stepM rfl (R_mv) ?_
            refine WL_step rfl (R_indexAddr (off' := o1 + k * 2) Tryz.underlying25 Tryz.sizeOf64 rfl rfl (by omega) (by omega) (by omega)) ?_
            refine WL_step rfl (R_loadA_cell (vs := [I A, I B]) Tryz.isAgg64 Tryz.sizeOf64 rfl (fun j v hj => hcc j v hj) rfl) ?_
            (refine WL_effn rfl (E_alloc (vs := [I 0, I 0]) H Tryz.zeroValue64 (by kernel_rfl)) ?_; clear H; intro c11 w207 hc11 H)
            (refine WL_effu rfl (E_storeA (vs := [(.int _ _), (.int _ _)]) H Tryz.sizeOf64 rfl rfl (by simp [Value.oneCell']) .here (by simp)) ?_; clear H; intro w208 H)
            refine WL_nil ?_
            refine W_seq ?_
            refine W_region_l ?_
            refine WL_step rfl (R_fieldAddr (off' := 0) Tryz.underlying64 rfl Tryz.sizeOf3 (by decide) rfl rfl) ?_
            refine WL_step rfl (R_load Tryz.isAgg3 rfl (H.get .here) rfl) ?_
            refine WL_stepM rfl (R_mv) ?_
            refine WL_step rfl (R_eq_f rfl rfl (by omega)) ?_
            refine WL_stepM rfl (R_mv) ?_
            refine WL_guard_f rfl rfl (by decide) ?_
            refine WL_guard_f rfl rfl (by decide) ?_
            refine WL_guard_f rfl rfl (by decide) ?_
            refine WL_guard_f rfl rfl (by decide) ?_
            refine WL_guard_f rfl rfl (by decide) ?_
            refine WL_stepM rfl (R_pk_f rfl) ?_
            refine WL_stepM rfl (R_mv) ?_
            refine WL_guard_t rfl rfl ?_
            refine WL_step rfl (R_fieldAddr (off' := 1) Tryz.underlying64 rfl Tryz.sizeOf3 (by decide) rfl rfl) ?_
            refine WL_guard_t rfl rfl ?_
            refine WL_step rfl (R_load Tryz.isAgg3 rfl (H.get .here) rfl) ?_
            refine WL_guard_t rfl rfl ?_
            refine WL_stepM rfl (R_mv) ?_
            refine WL_guard_t rfl rfl ?_
            refine WL_step rfl (R_eq_t rfl rfl (by omega)) ?_
            refine WL_guard_t rfl rfl ?_
            refine WL_stepM rfl (R_mv) ?_
            refine WL_guard_t rfl rfl ?_
            refine WL_stepM rfl (R_mv) ?_
            refine WL_guard_t rfl rfl ?_
            refine WL_step rfl (R_fieldAddr (off' := 0) Tryz.underlying64 rfl Tryz.sizeOf3 (by decide) rfl rfl) ?_
            refine WL_guard_t rfl rfl ?_
            refine WL_step rfl (R_load Tryz.isAgg3 rfl (H.get .here) rfl) ?_
            refine WL_guard_t rfl rfl ?_
            refine WL_step rfl (R_indexAddr (off' := A) Tryz.underlying24 Tryz.sizeOf4 rfl rfl (by omega) (by omega) (by omega)) ?_
            refine WL_guard_t rfl rfl ?_
            refine WL_step rfl (R_load (v := .bool false) Tryz.isAgg4 rfl (H.get (.there (.there .here))) (by rw [List.getElem?_append_left (by rw [List.length_map]; omega), List.getElem?_map, hx]; rfl)) ?_
            refine WL_guard_t rfl rfl ?_
            refine WL_stepM rfl (R_pk_t rfl) ?_
            refine WL_stepM rfl (R_pk_f rfl) ?_
            refine WL_nil ?_
            refine W_cond_f rfl ?_
            refine W_skip ?_
            refine W_region_l ?_
            refine WL_stepM rfl (R_mv) ?_
            refine WL_step rfl (R_add rfl rfl (w_i64 (by omega))) ?_
            refine WL_stepM rfl (R_as) ?_
            refine WL_nil ?_
            exact ⟨(same_mov rfl (same_updo rfl (same_mov rfl (same_mov rfl (same_mov rfl (same_updo rfl (same_updo rfl (same_updo rfl (same_updo rfl (same_mov rfl (same_mov rfl (same_updo rfl (same_mov rfl (same_updo rfl (same_updo rfl (same_mov rfl (same_mov rfl (same_updo rfl (same_updo rfl (same_updo rfl (same_updo rfl (same_updo rfl (same_mov rfl (same_updo rfl (same_mov rfl (same_updo rfl (same_updo rfl (same_updn (same_updo rfl (same_updo rfl (same_updo rfl (same_mov rfl (same_updo rfl (same_updo rfl (same_know rfl (same_updo rfl (same_updo rfl (same_updo rfl (same_updo rfl (same_mov rfl same_ovr)))))))))))))))))))))))))))))))))))))))), k + 1, by omega, by omega, rfl, congrArg Value.bool (show wantTo ms C bs i k = wantTo ms C bs i (k + 1) from by rw [hws]; simp [hAi, hBi]), H.pop (by assumption)⟩
          · refine WL_step rfl (R_fieldAddr (off' := 1) Tryz.underlying27 rfl Tryz.sizeOf25 (by decide) rfl rfl) ?_
            refine WL_step rfl (R_load Tryz.isAgg25 rfl (H.get (.there (.there .here))) rfl) ?_
            refine WL_stepM rfl (R_mv) ?_
            refine WL_step rfl (R_indexAddr (off' := o1 + k * 2) Tryz.underlying25 Tryz.sizeOf64 rfl rfl (by omega) (by omega) (by omega)) ?_
            refine WL_step rfl (R_loadA_cell (vs := [I A, I B]) Tryz.isAgg64 Tryz.sizeOf64 rfl (fun j v hj => hcc j v hj) rfl) ?_
            (refine WL_effn rfl (E_alloc (vs := [I 0, I 0]) H Tryz.zeroValue64 (by kernel_rfl)) ?_; clear H; intro c11 w261 hc11 H)
            (refine WL_effu rfl (E_storeA (vs := [(.int _ _), (.int _ _)]) H Tryz.sizeOf64 rfl rfl (by simp [Value.oneCell']) .here (by simp)) ?_; clear H; intro w262 H)
            refine WL_nil ?_
            refine W_seq ?_
            refine W_region_l ?_
            refine WL_step rfl (R_fieldAddr (off' := 0) Tryz.underlying64 rfl Tryz.sizeOf3 (by decide) rfl rfl) ?_
            refine WL_step rfl (R_load Tryz.isAgg3 rfl (H.get .here) rfl) ?_
            refine WL_stepM rfl (R_mv) ?_
            refine WL_step rfl (R_eq_f rfl rfl (by omega)) ?_
            refine WL_stepM rfl (R_mv) ?_
            refine WL_guard_f rfl rfl (by decide) ?_
            refine WL_guard_f rfl rfl (by decide) ?_
            refine WL_guard_f rfl rfl (by decide) ?_
            refine WL_guard_f rfl rfl (by decide) ?_
            refine WL_guard_f rfl rfl (by decide) ?_
            refine WL_stepM rfl (R_pk_f rfl) ?_
            refine WL_stepM rfl (R_mv) ?_
            refine WL_guard_t rfl rfl ?_
            refine WL_step rfl (R_fieldAddr (off' := 1) Tryz.underlying64 rfl Tryz.sizeOf3 (by decide) rfl rfl) ?_
            refine WL_guard_t rfl rfl ?_
            refine WL_step rfl (R_load Tryz.isAgg3 rfl (H.get .here) rfl) ?_
            refine WL_guard_t rfl rfl ?_
            refine WL_stepM rfl (R_mv) ?_
            refine WL_guard_t rfl rfl ?_
            refine WL_step rfl (R_eq_f rfl rfl (by omega)) ?_
            refine WL_guard_t rfl rfl ?_
            refine WL_stepM rfl (R_mv) ?_
            refine WL_guard_f rfl rfl (by decide) ?_
            refine WL_guard_f rfl rfl (by decide) ?_
            refine WL_guard_f rfl rfl (by decide) ?_
            refine WL_guard_f rfl rfl (by decide) ?_
            refine WL_guard_f rfl rfl (by decide) ?_
            refine WL_guard_t rfl rfl ?_
            refine WL_stepM rfl (R_pk_f rfl) ?_
            refine WL_stepM rfl (R_pk_f rfl) ?_
            refine WL_nil ?_
            refine W_cond_f rfl ?_
            refine W_skip ?_
            refine W_region_l ?_
            refine WL_stepM rfl (R_mv) ?_
            refine WL_step rfl (R_add rfl rfl (w_i64 (by omega))) ?_
            refine WL_stepM rfl (R_as) ?_
            refine WL_nil ?_
            exact ⟨(same_mov rfl (same_updo rfl (same_mov rfl (same_mov rfl (same_mov rfl (same_updo rfl (same_updo rfl (same_updo rfl (same_updo rfl (same_updo rfl (same_mov rfl (same_updo rfl (same_mov rfl (same_updo rfl (same_updo rfl (same_mov rfl (same_mov rfl (same_updo rfl (same_updo rfl (same_updo rfl (same_updo rfl (same_updo rfl (same_mov rfl (same_updo rfl (same_mov rfl (same_updo rfl (same_updo rfl (same_updn (same_updo rfl (same_updo rfl (same_updo rfl (same_mov rfl (same_updo rfl (same_updo rfl (same_know rfl (same_updo rfl (same_updo rfl (same_updo rfl (same_updo rfl (same_mov rfl same_ovr)))))))))))))))))))))))))))))))))))))))), k + 1, by omega, by omega, rfl, congrArg Value.bool (show wantTo ms C bs i k = wantTo ms C bs i (k + 1) from by rw [hws]; simp [hAi, hBi]), H.pop (by assumption)⟩
          · refine WL_step rfl (R_fieldAddr (off' := 1) Tryz.underlying27 rfl Tryz.sizeOf25 (by decide) rfl rfl) ?_
            refine WL_step rfl (R_load Tryz.isAgg25 rfl (H.get (.there (.there .here))) rfl) ?_
            refine WL_stepM rfl (R_mv) ?_
            refine WL_step rfl (R_indexAddr (off' := o1 + k * 2) Tryz.underlying25 Tryz.sizeOf64 rfl rfl (by omega) (by omega) (by omega)) ?_
            refine WL_step rfl (R_loadA_cell (vs := [I A, I B]) Tryz.isAgg64 Tryz.sizeOf64 rfl (fun j v hj => hcc j v hj) rfl) ?_
            (refine WL_effn rfl (E_alloc (vs := [I 0, I 0]) H Tryz.zeroValue64 (by kernel_rfl)) ?_; clear H; intro c11 w310 hc11 H)
            (refine WL_effu rfl (E_storeA (vs := [(.int _ _), (.int _ _)]) H Tryz.sizeOf64 rfl rfl (by simp [Value.oneCell']) .here (by simp)) ?_; clear H; intro w311 H)
            refine WL_nil ?_
            refine W_seq ?_
            refine W_region_l ?_
            refine WL_step rfl (R_fieldAddr (off' := 0) Tryz.underlying64 rfl Tryz.sizeOf3 (by decide) rfl rfl) ?_
            refine WL_step rfl (R_load Tryz.isAgg3 rfl (H.get .here) rfl) ?_
            refine WL_stepM rfl (R_mv) ?_
            refine WL_step rfl (R_eq_t rfl rfl (by omega)) ?_
            refine WL_stepM rfl (R_mv) ?_
            refine WL_guard_t rfl rfl ?_
            refine WL_stepM rfl (R_mv) ?_
            refine WL_guard_t rfl rfl ?_
            refine WL_step rfl (R_fieldAddr (off' := 1) Tryz.underlying64 rfl Tryz.sizeOf3 (by decide) rfl rfl) ?_
            refine WL_guard_t rfl rfl ?_
            refine WL_step rfl (R_load Tryz.isAgg3 rfl (H.get .here) rfl) ?_
            refine WL_guard_t rfl rfl ?_
            refine WL_step rfl (R_indexAddr (off' := B) Tryz.underlying24 Tryz.sizeOf4 rfl rfl (by omega) (by omega) (by omega)) ?_
            refine WL_guard_t rfl rfl ?_
            refine WL_step rfl (R_load (v := .bool true) Tryz.isAgg4 rfl (H.get (.there (.there .here))) (by rw [List.getElem?_append_left (by rw [List.length_map]; omega), List.getElem?_map, hy]; rfl)) ?_
            refine WL_stepM rfl (R_pk_t rfl) ?_
            refine WL_stepM rfl (R_mv) ?_
            refine WL_guard_f rfl rfl (by decide) ?_
            refine WL_guard_f rfl rfl (by decide) ?_
            refine WL_guard_f rfl rfl (by decide) ?_
            refine WL_guard_f rfl rfl (by decide) ?_
            refine WL_guard_f rfl rfl (by decide) ?_
            refine WL_guard_n rfl rfl ?_
            refine WL_guard_n rfl rfl ?_
            refine WL_guard_n rfl rfl ?_
            refine WL_guard_n rfl rfl ?_
            refine WL_guard_n rfl rfl ?_
            refine WL_guard_f rfl rfl (by decide) ?_
            refine WL_stepM rfl (R_pk_t rfl) ?_
            refine WL_nil ?_
            refine W_cond_t rfl ?_
            refine W_region_l ?_
            refine WL_stepM rfl (R_as) ?_
            refine WL_nil ?_
            refine W_region_l ?_
            refine WL_stepM rfl (R_mv) ?_
            refine WL_step rfl (R_add rfl rfl (w_i64 (by omega))) ?_
            refine WL_stepM rfl (R_as) ?_
            refine WL_nil ?_
            exact ⟨(same_mov rfl (same_updo rfl (same_mov rfl (same_mov rfl (same_mov rfl (same_updo rfl (same_updo rfl (same_updo rfl (same_updo rfl (same_updo rfl (same_updo rfl (same_updo rfl (same_updo rfl (same_updo rfl (same_updo rfl (same_updo rfl (same_mov rfl (same_mov rfl (same_updo rfl (same_updo rfl (same_updo rfl (same_updo rfl (same_mov rfl (same_mov rfl (same_updo rfl (same_mov rfl (same_updo rfl (same_updo rfl (same_updn (same_updo rfl (same_updo rfl (same_updo rfl (same_mov rfl (same_updo rfl (same_updo rfl (same_know rfl (same_updo rfl (same_updo rfl (same_updo rfl (same_updo rfl (same_mov rfl same_ovr))))))))))))))))))))))))))))))))))))))))), k + 1, by omega, by omega, rfl, congrArg Value.bool (show true = wantTo ms C bs i (k + 1) from by rw [hws]; simp [hAi, hBi]), H.pop (by assumption)⟩
          · refine WL_step rfl (R_fieldAddr (off' := 1) Tryz.underlying27 rfl Tryz.sizeOf25 (by decide) rfl rfl) ?_
            refine WL_step rfl (R_load Tryz.isAgg25 rfl (H.get (.there (.there .here))) rfl) ?_
            refine WL_stepM rfl (R_mv) ?_
            refine WL_step rfl (R_indexAddr (off' := o1 + k * 2) Tryz.underlying25 Tryz.sizeOf64 rfl rfl (by omega) (by omega) (by omega)) ?_
            refine WL_step rfl (R_loadA_cell (vs := [I A, I B]) Tryz.isAgg64 Tryz.sizeOf64 rfl (fun j v hj => hcc j v hj) rfl) ?_
            (refine WL_effn rfl (E_alloc (vs := [I 0, I 0]) H Tryz.zeroValue64 (by kernel_rfl)) ?_; clear H; intro c11 w360 hc11 H)
            (refine WL_effu rfl (E_storeA (vs := [(.int _ _), (.int _ _)]) H Tryz.sizeOf64 rfl rfl (by simp [Value.oneCell']) .here (by simp)) ?_; clear H; intro w361 H)
            refine WL_nil ?_
            refine W_seq ?_
            refine W_region_l ?_
            refine WL_step rfl (R_fieldAddr (off' := 0) Tryz.underlying64 rfl Tryz.sizeOf3 (by decide) rfl rfl) ?_
            refine WL_step rfl (R_load Tryz.isAgg3 rfl (H.get .here) rfl) ?_
            refine WL_stepM rfl (R_mv) ?_
            refine WL_step rfl (R_eq_t rfl rfl (by omega)) ?_
            refine WL_stepM rfl (R_mv) ?_
            refine WL_guard_t rfl rfl ?_
            refine WL_stepM rfl (R_mv) ?_
            refine WL_guard_t rfl rfl ?_
            refine WL_step rfl (R_fieldAddr (off' := 1) Tryz.underlying64 rfl Tryz.sizeOf3 (by decide) rfl rfl) ?_
            refine WL_guard_t rfl rfl ?_
            refine WL_step rfl (R_load Tryz.isAgg3 rfl (H.get .here) rfl) ?_
            refine WL_guard_t rfl rfl ?_
            refine WL_step rfl (R_indexAddr (off' := B) Tryz.underlying24 Tryz.sizeOf4 rfl rfl (by omega) (by omega) (by omega)) ?_
            refine WL_guard_t rfl rfl ?_
            refine WL_step rfl (R_load (v := .bool true) Tryz.isAgg4 rfl (H.get (.there (.there .here))) (by rw [List.getElem?_append_left (by rw [List.length_map]; omega), List.getElem?_map, hy]; rfl)) ?_
            refine WL_stepM rfl (R_pk_t rfl) ?_
            refine WL_stepM rfl (R_mv) ?_
            refine WL_guard_f rfl rfl (by decide) ?_
            refine WL_guard_f rfl rfl (by decide) ?_
            refine WL_guard_f rfl rfl (by decide) ?_
            refine WL_guard_f rfl rfl (by decide) ?_
            refine WL_guard_f rfl rfl (by decide) ?_
            refine WL_guard_n rfl rfl ?_
            refine WL_guard_n rfl rfl ?_
            refine WL_guard_n rfl rfl ?_
            refine WL_guard_n rfl rfl ?_
            refine WL_guard_n rfl rfl ?_
            refine WL_guard_f rfl rfl (by decide) ?_
            refine WL_stepM rfl (R_pk_t rfl) ?_
            refine WL_nil ?_
            refine W_cond_t rfl ?_
            refine W_region_l ?_
            refine WL_stepM rfl (R_as) ?_
            refine WL_nil ?_
            refine W_region_l ?_
            refine WL_stepM rfl (R_mv) ?_
            refine WL_step rfl (R_add rfl rfl (w_i64 (by omega))) ?_
            refine WL_stepM rfl (R_as) ?_
            refine WL_nil ?_
            exact ⟨(same_mov rfl (same_updo rfl (same_mov rfl (same_mov rfl (same_mov rfl (same_updo rfl (same_updo rfl (same_updo rfl (same_updo rfl (same_updo rfl (same_updo rfl (same_updo rfl (same_updo rfl (same_updo rfl (same_updo rfl (same_updo rfl (same_mov rfl (same_mov rfl (same_updo rfl (same_updo rfl (same_updo rfl (same_updo rfl (same_mov rfl (same_mov rfl (same_updo rfl (same_mov rfl (same_updo rfl (same_updo rfl (same_updn (same_updo rfl (same_updo rfl (same_updo rfl (same_mov rfl (same_updo rfl (same_updo rfl (same_know rfl (same_updo rfl (same_updo rfl (same_updo rfl (same_updo rfl (same_mov rfl same_ovr))))))))))))))))))))))))))))))))))))))))), k + 1, by omega, by omega, rfl, congrArg Value.bool (show true = wantTo ms C bs i (k + 1) from by rw [hws]; simp [hAi, hBi]), H.pop (by assumption)⟩
          · refine WL_step rfl (R_fieldAddr (off' := 1) Tryz.underlying27 rfl Tryz.sizeOf25 (by decide) rfl rfl) ?_
            refine WL_step rfl (R_load Tryz.isAgg25 rfl (H.get (.there (.there .here))) rfl) ?_
            refine WL_stepM rfl (R_mv) ?_
            refine WL_step rfl (R_indexAddr (off' := o1 + k * 2) Tryz.underlying25 Tryz.sizeOf64 rfl rfl (by omega) (by omega) (by omega)) ?_
            refine WL_step rfl (R_loadA_cell (vs := [I A, I B]) Tryz.isAgg64 Tryz.sizeOf64 rfl (fun j v hj => hcc j v hj) rfl) ?_
            (refine WL_effn rfl (E_alloc (vs := [I 0, I 0]) H Tryz.zeroValue64 (by kernel_rfl)) ?_; clear H; intro c11 w410 hc11 H)
            (refine WL_effu rfl (E_storeA (vs := [(.int _ _), (.int _ _)]) H Tryz.sizeOf64 rfl rfl (by simp [Value.oneCell']) .here (by simp)) ?_; clear H; intro w411 H)
            refine WL_nil ?_
            refine W_seq ?_
            refine W_region_l ?_
            refine WL_step rfl (R_fieldAddr (off' := 0) Tryz.underlying64 rfl Tryz.sizeOf3 (by decide) rfl rfl) ?_
            refine WL_step rfl (R_load Tryz.isAgg3 rfl (H.get .here) rfl) ?_
            refine WL_stepM rfl (R_mv) ?_
            refine WL_step rfl (R_eq_f rfl rfl (by omega)) ?_
            refine WL_stepM rfl (R_mv) ?_
            refine WL_guard_f rfl rfl (by decide) ?_
            refine WL_guard_f rfl rfl (by decide) ?_
            refine WL_guard_f rfl rfl (by decide) ?_
            refine WL_guard_f rfl rfl (by decide) ?_
            refine WL_guard_f rfl rfl (by decide) ?_
            refine WL_stepM rfl (R_pk_f rfl) ?_
            refine WL_stepM rfl (R_mv) ?_
            refine WL_guard_t rfl rfl ?_
            refine WL_step rfl (R_fieldAddr (off' := 1) Tryz.underlying64 rfl Tryz.sizeOf3 (by decide) rfl rfl) ?_
            refine WL_guard_t rfl rfl ?_
            refine WL_step rfl (R_load Tryz.isAgg3 rfl (H.get .here) rfl) ?_
            refine WL_guard_t rfl rfl ?_
            refine WL_stepM rfl (R_mv) ?_
            refine WL_guard_t rfl rfl ?_
            refine WL_step rfl (R_eq_t rfl rfl (by omega)) ?_
            refine WL_guard_t rfl rfl ?_
            refine WL_stepM rfl (R_mv) ?_
            refine WL_guard_t rfl rfl ?_
            refine WL_stepM rfl (R_mv) ?_
            refine WL_guard_t rfl rfl ?_
            refine WL_step rfl (R_fieldAddr (off' := 0) Tryz.underlying64 rfl Tryz.sizeOf3 (by decide) rfl rfl) ?_
            refine WL_guard_t rfl rfl ?_
            refine WL_step rfl (R_load Tryz.isAgg3 rfl (H.get .here) rfl) ?_
            refine WL_guard_t rfl rfl ?_
            refine WL_step rfl (R_indexAddr (off' := A) Tryz.underlying24 Tryz.sizeOf4 rfl rfl (by omega) (by omega) (by omega)) ?_
            refine WL_guard_t rfl rfl ?_
            refine WL_step rfl (R_load (v := .bool false) Tryz.isAgg4 rfl (H.get (.there (.there .here))) (by rw [List.getElem?_append_left (by rw [List.length_map]; omega), List.getElem?_map, hx]; rfl)) ?_
            refine WL_guard_t rfl rfl ?_
            refine WL_stepM rfl (R_pk_t rfl) ?_
            refine WL_stepM rfl (R_pk_f rfl) ?_
            refine WL_nil ?_
            refine W_cond_f rfl ?_
            refine W_skip ?_
            refine W_region_l ?_
            refine WL_stepM rfl (R_mv) ?_
            refine WL_step rfl (R_add rfl rfl (w_i64 (by omega))) ?_
            refine WL_stepM rfl (R_as) ?_
            refine WL_nil ?_
            exact ⟨(same_mov rfl (same_updo rfl (same_mov rfl (same_mov rfl (same_mov rfl (same_updo rfl (same_updo rfl (same_updo rfl (same_updo rfl (same_mov rfl (same_mov rfl (same_updo rfl (same_mov rfl (same_updo rfl (same_updo rfl (same_mov rfl (same_mov rfl (same_updo rfl (same_updo rfl (same_updo rfl (same_updo rfl (same_updo rfl (same_mov rfl (same_updo rfl (same_mov rfl (same_updo rfl (same_updo rfl (same_updn (same_updo rfl (same_updo rfl (same_updo rfl (same_mov rfl (same_updo rfl (same_updo rfl (same_know rfl (same_updo rfl (same_updo rfl (same_updo rfl (same_updo rfl (same_mov rfl same_ovr)))))))))))))))))))))))))))))))))))))))), k + 1, by omega, by omega, rfl, congrArg Value.bool (show wantTo ms C bs i k = wantTo ms C bs i (k + 1) from by rw [hws]; simp [hAi, hBi]), H.pop (by assumption)⟩
          · refine WL_step rfl (R_fieldAddr (off' := 1) Tryz.underlying27 rfl Tryz.sizeOf25 (by decide) rfl rfl) ?_
            refine WL_step rfl (R_load Tryz.isAgg25 rfl (H.get (.there (.there .here))) rfl) ?_
            refine WL_stepM rfl (R_mv) ?_
            refine WL_step rfl (R_indexAddr (off' := o1 + k * 2) Tryz.underlying25 Tryz.sizeOf64 rfl rfl (by omega) (by omega) (by omega)) ?_
            refine WL_step rfl (R_loadA_cell (vs := [I A, I B]) Tryz.isAgg64 Tryz.sizeOf64 rfl (fun j v hj => hcc j v hj) rfl) ?_
            (refine WL_effn rfl (E_alloc (vs := [I 0, I 0]) H Tryz.zeroValue64 (by kernel_rfl)) ?_; clear H; intro c11 w464 hc11 H)
            (refine WL_effu rfl (E_storeA (vs := [(.int _ _), (.int _ _)]) H Tryz.sizeOf64 rfl rfl (by simp [Value.oneCell']) .here (by simp)) ?_; clear H; intro w465 H)
            refine WL_nil ?_
            refine W_seq ?_
            refine W_region_l ?_
            refine WL_step rfl (R_fieldAddr (off' := 0) Tryz.underlying64 rfl Tryz.sizeOf3 (by decide) rfl rfl) ?_
            refine WL_step rfl (R_load Tryz.isAgg3 rfl (H.get .here) rfl) ?_
            refine WL_stepM rfl (R_mv) ?_
            refine WL_step rfl (R_eq_f rfl rfl (by omega)) ?_
            refine WL_stepM rfl (R_mv) ?_
            refine WL_guard_f rfl rfl (by decide) ?_
            refine WL_guard_f rfl rfl (by decide) ?_
            refine WL_guard_f rfl rfl (by decide) ?_
            refine WL_guard_f rfl rfl (by decide) ?_
            refine WL_guard_f rfl rfl (by decide) ?_
            refine WL_stepM rfl (R_pk_f rfl) ?_
            refine WL_stepM rfl (R_mv) ?_
            refine WL_guard_t rfl rfl ?_
            refine WL_step rfl (R_fieldAddr (off' := 1) Tryz.underlying64 rfl Tryz.sizeOf3 (by decide) rfl rfl) ?_
            refine WL_guard_t rfl rfl ?_
            refine WL_step rfl (R_load Tryz.isAgg3 rfl (H.get .here) rfl) ?_
            refine WL_guard_t rfl rfl ?_
            refine WL_stepM rfl (R_mv) ?_
            refine WL_guard_t rfl rfl ?_
            refine WL_step rfl (R_eq_f rfl rfl (by omega)) ?_
            refine WL_guard_t rfl rfl ?_
            refine WL_stepM rfl (R_mv) ?_
            refine WL_guard_f rfl rfl (by decide) ?_
            refine WL_guard_f rfl rfl (by decide) ?_
            refine WL_guard_f rfl rfl (by decide) ?_
            refine WL_guard_f rfl rfl (by decide) ?_
            refine WL_guard_f rfl rfl (by decide) ?_
            refine WL_guard_t rfl rfl ?_
            refine WL_stepM rfl (R_pk_f rfl) ?_
            refine WL_stepM rfl (R_pk_f rfl) ?_
            refine WL_nil ?_
            refine W_cond_f rfl ?_
            refine W_skip ?_
            refine W_region_l ?_
            refine WL_stepM rfl (R_mv) ?_
            refine WL_step rfl (R_add rfl rfl (w_i64 (by omega))) ?_
            refine WL_stepM rfl (R_as) ?_
            refine WL_nil ?_
            exact ⟨(same_mov rfl (same_updo rfl (same_mov rfl (same_mov rfl (same_mov rfl (same_updo rfl (same_updo rfl (same_updo rfl (same_updo rfl (same_updo rfl (same_mov rfl (same_updo rfl (same_mov rfl (same_updo rfl (same_updo rfl (same_mov rfl (same_mov rfl (same_updo rfl (same_updo rfl (same_updo rfl (same_updo rfl (same_updo rfl (same_mov rfl (same_updo rfl (same_mov rfl (same_updo rfl (same_updo rfl (same_updn (same_updo rfl (same_updo rfl (same_updo rfl (same_mov rfl (same_updo rfl (same_updo rfl (same_know rfl (same_updo rfl (same_updo rfl (same_updo rfl (same_updo rfl (same_mov rfl same_ovr)))))))))))))))))))))))))))))))))))))))), k + 1, by omega, by omega, rfl, congrArg Value.bool (show wantTo ms C bs i k = wantTo ms C bs i (k + 1) from by rw [hws]; simp [hAi, hBi]), H.pop (by assumption)⟩
          · refine WL_step rfl (R_fieldAddr (off' := 1) Tryz.underlying27 rfl Tryz.sizeOf25 (by decide) rfl rfl) ?_
            refine WL_step rfl (R_load Tryz.isAgg25 rfl (H.get (.there (.there .here))) rfl) ?_
            refine WL_stepM rfl (R_mv) ?_
            refine WL_step rfl (R_indexAddr (off' := o1 + k * 2) Tryz.underlying25 Tryz.sizeOf64 rfl rfl (by omega) (by omega) (by omega)) ?_
            refine WL_step rfl (R_loadA_cell (vs := [I A, I B]) Tryz.isAgg64 Tryz.sizeOf64 rfl (fun j v hj => hcc j v hj) rfl) ?_
            (refine WL_effn rfl (E_alloc (vs := [I 0, I 0]) H Tryz.zeroValue64 (by kernel_rfl)) ?_; clear H; intro c11 w513 hc11 H)
            (refine WL_effu rfl (E_storeA (vs := [(.int _ _), (.int _ _)]) H Tryz.sizeOf64 rfl rfl (by simp [Value.oneCell']) .here (by simp)) ?_; clear H; intro w514 H)
            refine WL_nil ?_
            refine W_seq ?_
            refine W_region_l ?_
            refine WL_step rfl (R_fieldAddr (off' := 0) Tryz.underlying64 rfl Tryz.sizeOf3 (by decide) rfl rfl) ?_
            refine WL_step rfl (R_load Tryz.isAgg3 rfl (H.get .here) rfl) ?_
            refine WL_stepM rfl (R_mv) ?_
            refine WL_step rfl (R_eq_t rfl rfl (by omega)) ?_
            refine WL_stepM rfl (R_mv) ?_
            refine WL_guard_t rfl rfl ?_
            refine WL_stepM rfl (R_mv) ?_
            refine WL_guard_t rfl rfl ?_
            refine WL_step rfl (R_fieldAddr (off' := 1) Tryz.underlying64 rfl Tryz.sizeOf3 (by decide) rfl rfl) ?_
            refine WL_guard_t rfl rfl ?_
            refine WL_step rfl (R_load Tryz.isAgg3 rfl (H.get .here) rfl) ?_
            refine WL_guard_t rfl rfl ?_
            refine WL_step rfl (R_indexAddr (off' := B) Tryz.underlying24 Tryz.sizeOf4 rfl rfl (by omega) (by omega) (by omega)) ?_
            refine WL_guard_t rfl rfl ?_
            refine WL_step rfl (R_load (v := .bool false) Tryz.isAgg4 rfl (H.get (.there (.there .here))) (by rw [List.getElem?_append_left (by rw [List.length_map]; omega), List.getElem?_map, hy]; rfl)) ?_
            refine WL_stepM rfl (R_pk_t rfl) ?_
            refine WL_stepM rfl (R_mv) ?_
            refine WL_guard_t rfl rfl ?_
            refine WL_step rfl (R_fieldAddr (off' := 1) Tryz.underlying64 rfl Tryz.sizeOf3 (by decide) rfl rfl) ?_
            refine WL_guard_t rfl rfl ?_
            refine WL_step rfl (R_load Tryz.isAgg3 rfl (H.get .here) rfl) ?_
            refine WL_guard_t rfl rfl ?_
            refine WL_stepM rfl (R_mv) ?_
            refine WL_guard_t rfl rfl ?_
            refine WL_step rfl (R_eq_t rfl rfl (by omega)) ?_
            refine WL_guard_t rfl rfl ?_
            refine WL_stepM rfl (R_mv) ?_
            refine WL_guard_t rfl rfl ?_
            refine WL_stepM rfl (R_mv) ?_
            refine WL_guard_t rfl rfl ?_
            refine WL_step rfl (R_fieldAddr (off' := 0) Tryz.underlying64 rfl Tryz.sizeOf3 (by decide) rfl rfl) ?_
            refine WL_guard_t rfl rfl ?_
            refine WL_step rfl (R_load Tryz.isAgg3 rfl (H.get .here) rfl) ?_
            refine WL_guard_t rfl rfl ?_
            refine WL_step rfl (R_indexAddr (off' := A) Tryz.underlying24 Tryz.sizeOf4 rfl rfl (by omega) (by omega) (by omega)) ?_
            refine WL_guard_t rfl rfl ?_
            refine WL_step rfl (R_load (v := .bool true) Tryz.isAgg4 rfl (H.get (.there (.there .here))) (by rw [List.getElem?_append_left (by rw [List.length_map]; omega), List.getElem?_map, hx]; rfl)) ?_
            refine WL_guard_t rfl rfl ?_
            refine WL_stepM rfl (R_pk_t rfl) ?_
            refine WL_stepM rfl (R_pk_f rfl) ?_
            refine WL_nil ?_
            refine W_cond_t rfl ?_
            refine W_region_l ?_
            refine WL_stepM rfl (R_as) ?_
            refine WL_nil ?_
            refine W_region_l ?_
            refine WL_stepM rfl (R_mv) ?_
            refine WL_step rfl (R_add rfl rfl (w_i64 (by omega))) ?_
            refine WL_stepM rfl (R_as) ?_
            refine WL_nil ?_
            exact ⟨(same_mov rfl (same_updo rfl (same_mov rfl (same_mov rfl (same_mov rfl (same_mov rfl (same_updo rfl (same_updo rfl (same_updo rfl (same_updo rfl (same_mov rfl (same_mov rfl (same_updo rfl (same_mov rfl (same_updo rfl (same_updo rfl (same_mov rfl (same_mov rfl (same_updo rfl (same_updo rfl (same_updo rfl (same_updo rfl (same_mov rfl (same_mov rfl (same_updo rfl (same_mov rfl (same_updo rfl (same_updo rfl (same_updn (same_updo rfl (same_updo rfl (same_updo rfl (same_mov rfl (same_updo rfl (same_updo rfl (same_know rfl (same_updo rfl (same_updo rfl (same_updo rfl (same_updo rfl (same_mov rfl same_ovr))))))))))))))))))))))))))))))))))))))))), k + 1, by omega, by omega, rfl, congrArg Value.bool (show true = wantTo ms C bs i (k + 1) from by rw [hws]; simp [hAi, hBi]), H.pop (by assumption)⟩
          · refine WL_step rfl (R_fieldAddr (off' := 1) Tryz.underlying27 rfl Tryz.sizeOf25 (by decide) rfl rfl) ?_
            refine WL_step rfl (R_load Tryz.isAgg25 rfl (H.get (.there (.there .here))) rfl) ?_
            refine WL_stepM rfl (R_mv) ?_
            refine WL_step rfl (R_indexAddr (off' := o1 + k * 2) Tryz.underlying25 Tryz.sizeOf64 rfl rfl (by omega) (by omega) (by omega)) ?_
            refine WL_step rfl (R_loadA_cell (vs := [I A, I B]) Tryz.isAgg64 Tryz.sizeOf64 rfl (fun j v hj => hcc j v hj) rfl) ?_
            (refine WL_effn rfl (E_alloc (vs := [I 0, I 0]) H Tryz.zeroValue64 (by kernel_rfl)) ?_; clear H; intro c11 w574 hc11 H)
            (refine WL_effu rfl (E_storeA (vs := [(.int _ _), (.int _ _)]) H Tryz.sizeOf64 rfl rfl (by simp [Value.oneCell']) .here (by simp)) ?_; clear H; intro w575 H)
            refine WL_nil ?_
            refine W_seq ?_
            refine W_region_l ?_
            refine WL_step rfl (R_fieldAddr (off' := 0) Tryz.underlying64 rfl Tryz.sizeOf3 (by decide) rfl rfl) ?_
            refine WL_step rfl (R_load Tryz.isAgg3 rfl (H.get .here) rfl) ?_
            refine WL_stepM rfl (R_mv) ?_
            refine WL_step rfl (R_eq_t rfl rfl (by omega)) ?_
            refine WL_stepM rfl (R_mv) ?_
            refine WL_guard_t rfl rfl ?_
            refine WL_stepM rfl (R_mv) ?_
            refine WL_guard_t rfl rfl ?_
            refine WL_step rfl (R_fieldAddr (off' := 1) Tryz.underlying64 rfl Tryz.sizeOf3 (by decide) rfl rfl) ?_
            refine WL_guard_t rfl rfl ?_
            refine WL_step rfl (R_load Tryz.isAgg3 rfl (H.get .here) rfl) ?_
            refine WL_guard_t rfl rfl ?_
            refine WL_step rfl (R_indexAddr (off' := B) Tryz.underlying24 Tryz.sizeOf4 rfl rfl (by omega) (by omega) (by omega)) ?_
            refine WL_guard_t rfl rfl ?_
            refine WL_step rfl (R_load (v := .bool false) Tryz.isAgg4 rfl (H.get (.there (.there .here))) (by rw [List.getElem?_append_left (by rw [List.length_map]; omega), List.getElem?_map, hy]; rfl)) ?_
            refine WL_stepM rfl (R_pk_t rfl) ?_
            refine WL_stepM rfl (R_mv) ?_
            refine WL_guard_t rfl rfl ?_
            refine WL_step rfl (R_fieldAddr (off' := 1) Tryz.underlying64 rfl Tryz.sizeOf3 (by decide) rfl rfl) ?_
            refine WL_guard_t rfl rfl ?_
            refine WL_step rfl (R_load Tryz.isAgg3 rfl (H.get .here) rfl) ?_
            refine WL_guard_t rfl rfl ?_
            refine WL_stepM rfl (R_mv) ?_
            refine WL_guard_t rfl rfl ?_
            refine WL_step rfl (R_eq_f rfl rfl (by omega)) ?_
            refine WL_guard_t rfl rfl ?_
            refine WL_stepM rfl (R_mv) ?_
            refine WL_guard_f rfl rfl (by decide) ?_
            refine WL_guard_f rfl rfl (by decide) ?_
            refine WL_guard_f rfl rfl (by decide) ?_
            refine WL_guard_f rfl rfl (by decide) ?_
            refine WL_guard_f rfl rfl (by decide) ?_
            refine WL_guard_t rfl rfl ?_
            refine WL_stepM rfl (R_pk_f rfl) ?_
            refine WL_stepM rfl (R_pk_f rfl) ?_
            refine WL_nil ?_
            refine W_cond_f rfl ?_
            refine W_skip ?_
            refine W_region_l ?_
            refine WL_stepM rfl (R_mv) ?_
            refine WL_step rfl (R_add rfl rfl (w_i64 (by omega))) ?_
            refine WL_stepM rfl (R_as) ?_
            refine WL_nil ?_
            exact ⟨(same_mov rfl (same_updo rfl (same_mov rfl (same_mov rfl (same_mov rfl (same_updo rfl (same_updo rfl (same_updo rfl (same_updo rfl (same_updo rfl (same_mov rfl (same_updo rfl (same_mov rfl (same_updo rfl (same_updo rfl (same_mov rfl (same_mov rfl (same_updo rfl (same_updo rfl (same_updo rfl (same_updo rfl (same_mov rfl (same_mov rfl (same_updo rfl (same_mov rfl (same_updo rfl (same_updo rfl (same_updn (same_updo rfl (same_updo rfl (same_updo rfl (same_mov rfl (same_updo rfl (same_updo rfl (same_know rfl (same_updo rfl (same_updo rfl (same_updo rfl (same_updo rfl (same_mov rfl same_ovr)))))))))))))))))))))))))))))))))))))))), k + 1, by omega, by omega, rfl, congrArg Value.bool (show wantTo ms C bs i k = wantTo ms C bs i (k + 1) from by rw [hws]; simp [hAi, hBi]), H.pop (by assumption)⟩
          · refine WL_step rfl (R_fieldAddr (off' := 1) Tryz.underlying27 rfl Tryz.sizeOf25 (by decide) rfl rfl) ?_
            refine WL_step rfl (R_load Tryz.isAgg25 rfl (H.get (.there (.there .here))) rfl) ?_
            refine WL_stepM rfl (R_mv) ?_
            refine WL_step rfl (R_indexAddr (off' := o1 + k * 2) Tryz.underlying25 Tryz.sizeOf64 rfl rfl (by omega) (by omega) (by omega)) ?_
            refine WL_step rfl (R_loadA_cell (vs := [I A, I B]) Tryz.isAgg64 Tryz.sizeOf64 rfl (fun j v hj => hcc j v hj) rfl) ?_
            (refine WL_effn rfl (E_alloc (vs := [I 0, I 0]) H Tryz.zeroValue64 (by kernel_rfl)) ?_; clear H; intro c11 w628 hc11 H)
            (refine WL_effu rfl (E_storeA (vs := [(.int _ _), (.int _ _)]) H Tryz.sizeOf64 rfl rfl (by simp [Value.oneCell']) .here (by simp)) ?_; clear H; intro w629 H)
            refine WL_nil ?_
            refine W_seq ?_
            refine W_region_l ?_
            refine WL_step rfl (R_fieldAddr (off' := 0) Tryz.underlying64 rfl Tryz.sizeOf3 (by decide) rfl rfl) ?_
            refine WL_step rfl (R_load Tryz.isAgg3 rfl (H.get .here) rfl) ?_
            refine WL_stepM rfl (R_mv) ?_
            refine WL_step rfl (R_eq_f rfl rfl (by omega)) ?_
            refine WL_stepM rfl (R_mv) ?_
            refine WL_guard_f rfl rfl (by decide) ?_
            refine WL_guard_f rfl rfl (by decide) ?_
            refine WL_guard_f rfl rfl (by decide) ?_
            refine WL_guard_f rfl rfl (by decide) ?_
            refine WL_guard_f rfl rfl (by decide) ?_
            refine WL_stepM rfl (R_pk_f rfl) ?_
            refine WL_stepM rfl (R_mv) ?_
            refine WL_guard_t rfl rfl ?_
            refine WL_step rfl (R_fieldAddr (off' := 1) Tryz.underlying64 rfl Tryz.sizeOf3 (by decide) rfl rfl) ?_
            refine WL_guard_t rfl rfl ?_
            refine WL_step rfl (R_load Tryz.isAgg3 rfl (H.get .here) rfl) ?_
            refine WL_guard_t rfl rfl ?_
            refine WL_stepM rfl (R_mv) ?_
            refine WL_guard_t rfl rfl ?_
            refine WL_step rfl (R_eq_t rfl rfl (by omega)) ?_
            refine WL_guard_t rfl rfl ?_
            refine WL_stepM rfl (R_mv) ?_
            refine WL_guard_t rfl rfl ?_
            refine WL_stepM rfl (R_mv) ?_
            refine WL_guard_t rfl rfl ?_
            refine WL_step rfl (R_fieldAddr (off' := 0) Tryz.underlying64 rfl Tryz.sizeOf3 (by decide) rfl rfl) ?_
            refine WL_guard_t rfl rfl ?_
            refine WL_step rfl (R_load Tryz.isAgg3 rfl (H.get .here) rfl) ?_
            refine WL_guard_t rfl rfl ?_
            refine WL_step rfl (R_indexAddr (off' := A) Tryz.underlying24 Tryz.sizeOf4 rfl rfl (by omega) (by omega) (by omega)) ?_
            refine WL_guard_t rfl rfl ?_
            refine WL_step rfl (R_load (v := .bool true) Tryz.isAgg4 rfl (H.get (.there (.there .here))) (by rw [List.getElem?_append_left (by rw [List.length_map]; omega), List.getElem?_map, hx]; rfl)) ?_
            refine WL_guard_t rfl rfl ?_
            refine WL_stepM rfl (R_pk_t rfl) ?_
            refine WL_stepM rfl (R_pk_f rfl) ?_
            refine WL_nil ?_
            refine W_cond_t rfl ?_
            refine W_region_l ?_
            refine WL_stepM rfl (R_as) ?_
            refine WL_nil ?_
            refine W_region_l ?_
            refine WL_stepM rfl (R_mv) ?_
            refine WL_step rfl (R_add rfl rfl (w_i64 (by omega))) ?_
            refine WL_stepM rfl (R_as) ?_
            refine WL_nil ?_
            exact ⟨(same_mov rfl (same_updo rfl (same_mov rfl (same_mov rfl (same_mov rfl (same_mov rfl (same_updo rfl (same_updo rfl (same_updo rfl (same_updo rfl (same_mov rfl (same_mov rfl (same_updo rfl (same_mov rfl (same_updo rfl (same_updo rfl (same_mov rfl (same_mov rfl (same_updo rfl (same_updo rfl (same_updo rfl (same_updo rfl (same_updo rfl (same_mov rfl (same_updo rfl (same_mov rfl (same_updo rfl (same_updo rfl (same_updn (same_updo rfl (same_updo rfl (same_updo rfl (same_mov rfl (same_updo rfl (same_updo rfl (same_know rfl (same_updo rfl (same_updo rfl (same_updo rfl (same_updo rfl (same_mov rfl same_ovr))))))))))))))))))))))))))))))))))))))))), k + 1, by omega, by omega, rfl, congrArg Value.bool (show true = wantTo ms C bs i (k + 1) from by rw [hws]; simp [hAi, hBi]), H.pop (by assumption)⟩
          · refine WL_step rfl (R_fieldAddr (off' := 1) Tryz.underlying27 rfl Tryz.sizeOf25 (by decide) rfl rfl) ?_
            refine WL_step rfl (R_load Tryz.isAgg25 rfl (H.get (.there (.there .here))) rfl) ?_
            refine WL_stepM rfl (R_mv) ?_
            refine WL_step rfl (R_indexAddr (off' := o1 + k * 2) Tryz.underlying25 Tryz.sizeOf64 rfl rfl (by omega) (by omega) (by omega)) ?_
            refine WL_step rfl (R_loadA_cell (vs := [I A, I B]) Tryz.isAgg64 Tryz.sizeOf64 rfl (fun j v hj => hcc j v hj) rfl) ?_
            (refine WL_effn rfl (E_alloc (vs := [I 0, I 0]) H Tryz.zeroValue64 (by kernel_rfl)) ?_; clear H; intro c11 w684 hc11 H)
            (refine WL_effu rfl (E_storeA (vs := [(.int _ _), (.int _ _)]) H Tryz.sizeOf64 rfl rfl (by simp [Value.oneCell']) .here (by simp)) ?_; clear H; intro w685 H)
            refine WL_nil ?_
            refine W_seq ?_
            refine W_region_l ?_
            refine WL_step rfl (R_fieldAddr (off' := 0) Tryz.underlying64 rfl Tryz.sizeOf3 (by decide) rfl rfl) ?_
            refine WL_step rfl (R_load Tryz.isAgg3 rfl (H.get .here) rfl) ?_
            refine WL_stepM rfl (R_mv) ?_
            refine WL_step rfl (R_eq_f rfl rfl (by omega)) ?_
            refine WL_stepM rfl (R_mv) ?_
            refine WL_guard_f rfl rfl (by decide) ?_
            refine WL_guard_f rfl rfl (by decide) ?_
            refine WL_guard_f rfl rfl (by decide) ?_
            refine WL_guard_f rfl rfl (by decide) ?_
            refine WL_guard_f rfl rfl (by decide) ?_
            refine WL_stepM rfl (R_pk_f rfl) ?_
            refine WL_stepM rfl (R_mv) ?_
            refine WL_guard_t rfl rfl ?_
            refine WL_step rfl (R_fieldAddr (off' := 1) Tryz.underlying64 rfl Tryz.sizeOf3 (by decide) rfl rfl) ?_
            refine WL_guard_t rfl rfl ?_
            refine WL_step rfl (R_load Tryz.isAgg3 rfl (H.get .here) rfl) ?_
            refine WL_guard_t rfl rfl ?_
            refine WL_stepM rfl (R_mv) ?_
            refine WL_guard_t rfl rfl ?_
            refine WL_step rfl (R_eq_f rfl rfl (by omega)) ?_
            refine WL_guard_t rfl rfl ?_
            refine WL_stepM rfl (R_mv) ?_
            refine WL_guard_f rfl rfl (by decide) ?_
            refine WL_guard_f rfl rfl (by decide) ?_
            refine WL_guard_f rfl rfl (by decide) ?_
            refine WL_guard_f rfl rfl (by decide) ?_
            refine WL_guard_f rfl rfl (by decide) ?_
            refine WL_guard_t rfl rfl ?_
            refine WL_stepM rfl (R_pk_f rfl) ?_
            refine WL_stepM rfl (R_pk_f rfl) ?_
            refine WL_nil ?_
            refine W_cond_f rfl ?_
            refine W_skip ?_
            refine W_region_l ?_
            refine WL_stepM rfl (R_mv) ?_
            refine WL_step rfl (R_add rfl rfl (w_i64 (by omega))) ?_
            refine WL_stepM rfl (R_as) ?_
            refine WL_nil ?_
            exact ⟨(same_mov rfl (same_updo rfl (same_mov rfl (same_mov rfl (same_mov rfl (same_updo rfl (same_updo rfl (same_updo rfl (same_updo rfl (same_updo rfl (same_mov rfl (same_updo rfl (same_mov rfl (same_updo rfl (same_updo rfl (same_mov rfl (same_mov rfl (same_updo rfl (same_updo rfl (same_updo rfl (same_updo rfl (same_updo rfl (same_mov rfl (same_updo rfl (same_mov rfl (same_updo rfl (same_updo rfl (same_updn (same_updo rfl (same_updo rfl (same_updo rfl (same_mov rfl (same_updo rfl (same_updo rfl (same_know rfl (same_updo rfl (same_updo rfl (same_updo rfl (same_updo rfl (same_mov rfl same_ovr)))))))))))))))))))))))))))))))))))))))), k + 1, by omega, by omega, rfl, congrArg Value.bool (show wantTo ms C bs i k = wantTo ms C bs i (k + 1) from by rw [hws]; simp [hAi, hBi]), H.pop (by assumption)⟩
          · refine WL_step rfl (R_fieldAddr (off' := 1) Tryz.underlying27 rfl Tryz.sizeOf25 (by decide) rfl rfl) ?_
            refine WL_step rfl (R_load Tryz.isAgg25 rfl (H.get (.there (.there .here))) rfl) ?_
            refine WL_stepM rfl (R_mv) ?_
            refine WL_step rfl (R_indexAddr (off' := o1 + k * 2) Tryz.underlying25 Tryz.sizeOf64 rfl rfl (by omega) (by omega) (by omega)) ?_
            refine WL_step rfl (R_loadA_cell (vs := [I A, I B]) Tryz.isAgg64 Tryz.sizeOf64 rfl (fun j v hj => hcc j v hj) rfl) ?_
            (refine WL_effn rfl (E_alloc (vs := [I 0, I 0]) H Tryz.zeroValue64 (by kernel_rfl)) ?_; clear H; intro c11 w733 hc11 H)
            (refine WL_effu rfl (E_storeA (vs := [(.int _ _), (.int _ _)]) H Tryz.sizeOf64 rfl rfl (by simp [Value.oneCell']) .here (by simp)) ?_; clear H; intro w734 H)
            refine WL_nil ?_
            refine W_seq ?_
            refine W_region_l ?_
            refine WL_step rfl (R_fieldAddr (off' := 0) Tryz.underlying64 rfl Tryz.sizeOf3 (by decide) rfl rfl) ?_
            refine WL_step rfl (R_load Tryz.isAgg3 rfl (H.get .here) rfl) ?_
            refine WL_stepM rfl (R_mv) ?_
            refine WL_step rfl (R_eq_t rfl rfl (by omega)) ?_
            refine WL_stepM rfl (R_mv) ?_
            refine WL_guard_t rfl rfl ?_
            refine WL_stepM rfl (R_mv) ?_
            refine WL_guard_t rfl rfl ?_
            refine WL_step rfl (R_fieldAddr (off' := 1) Tryz.underlying64 rfl Tryz.sizeOf3 (by decide) rfl rfl) ?_
            refine WL_guard_t rfl rfl ?_
            refine WL_step rfl (R_load Tryz.isAgg3 rfl (H.get .here) rfl) ?_
            refine WL_guard_t rfl rfl ?_
            refine WL_step rfl (R_indexAddr (off' := B) Tryz.underlying24 Tryz.sizeOf4 rfl rfl (by omega) (by omega) (by omega)) ?_
            refine WL_guard_t rfl rfl ?_
            refine WL_step rfl (R_load (v := .bool true) Tryz.isAgg4 rfl (H.get (.there (.there .here))) (by rw [List.getElem?_append_left (by rw [List.length_map]; omega), List.getElem?_map, hy]; rfl)) ?_
            refine WL_stepM rfl (R_pk_t rfl) ?_
            refine WL_stepM rfl (R_mv) ?_
            refine WL_guard_f rfl rfl (by decide) ?_
            refine WL_guard_f rfl rfl (by decide) ?_
            refine WL_guard_f rfl rfl (by decide) ?_
            refine WL_guard_f rfl rfl (by decide) ?_
            refine WL_guard_f rfl rfl (by decide) ?_
            refine WL_guard_n rfl rfl ?_
            refine WL_guard_n rfl rfl ?_
            refine WL_guard_n rfl rfl ?_
            refine WL_guard_n rfl rfl ?_
            refine WL_guard_n rfl rfl ?_
            refine WL_guard_f rfl rfl (by decide) ?_
            refine WL_stepM rfl (R_pk_t rfl) ?_
            refine WL_nil ?_
            refine W_cond_t rfl ?_
            refine W_region_l ?_
            refine WL_stepM rfl (R_as) ?_
            refine WL_nil ?_
            refine W_region_l ?_
            refine WL_stepM rfl (R_mv) ?_
            refine WL_step rfl (R_add rfl rfl (w_i64 (by omega))) ?_
            refine WL_stepM rfl (R_as) ?_
            refine WL_nil ?_
            exact ⟨(same_mov rfl (same_updo rfl (same_mov rfl (same_mov rfl (same_mov rfl (same_updo rfl (same_updo rfl (same_updo rfl (same_updo rfl (same_updo rfl (same_updo rfl (same_updo rfl (same_updo rfl (same_updo rfl (same_updo rfl (same_updo rfl (same_mov rfl (same_mov rfl (same_updo rfl (same_updo rfl (same_updo rfl (same_updo rfl (same_mov rfl (same_mov rfl (same_updo rfl (same_mov rfl (same_updo rfl (same_updo rfl (same_updn (same_updo rfl (same_updo rfl (same_updo rfl (same_mov rfl (same_updo rfl (same_updo rfl (same_know rfl (same_updo rfl (same_updo rfl (same_updo rfl (same_updo rfl (same_mov rfl same_ovr))))))))))))))))))))))))))))))))))))))))), k + 1, by omega, by omega, rfl, congrArg Value.bool (show true = wantTo ms C bs i (k + 1) from by rw [hws]; simp [hAi, hBi]), H.pop (by assumption)⟩
          · refine WL_step rfl (R_fieldAddr (off' := 1) Tryz.underlying27 rfl Tryz.sizeOf25 (by decide) rfl rfl) ?_
            refine WL_step rfl (R_load Tryz.isAgg25 rfl (H.get (.there (.there .here))) rfl) ?_
            refine WL_stepM rfl (R_mv) ?_
            refine WL_step rfl (R_indexAddr (off' := o1 + k * 2) Tryz.underlying25 Tryz.sizeOf64 rfl rfl (by omega) (by omega) (by omega)) ?_
            refine WL_step rfl (R_loadA_cell (vs := [I A, I B]) Tryz.isAgg64 Tryz.sizeOf64 rfl (fun j v hj => hcc j v hj) rfl) ?_
            (refine WL_effn rfl (E_alloc (vs := [I 0, I 0]) H Tryz.zeroValue64 (by kernel_rfl)) ?_; clear H; intro c11 w783 hc11 H)
            (refine WL_effu rfl (E_storeA (vs := [(.int _ _), (.int _ _)]) H Tryz.sizeOf64 rfl rfl (by simp [Value.oneCell']) .here (by simp)) ?_; clear H; intro w784 H)
            refine WL_nil ?_
            refine W_seq ?_
            refine W_region_l ?_
            refine WL_step rfl (R_fieldAddr (off' := 0) Tryz.underlying64 rfl Tryz.sizeOf3 (by decide) rfl rfl) ?_
            refine WL_step rfl (R_load Tryz.isAgg3 rfl (H.get .here) rfl) ?_
            refine WL_stepM rfl (R_mv) ?_
            refine WL_step rfl (R_eq_t rfl rfl (by omega)) ?_
            refine WL_stepM rfl (R_mv) ?_
            refine WL_guard_t rfl rfl ?_
            refine WL_stepM rfl (R_mv) ?_
            refine WL_guard_t rfl rfl ?_
            refine WL_step rfl (R_fieldAddr (off' := 1) Tryz.underlying64 rfl Tryz.sizeOf3 (by decide) rfl rfl) ?_
            refine WL_guard_t rfl rfl ?_
            refine WL_step rfl (R_load Tryz.isAgg3 rfl (H.get .here) rfl) ?_
            refine WL_guard_t rfl rfl ?_
            refine WL_step rfl (R_indexAddr (off' := B) Tryz.underlying24 Tryz.sizeOf4 rfl rfl (by omega) (by omega) (by omega)) ?_
            refine WL_guard_t rfl rfl ?_
            refine WL_step rfl (R_load (v := .bool true) Tryz.isAgg4 rfl (H.get (.there (.there .here))) (by rw [List.getElem?_append_left (by rw [List.length_map]; omega), List.getElem?_map, hy]; rfl)) ?_
            refine WL_stepM rfl (R_pk_t rfl) ?_
            refine WL_stepM rfl (R_mv) ?_
            refine WL_guard_f rfl rfl (by decide) ?_
            refine WL_guard_f rfl rfl (by decide) ?_
            refine WL_guard_f rfl rfl (by decide) ?_
            refine WL_guard_f rfl rfl (by decide) ?_
            refine WL_guard_f rfl rfl (by decide) ?_
            refine WL_guard_n rfl rfl ?_
            refine WL_guard_n rfl rfl ?_
            refine WL_guard_n rfl rfl ?_
            refine WL_guard_n rfl rfl ?_
            refine WL_guard_n rfl rfl ?_
            refine WL_guard_f rfl rfl (by decide) ?_
            refine WL_stepM rfl (R_pk_t rfl) ?_
            refine WL_nil ?_
            refine W_cond_t rfl ?_
            refine W_region_l ?_
            refine WL_stepM rfl (R_as) ?_
            refine WL_nil ?_
            refine W_region_l ?_
            refine WL_stepM rfl (R_mv) ?_
            refine WL_step rfl (R_add rfl rfl (w_i64 (by omega))) ?_
            refine WL_stepM rfl (R_as) ?_
            refine WL_nil ?_
            exact ⟨(same_mov rfl (same_updo rfl (same_mov rfl (same_mov rfl (same_mov rfl (same_updo rfl (same_updo rfl (same_updo rfl (same_updo rfl (same_updo rfl (same_updo rfl (same_updo rfl (same_updo rfl (same_updo rfl (same_updo rfl (same_updo rfl (same_mov rfl (same_mov rfl (same_updo rfl (same_updo rfl (same_updo rfl (same_updo rfl (same_mov rfl (same_mov rfl (same_updo rfl (same_mov rfl (same_updo rfl (same_updo rfl (same_updn (same_updo rfl (same_updo rfl (same_updo rfl (same_mov rfl (same_updo rfl (same_updo rfl (same_know rfl (same_updo rfl (same_updo rfl (same_updo rfl (same_updo rfl (same_mov rfl same_ovr))))))))))))))))))))))))))))))))))))))))), k + 1, by omega, by omega, rfl, congrArg Value.bool (show true = wantTo ms C bs i (k + 1) from by rw [hws]; simp [hAi, hBi]), H.pop (by assumption)⟩
          · refine WL_step rfl (R_fieldAddr (off' := 1) Tryz.underlying27 rfl Tryz.sizeOf25 (by decide) rfl rfl) ?_
            refine WL_step rfl (R_load Tryz.isAgg25 rfl (H.get (.there (.there .here))) rfl) ?_
            refine WL_stepM rfl (R_mv) ?_
            refine WL_step rfl (R_indexAddr (off' := o1 + k * 2) Tryz.underlying25 Tryz.sizeOf64 rfl rfl (by omega) (by omega) (by omega)) ?_
            refine WL_step rfl (R_loadA_cell (vs := [I A, I B]) Tryz.isAgg64 Tryz.sizeOf64 rfl (fun j v hj => hcc j v hj) rfl) ?_
            (refine WL_effn rfl (E_alloc (vs := [I 0, I 0]) H Tryz.zeroValue64 (by kernel_rfl)) ?_; clear H; intro c11 w833 hc11 H)
            (refine WL_effu rfl (E_storeA (vs := [(.int _ _), (.int _ _)]) H Tryz.sizeOf64 rfl rfl (by simp [Value.oneCell']) .here (by simp)) ?_; clear H; intro w834 H)
            refine WL_nil ?_
            refine W_seq ?_
            refine W_region_l ?_
            refine WL_step rfl (R_fieldAddr (off' := 0) Tryz.underlying64 rfl Tryz.sizeOf3 (by decide) rfl rfl) ?_
            refine WL_step rfl (R_load Tryz.isAgg3 rfl (H.get .here) rfl) ?_
            refine WL_stepM rfl (R_mv) ?_
            refine WL_step rfl (R_eq_f rfl rfl (by omega)) ?_
            refine WL_stepM rfl (R_mv) ?_
            refine WL_guard_f rfl rfl (by decide) ?_
            refine WL_guard_f rfl rfl (by decide) ?_
            refine WL_guard_f rfl rfl (by decide) ?_
            refine WL_guard_f rfl rfl (by decide) ?_
            refine WL_guard_f rfl rfl (by decide) ?_
            refine WL_stepM rfl (R_pk_f rfl) ?_
            refine WL_stepM rfl (R_mv) ?_
            refine WL_guard_t rfl rfl ?_
            refine WL_step rfl (R_fieldAddr (off' := 1) Tryz.underlying64 rfl Tryz.sizeOf3 (by decide) rfl rfl) ?_
            refine WL_guard_t rfl rfl ?_
            refine WL_step rfl (R_load Tryz.isAgg3 rfl (H.get .here) rfl) ?_
            refine WL_guard_t rfl rfl ?_
            refine WL_stepM rfl (R_mv) ?_
            refine WL_guard_t rfl rfl ?_
            refine WL_step rfl (R_eq_t rfl rfl (by omega)) ?_
            refine WL_guard_t rfl rfl ?_
            refine WL_stepM rfl (R_mv) ?_
            refine WL_guard_t rfl rfl ?_
            refine WL_stepM rfl (R_mv) ?_
            refine WL_guard_t rfl rfl ?_
            refine WL_step rfl (R_fieldAddr (off' := 0) Tryz.underlying64 rfl Tryz.sizeOf3 (by decide) rfl rfl) ?_
            refine WL_guard_t rfl rfl ?_
            refine WL_step rfl (R_load Tryz.isAgg3 rfl (H.get .here) rfl) ?_
            refine WL_guard_t rfl rfl ?_
            refine WL_step rfl (R_indexAddr (off' := A) Tryz.underlying24 Tryz.sizeOf4 rfl rfl (by omega) (by omega) (by omega)) ?_
            refine WL_guard_t rfl rfl ?_
            refine WL_step rfl (R_load (v := .bool true) Tryz.isAgg4 rfl (H.get (.there (.there .here))) (by rw [List.getElem?_append_left (by rw [List.length_map]; omega), List.getElem?_map, hx]; rfl)) ?_
            refine WL_guard_t rfl rfl ?_
            refine WL_stepM rfl (R_pk_t rfl) ?_
            refine WL_stepM rfl (R_pk_f rfl) ?_
            refine WL_nil ?_
            refine W_cond_t rfl ?_
            refine W_region_l ?_
            refine WL_stepM rfl (R_as) ?_
            refine WL_nil ?_
            refine W_region_l ?_
            refine WL_stepM rfl (R_mv) ?_
            refine WL_step rfl (R_add rfl rfl (w_i64 (by omega))) ?_
            refine WL_stepM rfl (R_as) ?_
            refine WL_nil ?_
            exact ⟨(same_mov rfl (same_updo rfl (same_mov rfl (same_mov rfl (same_mov rfl (same_mov rfl (same_updo rfl (same_updo rfl (same_updo rfl (same_updo rfl (same_mov rfl (same_mov rfl (same_updo rfl (same_mov rfl (same_updo rfl (same_updo rfl (same_mov rfl (same_mov rfl (same_updo rfl (same_updo rfl (same_updo rfl (same_updo rfl (same_updo rfl (same_mov rfl (same_updo rfl (same_mov rfl (same_updo rfl (same_updo rfl (same_updn (same_updo rfl (same_updo rfl (same_updo rfl (same_mov rfl (same_updo rfl (same_updo rfl (same_know rfl (same_updo rfl (same_updo rfl (same_updo rfl (same_updo rfl (same_mov rfl same_ovr))))))))))))))))))))))))))))))))))))))))), k + 1, by omega, by omega, rfl, congrArg Value.bool (show true = wantTo ms C bs i (k + 1) from by rw [hws]; simp [hAi, hBi]), H.pop (by assumption)⟩
          · refine WL_step rfl (R_fieldAddr (off' := 1) Tryz.underlying27 rfl Tryz.sizeOf25 (by decide) rfl rfl) ?_
            refine WL_step rfl (R_load Tryz.isAgg25 rfl (H.get (.there (.there .here))) rfl) ?_
            refine WL_stepM rfl (R_mv) ?_
            refine WL_step rfl (R_indexAddr (off' := o1 + k * 2) Tryz.underlying25 Tryz.sizeOf64 rfl rfl (by omega) (by omega) (by omega)) ?_
            refine WL_step rfl (R_loadA_cell (vs := [I A, I B]) Tryz.isAgg64 Tryz.sizeOf64 rfl (fun j v hj => hcc j v hj) rfl) ?_
            (refine WL_effn rfl (E_alloc (vs := [I 0, I 0]) H Tryz.zeroValue64 (by kernel_rfl)) ?_; clear H; intro c11 w889 hc11 H)
            (refine WL_effu rfl (E_storeA (vs := [(.int _ _), (.int _ _)]) H Tryz.sizeOf64 rfl rfl (by simp [Value.oneCell']) .here (by simp)) ?_; clear H; intro w890 H)
            refine WL_nil ?_
            refine W_seq ?_
            refine W_region_l ?_
            refine WL_step rfl (R_fieldAddr (off' := 0) Tryz.underlying64 rfl Tryz.sizeOf3 (by decide) rfl rfl) ?_
            refine WL_step rfl (R_load Tryz.isAgg3 rfl (H.get .here) rfl) ?_
            refine WL_stepM rfl (R_mv) ?_
            refine WL_step rfl (R_eq_f rfl rfl (by omega)) ?_
            refine WL_stepM rfl (R_mv) ?_
            refine WL_guard_f rfl rfl (by decide) ?_
            refine WL_guard_f rfl rfl (by decide) ?_
            refine WL_guard_f rfl rfl (by decide) ?_
            refine WL_guard_f rfl rfl (by decide) ?_
            refine WL_guard_f rfl rfl (by decide) ?_
            refine WL_stepM rfl (R_pk_f rfl) ?_
            refine WL_stepM rfl (R_mv) ?_
            refine WL_guard_t rfl rfl ?_
            refine WL_step rfl (R_fieldAddr (off' := 1) Tryz.underlying64 rfl Tryz.sizeOf3 (by decide) rfl rfl) ?_
            refine WL_guard_t rfl rfl ?_
            refine WL_step rfl (R_load Tryz.isAgg3 rfl (H.get .here) rfl) ?_
            refine WL_guard_t rfl rfl ?_
            refine WL_stepM rfl (R_mv) ?_
            refine WL_guard_t rfl rfl ?_
            refine WL_step rfl (R_eq_f rfl rfl (by omega)) ?_
            refine WL_guard_t rfl rfl ?_
            refine WL_stepM rfl (R_mv) ?_
            refine WL_guard_f rfl rfl (by decide) ?_
            refine WL_guard_f rfl rfl (by decide) ?_
            refine WL_guard_f rfl rfl (by decide) ?_
            refine WL_guard_f rfl rfl (by decide) ?_
            refine WL_guard_f rfl rfl (by decide) ?_
            refine WL_guard_t rfl rfl ?_
            refine WL_stepM rfl (R_pk_f rfl) ?_
            refine WL_stepM rfl (R_pk_f rfl) ?_
            refine WL_nil ?_
            refine W_cond_f rfl ?_
            refine W_skip ?_
            refine W_region_l ?_
            refine WL_stepM rfl (R_mv) ?_
            refine WL_step rfl (R_add rfl rfl (w_i64 (by omega))) ?_
            refine WL_stepM rfl (R_as) ?_
            refine WL_nil ?_
            exact ⟨(same_mov rfl (same_updo rfl (same_mov rfl (same_mov rfl (same_mov rfl (same_updo rfl (same_updo rfl (same_updo rfl (same_updo rfl (same_updo rfl (same_mov rfl (same_updo rfl (same_mov rfl (same_updo rfl (same_updo rfl (same_mov rfl (same_mov rfl (same_updo rfl (same_updo rfl (same_updo rfl (same_updo rfl (same_updo rfl (same_mov rfl (same_updo rfl (same_mov rfl (same_updo rfl (same_updo rfl (same_updn (same_updo rfl (same_updo rfl (same_updo rfl (same_mov rfl (same_updo rfl (same_updo rfl (same_know rfl (same_updo rfl (same_updo rfl (same_updo rfl (same_updo rfl (same_mov rfl same_ovr)))))))))))))))))))))))))))))))))))))))), k + 1, by omega, by omega, rfl, congrArg Value.bool (show wantTo ms C bs i k = wantTo ms C bs i (k + 1) from by rw [hws]; simp [hAi, hBi]), H.pop (by assumption)⟩
        · refine W_exit ?_
          refine (if_pos rfl).mpr ?_
          refine W_seq ?_
          (obtain rfl : k = bs.length := (by omega); have hwi : wantTo ms C bs i bs.length = c := (by rw [hwa, List.getD_eq_getElem?_getD, hc]; rfl); rw [hwi]; refine W_drawH (fun _ => false) (by kernel_rfl) H ?_; clear H; intro w936 H)
          refine WA_takeM 0 rfl rfl rfl (by kernel_rfl) (by kernel_rfl) H (fun _ hC => R_mv) ?_
          refine WA_takeM 1 rfl rfl rfl (by kernel_rfl) (by kernel_rfl) H (fun _ hC => R_mv) ?_
          refine WA_take 2 rfl rfl rfl (by kernel_rfl) (by kernel_rfl) H (fun _ hC => R_indexAddr (off' := i) Tryz.underlying24 Tryz.sizeOf4 rfl rfl (by omega) (by omega) (by omega)) ?_
          refine WA_take 3 rfl rfl rfl (by kernel_rfl) (by kernel_rfl) H (fun _ hC => R_load (v := .bool c) Tryz.isAgg4 rfl (hC.get (.there .here)) (by rw [List.getElem?_append_left (by rw [List.length_map]; omega), List.getElem?_map, hc]; rfl)) ?_
          refine WA_takeM 4 rfl rfl rfl (by kernel_rfl) (by kernel_rfl) H (fun _ hC => R_mv) ?_
          refine WA_take 5 rfl rfl rfl (by kernel_rfl) (by kernel_rfl) H (fun _ hC => R_ne_bool_f Tryz.underlying4 rfl rfl rfl) ?_
          refine WA_takeM 6 rfl rfl rfl (by kernel_rfl) (by kernel_rfl) H (fun _ hC => R_mv) ?_
          refine WA_takeGM 7 rfl rfl rfl rfl (by kernel_rfl) (by kernel_rfl) H (fun _ hC => R_mv) ?_
          refine WA_takeGM 8 rfl rfl rfl rfl (by kernel_rfl) (by kernel_rfl) H (fun _ hC => R_mv) ?_
          refine WA_takeG 9 rfl rfl rfl rfl (by kernel_rfl) (by kernel_rfl) H (fun _ hC => R_indexAddr Tryz.underlying24 Tryz.sizeOf4 rfl rfl (by omega) (by omega) idx0_cast) ?_
          refine WA_takeG 10 rfl rfl rfl rfl (by kernel_rfl) (by kernel_rfl) H (fun _ hC => R_load (v := .bool c) Tryz.isAgg4 rfl (hC.get (.there .here)) (by rw [List.getElem?_append_left (by rw [List.length_map]; omega), List.getElem?_map, hc]; rfl)) ?_
          refine WA_takeGM 11 rfl rfl rfl rfl (by kernel_rfl) (by kernel_rfl) H (fun _ hC => R_mv) ?_
          refine WA_takeGM 12 rfl rfl rfl rfl (by kernel_rfl) (by kernel_rfl) H (fun _ hC => R_mv) ?_
          refine WA_takeG 13 rfl rfl rfl rfl (by kernel_rfl) (by kernel_rfl) H (fun _ hC => R_indexAddr Tryz.underlying24 Tryz.sizeOf4 rfl rfl (by omega) (by omega) idx0_cast) ?_
          refine WA_takeG 14 rfl rfl rfl rfl (by kernel_rfl) (by kernel_rfl) H (fun _ hC => R_load (v := .bool c) Tryz.isAgg4 rfl (hC.get .here) (by rw [List.getElem?_append_left (by rw [List.length_map]; omega), List.getElem?_map, hc]; rfl)) ?_
          refine WA_takeG 15 rfl rfl rfl rfl (by kernel_rfl) (by kernel_rfl) H (fun _ hC => R_ne_bool_f Tryz.underlying4 rfl rfl rfl) ?_
          refine WA_takeM 16 rfl rfl rfl (by kernel_rfl) (by kernel_rfl) H (fun _ hC => R_pk_f rfl) ?_
          refine WA_done (by kernel_rfl) ?_
          refine W_cond_f rfl ?_
          refine W_skip ?_
          refine W_region_l ?_
          refine WL_stepM rfl (R_mv) ?_
          refine WL_step rfl (R_add rfl rfl (w_i64 (by omega))) ?_
          refine WL_stepM rfl (R_as) ?_
          refine WL_nil ?_
          exact ⟨(same_mov rfl (same_updo rfl (same_mov rfl (same_mov rfl (same_updo rfl (same_updo rfl (same_updo rfl (same_mov rfl (same_mov rfl (same_updo rfl (same_updo rfl (same_mov rfl (same_mov rfl (same_mov rfl (same_updo rfl (same_mov rfl (same_updo rfl (same_updo rfl (same_mov rfl (same_mov rfl (same_know rfl (same_updo rfl (same_updo rfl (same_updo rfl (same_updo rfl (same_mov rfl (same_in rfl (same_mov rfl (same_mov rfl (same_updo rfl (same_updo rfl (same_mov rfl (same_updo rfl (same_updo rfl (same_know rfl (same_updo rfl (same_updo rfl (same_mov rfl (same_mov rfl same_ovr))))))))))))))))))))))))))))))))))))))), i + 1, by omega, by omega, rfl, H⟩
    · refine W_exit ?_
      refine (if_pos rfl).mpr ?_
      refine W_seq ?_
      refine W_seq ?_
      refine W_region_l ?_
      refine WL_step rfl (R_fieldAddr (off' := 0) Tryz.underlying27 rfl Tryz.sizeOf24 (by decide) rfl rfl) ?_
      refine WL_step rfl (R_load Tryz.isAgg24 rfl (H.get (.there (.there .here))) rfl) ?_
      refine WL_step rfl (R_len_slice Tryz.underlying24 rfl) ?_
      refine WL_step rfl (R_eq rfl rfl) ?_
      refine WL_nil ?_
      refine W_if rfl (fun h973 => ?_) (fun h973 => ?_)
      · refine W_seq ?_
        refine W_region_l ?_
        (refine WL_call rfl (R_call rfl Tryz.call10 rfl) (haw _) ?_; rintro _ w976 ⟨rfl, H1⟩; replace H := H.seq0 H1; clear H1)
        refine WL_stepM rfl (R_as) ?_
        refine WL_nil ?_
        refine W_ret ?_
        exact ⟨_, rfl, rfl, H.none kYs⟩
      · refine W_skip ?_
        refine W_seq ?_
        refine W_region_l ?_
        refine WL_step rfl (R_loadA Tryz.isAgg27 Tryz.sizeOf27 rfl (H.get (.there (.there .here))) rfl (by simp)) ?_
        (refine WL_effn rfl (E_alloc H Tryz.zeroValue27 rfl) ?_; clear H; intro b985 w985 hb985 H)
        (refine WL_effu rfl (E_storeA (vs := [(.slice _ _ _), (.slice _ _ _), (.int _ _)]) H Tryz.sizeOf27 rfl rfl (by simp [Value.oneCell']) .here (by simp)) ?_; clear H; intro w986 H)
        refine WL_nil ?_
        refine W_seq ?_
        refine W_region_l ?_
        (refine WL_effn rfl (E_buildSlice (vs := []) H Tryz.underlying24 Tryz.sizeOf4 Tryz.zeroValue4 rfl rfl (by decide) rfl rfl) ?_; clear H; intro b990 w990 hb990 H)
        refine WL_step rfl (R_fieldAddr (off' := 0) Tryz.underlying27 rfl Tryz.sizeOf24 (by decide) rfl rfl) ?_
        refine WL_step rfl (R_load Tryz.isAgg24 rfl (H.get (.there (.there (.there (.there .here))))) rfl) ?_
        (have hn3 : ms.length ≤ 3 := (by omega); refine WL_effm rfl (E_append H .one (OwnS.new (xs := []) (sp := []) (by assumption) rfl rfl (by omega)) Tryz.underlying24 Tryz.typeInfo4 rfl rfl rfl rfl rfl rfl ((RdS.own hO1 (fun p hp => H.held p (by simp [List.mem_singleton.1 hp]))).src Tryz.underlying24 (by intro u hu; obtain ⟨z, _, rfl⟩ := List.mem_map.1 hu; rfl)) (by simp; omega) (by simp [Tryz.t4]; omega)) ?_; clear H; intro v3 M3 w993 hO3 H; rw [List.length_map, Nat.zero_add, List.nil_append] at hO3; obtain ⟨xa, xc, rfl⟩ := hO3.form; have hK3 := hO3.keys)
        (refine WL_effn rfl (E_buildOnes (vs := [(.bool _)]) H Tryz.underlying24 Tryz.sizeOf4 Tryz.zeroValue4 rfl rfl (by decide) rfl rfl (by simp [Value.oneCell'])) ?_; clear H; intro b994 w994 hb994 H)
        (refine WL_effm rfl (E_append (news := [Bo true]) (m := 1) H (.there .here) hO3 Tryz.underlying24 Tryz.typeInfo4 rfl rfl rfl rfl rfl rfl (src_one Tryz.underlying24 (H.get .here) rfl) (by omega) (by simp only [Tryz.t4]; omega)) ?_; clear H hK3; intro v4 M4 w995 hO4 H; have hO5 : OwnS w.heap.size 4 1 v4 (ms ++ [true]).length ((ms ++ [true]).map Bo) M4 := (by rw [List.map_append, List.length_append]; exact hO4); obtain ⟨ya, yc, rfl⟩ := hO4.form; have hK4 := hO4.keys)
        refine WL_step rfl (R_fieldAddr (off' := 0) Tryz.underlying27 rfl Tryz.sizeOf24 (by decide) rfl rfl) ?_
        (have hn3' := hn3; refine WL_effu rfl (E_store (v := .slice ya (ms.length + 1) yc) H Tryz.sizeOf24 rfl rfl rfl (.there (.app M4 .here)) (by simp)) ?_; clear H; intro w997 H)
        refine WL_nil ?_
        refine W_seq ?_
        refine W_region_l ?_
        refine WL_step rfl (R_loadA (vs := [.slice ya (ms.length + 1) yc, .slice qa bs.length qc, I ls]) Tryz.isAgg27 Tryz.sizeOf27 rfl (H.get (.there (.app M4 .here))) rfl (by simp)) ?_
        (have hn3' := hn3; refine WL_call rfl (R_call rfl Tryz.call17 rfl) (closT_ret (ms := ms ++ [true]) (bs := bs) (ls := ls) ⟨⟨_, _, rfl, RdS.own hO5 (fun p hp => H.held p (by simp [hp])), RdR.own brC_len hO2 rfl (fun p hp => H.held p (by simp [hp]))⟩, by simp, by simp; omega, hbl, (fun b hb => by obtain ⟨k1, k2, k3⟩ := hbo b hb; exact ⟨by simp; omega, by simp; omega, k3⟩), hls.1, hls.2⟩) ?_; rintro vc w1002 ⟨MC, hOC, H1⟩; rw [clo_more hbo, hC0, List.length_append] at hOC; have h1002 := H.seqO hOC H1; clear H H1 hOC; obtain ⟨hOC, H⟩ := h1002; obtain ⟨q3, qc3, sp3, rfl, hq3, rfl, hsp3, hqc3⟩ := OwnS.pos hOC (by simp))
        refine WL_stepM rfl (R_as) ?_
        refine WL_nil ?_
        refine W_seq ?_
        refine W_seq ?_
        refine W_region_l ?_
        refine WL_stepM rfl (R_mv) ?_
        refine WL_step rfl (R_len_slice Tryz.underlying24 rfl) ?_
        refine WL_stepM rfl (R_mv) ?_
        refine WL_step rfl (R_len_slice Tryz.underlying24 rfl) ?_
        refine WL_step rfl (R_add rfl rfl (w_i64 (by omega))) ?_
        refine WL_step rfl (R_ne_f rfl rfl (by simp)) ?_
        refine WL_stepM rfl (R_mv) ?_
        refine WL_guard_t rfl rfl ?_
        refine WL_stepM rfl (R_mv) ?_
        refine WL_guard_t rfl rfl ?_
        refine WL_stepM rfl (R_mv) ?_
        refine WL_guard_t rfl rfl ?_
        refine WL_step rfl (R_len_slice Tryz.underlying24 rfl) ?_
        refine WL_guard_t rfl rfl ?_
        refine WL_step rfl (R_indexAddr (off' := ms.length) Tryz.underlying24 Tryz.sizeOf4 rfl rfl (by omega) (by have e : [true].length = 1 := rfl; omega) (by omega)) ?_
        refine WL_guard_t rfl rfl ?_
        refine WL_step rfl (R_load (v := .bool true) Tryz.isAgg4 rfl (H.get .here) (by rw [List.getElem?_append_left (by simp; omega), List.getElem?_map, List.getElem?_append_right (by omega), hCl, Nat.sub_self]; rfl)) ?_
        refine WL_guard_t rfl rfl ?_
        refine WL_step rfl (R_not_t rfl) ?_
        refine WL_stepM rfl (R_pk_f rfl) ?_
        refine WL_nil ?_
        refine W_cond_f rfl ?_
        refine W_skip ?_
        refine W_seq ?_
        refine W_seq ?_
        ((replace H : Hp w [(q3, blk ((C ++ [true]).map Bo ++ sp3) 4), (q1, blk (C.map Bo ++ sp1) 4)] _ := H.drop (.cons_cons _ (.cons _ ((List.Sublist.cons _ (.cons _ (.cons_cons _ (List.nil_sublist _)))).trans (List.sublist_append_right M4 _)))) (by intro p hp hq; clear hq; revert p; exact kYs))) <;> refine W_region_l ?_
        refine WL_stepM rfl (R_as) ?_
        refine WL_nil ?_
        refine W_block ?_
        refine W_loopS [(4, 4), (14, 14), (121, 135)] (fun (k : Nat) E w' => k ≤ ms.length ∧ E 14 = I k ∧ Hp w [(q3, blk ((C ++ [true]).map Bo ++ sp3) 4), (q1, blk (C.map Bo ++ sp1) 4)] w') (fun k => ms.length - k) 0 ?e4 ?r4
        · exact ⟨by omega, rfl, H⟩
        · (clear H; rintro k E w1 ⟨hk, h14, H⟩; refine W_kn h14 ?_)
          refine W_seq ?_
          refine W_seq ?_
          refine W_region_l ?_
          refine WL_stepM rfl (R_mv) ?_
          refine WL_stepM rfl (R_mv) ?_
          refine WL_step rfl (R_len_slice Tryz.underlying24 rfl) ?_
          refine WL_step rfl (R_lt rfl rfl) ?_
          refine WL_nil ?_
          refine W_if rfl (fun h1047 => ?_) (fun h1047 => ?_)
          · refine W_skip ?_
            refine W_seq ?_
            refine W_block ?_
            refine W_seq ?_
            (obtain ⟨c, hc⟩ : ∃ c, C[k]? = some c := ⟨_, List.getElem?_eq_getElem (by omega)⟩; refine W_drawH (fun _ => false) (by kernel_rfl) H ?_; clear H; intro w1052 H)
            refine WA_takeM 0 rfl rfl rfl (by kernel_rfl) (by kernel_rfl) H (fun _ hC => R_mv) ?_
            refine WA_takeM 1 rfl rfl rfl (by kernel_rfl) (by kernel_rfl) H (fun _ hC => R_mv) ?_
            refine WA_take 2 rfl rfl rfl (by kernel_rfl) (by kernel_rfl) H (fun _ hC => R_indexAddr (off' := k) Tryz.underlying24 Tryz.sizeOf4 rfl rfl (by omega) (by have e : [true].length = 1 := rfl; omega) (by omega)) ?_
            refine WA_take 3 rfl rfl rfl (by kernel_rfl) (by kernel_rfl) H (fun _ hC => R_load (v := .bool c) Tryz.isAgg4 rfl (hC.get .here) (by rw [List.getElem?_append_left (by simp; omega), List.getElem?_map, List.getElem?_append_left (by omega), hc]; rfl)) ?_
            refine WA_takeM 4 rfl rfl rfl (by kernel_rfl) (by kernel_rfl) H (fun _ hC => R_mv) ?_
            refine WA_takeM 5 rfl rfl rfl (by kernel_rfl) (by kernel_rfl) H (fun _ hC => R_mv) ?_
            refine WA_take 6 rfl rfl rfl (by kernel_rfl) (by kernel_rfl) H (fun _ hC => R_indexAddr Tryz.underlying24 Tryz.sizeOf4 rfl rfl (by omega) (by omega) idx0_cast) ?_
            refine WA_take 7 rfl rfl rfl (by kernel_rfl) (by kernel_rfl) H (fun _ hC => R_load (v := .bool c) Tryz.isAgg4 rfl (hC.get (.there .here)) (by rw [List.getElem?_append_left (by rw [List.length_map]; omega), List.getElem?_map, hc]; rfl)) ?_
            refine WA_take 8 rfl rfl rfl (by kernel_rfl) (by kernel_rfl) H (fun _ hC => R_ne_bool_f Tryz.underlying4 rfl rfl rfl) ?_
            refine WA_done (by kernel_rfl) ?_
            refine W_cond_f rfl ?_
            refine W_skip ?_
            refine W_region_l ?_
            refine WL_stepM rfl (R_mv) ?_
            refine WL_step rfl (R_add rfl rfl (w_i64 (by omega))) ?_
            refine WL_stepM rfl (R_as) ?_
            refine WL_nil ?_
            exact ⟨(same_mov rfl (same_updo rfl (same_mov rfl (same_updo rfl (same_updo rfl (same_updo rfl (same_mov rfl (same_mov rfl (same_updo rfl (same_updo rfl (same_mov rfl (same_mov rfl (same_know rfl (same_updo rfl (same_updo rfl (same_mov rfl (same_mov rfl same_ovr))))))))))))))))), k + 1, by omega, by omega, rfl, H⟩
          · refine W_exit ?_
            refine (if_pos rfl).mpr ?_
            refine W_seq ?_
            refine W_region_l ?_
            (refine WL_call rfl (R_call rfl Tryz.call10 rfl) (haw _) ?_; rintro _ w1075 ⟨rfl, H1⟩; replace H := H.seq0 H1; clear H1)
            refine WL_stepM rfl (R_as) ?_
            refine WL_nil ?_
            refine W_ret ?_
            exact ⟨_, rfl, rfl, H.none kYs⟩
end Go.Proofs.YtlpmfldijgdcoaaGreatDoor.Top

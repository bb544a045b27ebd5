/-
  What a plan of one session boots.
-/
import Derived.Test.YtlpmfldijgdcoaaGreatDoorKeM
import Derived.Test.YtlpmfldijgdcoaaGreatDoorPlanM
import Derived.Test.YtlpmfldijgdcoaaGreatDoorHoM
namespace Go.Proofs.YtlpmfldijgdcoaaGreatDoor.Wo
open Go Go.Proofs Go.Proofs.YtlpmfldijgdcoaaGreatDoor.Fx Go.Proofs.YtlpmfldijgdcoaaGreatDoor.Kn Go.Proofs.YtlpmfldijgdcoaaGreatDoor.Ke
set_option maxRecDepth 100000
set_option linter.unusedVariables false
set_option linter.unusedSimpArgs false
set_option maxHeartbeats 8000000

theorem perm4 {α : Type} (b k c : α) (Y R : List α) : (Y ++ b :: k :: c :: R).Perm (b :: k :: c :: (Y ++ R)) :=
  List.perm_middle.trans (.cons _ (List.perm_middle.trans (.cons _ List.perm_middle)))
theorem perm5 {α : Type} (b p k c : α) (Y R : List α) : (Y ++ b :: p :: k :: c :: R).Perm (b :: k :: c :: (Y ++ (p :: R))) := by
  refine List.perm_middle.trans (.cons _ ?_)
  have h : (Y ++ p :: k :: c :: R).Perm (Y ++ k :: c :: (p :: R)) := List.Perm.append_left Y ((List.Perm.swap _ _ _).trans (.cons _ (List.Perm.swap _ _ _)))
  exact h.trans (List.perm_middle.trans (.cons _ List.perm_middle))

/-- a plan of one session that is bad, joined to nobody -/
structure P1 (w : World) (pa : Option Addr) (pc : Nat) : Prop where
  bad : RdS w (.slice pa 1 pc) ([true].map Top.Bo)
theorem P1.plan {w : World} {pa : Option Addr} {pc : Nat} (h : P1 w pa pc) : Top.PlanR w (.agg #[.slice pa 1 pc, nilS, I 3]) [true] [] 3 :=
  ⟨⟨_, _, rfl, h.bad, RdR.nil⟩, by decide, by decide, by decide, (fun _ h => nomatch h), by decide, by decide⟩
theorem P1.keepN {w w' : World} {pa : Option Addr} {pc : Nat} {L : List (Nat × Obj)} (h : P1 w pa pc) (H : Hp w L w') (hn : ∀ p ∈ L, w.heap.size ≤ p.1) : P1 w' pa pc := ⟨h.bad.monoN H hn⟩

section
variable {w : World} {pa : Option Addr} {pc : Nat}
theorem boot_ret (hp : P1 w pa pc) : Ret Tryz.prog 25 #[.agg #[.slice pa 1 pc, nilS, I 3]] w fun v w' => ∃ B, v = .agg B.c.toArray ∧ Bt w' B ∧ Hp w [] w' := by
  refine Ret_of_WC (args := [_]) Tryz.func25 rfl Tryz.ntmps25 Tryz.results25 (by simp) ?_
  have H := Hp.refl w
  refine W_seq ?_
  refine W_region_l ?_
  (refine WL_effn rfl (E_box (vs := [.slice pa 1 pc, nilS, I 3]) H rfl rfl) ?_; clear H; intro c1 w3 hc1 H)
  (refine WL_effn rfl (E_alloc (vs := [nilS, nilS, nilS, I 0, nilS]) H Tryz.zeroValue77 rfl) ?_; clear H; intro c2 w4 hc2 H)
  refine WL_nil ?_
  refine W_seq ?_
  refine W_seq ?_
  refine W_region_l ?_
  refine WL_step rfl (R_loadA (vs := [.slice pa 1 pc, nilS, I 3]) Tryz.isAgg27 Tryz.sizeOf27 rfl (H.get (.there .here)) rfl (by simp)) ?_
  (refine WL_call rfl (R_call rfl Tryz.call23 rfl) (Top.check_ret (hp.keepN H kYs).plan) ?_; rintro _ w10 ⟨rfl, H1⟩; replace H := H.seq0 H1; clear H1)
  refine WL_step rfl (R_ne_f rfl rfl (by omega)) ?_
  refine WL_nil ?_
  refine W_cond_f rfl ?_
  refine W_skip ?_
  refine W_seq ?_
  refine W_region_l ?_
  refine WL_step rfl (R_fieldAddr (off' := 2) Tryz.underlying27 rfl Tryz.sizeOf3 (by decide) rfl rfl) ?_
  refine WL_step rfl (R_load Tryz.isAgg3 rfl (H.get (.there .here)) rfl) ?_
  refine WL_step rfl (R_buildL (places := [(0, 1), (1, 1), (2, 1), (3, 1), (4, 1)]) (vs := [nilS, nilS, nilS, I 3, nilS]) Tryz.underlying77 Tryz.typeInfo77 rfl rfl (by kernel_rfl) rfl rfl rfl) ?_
  (refine WL_effn rfl (E_alloc (vs := [nilS, nilS, nilS, I 0, nilS]) H Tryz.zeroValue77 rfl) ?_; clear H; intro c3 w20 hc3 H)
  (refine WL_effu rfl (E_storeA (vs := [nilS, nilS, nilS, I 3, nilS]) H Tryz.sizeOf77 rfl rfl (by simp [Value.oneCell']) .here (by simp)) ?_; clear H; intro w21 H; replace H : Hp w ((c3, blk [nilS, nilS, nilS, I 3, nilS] 77) :: (c2, blk [nilS, nilS, nilS, I 0, nilS] 77) :: [(c1, blk [.slice pa 1 pc, nilS, I 3] 27)]) w21 := H)
  refine WL_nil ?_
  refine W_seq ?_
  refine W_seq ?_
  refine W_region_l ?_
  refine WL_step rfl (R_fieldAddr (off' := 0) Tryz.underlying27 rfl Tryz.sizeOf24 (by decide) rfl rfl) ?_
  refine WL_step rfl (R_load Tryz.isAgg24 rfl (H.get (.there (.there .here))) rfl) ?_
  refine WL_step rfl (R_len_slice Tryz.underlying24 rfl) ?_
  refine WL_stepM rfl (R_mv) ?_
  refine WL_nil ?_
  refine W_block ?_
  refine W_rounds 1 ?_
  refine W_seq ?_
  refine W_region_l ?_
  refine WL_step rfl (R_lt_t rfl rfl (by omega)) ?_
  refine WL_nil ?_
  refine W_seq ?_
  refine W_cond_t rfl ?_
  refine W_skip ?_
  refine W_seq ?_
  refine W_block ?_
  refine W_seq ?_
  refine W_region_l ?_
  refine WL_stepM rfl (R_mv) ?_
  refine WL_stepM rfl (R_as) ?_
  refine WL_nil ?_
  refine W_seq ?_
  refine W_region_l ?_
  refine WL_step rfl (R_fieldAddr (off' := 0) Tryz.underlying77 rfl Tryz.sizeOf22 (by decide) rfl rfl) ?_
  refine WL_step rfl (R_load Tryz.isAgg22 rfl (H.get .here) rfl) ?_
  (refine WL_effn rfl (E_buildOnes (vs := [I 20]) H Tryz.underlying22 Tryz.sizeOf3 Tryz.zeroValue3 rfl rfl (by decide) rfl rfl (by simp [Value.oneCell'])) ?_; clear H; intro b22 w51 hb22 H)
  (refine WL_effm rfl (E_append (news := [I 20]) (m := 1) H (AtM.here (M := []) (B := _)) (OwnS.nil _ _ _) Tryz.underlying22 Tryz.typeInfo3 rfl rfl rfl rfl rfl rfl (src_one Tryz.underlying22 (H.get .here) rfl) (by decide) (by simp only [Tryz.t3]; decide)) ?_; clear H; intro vF MF w52 hOF H; obtain ⟨fa, fc, rfl⟩ := hOF.form; have hMF := hOF.keys; obtain ⟨R, hR, hRF, H⟩ : ∃ R, (∀ p ∈ R, w.heap.size ≤ p.1) ∧ (∀ w2, Kp R w2 → Kp MF w2 ∧ w2.heap[c1]? = some (blk [.slice pa 1 pc, nilS, I 3] 27)) ∧ Hp w ((c3, blk [nilS, nilS, nilS, I 3, nilS] 77) :: (c2, blk [nilS, nilS, nilS, I 0, nilS] 77) :: R) w52 := ⟨MF ++ [(c1, blk [.slice pa 1 pc, nilS, I 3] 27)], kApp hMF (kCons hc1 kNil), fun w2 h => ⟨fun p hp => h p (by simp [hp]), h (c1, _) (by simp)⟩, (H.perm (perm4 _ _ _ _ _)).pop hb22⟩)
  refine WL_step rfl (R_fieldAddr (off' := 0) Tryz.underlying77 rfl Tryz.sizeOf22 (by decide) rfl rfl) ?_
  (have _g := hOF; refine WL_effu rfl (E_store (v := .slice fa 1 fc) H Tryz.sizeOf22 rfl rfl rfl .here (by simp)) ?_; clear H; intro w54 H; replace H : Hp w ((c3, blk [.slice fa 1 fc, nilS, nilS, I 3, nilS] 77) :: (c2, blk [nilS, nilS, nilS, I 0, nilS] 77) :: R) w54 := H)
  refine WL_nil ?_
  refine W_seq ?_
  refine W_seq ?_
  refine W_region_l ?_
  refine WL_stepM rfl (R_mv) ?_
  refine WL_nil ?_
  refine W_block ?_
  refine W_loopS [(25, 33)] (fun (i : Nat) E w' => i ≤ 9 ∧ E 25 = I i ∧ ∃ ev M, OwnS w.heap.size 3 1 ev i (List.replicate i (I 0)) M ∧ Hp w ((c3, blk [.slice fa 1 fc, ev, nilS, I 3, nilS] 77) :: (M ++ (c2, blk [nilS, nilS, nilS, I 0, nilS] 77) :: R)) w') (fun i => 9 - i) 0 ?e2 ?r2
  · exact ⟨by omega, rfl, nilS, [], OwnS.nil _ _ _, H⟩
  · (clear H; rintro i E w1 ⟨hi, h25, ev, M, hO, H⟩; obtain ⟨ea, ec, rfl⟩ := hO.form; refine W_kn h25 ?_)
    refine W_seq ?_
    refine W_region_l ?_
    refine WL_step rfl (R_lt rfl rfl) ?_
    refine WL_nil ?_
    refine W_seq ?_
    refine W_if rfl (fun h69 => ?_) (fun h69 => ?_)
    · refine W_skip ?_
      refine W_seq ?_
      refine W_block ?_
      refine W_region_l ?_
      refine WL_step rfl (R_fieldAddr (off' := 1) Tryz.underlying77 rfl Tryz.sizeOf22 (by decide) rfl rfl) ?_
      refine WL_step rfl (R_load Tryz.isAgg22 rfl (H.get .here) rfl) ?_
      refine WL_stepM rfl (R_mv) ?_
      (refine WL_effn rfl (E_buildOnes (vs := [I 0]) H Tryz.underlying22 Tryz.sizeOf3 Tryz.zeroValue3 rfl rfl (by decide) rfl rfl (by simp [Value.oneCell'])) ?_; clear H; intro b30 w77 hb30 H)
      (refine WL_effm rfl (E_append (news := [I 0]) (m := 1) H (.there (.there .here)) hO Tryz.underlying22 Tryz.typeInfo3 rfl rfl rfl rfl rfl rfl (src_one Tryz.underlying22 (H.get .here) rfl) (by omega) (by simp only [Tryz.t3]; omega)) ?_; clear H hO; intro v5 M5 w78 hO H; obtain ⟨ea5, ec5, rfl⟩ := hO.form; replace H := H.pop hb30)
      refine WL_step rfl (R_fieldAddr (off' := 1) Tryz.underlying77 rfl Tryz.sizeOf22 (by decide) rfl rfl) ?_
      (refine WL_effu rfl (E_store (v := (.slice _ _ _)) H Tryz.sizeOf22 rfl rfl rfl .here (by simp)) ?_; clear H; intro w80 H)
      refine WL_nil ?_
      refine W_region_l ?_
      refine WL_step rfl (R_add rfl rfl (w_i64 (by omega))) ?_
      refine WL_stepM rfl (R_mv) ?_
      refine WL_nil ?_
      exact ⟨(same_mov rfl (same_updo rfl (same_updn (same_updo rfl (same_updo rfl (same_updo rfl (same_mov rfl (same_updo rfl (same_updo rfl (same_know rfl (same_updo rfl same_ovr))))))))))), i + 1, by omega, by omega, rfl, _, M5, (by rw [List.replicate_succ']; exact hO), H⟩
    · refine W_exit ?_
      refine (if_pos rfl).mpr ?_
      refine W_seq ?_
      ((obtain rfl : i = 9 := (by omega); have hME := hO.keys; obtain ⟨R2, hR2, hRE, H⟩ : ∃ R2, (∀ p ∈ R2, w.heap.size ≤ p.1) ∧ (∀ w2, Kp R2 w2 → (Kp MF w2 ∧ w2.heap[c1]? = some (blk [.slice pa 1 pc, nilS, I 3] 27)) ∧ Kp M w2) ∧ Hp w ((c3, blk [.slice fa 1 fc, .slice ea 9 ec, nilS, I 3, nilS] 77) :: (c2, blk [nilS, nilS, nilS, I 0, nilS] 77) :: R2) _ := ⟨M ++ R, kApp hME hR, fun w2 h => ⟨hRF w2 (fun p hp => h p (by simp [hp])), fun p hp => h p (by simp [hp])⟩, H.perm (.cons _ List.perm_middle)⟩)) <;> refine W_region_l ?_
      refine WL_step rfl (R_fieldAddr (off' := 2) Tryz.underlying77 rfl Tryz.sizeOf74 (by decide) rfl rfl) ?_
      refine WL_step rfl (R_load Tryz.isAgg74 rfl (H.get .here) rfl) ?_
      refine WL_stepM rfl (R_mv) ?_
      (refine WL_effn rfl (E_buildOnes (vs := [I 0]) H Tryz.underlying22 Tryz.sizeOf3 Tryz.zeroValue3 rfl rfl (by decide) rfl rfl (by simp [Value.oneCell'])) ?_; clear H; intro b37 w94 hb37 H)
      (refine WL_effn rfl (E_buildOnes (vs := [sl b37 0 1 1]) H Tryz.underlying74 Tryz.sizeOf22 Tryz.zeroValue22 rfl rfl (by decide) rfl rfl (by simp [Value.oneCell'])) ?_; clear H; intro b38 w95 hb38 H)
      (refine WL_effm rfl (E_append (news := [sl b37 0 1 1]) (m := 1) H (AtM.here (M := []) (B := _)) (OwnS.nil _ _ _) Tryz.underlying74 Tryz.typeInfo22 rfl rfl rfl rfl rfl rfl (src_one Tryz.underlying74 (H.get .here) rfl) (by decide) (by simp only [Tryz.t22]; decide)) ?_; clear H; intro vS MS w96 hOS H; obtain ⟨sa, sc, rfl⟩ := hOS.form; have hMS := hOS.keys; obtain ⟨R3, hR3, hRS, H⟩ : ∃ R3, (∀ p ∈ R3, w.heap.size ≤ p.1) ∧ (∀ w2, Kp R3 w2 → ((Kp MF w2 ∧ w2.heap[c1]? = some (blk [.slice pa 1 pc, nilS, I 3] 27)) ∧ Kp M w2) ∧ Kp MS w2 ∧ w2.heap[b37]? = some (blk [I 0] 3)) ∧ Hp w ((c3, blk [.slice fa 1 fc, .slice ea 9 ec, nilS, I 3, nilS] 77) :: (c2, blk [nilS, nilS, nilS, I 0, nilS] 77) :: R3) w96 := ⟨MS ++ ((b37, blk [I 0] 3) :: R2), kApp hMS (kCons hb37 hR2), fun w2 h => ⟨hRE w2 (fun p hp => h p (by simp [hp])), fun p hp => h p (by simp [hp]), h (b37, _) (by simp)⟩, (H.perm (perm5 _ _ _ _ _ _)).pop hb38⟩)
      refine WL_step rfl (R_fieldAddr (off' := 2) Tryz.underlying77 rfl Tryz.sizeOf74 (by decide) rfl rfl) ?_
      (have _g := hOS; refine WL_effu rfl (E_store (v := .slice sa 1 sc) H Tryz.sizeOf74 rfl rfl rfl .here (by simp)) ?_; clear H; intro w98 H; replace H : Hp w ((c3, blk [.slice fa 1 fc, .slice ea 9 ec, .slice sa 1 sc, I 3, nilS] 77) :: (c2, blk [nilS, nilS, nilS, I 0, nilS] 77) :: R3) w98 := H)
      refine WL_nil ?_
      refine W_region_l ?_
      refine WL_step rfl (R_fieldAddr (off' := 4) Tryz.underlying77 rfl Tryz.sizeOf75 (by decide) rfl rfl) ?_
      refine WL_step rfl (R_load Tryz.isAgg75 rfl (H.get .here) rfl) ?_
      refine WL_stepM rfl (R_mv) ?_
      refine WL_stepM rfl (R_mv) ?_
      (refine WL_effn rfl (E_buildOnes (vs := [I 0]) H Tryz.underlying22 Tryz.sizeOf3 Tryz.zeroValue3 rfl rfl (by decide) rfl rfl (by simp [Value.oneCell'])) ?_; clear H; intro b45 w105 hb45 H)
      refine WL_step rfl (R_buildL (places := [(0, 1), (1, 1), (2, 1), (3, 1), (4, 1)]) (vs := [I 0, I 0, I 0, I 492, sl b45 0 1 1]) Tryz.underlying118 Tryz.typeInfo118 rfl rfl (by kernel_rfl) rfl rfl rfl) ?_
      (refine WL_effn rfl (E_buildRows (vss := [[I 0, I 0, I 0, I 492, sl b45 0 1 1]]) H Tryz.underlying75 Tryz.sizeOf118 Tryz.zeroValue118 rfl rfl (by decide) rfl rfl (by simp)) ?_; clear H; intro b47 w107 hb47 H)
      (refine WL_effm rfl (E_append (news := [I 0, I 0, I 0, I 492, sl b45 0 1 1]) (m := 1) H (AtM.here (M := []) (B := _)) (OwnS.nil _ _ _) Tryz.underlying75 Tryz.typeInfo118 rfl rfl rfl rfl rfl rfl (src_blk (m := 1) (sp := []) Tryz.underlying75 (by rw [List.append_nil]; exact H.get .here) rfl (by simp [Value.oneCell'])) (by decide) (by simp only [Tryz.t118]; decide)) ?_; clear H; intro vH MH w108 hOH H; obtain ⟨ha, hc, rfl⟩ := hOH.form; have hMH := hOH.keys; obtain ⟨R4, hR4, hRH, H⟩ : ∃ R4, (∀ p ∈ R4, w.heap.size ≤ p.1) ∧ (∀ w2, Kp R4 w2 → (((Kp MF w2 ∧ w2.heap[c1]? = some (blk [.slice pa 1 pc, nilS, I 3] 27)) ∧ Kp M w2) ∧ Kp MS w2 ∧ w2.heap[b37]? = some (blk [I 0] 3)) ∧ Kp MH w2 ∧ w2.heap[b45]? = some (blk [I 0] 3)) ∧ Hp w ((c3, blk [.slice fa 1 fc, .slice ea 9 ec, .slice sa 1 sc, I 3, nilS] 77) :: (c2, blk [nilS, nilS, nilS, I 0, nilS] 77) :: R4) w108 := ⟨MH ++ ((b45, blk [I 0] 3) :: R3), kApp hMH (kCons hb45 hR3), fun w2 h => ⟨hRS w2 (fun p hp => h p (by simp [hp])), fun p hp => h p (by simp [hp]), h (b45, _) (by simp)⟩, (H.perm (perm5 _ _ _ _ _ _)).pop hb47⟩)
      refine WL_step rfl (R_fieldAddr (off' := 4) Tryz.underlying77 rfl Tryz.sizeOf75 (by decide) rfl rfl) ?_
      (have _g := hOH; refine WL_effu rfl (E_store (v := .slice ha 1 hc) H Tryz.sizeOf75 rfl rfl rfl .here (by simp)) ?_; clear H; intro w110 H; replace H : Hp w ((c3, blk [.slice fa 1 fc, .slice ea 9 ec, .slice sa 1 sc, I 3, .slice ha 1 hc] 77) :: (c2, blk [nilS, nilS, nilS, I 0, nilS] 77) :: R4) w110 := H)
      refine WL_nil ?_
      refine W_region_l ?_
      refine WL_step rfl (R_add (r := 1) rfl rfl (by decide)) ?_
      refine WL_stepM rfl (R_mv) ?_
      refine WL_nil ?_
      refine Rn_succ ?_
      refine W_seq ?_
      refine W_region_l ?_
      refine WL_step rfl (R_lt_f rfl rfl (by omega)) ?_
      refine WL_nil ?_
      refine W_seq ?_
      refine W_cond_f rfl ?_
      refine W_exit ?_
      refine (if_pos rfl).mpr ?_
      refine W_seq ?_
      refine W_seq ?_
      refine W_region_l ?_
      refine WL_step rfl (R_fieldAddr (off' := 1) Tryz.underlying27 rfl Tryz.sizeOf25 (by decide) rfl rfl) ?_
      refine WL_step rfl (R_load (v := nilS) Tryz.isAgg25 rfl (hRH _ (fun p hp => H.held p (by simp [hp]))).1.1.1.2 rfl) ?_
      refine WL_step rfl (R_len_slice Tryz.underlying25 rfl) ?_
      refine WL_stepM rfl (R_mv) ?_
      refine WL_nil ?_
      refine W_block ?_
      refine W_rounds 0 ?_
      refine W_seq ?_
      refine W_region_l ?_
      refine WL_step rfl (R_lt_f rfl rfl (by omega)) ?_
      refine WL_nil ?_
      refine W_seq ?_
      refine W_cond_f rfl ?_
      refine W_exit ?_
      refine (if_pos rfl).mpr ?_
      refine W_seq ?_
      refine W_region_l ?_
      refine WL_step rfl (R_loadA (vs := [.slice fa 1 fc, .slice ea 9 ec, .slice sa 1 sc, I 3, .slice ha 1 hc]) Tryz.isAgg77 Tryz.sizeOf77 rfl (H.get .here) rfl (by simp)) ?_
      (have _g := R4; refine WL_effu rfl (E_storeA (vs := [.slice fa 1 fc, .slice ea 9 ec, .slice sa 1 sc, I 3, .slice ha 1 hc]) H Tryz.sizeOf77 rfl rfl (by simp [Value.oneCell']) (.there .here) (by simp)) ?_; clear H; intro w146 H)
      refine WL_nil ?_
      refine W_ret ?_
      (have hK := hRH _ (fun p hp => H.held p (by simp [hp])); obtain ⟨fb, fc1, fl, e1, _, rfl, _, hfc⟩ := hOF.pos (by decide); cases e1; obtain ⟨eb, ec1, el, e1, _, rfl, _, hec⟩ := hO.pos (by decide); cases e1; obtain ⟨sb, sc1, sl1, e1, _, rfl, _, hsc⟩ := hOS.pos (by decide); cases e1; obtain ⟨hb, hc1, hl, e1, _, rfl, _, hhc⟩ := hOH.pos (by decide); cases e1; exact ⟨_, ⟨_, rfl, ldA Tryz.isAgg77 Tryz.sizeOf77 (H.get (.there .here)) rfl (by simp)⟩, ⟨fb, fc, eb, ec, sb, sc, b37, 1, hb, hc, b45, 1, fl, el, sl1, [], hl, []⟩, rfl, ⟨hK.1.1.1.1 _ (.head _), hK.1.1.2 _ (.head _), hK.1.2.1 _ (.head _), hK.1.2.2, hK.2.1 _ (.head _), hK.2.2, hec, Nat.le_refl _, Nat.le_refl _, hfc⟩, H.none (kCons hc3 (kCons hc2 hR4))⟩)
end
end Go.Proofs.YtlpmfldijgdcoaaGreatDoor.Wo

/-
  A session begins: its first bytes.
-/
namespace Go.Proofs.YtlpmfldijgdcoaaGreatDoor.Wo
open Go Go.Proofs Go.Proofs.YtlpmfldijgdcoaaGreatDoor.Fx Go.Proofs.YtlpmfldijgdcoaaGreatDoor.Kn Go.Proofs.YtlpmfldijgdcoaaGreatDoor.Ke Go.Proofs.YtlpmfldijgdcoaaGreatDoor.Cm Go.Proofs.YtlpmfldijgdcoaaGreatDoor.Ho Go.Proofs.YtlpmfldijgdcoaaGreatDoor.TabC
set_option maxRecDepth 100000
set_option linter.unusedVariables false
set_option linter.unusedSimpArgs false
set_option maxHeartbeats 8000000

/-- the terminal, as it begins -/
def q0 : Ring.Pi := ⟨0, 0, 1, 1, List.replicate 32 0, by simp⟩
def f0 : File.Fl := ⟨3, 0, 1, 0⟩
def p00 : Slot.Pi := ⟨1, 0, 0, 0, 0, 0, 0, 0, [0, 0, 0, 0, 0, 0, 0, 0], rfl⟩
def X1 (xs : List UInt8) : List UInt8 := Mem.put xs (Ring.bytesP q0) (0 + 448)
def X2 (xs : List UInt8) : List UInt8 := Mem.put (X1 xs) (frontB 0) (0 + 488)
def X3 (xs : List UInt8) : List UInt8 := Mem.put (X2 xs) (File.fileBytes f0) (0 + 192)
def X4 (xs : List UInt8) : List UInt8 := Mem.put (X3 xs) (Slot.bytesP p0) (0 + 24 * 0)
theorem okq0 : Ring.okP q0 := by unfold Ring.okP q0; decide
theorem okf0 : File.fileOk f0 := by decide
theorem lenq0 : (Ring.bytesP q0).length = 40 := by decide
theorem lenf0 : (File.fileBytes f0).length = 8 := by decide
theorem x1_len {xs : List UInt8} (h : xs.length = 1280) : (X1 xs).length = 1280 := by unfold X1; rw [put_len (by rw [lenq0, h]; decide), h]
theorem x2_len {xs : List UInt8} (h : xs.length = 1280) : (X2 xs).length = 1280 := by unfold X2; rw [put_len (by rw [x1_len h]; decide), x1_len h]
theorem x3_len {xs : List UInt8} (h : xs.length = 1280) : (X3 xs).length = 1280 := by unfold X3; rw [put_len (by rw [lenf0, x2_len h]; decide), x2_len h]
theorem x4_len {xs : List UInt8} (h : xs.length = 1280) : (X4 xs).length = 1280 := by unfold X4; rw [put_len (by rw [lenp0, x3_len h]; decide), x3_len h]

/-- commons of one cap, just made -/
def c0 (κ : KS) (X : List UInt8) (e : Nat) (ua : Option Addr) (uc mp : Nat) : Cs := ⟨{ κ with xs := X }, e, ua, uc, [256], [(0, 492)], mp, #[], 0, []⟩
theorem cmi_at {w w1 : World} {κ : KS} {X : List UInt8} {L : List (Nat × Obj)} {c e uc mp : Nat} {ua : Option Addr} (hK : Kr w κ) (hW : Wn κ e 256 0 492) (H : Hp w ((κ.mb, blk (X.map U) 5) :: L) w1) (hL : Out kT w L) (hX : X.length = κ.N)
    (hc : w1.heap[c]? = some (blk [ptr κ.k 0, I e, .slice ua 1 uc, .map (some mp)] 177)) (hmp : w1.heap[mp]? = some (.map #[] 0)) (hO : RdT 3 w1 (.slice ua 1 uc) ([256].map I)) : CmI w1 c (c0 κ X e ua uc mp) := by
  refine ⟨hc, hO.rd, fun a ha => hO.ty a 1 uc (by subst ha; rfl), hmp, Mr.MapIs.nil, hK.keep H (Out.cons hK.hb (by simp [kT, elT]) hL) (H.get .here) hX, ?_, rfl, show 1 ≤ 1 ∧ 1 ≤ 5 by decide, ?_, ?_⟩
  · intro j nm x h1 h2
    match j, h1, h2 with
    | 0, h1, h2 => cases h1; cases h2; exact ⟨hW.ex, hW.hin, hW.he⟩
    | j + 1, h1, _ => simp [c0] at h1
  · intro x hx; cases hx; rfl
  · intro j x hj hx
    match j, hj, hx with
    | j + 1, _, hx => simp [c0] at hx

section
variable {w : World} {κ : KS} {wd ba' bc : Nat} {ba bb : Option Addr} {bl bbc : Nat} {hv : Value} {q : Nat × Nat}
theorem begin_ret (hw : w.heap[wd]? = some (blk [.slice bb bl bbc, .slice ba 0 bc, I 3, ptr κ.k 0, hv] 81)) (hK : Kr w κ) (hN : κ.N = 1280) (hW : Wn κ 0 256 0 492) (hq : κ.PB[0]? = some q) (ht : κ.ts[0]? = some tab1) :
    Ret Tryz.prog 26 #[ptr wd 0, I 0] w fun v w' => v = .tuple #[] ∧ Hp w [(κ.mb, blk ((X4 κ.xs).map U) 5)] w' := by
  refine Ret_of_W (args := [_, _]) Tryz.func26 rfl Tryz.ntmps26 Tryz.results26 (by simp) ?_
  have H := Hp.refl w
  have hxl : κ.xs.length = 1280 := by rw [hK.hx, hN]
  refine W_seq ?_
  refine W_region_l ?_
  refine WL_stepM rfl (R_mv) ?_
  refine WL_step rfl (R_nilCheck rfl) ?_
  refine WL_step rfl (R_fieldAddr (off' := 3) Tryz.underlying81 rfl Tryz.sizeOf71 (by decide) rfl rfl) ?_
  refine WL_step rfl (R_load Tryz.isAgg71 rfl (H.block hw (by simp)) rfl) ?_
  refine WL_stepM rfl (R_mv) ?_
  refine WL_step rfl (R_mul (r := 0) rfl rfl (by decide)) ?_
  (refine WL_call rfl (R_call rfl Tryz.call53 rfl) (cnew_ret (e := 0) hK hq ht (nms := [256]) (by kernel_rfl) (by simp)) ?_; rintro _ w9 ⟨c, u, mp, M, rfl, hc, hmp, hO, H1⟩; clear H; obtain ⟨ua, uc, rfl⟩ := hO.form; have hMk := hO.keys; have H := H1.foc hK.hb (kCons hc (kCons hmp hMk)); clear H1; have hRd : ∀ w2, Kp M w2 → RdT 3 w2 (.slice ua 1 uc) ([256].map I) := fun w2 h => RdT.own hO h)
  refine WL_stepM rfl (R_mv) ?_
  refine WL_step rfl (R_extract rfl rfl) ?_
  refine WL_step rfl (R_extract rfl rfl) ?_
  refine WL_stepM rfl (R_as) ?_
  refine WL_stepM rfl (R_as) ?_
  refine WL_nil ?_
  refine W_seq ?_
  refine W_region_l ?_
  refine WL_stepM rfl (R_mv) ?_
  refine WL_step rfl (R_buildL (places := [(0, 1), (1, 1), (2, 1), (3, 1), (4, 32)]) (vs := Ring.piC q0) Tryz.underlying131 Tryz.typeInfo131 rfl rfl (by kernel_rfl) rfl rfl rfl) ?_
  (refine WL_call rfl (R_call rfl Tryz.call54 rfl) (SetTerm_ret (cmi_at (X := κ.xs) hK hW H (Out.ofN (kCons hc (kCons hmp hMk))) hK.hx (H.get (.there .here)) (H.get (.there (.there .here))) (hRd _ (fun p hp => H.held p (by simp [hp])))) q0 okq0 lenq0 (by simp [c0])) ?_; rintro _ w20 ⟨rfl, _, H1⟩; have H9 : Hp w ((κ.mb, blk ((X1 κ.xs).map U) 5) :: (c, blk [ptr κ.k 0, I 0, .slice ua 1 uc, .map (some mp)] 177) :: (mp, .map #[] 0) :: M) w20 := H.seq H1 (okSeq_set .here okSeq_nil); clear H H1; have H := H9; clear H9)
  refine WL_nil ?_
  refine W_seq ?_
  refine W_region_l ?_
  refine WL_stepM rfl (R_mv) ?_
  (refine WL_call rfl (R_call rfl Tryz.call55 rfl) (SetFront_ret (g := 0) (cmi_at (X := X1 κ.xs) hK hW H (Out.ofN (kCons hc (kCons hmp hMk))) (by rw [x1_len hxl, hN]) (H.get (.there .here)) (H.get (.there (.there .here))) (hRd _ (fun p hp => H.held p (by simp [hp])))) (by decide) (by decide) (by simp [c0])) ?_; rintro _ w25 ⟨rfl, _, H1⟩; have H9 : Hp w ((κ.mb, blk ((X2 κ.xs).map U) 5) :: (c, blk [ptr κ.k 0, I 0, .slice ua 1 uc, .map (some mp)] 177) :: (mp, .map #[] 0) :: M) w25 := H.seq H1 (okSeq_set .here okSeq_nil); clear H H1; have H := H9; clear H9)
  refine WL_nil ?_
  refine W_seq ?_
  refine W_region_l ?_
  refine WL_stepM rfl (R_mv) ?_
  refine WL_step rfl (R_buildL (places := [(0, 1), (1, 1), (2, 1), (3, 1)]) (vs := File.flC f0) Tryz.underlying135 Tryz.typeInfo135 rfl rfl (by kernel_rfl) rfl rfl rfl) ?_
  (refine WL_call rfl (R_call rfl Tryz.call56 rfl) (SetFile_ret (i := 0) (cmi_at (X := X2 κ.xs) hK hW H (Out.ofN (kCons hc (kCons hmp hMk))) (by rw [x2_len hxl, hN]) (H.get (.there .here)) (H.get (.there (.there .here))) (hRd _ (fun p hp => H.held p (by simp [hp])))) (by decide) f0 okf0 lenf0 (by simp [c0])) ?_; rintro _ w31 ⟨rfl, _, H1⟩; have H9 : Hp w ((κ.mb, blk ((X3 κ.xs).map U) 5) :: (c, blk [ptr κ.k 0, I 0, .slice ua 1 uc, .map (some mp)] 177) :: (mp, .map #[] 0) :: M) w31 := H.seq H1 (okSeq_set .here okSeq_nil); clear H H1; have H := H9; clear H9)
  refine WL_nil ?_
  refine W_seq ?_
  refine W_region_l ?_
  refine WL_step rfl (R_buildL (places := [(0, 1), (1, 1), (2, 1), (3, 1), (4, 1), (5, 1), (6, 1), (7, 1), (8, 8)]) (vs := Slot.piC p00) Tryz.underlying58 Tryz.typeInfo58 rfl rfl (by kernel_rfl) rfl rfl rfl) ?_
  (refine WL_effn rfl (Slot.E_allocP H) ?_; clear H; intro c6 w36 hc6 H; replace H := H.swap2)
  (refine WL_effu rfl (Slot.E_storeP (q := p00) H rfl rfl (.there .here)) ?_; clear H; intro w37 H)
  refine WL_nil ?_
  refine W_seq ?_
  refine W_region_l ?_
  refine WL_step rfl (R_fieldAddr (off' := 8) Tryz.underlying58 rfl Tryz.sizeOf56 (by decide) rfl rfl) ?_
  refine WL_step rfl (R_indexAddrA (off' := 8) Tryz.underlying56 Tryz.sizeOf3 rfl rfl (by decide) (by decide) (by decide)) ?_
  (refine WL_effu rfl (E_store (v := I 1) H Tryz.sizeOf3 rfl rfl rfl (.there .here) (by simp [Slot.piC_len])) ?_; clear H; intro w43 H; replace H : Hp w ((κ.mb, blk ((X3 κ.xs).map U) 5) :: (c6, blk (Slot.piC p0) 58) :: (c, blk [ptr κ.k 0, I 0, .slice ua 1 uc, .map (some mp)] 177) :: (mp, .map #[] 0) :: M) w43 := H)
  refine WL_nil ?_
  refine W_seq ?_
  refine W_region_l ?_
  refine WL_stepM rfl (R_as) ?_
  refine WL_nil ?_
  refine W_seq ?_
  refine W_seq ?_
  refine W_region_l ?_
  refine WL_stepM rfl (R_mv) ?_
  refine WL_step rfl (R_nilCheck rfl) ?_
  refine WL_step rfl (R_fieldAddr (off' := 0) Tryz.underlying81 rfl Tryz.sizeOf27 (by decide) rfl rfl) ?_
  refine WL_step rfl (R_fieldAddr (off' := 1) Tryz.underlying27 rfl Tryz.sizeOf25 (by decide) rfl rfl) ?_
  refine WL_step rfl (R_load (v := .slice ba 0 bc) Tryz.isAgg25 rfl (H.blockT (T := [81]) hw (by simp [elT]) (Out.cons hK.hb (by simp [elT]) (Out.ofN (kCons hc6 (kCons hc (kCons hmp hMk)))))) rfl) ?_
  refine WL_step rfl (R_len_slice Tryz.underlying25 rfl) ?_
  refine WL_stepM rfl (R_mv) ?_
  refine WL_nil ?_
  refine W_block ?_
  refine W_rounds 0 ?_
  refine W_seq ?_
  refine W_region_l ?_
  refine WL_step rfl (R_lt_f rfl rfl (by omega)) ?_
  refine WL_nil ?_
  refine W_seq ?_
  refine W_cond_f rfl ?_
  refine W_exit ?_
  refine (if_pos rfl).mpr ?_
  refine W_region_l ?_
  refine WL_stepM rfl (R_mv) ?_
  refine WL_step rfl (Slot.R_loadP (p := p0) rfl (H.get (.there .here))) ?_
  (refine WL_call rfl (R_call rfl Tryz.call58 rfl) (SetProc_ret (i := 0) (cmi_at (X := X3 κ.xs) hK hW H (Out.ofN (kCons hc6 (kCons hc (kCons hmp hMk)))) (by rw [x3_len hxl, hN]) (H.get (.there (.there .here))) (H.get (.there (.there (.there .here)))) (hRd _ (fun p hp => H.held p (by simp [hp])))) (by decide) p0 okp0 lenp0 (by simp [c0])) ?_; rintro _ w73 ⟨rfl, _, H1⟩; have H9 : Hp w ((κ.mb, blk ((X4 κ.xs).map U) 5) :: (c6, blk (Slot.piC p0) 58) :: (c, blk [ptr κ.k 0, I 0, .slice ua 1 uc, .map (some mp)] 177) :: (mp, .map #[] 0) :: M) w73 := H.seq H1 (okSeq_set .here okSeq_nil); clear H H1; have H := H9; clear H9)
  refine WL_nil ?_
  exact ⟨_, rfl, rfl, Hp.cut (L := [_]) (M := _ :: _ :: _ :: M) H (kCons hc6 (kCons hc (kCons hmp hMk)))⟩
end
end Go.Proofs.YtlpmfldijgdcoaaGreatDoor.Wo

/-
  The first bytes are sound: what is in them.
-/
namespace Go.Proofs.YtlpmfldijgdcoaaGreatDoor.Wo
open Go Go.Proofs Go.Proofs.YtlpmfldijgdcoaaGreatDoor.Fx Go.Proofs.YtlpmfldijgdcoaaGreatDoor.Kn Go.Proofs.YtlpmfldijgdcoaaGreatDoor.Cm Go.Proofs.YtlpmfldijgdcoaaGreatDoor.Ho
set_option maxRecDepth 100000
set_option linter.unusedVariables false
set_option linter.unusedSimpArgs false
set_option maxHeartbeats 8000000

/-- the commons' bytes, as they begin -/
def W0 : List UInt8 := Slot.bytesP p0 ++ (List.replicate 168 0 ++ (File.fileBytes f0 ++ (List.replicate 88 0 ++ (List.replicate 160 0 ++ (Ring.bytesP q0 ++ frontB 0)))))
theorem win_x4 : win (X4 (List.replicate 1280 0)) 0 492 = W0 := by kernel_rfl
theorem win_in (X : List UInt8) (a n : Nat) (h : a + n ≤ 492) : win X (0 + a) n = win (win X 0 492) a n := by
  unfold win
  rw [List.drop_zero, List.drop_take, List.take_take, Nat.zero_add, Nat.min_eq_left (by omega)]
def okP0 (i : Nat) : Bool := decide ((Slot.decP (win W0 (24 * i) 24)).2 ≠ 2)
def okF0 (i : Nat) : Bool := decide ((File.decP (win W0 (192 + 8 * i) 8)).2 ≠ 2)
def okQ0 (i : Nat) : Bool := decide ((Ring.decP (win W0 (288 + 40 * i) 40)).2 ≠ 2)
theorem allP : ((List.range 8).all okP0) = true := by kernel_rfl
theorem allF : ((List.range 12).all okF0) = true := by kernel_rfl
theorem allQ : ((List.range 4).all okQ0) = true := by kernel_rfl
theorem allT : decide ((Ring.decP (win W0 448 40)).2 ≠ 2) = true := by kernel_rfl
theorem allG : decide ((decG (win W0 488 4)).2 ≠ 2) = true := by kernel_rfl
theorem theP : Slot.decP (win W0 (24 * 0) 24) = (p0, 1) := by kernel_rfl
theorem snd0 (κ : KS) (e : Nat) (ua : Option Addr) (uc mp : Nat) : Snd (c0 κ (X4 (List.replicate 1280 0)) e ua uc mp) := by
  have hr : ∀ a n, a + n ≤ 492 → (c0 κ (X4 (List.replicate 1280 0)) e ua uc mp).rc 0 a n = win W0 a n := fun a n h => by
    rw [← win_x4, ← win_in _ _ _ h]; rfl
  refine ⟨rfl, fun i hi => ?_, fun i hi => ?_, fun i hi => ?_, ?_, ?_⟩
  · unfold Cs.pD; rw [hr _ _ (by omega)]
    exact of_decide_eq_true (List.all_eq_true.1 allP i (List.mem_range.2 hi))
  · unfold Cs.fD; rw [hr _ _ (by omega)]
    exact of_decide_eq_true (List.all_eq_true.1 allF i (List.mem_range.2 hi))
  · have hi4 : i < 4 := hi
    unfold Cs.qD; rw [if_pos hi4, hr _ _ (by omega)]
    exact of_decide_eq_true (List.all_eq_true.1 allQ i (List.mem_range.2 hi4))
  · unfold Cs.tD; rw [hr _ _ (by omega)]; exact of_decide_eq_true allT
  · unfold Cs.gD; rw [hr _ _ (by omega)]; exact of_decide_eq_true allG
theorem pD0 (κ : KS) (e : Nat) (ua : Option Addr) (uc mp : Nat) : (c0 κ (X4 (List.replicate 1280 0)) e ua uc mp).pD 0 = (p0, 1) := by
  unfold Cs.pD
  rw [show (c0 κ (X4 (List.replicate 1280 0)) e ua uc mp).rc 0 (24 * 0) 24 = win W0 (24 * 0) 24 by rw [← win_x4, ← win_in _ _ _ (by omega)]; rfl]
  exact theP
end Go.Proofs.YtlpmfldijgdcoaaGreatDoor.Wo

/-
  A world of one session is made.
-/
namespace Go.Proofs.YtlpmfldijgdcoaaGreatDoor.Wo
open Go Go.Proofs Go.Proofs.YtlpmfldijgdcoaaGreatDoor.Fx Go.Proofs.YtlpmfldijgdcoaaGreatDoor.Kn Go.Proofs.YtlpmfldijgdcoaaGreatDoor.Ke Go.Proofs.YtlpmfldijgdcoaaGreatDoor.Cm Go.Proofs.YtlpmfldijgdcoaaGreatDoor.Ho Go.Proofs.YtlpmfldijgdcoaaGreatDoor.TabC
set_option maxRecDepth 100000
set_option linter.unusedVariables false
set_option linter.unusedSimpArgs false
set_option maxHeartbeats 8000000

theorem hp_fresh {w0 w w' : World} {L : List (Nat × Obj)} (Hw : Hp w0 [] w) (H : Hp w L w') (hL : ∀ p ∈ L, w0.heap.size ≤ p.1) : Hp w0 [] w' := by
  refine ⟨H.os.trans Hw.os, H.tape.trans Hw.tape, H.output.trans Hw.output, Nat.le_trans Hw.size H.size, fun k hk _ => ?_, (fun _ h => nomatch h), List.nodup_nil⟩
  rw [H.old k (Nat.lt_of_lt_of_le hk Hw.size) (fun hm => by
    obtain ⟨p, hp, e⟩ := List.mem_map.1 hm
    have := hL p hp; omega)]
  exact Hw.old k hk (by simp)
theorem own0 {B b e sz : Nat} (hb : B ≤ b) : OwnS B e sz (sl b 0 0 0) 0 [] [(b, blk [] e)] := OwnS.new (sp := []) hb (by simp) (by simp) (Nat.le_refl _)
theorem permA {α : Type} (b d : α) (A N R : List α) : (A ++ b :: d :: (N ++ R)).Perm (b :: d :: (N ++ (A ++ R))) :=
  List.perm_middle.trans (.cons _ (List.perm_middle.trans (.cons _ (List.perm_append_comm_assoc _ _ _))))
theorem Ks_with {w : World} {κ : KS} {X : List UInt8} {e n sp : Nat} (h : Ks w κ e n sp) : Ks w { κ with xs := X } e n sp := ⟨h.hk, h.ex, h.he, h.he2⟩

/-- a host, and its commons -/
structure HF (κ : KS) (h c mp uc : Nat) (ua : Option Addr) (w : World) : Prop where
  h : w.heap[h]? = some (blk [ptr κ.k 0, I 0, I 0, I 0, ptr c 0, I 0, I 0, I 0, I 0, I 0, nilS] 139)
  c : w.heap[c]? = some (blk [ptr κ.k 0, I 0, .slice ua 1 uc, .map (some mp)] 177)
  m : w.heap[mp]? = some (.map #[] 0)
  u : RdT 3 w (.slice ua 1 uc) ([256].map I)
/-- what one sees of a world of one session -/
structure Wd (w : World) (C : Cs) (wd h c sp : Nat) : Prop where
  wb : ∃ bb bbc ba bc ha hc la lc l, w.heap[wd]? = some (blk [.slice bb 1 bbc, .slice ba 0 bc, I 3, ptr C.κ.k 0, .slice ha 1 hc] 81) ∧ RdT 83 w (.slice ha 1 hc) [.slice la 8 lc] ∧ RdT 84 w (.slice la 8 lc) l ∧ l[0]? = some (ptr h 0)
  cm : CmI w c C
  ks : Ks w C.κ 0 0 sp

section
variable {w : World} {pa : Option Addr} {pc : Nat}
theorem wnew_ret (hp : P1 w pa pc) : Ret Tryz.prog 13 #[.agg #[.slice pa 1 pc, nilS, I 3]] w fun v w' => ∃ κ ua uc mp wd h c sp, v = .tuple #[ptr wd 0, I 0] ∧ Wd w' (c0 κ (X4 (List.replicate 1280 0)) 0 ua uc mp) wd h c sp ∧ κ.now = 0 ∧
    w'.heap[h]? = some (blk [ptr κ.k 0, I 0, I 0, I 0, ptr c 0, I 0, I 0, I 0, I 0, I 0, nilS] 139) ∧ w'.heap[sp]? = some (blk (Sect.sxC (Sect.newSx 3) nilS) 170) ∧ w.heap.size ≤ h ∧ w.heap.size ≤ sp ∧ w.heap.size ≤ κ.mb ∧ Hp w [] w' := by
  refine Ret_of_W (args := [_]) Tryz.func13 rfl Tryz.ntmps13 Tryz.results13 (by simp) ?_
  have H := Hp.refl w
  refine W_seq ?_
  refine W_region_l ?_
  (refine WL_effn rfl (E_box (vs := [.slice pa 1 pc, nilS, I 3]) H rfl rfl) ?_; clear H; intro c1 w3 hc1 H)
  refine WL_stepM rfl (R_as) ?_
  refine WL_stepM rfl (R_as) ?_
  refine WL_nil ?_
  refine W_seq ?_
  refine W_seq ?_
  refine W_region_l ?_
  refine WL_step rfl (R_loadA (vs := [.slice pa 1 pc, nilS, I 3]) Tryz.isAgg27 Tryz.sizeOf27 rfl (H.get .here) rfl (by simp)) ?_
  (refine WL_call rfl (R_call rfl Tryz.call23 rfl) (Top.check_ret (hp.keepN H kYs).plan) ?_; rintro _ w11 ⟨rfl, H1⟩; replace H := H.seq0 H1; clear H1)
  refine WL_stepM rfl (R_as) ?_
  refine WL_nil ?_
  refine W_seq ?_
  refine W_region_l ?_
  refine WL_stepM rfl (R_mv) ?_
  refine WL_step rfl (R_ne_f rfl rfl (by omega)) ?_
  refine WL_nil ?_
  refine W_cond_f rfl ?_
  refine W_skip ?_
  refine W_seq ?_
  refine W_region_l ?_
  refine WL_step rfl (R_loadA (vs := [.slice pa 1 pc, nilS, I 3]) Tryz.isAgg27 Tryz.sizeOf27 rfl (H.get .here) rfl (by simp)) ?_
  (refine WL_call rfl (R_call rfl Tryz.call25 rfl) (boot_ret (hp.keepN H kYs)) ?_; rintro _ w24 ⟨B, rfl, hB, H1⟩; replace H := H.seq0 H1; clear H1)
  (refine WL_call rfl (R_call rfl Tryz.call24 rfl) (knew_ret hB) ?_; rintro _ w9 ⟨κ, sp, rfl, hKw, hsp, hmb, H1⟩; replace hsp := Nat.le_trans H.size hsp; replace hmb := Nat.le_trans H.size hmb; replace H := H.seq0 H1; clear H1; have hc1b := H.get .here; have hp9 := hp.keepN H (kCons hc1 kNil); have Hw := H.none (kCons hc1 kNil); clear H; have H := Hp.refl w9)
  refine WL_stepM rfl (R_mv) ?_
  refine WL_step rfl (R_extract rfl rfl) ?_
  refine WL_step rfl (R_extract rfl rfl) ?_
  refine WL_stepM rfl (R_as) ?_
  refine WL_stepM rfl (R_as) ?_
  refine WL_nil ?_
  refine W_seq ?_
  refine W_seq ?_
  refine W_region_l ?_
  refine WL_stepM rfl (R_mv) ?_
  refine WL_step rfl (R_ne_f rfl rfl (by omega)) ?_
  refine WL_nil ?_
  refine W_cond_f rfl ?_
  refine W_skip ?_
  refine W_seqS [(7, 7), (27, 40)] (fun E w' => ∃ wd bb bbc ba bc R, E 7 = ptr wd 0 ∧ w9.heap.size ≤ wd ∧ (∀ p ∈ R, w9.heap.size ≤ p.1) ∧ Hp w9 ((wd, blk [.slice bb 1 bbc, .slice ba 0 bc, I 3, ptr κ.k 0, nilS] 81) :: R) w') ?c7 ?k7
  · (refine W_draw (KH w9 []) (fun _ => false) (by kernel_rfl) H ?_; clear H; intro w41 H)
    refine WA_takeM 0 rfl rfl rfl (by kernel_rfl) (by kernel_rfl) (H.kh (by simp) kYs) (fun _ hC => R_mv) ?_
    refine WA_take 2 rfl rfl rfl (by kernel_rfl) (by kernel_rfl) (H.kh (by simp) kYs) (fun _ hC => R_fieldAddr (off' := 0) Tryz.underlying27 rfl Tryz.sizeOf24 (by decide) rfl rfl) ?_
    refine WA_take 3 rfl rfl rfl (by kernel_rfl) (by kernel_rfl) (H.kh (by simp) kYs) (fun _ hC => R_load (v := .slice pa 1 pc) Tryz.isAgg24 rfl (hC.blockN hc1b kYs) rfl) ?_
    refine WA_take 6 rfl rfl rfl (by kernel_rfl) (by kernel_rfl) (H.kh (by simp) kYs) (fun _ hC => R_fieldAddr (off' := 1) Tryz.underlying27 rfl Tryz.sizeOf25 (by decide) rfl rfl) ?_
    refine WA_take 7 rfl rfl rfl (by kernel_rfl) (by kernel_rfl) (H.kh (by simp) kYs) (fun _ hC => R_load (v := nilS) Tryz.isAgg25 rfl (hC.blockN hc1b kYs) rfl) ?_
    refine WA_take 9 rfl rfl rfl (by kernel_rfl) (by kernel_rfl) (H.kh (by simp) kYs) (fun _ hC => R_fieldAddr (off' := 2) Tryz.underlying27 rfl Tryz.sizeOf3 (by decide) rfl rfl) ?_
    refine WA_take 10 rfl rfl rfl (by kernel_rfl) (by kernel_rfl) (H.kh (by simp) kYs) (fun _ hC => R_load (v := I 3) Tryz.isAgg3 rfl (hC.blockN hc1b kYs) rfl) ?_
    refine WA_two (i := 1) (j := 5) (by kernel_rfl) ?_ ?_
    · (refine WI_effnA rfl (.inl rfl) (E_buildOnes (vs := []) H Tryz.underlying24 Tryz.sizeOf4 Tryz.zeroValue4 rfl rfl (by decide) rfl rfl (by simp)) (fun _ _ _ H _ => H.kh (by simp) kYs) ?_; clear H; intro b28 w50 hb28 H)
      refine WA_two (i := 4) (j := 5) (by kernel_rfl) ?_ ?_
      · (refine WI_effmA rfl (.inl rfl) (E_append (news := [.bool true]) (m := 1) H (AtM.here (M := [(b28, blk [] 4)]) (B := _)) (own0 (e := 4) (sz := 1) hb28) Tryz.underlying24 Tryz.typeInfo4 rfl rfl rfl rfl rfl rfl ((hp9.bad.monoN H kYs).src Tryz.underlying24 (by simp [Top.Bo, Value.oneCell'])) (by decide) (by simp only [Tryz.t4]; decide)) (fun _ _ _ hO H _ => H.kh (by simp) (by have hk9 := hO.keys; (repeat' first | exact kNil | apply kCons | apply kApp | assumption))) ?_; clear H; intro vB MB w52 hOB H; obtain ⟨bb, bbc, rfl⟩ := hOB.form; have hMB := hOB.keys)
        refine WA_one (i := 5) (by kernel_rfl) ?_
        (refine WI_effnA rfl (.inl rfl) (E_buildRows (vss := []) H Tryz.underlying25 Tryz.sizeOf64 Tryz.zeroValue64 rfl rfl (by decide) rfl rfl (by simp)) (fun _ _ _ H _ => H.kh (by simp) kYs) ?_; clear H; intro b32 w54 hb32 H)
        refine WA_one (i := 8) (by kernel_rfl) ?_
        (refine WI_effmA rfl (.inl rfl) (E_append (news := []) (m := 0) H (AtM.here (M := [(b32, blk [] 64)]) (B := _)) (own0 (e := 64) (sz := 2) hb32) Tryz.underlying25 Tryz.typeInfo64 rfl rfl rfl rfl rfl rfl ((RdR.nil (f := Top.brC)).src Top.brC_len Tryz.underlying25 (by simp [rows])) (by decide) (by simp only [Tryz.t64]; decide)) (fun _ _ _ hO H _ => H.kh (by simp) (by have hk9 := hO.keys; (repeat' first | exact kNil | apply kCons | apply kApp | assumption))) ?_; clear H; intro vG MG w56 hOG H; obtain ⟨ba, bc, rfl⟩ := hOG.form; have hMG := hOG.keys)
        refine WA_take 11 rfl rfl rfl (by kernel_rfl) (by kernel_rfl) (H.kh (by simp) kYs) (fun _ hC => R_buildL (places := [(0, 1), (1, 1), (2, 1)]) (vs := [.slice bb 1 bbc, .slice ba 0 bc, I 3]) Tryz.underlying27 Tryz.typeInfo27 rfl rfl (by kernel_rfl) rfl rfl rfl) ?_
        refine WA_take 12 rfl rfl rfl (by kernel_rfl) (by kernel_rfl) (H.kh (by simp) kYs) (fun _ hC => R_buildL (places := [(0, 3), (3, 1), (4, 1)]) (vs := [.slice bb 1 bbc, .slice ba 0 bc, I 3, ptr κ.k 0, nilS]) Tryz.underlying81 Tryz.typeInfo81 rfl rfl (by kernel_rfl) rfl rfl rfl) ?_
        refine WA_one (i := 13) (by kernel_rfl) ?_
        (refine WI_effnA rfl (.inl rfl) (E_box (vs := [.slice bb 1 bbc, .slice ba 0 bc, I 3, ptr κ.k 0, nilS]) H rfl rfl) (fun _ _ _ H _ => H.kh (by simp) kYs) ?_; clear H; intro wd w60 hwd H)
        refine WA_takeM 14 rfl rfl rfl (by kernel_rfl) (by kernel_rfl) (H.kh (by simp) kYs) (fun _ hC => R_as) ?_
        refine WA_done (by kernel_rfl) ?_
        exact ⟨(same_mov rfl (same_updo rfl (same_updo rfl (same_updo rfl (same_updo rfl (same_updo rfl (same_updo rfl (same_updo rfl (same_updo rfl (same_updo rfl (same_updo rfl (same_updo rfl (same_updo rfl (same_updo rfl (same_mov rfl Same.refl))))))))))))))), wd, bb, bbc, ba, bc, _, rfl, hwd, kYs, H⟩
      · (refine WI_effnA rfl (.inl rfl) (E_buildRows (vss := []) H Tryz.underlying25 Tryz.sizeOf64 Tryz.zeroValue64 rfl rfl (by decide) rfl rfl (by simp)) (fun _ _ _ H _ => H.kh (by simp) kYs) ?_; clear H; intro b32 w64 hb32 H)
        refine WA_one (i := 4) (by kernel_rfl) ?_
        (refine WI_effmA rfl (.inl rfl) (E_append (news := [.bool true]) (m := 1) H (AtM.there (AtM.here (M := [(b28, blk [] 4)]) (B := _))) (own0 (e := 4) (sz := 1) hb28) Tryz.underlying24 Tryz.typeInfo4 rfl rfl rfl rfl rfl rfl ((hp9.bad.monoN H kYs).src Tryz.underlying24 (by simp [Top.Bo, Value.oneCell'])) (by decide) (by simp only [Tryz.t4]; decide)) (fun _ _ _ hO H _ => H.kh (by simp) (by have hk9 := hO.keys; (repeat' first | exact kNil | apply kCons | apply kApp | assumption))) ?_; clear H; intro vB MB w66 hOB H; obtain ⟨bb, bbc, rfl⟩ := hOB.form; have hMB := hOB.keys)
        refine WA_one (i := 8) (by kernel_rfl) ?_
        (refine WI_effmA rfl (.inl rfl) (E_append (news := []) (m := 0) H (AtM.here (M := [(b32, blk [] 64)]) (B := _)) (own0 (e := 64) (sz := 2) hb32) Tryz.underlying25 Tryz.typeInfo64 rfl rfl rfl rfl rfl rfl ((RdR.nil (f := Top.brC)).src Top.brC_len Tryz.underlying25 (by simp [rows])) (by decide) (by simp only [Tryz.t64]; decide)) (fun _ _ _ hO H _ => H.kh (by simp) (by have hk9 := hO.keys; (repeat' first | exact kNil | apply kCons | apply kApp | assumption))) ?_; clear H; intro vG MG w68 hOG H; obtain ⟨ba, bc, rfl⟩ := hOG.form; have hMG := hOG.keys)
        refine WA_take 11 rfl rfl rfl (by kernel_rfl) (by kernel_rfl) (H.kh (by simp) kYs) (fun _ hC => R_buildL (places := [(0, 1), (1, 1), (2, 1)]) (vs := [.slice bb 1 bbc, .slice ba 0 bc, I 3]) Tryz.underlying27 Tryz.typeInfo27 rfl rfl (by kernel_rfl) rfl rfl rfl) ?_
        refine WA_take 12 rfl rfl rfl (by kernel_rfl) (by kernel_rfl) (H.kh (by simp) kYs) (fun _ hC => R_buildL (places := [(0, 3), (3, 1), (4, 1)]) (vs := [.slice bb 1 bbc, .slice ba 0 bc, I 3, ptr κ.k 0, nilS]) Tryz.underlying81 Tryz.typeInfo81 rfl rfl (by kernel_rfl) rfl rfl rfl) ?_
        refine WA_one (i := 13) (by kernel_rfl) ?_
        (refine WI_effnA rfl (.inl rfl) (E_box (vs := [.slice bb 1 bbc, .slice ba 0 bc, I 3, ptr κ.k 0, nilS]) H rfl rfl) (fun _ _ _ H _ => H.kh (by simp) kYs) ?_; clear H; intro wd w72 hwd H)
        refine WA_takeM 14 rfl rfl rfl (by kernel_rfl) (by kernel_rfl) (H.kh (by simp) kYs) (fun _ hC => R_as) ?_
        refine WA_done (by kernel_rfl) ?_
        exact ⟨(same_mov rfl (same_updo rfl (same_updo rfl (same_updo rfl (same_updo rfl (same_updo rfl (same_updo rfl (same_updo rfl (same_updo rfl (same_updo rfl (same_updo rfl (same_updo rfl (same_updo rfl (same_updo rfl (same_mov rfl Same.refl))))))))))))))), wd, bb, bbc, ba, bc, _, rfl, hwd, kYs, H⟩
    · (refine WI_effnA rfl (.inl rfl) (E_buildRows (vss := []) H Tryz.underlying25 Tryz.sizeOf64 Tryz.zeroValue64 rfl rfl (by decide) rfl rfl (by simp)) (fun _ _ _ H _ => H.kh (by simp) kYs) ?_; clear H; intro b32 w76 hb32 H)
      refine WA_one (i := 1) (by kernel_rfl) ?_
      (refine WI_effnA rfl (.inl rfl) (E_buildOnes (vs := []) H Tryz.underlying24 Tryz.sizeOf4 Tryz.zeroValue4 rfl rfl (by decide) rfl rfl (by simp)) (fun _ _ _ H _ => H.kh (by simp) kYs) ?_; clear H; intro b28 w78 hb28 H)
      refine WA_one (i := 4) (by kernel_rfl) ?_
      (refine WI_effmA rfl (.inl rfl) (E_append (news := [.bool true]) (m := 1) H (AtM.here (M := [(b28, blk [] 4)]) (B := _)) (own0 (e := 4) (sz := 1) hb28) Tryz.underlying24 Tryz.typeInfo4 rfl rfl rfl rfl rfl rfl ((hp9.bad.monoN H kYs).src Tryz.underlying24 (by simp [Top.Bo, Value.oneCell'])) (by decide) (by simp only [Tryz.t4]; decide)) (fun _ _ _ hO H _ => H.kh (by simp) (by have hk9 := hO.keys; (repeat' first | exact kNil | apply kCons | apply kApp | assumption))) ?_; clear H; intro vB MB w80 hOB H; obtain ⟨bb, bbc, rfl⟩ := hOB.form; have hMB := hOB.keys)
      refine WA_one (i := 8) (by kernel_rfl) ?_
      (refine WI_effmA rfl (.inl rfl) (E_append (news := []) (m := 0) H (AtM.app MB (AtM.here (M := [(b32, blk [] 64)]) (B := _))) (own0 (e := 64) (sz := 2) hb32) Tryz.underlying25 Tryz.typeInfo64 rfl rfl rfl rfl rfl rfl ((RdR.nil (f := Top.brC)).src Top.brC_len Tryz.underlying25 (by simp [rows])) (by decide) (by simp only [Tryz.t64]; decide)) (fun _ _ _ hO H _ => H.kh (by simp) (by have hk9 := hO.keys; (repeat' first | exact kNil | apply kCons | apply kApp | assumption))) ?_; clear H; intro vG MG w82 hOG H; obtain ⟨ba, bc, rfl⟩ := hOG.form; have hMG := hOG.keys)
      refine WA_take 11 rfl rfl rfl (by kernel_rfl) (by kernel_rfl) (H.kh (by simp) kYs) (fun _ hC => R_buildL (places := [(0, 1), (1, 1), (2, 1)]) (vs := [.slice bb 1 bbc, .slice ba 0 bc, I 3]) Tryz.underlying27 Tryz.typeInfo27 rfl rfl (by kernel_rfl) rfl rfl rfl) ?_
      refine WA_take 12 rfl rfl rfl (by kernel_rfl) (by kernel_rfl) (H.kh (by simp) kYs) (fun _ hC => R_buildL (places := [(0, 3), (3, 1), (4, 1)]) (vs := [.slice bb 1 bbc, .slice ba 0 bc, I 3, ptr κ.k 0, nilS]) Tryz.underlying81 Tryz.typeInfo81 rfl rfl (by kernel_rfl) rfl rfl rfl) ?_
      refine WA_one (i := 13) (by kernel_rfl) ?_
      (refine WI_effnA rfl (.inl rfl) (E_box (vs := [.slice bb 1 bbc, .slice ba 0 bc, I 3, ptr κ.k 0, nilS]) H rfl rfl) (fun _ _ _ H _ => H.kh (by simp) kYs) ?_; clear H; intro wd w86 hwd H)
      refine WA_takeM 14 rfl rfl rfl (by kernel_rfl) (by kernel_rfl) (H.kh (by simp) kYs) (fun _ hC => R_as) ?_
      refine WA_done (by kernel_rfl) ?_
      exact ⟨(same_mov rfl (same_updo rfl (same_updo rfl (same_updo rfl (same_updo rfl (same_updo rfl (same_updo rfl (same_updo rfl (same_updo rfl (same_updo rfl (same_updo rfl (same_updo rfl (same_updo rfl (same_updo rfl (same_mov rfl Same.refl))))))))))))))), wd, bb, bbc, ba, bc, _, rfl, hwd, kYs, H⟩
  · (clear H; rintro E9 w10 ⟨wd, bb, bbc, ba, bc, R, h7, hwd, hR, H⟩; refine W_kn h7 ?_; have hlt3 := lt_of_some hKw.kr.hb; obtain ⟨q0', hq0, ht0⟩ := hKw.tb 0 (by decide); have hxl : κ.xs.length = 1280 := (by rw [hKw.xs]; simp))
    refine W_seq ?_
    refine W_seq ?_
    refine W_region_l ?_
    refine WL_step rfl (R_fieldAddr (off' := 0) Tryz.underlying27 rfl Tryz.sizeOf24 (by decide) rfl rfl) ?_
    refine WL_step rfl (R_load (v := .slice pa 1 pc) Tryz.isAgg24 rfl (H.blockN hc1b (kCons hwd hR)) rfl) ?_
    refine WL_step rfl (R_len_slice Tryz.underlying24 rfl) ?_
    refine WL_stepM rfl (R_mv) ?_
    refine WL_nil ?_
    refine W_block ?_
    refine W_rounds 1 ?_
    refine W_seq ?_
    refine W_region_l ?_
    refine WL_step rfl (R_lt_t rfl rfl (by omega)) ?_
    refine WL_nil ?_
    refine W_seq ?_
    refine W_cond_t rfl ?_
    refine W_skip ?_
    refine W_seq ?_
    refine W_block ?_
    refine W_seq ?_
    refine W_region_l ?_
    refine WL_stepM rfl (R_mv) ?_
    refine WL_stepM rfl (R_as) ?_
    refine WL_nil ?_
    refine W_seq ?_
    refine W_region_l ?_
    refine WL_stepM rfl (R_mv) ?_
    refine WL_stepM rfl (R_mv) ?_
    (refine WL_call rfl (R_call rfl Tryz.call26 rfl) (begin_ret (H.get .here) (hKw.kr.keepN H (kCons hwd hR)) hKw.n (hKw.wn 0 (by decide)) hq0 ht0) ?_; rintro _ w119 ⟨rfl, H1⟩; have H9 : Hp w9 ((κ.mb, blk ((X4 κ.xs).map U) 5) :: (wd, blk [.slice bb 1 bbc, .slice ba 0 bc, I 3, ptr κ.k 0, nilS] 81) :: R) w119 := hp_olds H (kCons hwd hR) H1 (by intro p hp; rw [List.mem_singleton] at hp; subst hp; exact .inl hlt3); clear H H1; have H := H9; clear H9)
    refine WL_nil ?_
    refine W_seq ?_
    refine W_region_l ?_
    refine WL_stepM rfl (R_as) ?_
    refine WL_nil ?_
    refine W_seq ?_
    refine W_seq ?_
    refine W_region_l ?_
    refine WL_stepM rfl (R_mv) ?_
    refine WL_nil ?_
    refine W_block ?_
    refine W_loopS [(9, 12), (50, 68)] (fun (i : Nat) E w' => i ≤ 8 ∧ E 50 = I i ∧ ∃ lv l M R2 h c mp uc ua, E 9 = lv ∧ l.length = i ∧ OwnS w9.heap.size 84 1 lv i l M ∧ (∀ p ∈ R2, w9.heap.size ≤ p.1) ∧ (0 < i → l[0]? = some (ptr h 0) ∧ w9.heap.size ≤ h ∧ ∀ w2, Kp R2 w2 → HF κ h c mp uc ua w2) ∧ (∀ u ∈ l, u.oneCell' = true) ∧ Hp w9 ((κ.mb, blk ((X4 κ.xs).map U) 5) :: (wd, blk [.slice bb 1 bbc, .slice ba 0 bc, I 3, ptr κ.k 0, nilS] 81) :: (M ++ R2)) w') (fun i => 8 - i) 0 ?e2 ?r2
    · exact ⟨by omega, rfl, nilS, [], [], R, 0, 0, 0, 0, none, rfl, rfl, OwnS.nil _ _ _, hR, (fun h => absurd h (by decide)), (fun _ h => nomatch h), H⟩
    · (clear H; rintro i E w1 ⟨hi, h50, lv, l, M, R2, h, c, mp, uc, ua, hlv, hll, hO, hR2, hF, hone, H⟩; obtain ⟨la, lc, rfl⟩ := hO.form; refine W_kn2 h50 hlv ?_; have hM := hO.keys)
      refine W_seq ?_
      refine W_region_l ?_
      refine WL_step rfl (R_lt rfl rfl) ?_
      refine WL_nil ?_
      refine W_seq ?_
      refine W_if rfl (fun h138 => ?_) (fun h138 => ?_)
      · refine W_skip ?_
        refine W_seq ?_
        refine W_block ?_
        refine W_seq ?_
        refine W_region_l ?_
        refine WL_stepM rfl (R_mv) ?_
        refine WL_stepM rfl (R_as) ?_
        refine WL_nil ?_
        refine W_seq ?_
        refine W_region_l ?_
        refine WL_stepM rfl (R_mv) ?_
        refine WL_stepM rfl (R_mv) ?_
        refine WL_step rfl (R_mul (r := 0) rfl rfl (by decide)) ?_
        refine WL_stepM rfl (R_mv) ?_
        refine WL_step rfl (R_add (r := (i : Int)) rfl rfl (by rw [w_i64 (by omega)]; omega)) ?_
        refine WL_stepM rfl (R_mv) ?_
        refine WL_stepM rfl (R_mv) ?_
        (have hKO : Out kT w9 ((κ.mb, blk ((X4 κ.xs).map U) 5) :: (wd, blk [.slice bb 1 bbc, .slice ba 0 bc, I 3, ptr κ.k 0, nilS] 81) :: (M ++ R2)) := Out.cons hKw.kr.hb (by simp [kT, elT]) (Out.new hwd (Out.ofN (kApp hM hR2))); have hSO : Out sT w9 ((κ.mb, blk ((X4 κ.xs).map U) 5) :: (wd, blk [.slice bb 1 bbc, .slice ba 0 bc, I 3, ptr κ.k 0, nilS] 81) :: (M ++ R2)) := Out.cons hKw.kr.hb (by simp [sT, elT]) (Out.new hwd (Out.ofN (kApp hM hR2))); obtain ⟨q', hq', ht'⟩ := hKw.tb i (by omega); refine WL_call rfl (R_call rfl Tryz.call27 rfl) (hnew_ret (κ := { κ with xs := X4 κ.xs }) (e := i) (n := 0) (sl := i) (nms := [256]) (Ks_with ((hKw.ks i (by omega)).keep H hSO)) (hKw.kr.keep H hKO (H.get .here) (by rw [x4_len hxl, hKw.n])) hq' ht' (by kernel_rfl) (by simp) (by omega)) ?_; rintro _ w156 ⟨h', c', u', mp', M', rfl, hh', hc', hmp', hO', H1⟩; obtain ⟨ua', uc', rfl⟩ := hO'.form; have hRd' : ∀ w2, Kp M' w2 → RdT 3 w2 (.slice ua' 1 uc') ([256].map I) := (fun w2 h => RdT.own hO' h); have hM' : ∀ p ∈ M', w9.heap.size ≤ p.1 := (fun p hp => Nat.le_trans H.size (hO'.keys p hp)); have hA : ∀ p ∈ (h', blk [ptr κ.k 0, I i, I i, I 0, ptr c' 0, I 0, I 0, I 0, I 0, I 0, nilS] 139) :: (c', blk [ptr κ.k 0, I i, .slice ua' 1 uc', .map (some mp')] 177) :: (mp', .map #[] 0) :: M', w9.heap.size ≤ p.1 := kCons (Nat.le_trans H.size hh') (kCons (Nat.le_trans H.size hc') (kCons (Nat.le_trans H.size hmp') hM')); have H9 : Hp w9 (((h', blk [ptr κ.k 0, I i, I i, I 0, ptr c' 0, I 0, I 0, I 0, I 0, I 0, nilS] 139) :: (c', blk [ptr κ.k 0, I i, .slice ua' 1 uc', .map (some mp')] 177) :: (mp', .map #[] 0) :: M') ++ ((κ.mb, blk ((X4 κ.xs).map U) 5) :: (wd, blk [.slice bb 1 bbc, .slice ba 0 bc, I 3, ptr κ.k 0, nilS] 81) :: (M ++ R2))) w156 := H.seqN H1 (kCons hh' (kCons hc' (kCons hmp' hO'.keys))); clear H H1; have H := H9.perm (permA _ _ _ _ _); clear H9 hO')
        refine WL_stepM rfl (R_mv) ?_
        refine WL_step rfl (R_extract rfl rfl) ?_
        refine WL_step rfl (R_extract rfl rfl) ?_
        refine WL_stepM rfl (R_as) ?_
        refine WL_stepM rfl (R_as) ?_
        refine WL_nil ?_
        refine W_region_l ?_
        refine WL_stepM rfl (R_mv) ?_
        refine WL_stepM rfl (R_mv) ?_
        (refine WL_effn rfl (E_buildOnes (vs := [ptr h' 0]) H Tryz.underlying83 Tryz.sizeOf84 Tryz.zeroValue84 rfl rfl (by decide) rfl rfl (by simp [Value.oneCell'])) ?_; clear H; intro b66 w166 hb66 H)
        (refine WL_effm rfl (E_append (news := [ptr h' 0]) (m := 1) H (.there (.there (.there .here))) hO Tryz.underlying83 Tryz.typeInfo84 rfl rfl rfl rfl rfl rfl (src_one Tryz.underlying83 (H.get .here) rfl) (by omega) (by simp only [Tryz.t84]; omega)) ?_; clear H hO; intro v5 M5 w167 hO H; obtain ⟨la5, lc5, rfl⟩ := hO.form; replace H := H.pop hb66)
        refine WL_stepM rfl (R_as) ?_
        refine WL_nil ?_
        refine W_region_l ?_
        refine WL_step rfl (R_add rfl rfl (w_i64 (by omega))) ?_
        refine WL_stepM rfl (R_mv) ?_
        refine WL_nil ?_
        (have hone2 : ∀ u ∈ l ++ [ptr h' 0], u.oneCell' = true := (fun u hu => by rcases List.mem_append.1 hu with hu | hu; exact hone u hu; rw [List.mem_singleton] at hu; subst hu; rfl); rcases Nat.eq_zero_or_pos i with h0 | h0; (exact ⟨(same_mov rfl (same_updo rfl (same_mov rfl (same_updo rfl (same_updo rfl (same_mov rfl (same_mov rfl (same_mov rfl (same_mov rfl (same_updo rfl (same_updo rfl (same_mov rfl (same_updo rfl (same_mov rfl (same_mov rfl (same_updo rfl (same_mov rfl (same_updo rfl (same_mov rfl (same_mov rfl (same_mov rfl (same_mov rfl (same_know rfl (same_updo rfl same_ovr)))))))))))))))))))))))), i + 1, by omega, by omega, rfl, _, l ++ [ptr h' 0], M5, ((h', blk [ptr κ.k 0, I i, I i, I 0, ptr c' 0, I 0, I 0, I 0, I 0, I 0, nilS] 139) :: (c', blk [ptr κ.k 0, I i, .slice ua' 1 uc', .map (some mp')] 177) :: (mp', .map #[] 0) :: M') ++ R2, h', c', mp', uc', ua', rfl, (by simp [hll]), hO, kApp hA hR2, (fun _ => ⟨(by rw [List.length_eq_zero_iff.1 (hll.trans h0)]; rfl), Nat.le_trans (Nat.le_refl _) (hA _ (.head _)), (fun w2 hw2 => (by subst h0; exact ⟨hw2 (h', _) (by simp), hw2 (c', _) (by simp), hw2 (mp', _) (by simp), hRd' w2 (fun p hp => hw2 p (by simp [hp]))⟩))⟩), hone2, H⟩); (exact ⟨(same_mov rfl (same_updo rfl (same_mov rfl (same_updo rfl (same_updo rfl (same_mov rfl (same_mov rfl (same_mov rfl (same_mov rfl (same_updo rfl (same_updo rfl (same_mov rfl (same_updo rfl (same_mov rfl (same_mov rfl (same_updo rfl (same_mov rfl (same_updo rfl (same_mov rfl (same_mov rfl (same_mov rfl (same_mov rfl (same_know rfl (same_updo rfl same_ovr)))))))))))))))))))))))), i + 1, by omega, by omega, rfl, _, l ++ [ptr h' 0], M5, ((h', blk [ptr κ.k 0, I i, I i, I 0, ptr c' 0, I 0, I 0, I 0, I 0, I 0, nilS] 139) :: (c', blk [ptr κ.k 0, I i, .slice ua' 1 uc', .map (some mp')] 177) :: (mp', .map #[] 0) :: M') ++ R2, h, c, mp, uc, ua, rfl, (by simp [hll]), hO, kApp hA hR2, (fun _ => ⟨(by rw [List.getElem?_append_left (by omega)]; exact (hF h0).1), (hF h0).2.1, (fun w2 hw2 => (hF h0).2.2 w2 (fun p hp => hw2 p (by simp [hp])))⟩), hone2, H⟩))
      · refine W_exit ?_
        refine (if_pos rfl).mpr ?_
        ((obtain rfl : i = 8 := (by omega); obtain ⟨hl0, hh0, hHF⟩ := hF (by decide))) <;> refine W_region_l ?_
        refine WL_stepM rfl (R_mv) ?_
        refine WL_stepM rfl (R_mv) ?_
        refine WL_step rfl (R_nilCheck rfl) ?_
        refine WL_step rfl (R_fieldAddr (off' := 4) Tryz.underlying81 rfl Tryz.sizeOf79 (by decide) rfl rfl) ?_
        refine WL_step rfl (R_load Tryz.isAgg79 rfl (H.get (.there .here)) rfl) ?_
        refine WL_stepM rfl (R_mv) ?_
        (refine WL_effn rfl (E_buildOnes (vs := [.slice la 8 lc]) H Tryz.underlying79 Tryz.sizeOf83 Tryz.zeroValue83 rfl rfl (by decide) rfl rfl (by simp [Value.oneCell'])) ?_; clear H; intro b75 w184 hb75 H)
        (refine WL_effm rfl (E_append (news := [.slice la 8 lc]) (m := 1) H (AtM.here (M := []) (B := _)) (OwnS.nil _ _ _) Tryz.underlying79 Tryz.typeInfo83 rfl rfl rfl rfl rfl rfl (src_one Tryz.underlying79 (H.get .here) rfl) (by decide) (by simp only [Tryz.t83]; decide)) ?_; clear H; intro hv HS w185 hOH H; obtain ⟨ha, hc, rfl⟩ := hOH.form; have hHS := hOH.keys; replace H := (H.perm (perm4 _ _ _ _ _)).pop hb75)
        refine WL_step rfl (R_nilCheck rfl) ?_
        refine WL_step rfl (R_fieldAddr (off' := 4) Tryz.underlying81 rfl Tryz.sizeOf79 (by decide) rfl rfl) ?_
        (refine WL_effu rfl (E_store (v := .slice ha 1 hc) H Tryz.sizeOf79 rfl rfl rfl (.there .here) (by simp)) ?_; clear H; intro w188 H; replace H : Hp w9 ((κ.mb, blk ((X4 κ.xs).map U) 5) :: (wd, blk [.slice bb 1 bbc, .slice ba 0 bc, I 3, ptr κ.k 0, .slice ha 1 hc] 81) :: (HS ++ (M ++ R2))) w188 := H)
        refine WL_nil ?_
        refine W_region_l ?_
        refine WL_step rfl (R_add (r := 1) rfl rfl (by decide)) ?_
        refine WL_stepM rfl (R_mv) ?_
        refine WL_nil ?_
        refine Rn_succ ?_
        refine W_seq ?_
        refine W_region_l ?_
        refine WL_step rfl (R_lt_f rfl rfl (by omega)) ?_
        refine WL_nil ?_
        refine W_seq ?_
        refine W_cond_f rfl ?_
        refine W_exit ?_
        refine (if_pos rfl).mpr ?_
        refine W_seq ?_
        refine W_region_l ?_
        refine WL_stepM rfl (R_mv) ?_
        refine WL_stepM rfl (R_as) ?_
        refine WL_stepM rfl (R_as) ?_
        refine WL_nil ?_
        refine W_ret ?_
        (have hK := hHF _ (fun p hp => H.held p (by simp [hp])); have hL9 : ∀ p ∈ (wd, blk [.slice bb 1 bbc, .slice ba 0 bc, I 3, ptr κ.k 0, .slice ha 1 hc] 81) :: (HS ++ (M ++ R2)), w9.heap.size ≤ p.1 := kCons hwd (kApp hHS (kApp hM hR2)); have hsz := Hw.size; have hxs := hKw.xs; exact ⟨_, rfl, κ, ua, uc, mp, wd, h, c, sp, rfl, ⟨⟨bb, bbc, ba, bc, ha, hc, la, lc, l, H.get (.there .here), RdT.own hOH (fun p hp => H.held p (by simp [hp])), RdT.own hO (fun p hp => H.held p (by simp [hp])), hl0⟩, (by rw [← hxs]; exact cmi_at hKw.kr (hKw.wn 0 (by decide)) H (Out.ofN hL9) (by rw [x4_len hxl, hKw.n]) hK.c hK.m hK.u), Ks_with ((hKw.ks 0 (by decide)).keep H (Out.cons hKw.kr.hb (by simp [sT, elT]) (Out.ofN hL9)))⟩, hKw.now, hK.h, H.blockT (T := [170]) hKw.sb (by simp [elT]) (Out.cons hKw.kr.hb (by simp [elT]) (Out.ofN hL9)), Nat.le_trans hsz hh0, hsp, hmb, hp_fresh Hw H (kCons hmb (fun p hp => Nat.le_trans hsz (hL9 p hp)))⟩)
end
end Go.Proofs.YtlpmfldijgdcoaaGreatDoor.Wo

/-
  Steps in a world of one session: a call is begun, its process is picked twice.
-/
namespace Go.Proofs.YtlpmfldijgdcoaaGreatDoor.Wo
open Go Go.Proofs Go.Proofs.YtlpmfldijgdcoaaGreatDoor.Fx Go.Proofs.YtlpmfldijgdcoaaGreatDoor.Kn Go.Proofs.YtlpmfldijgdcoaaGreatDoor.Ke Go.Proofs.YtlpmfldijgdcoaaGreatDoor.Cm Go.Proofs.YtlpmfldijgdcoaaGreatDoor.Ho
set_option maxRecDepth 100000
set_option linter.unusedVariables false
set_option linter.unusedSimpArgs false
set_option maxHeartbeats 8000000

def wT : List Nat := 81 :: 83 :: 84 :: 22 :: 115 :: 5 :: cT
theorem Wd.keep {w w' : World} {C : Cs} {wd h c sp : Nat} {L : List (Nat × Obj)} (hd : Wd w C wd h c sp) (H : Hp w L w') (hn : Out wT w L) : Wd w' C wd h c sp := by
  obtain ⟨bb, bbc, ba, bc, ha, hc, la, lc, l, h1, h2, h3, h4⟩ := hd.wb
  refine ⟨⟨bb, bbc, ba, bc, ha, hc, la, lc, l, H.blockT h1 (by simp [wT, elT]) hn, h2.keep H (hn.sub (by simp [wT])), h3.keep H (hn.sub (by simp [wT])), h4⟩, hd.cm.keep0 H (hn.sub ?_), hd.ks.keep H (hn.sub ?_)⟩
  · intro x hx; exact .tail _ (.tail _ (.tail _ (.tail _ (.tail _ hx))))
  · simp [wT, sT, cT, kT]
def stC (k op : Int) : List Value := [I k, I 0, I 0, I 0, nilS, I op, I 0, I 0, nilS, I 0, I 0, I 0, I 0, I 0, I 0, nilS]

section
variable {w : World} {C : Cs} {wd h c sp : Nat}
theorem Host_ret (hd : Wd w C wd h c sp) : Ret Tryz.prog 30 #[ptr wd 0, I 0, I 0] w fun v w' => v = ptr h 0 ∧ Hp w [] w' := by
  refine Ret_of_W (args := [_, _, _]) Tryz.func30 rfl Tryz.ntmps30 Tryz.results30 (by simp) ?_
  have H := Hp.refl w
  obtain ⟨bb, bbc, ba, bc, ha, hc, la, lc, l, h1, h2, h3, h4⟩ := hd.wb
  obtain ⟨b1, o1, rfl, hc1⟩ := h2.rd.cell (i := 0) (u := .slice la 8 lc) rfl
  obtain ⟨b2, o2, rfl, hc2⟩ := h3.rd.cell h4
  refine W_seq ?_
  refine W_region_l ?_
  refine WL_stepM rfl (R_as) ?_
  refine WL_nil ?_
  refine W_seq ?_
  refine W_seq ?_
  refine W_region_l ?_
  refine WL_stepM rfl (R_mv) ?_
  refine WL_step rfl (R_lt_f rfl rfl (by omega)) ?_
  refine WL_stepM rfl (R_mv) ?_
  refine WL_guard_t rfl rfl ?_
  refine WL_stepM rfl (R_mv) ?_
  refine WL_guard_t rfl rfl ?_
  refine WL_stepM rfl (R_mv) ?_
  refine WL_guard_t rfl rfl ?_
  refine WL_step rfl (R_nilCheck rfl) ?_
  refine WL_guard_t rfl rfl ?_
  refine WL_step rfl (R_fieldAddr (off' := 4) Tryz.underlying81 rfl Tryz.sizeOf79 (by decide) rfl rfl) ?_
  refine WL_guard_t rfl rfl ?_
  refine WL_step rfl (R_load Tryz.isAgg79 rfl (H.block h1 (by simp)) rfl) ?_
  refine WL_guard_t rfl rfl ?_
  refine WL_step rfl (R_len_slice Tryz.underlying79 rfl) ?_
  refine WL_guard_t rfl rfl ?_
  refine WL_step rfl (R_ge_f rfl rfl (by omega)) ?_
  refine WL_stepM rfl (R_pk_f rfl) ?_
  refine WL_stepM rfl (R_mv) ?_
  refine WL_guard_t rfl rfl ?_
  refine WL_stepM rfl (R_mv) ?_
  refine WL_guard_t rfl rfl ?_
  refine WL_step rfl (R_lt_f rfl rfl (by omega)) ?_
  refine WL_stepM rfl (R_pk_f rfl) ?_
  refine WL_stepM rfl (R_mv) ?_
  refine WL_guard_t rfl rfl ?_
  refine WL_stepM rfl (R_mv) ?_
  refine WL_guard_t rfl rfl ?_
  refine WL_step rfl (R_ge_f rfl rfl (by omega)) ?_
  refine WL_stepM rfl (R_pk_f rfl) ?_
  refine WL_nil ?_
  refine W_cond_f rfl ?_
  refine W_skip ?_
  refine W_seq ?_
  refine W_region_l ?_
  refine WL_stepM rfl (R_mv) ?_
  refine WL_step rfl (R_nilCheck rfl) ?_
  refine WL_step rfl (R_fieldAddr (off' := 4) Tryz.underlying81 rfl Tryz.sizeOf79 (by decide) rfl rfl) ?_
  refine WL_step rfl (R_load Tryz.isAgg79 rfl (H.block h1 (by simp)) rfl) ?_
  refine WL_stepM rfl (R_mv) ?_
  refine WL_step rfl (R_indexAddr (off' := o1 + 0) Tryz.underlying79 Tryz.sizeOf83 rfl rfl (by decide) (by decide) (by simp)) ?_
  refine WL_step rfl (R_load_cell Tryz.isAgg83 rfl (H.cellN hc1 kYs)) ?_
  refine WL_stepM rfl (R_mv) ?_
  refine WL_step rfl (R_indexAddr (off' := o2 + 0) Tryz.underlying83 Tryz.sizeOf84 rfl rfl (by decide) (by decide) (by simp)) ?_
  refine WL_step rfl (R_load_cell Tryz.isAgg84 rfl (H.cellN hc2 kYs)) ?_
  refine WL_stepM rfl (R_as) ?_
  refine WL_nil ?_
  refine W_ret ?_
  exact ⟨_, rfl, rfl, H⟩

theorem do_call (hd : Wd w C wd h c sp) (hh : w.heap[h]? = some (blk [ptr C.κ.k 0, I 0, I 0, I 0, ptr c 0, I 0, I 0, I 0, I 0, I 0, nilS] 139)) (hs : Snd C) (hp : C.pD 0 = (p0, 1)) :
    Ret Tryz.prog 15 #[ptr wd 0, .agg (stC 1 17).toArray] w fun v w' => ∃ ua uc M, v = .tuple #[.agg z0.toArray, .bool false] ∧ (∀ p ∈ M, w.heap.size ≤ p.1) ∧
      Hp w ((h, blk [ptr C.κ.k 0, I 0, I 0, I 0, ptr c 0, I 1, I 0, I 17, I 0, I 0, .slice ua 0 uc] 139) :: M) w' := by
  refine Ret_of_WC (args := [_, _]) Tryz.func15 rfl Tryz.ntmps15 Tryz.results15 (by simp) ?_
  have H := Hp.refl w
  have hlt := lt_of_some hh
  refine W_seq ?_
  refine W_region_l ?_
  (refine WL_effn rfl (E_box (vs := stC 1 17) H rfl rfl) ?_; clear H; intro c3 w3 hc3 H)
  (refine WL_effn rfl (E_alloc (vs := z0) H Tryz.zeroValue40 rfl) ?_; clear H; intro c4 w4 hc4 H)
  refine WL_stepM rfl (R_as) ?_
  refine WL_nil ?_
  refine W_seq ?_
  refine W_region_l ?_
  refine WL_stepM rfl (R_mv) ?_
  refine WL_step rfl (R_fieldAddr (off' := 1) Tryz.underlying46 rfl Tryz.sizeOf3 (by decide) rfl rfl) ?_
  refine WL_step rfl (R_load (v := I 0) Tryz.isAgg3 rfl (H.get (.there .here)) rfl) ?_
  refine WL_step rfl (R_fieldAddr (off' := 2) Tryz.underlying46 rfl Tryz.sizeOf3 (by decide) rfl rfl) ?_
  refine WL_step rfl (R_load (v := I 0) Tryz.isAgg3 rfl (H.get (.there .here)) rfl) ?_
  (refine WL_call rfl (R_call rfl Tryz.call30 rfl) (Host_ret (hd.keep H (Out.ofN kYs))) ?_; rintro _ w14 ⟨rfl, H1⟩; replace H := H.seq0 H1; clear H1)
  refine WL_stepM rfl (R_as) ?_
  refine WL_nil ?_
  refine W_seq ?_
  refine W_seq ?_
  refine W_region_l ?_
  refine WL_step rfl (R_fieldAddr (off' := 0) Tryz.underlying46 rfl Tryz.sizeOf3 (by decide) rfl rfl) ?_
  refine WL_step rfl (R_load (v := I 1) Tryz.isAgg3 rfl (H.get (.there .here)) rfl) ?_
  refine WL_nil ?_
  refine W_block ?_
  refine W_seq ?_
  refine W_region_l ?_
  refine WL_step rfl (R_eq_f rfl rfl (by omega)) ?_
  refine WL_stepM rfl (R_as) ?_
  refine WL_nil ?_
  refine W_cond_f rfl ?_
  refine W_seq ?_
  refine W_region_l ?_
  refine WL_step rfl (R_eq_f rfl rfl (by omega)) ?_
  refine WL_stepM rfl (R_as) ?_
  refine WL_nil ?_
  refine W_cond_f rfl ?_
  refine W_seq ?_
  refine W_region_l ?_
  refine WL_step rfl (R_eq_t rfl rfl (by omega)) ?_
  refine WL_stepM rfl (R_as) ?_
  refine WL_nil ?_
  refine W_cond_t rfl ?_
  refine W_seq ?_
  refine W_region_l ?_
  refine WL_stepM rfl (R_mv) ?_
  refine WL_step rfl (R_ne_ptr_nil Tryz.underlying84 rfl rfl) ?_
  refine WL_nil ?_
  refine W_cond_t rfl ?_
  refine W_region_l ?_
  refine WL_stepM rfl (R_mv) ?_
  refine WL_step rfl (R_fieldAddr (off' := 5) Tryz.underlying46 rfl Tryz.sizeOf38 (by decide) rfl rfl) ?_
  refine WL_step rfl (R_loadA (vs := [I 17, I 0, I 0, nilS]) Tryz.isAgg38 Tryz.sizeOf38 rfl (H.get (.there .here)) rfl (by simp [stC])) ?_
  (refine WL_call rfl (R_call rfl Tryz.call33 rfl) (start_ret (C := C) (e := 0) (n := 0) (sl := 0) (ds := []) rfl (H.blockN hh kYs) (hd.keep H (Out.ofN kYs)).cm hs (by decide) hp RdS.nil (by decide)) ?_; rintro _ w52 ⟨u, M, rfl, hO, H1⟩; obtain ⟨ua, uc, rfl⟩ := hO.form; have hM : ∀ p ∈ M, w.heap.size ≤ p.1 := (fun p hp => Nat.le_trans H.size (hO.keys p hp)); have hok := hO.keys; have H9 := hp_olds H kYs H1 (by intro p hp; rcases List.mem_cons.1 hp with rfl | hp; exact .inl hlt; exact .inr (hok p hp)); clear H H1; have H : Hp w ((h, blk [ptr C.κ.k 0, I 0, I 0, I 0, ptr c 0, I 1, I 0, I 17, I 0, I 0, .slice ua 0 uc] 139) :: (M ++ [(c4, blk z0 40), (c3, blk (stC 1 17) 46)])) w52 := H9; clear H9)
  refine WL_nil ?_
  refine W_seq ?_
  refine W_region_l ?_
  refine WL_step rfl (R_buildL (places := [(0, 1), (1, 1), (2, 4), (6, 1), (7, 1), (8, 1), (9, 1), (10, 1), (11, 1)]) (vs := z0) Tryz.underlying40 Tryz.typeInfo40 rfl rfl (by kernel_rfl) rfl rfl rfl) ?_
  (refine WL_effu rfl (E_storeA (vs := z0) H Tryz.sizeOf40 rfl rfl (oC_one rfl rfl rfl) (.there (.app _ .here)) (by simp [z0, oC])) ?_; clear H; intro w57 H; replace H : Hp w ((h, blk [ptr C.κ.k 0, I 0, I 0, I 0, ptr c 0, I 1, I 0, I 17, I 0, I 0, .slice ua 0 uc] 139) :: (M ++ [(c4, blk z0 40), (c3, blk (stC 1 17) 46)])) w57 := H)
  refine WL_stepM rfl (R_as) ?_
  refine WL_nil ?_
  refine W_ret ?_
  exact ⟨_, ⟨_, _, rfl, ldA Tryz.isAgg40 Tryz.sizeOf40 (H.get (.there (.app _ .here))) rfl (by simp [z0, oC]), rfl⟩, ua, uc, M, rfl, hM, Hp.cut (L := (h, _) :: M) (M := [_, _]) H kYs⟩

variable {S : Sect.Sx} {qv : Value} {st : Int} {da : Option Addr} {dc : Nat}
theorem wpick_want {T st2 : Int} (hd : Wd w C wd h c sp) (hh : w.heap[h]? = some (blk [ptr C.κ.k 0, I 0, I 0, I 0, ptr c 0, I 1, I st, I 17, I 0, I 0, .slice da 0 dc] 139)) (hs : Snd C) (hp : C.pD 0 = (p0, 1))
    (hsp : w.heap[sp]? = some (blk (Sect.sxC S nilS) 170)) (hq : S.q = []) (hB : Sect.Bd S T) (hT : T ≤ 1000000) (hn : 0 ≤ C.κ.now ∧ C.κ.now ≤ T) (hst : (Sect.enter S (0 : Nat) C.κ.now).2.1 = st2) (hst0 : 0 < st2) :
    Ret Tryz.prog 31 #[ptr wd 0, .agg (stC 2 0).toArray] w fun v w' => ∃ qv M, v = .tuple #[.agg z0.toArray, .bool false] ∧ (∀ p ∈ M, w.heap.size ≤ p.1) ∧
      Hp w ((h, blk [ptr C.κ.k 0, I 0, I 0, I 0, ptr c 0, I 2, I st2, I 17, I 0, I 0, .slice da 0 dc] 139) :: (M ++ [(sp, blk (Sect.sxC (Sect.enter S (0 : Nat) C.κ.now).1 qv) 170)])) w' := by
  refine Ret_of_WC (args := [_, _]) Tryz.func31 rfl Tryz.ntmps31 Tryz.results31 (by simp) ?_
  have H := Hp.refl w
  have hlt := lt_of_some hh
  have hlt2 := lt_of_some hsp
  refine W_seq ?_
  refine W_region_l ?_
  (refine WL_effn rfl (E_box (vs := stC 2 0) H rfl rfl) ?_; clear H; intro c3 w3 hc3 H)
  (refine WL_effn rfl (E_alloc (vs := z0) H Tryz.zeroValue40 rfl) ?_; clear H; intro c4 w4 hc4 H)
  refine WL_stepM rfl (R_as) ?_
  refine WL_nil ?_
  refine W_seq ?_
  refine W_region_l ?_
  refine WL_stepM rfl (R_mv) ?_
  refine WL_step rfl (R_fieldAddr (off' := 1) Tryz.underlying46 rfl Tryz.sizeOf3 (by decide) rfl rfl) ?_
  refine WL_step rfl (R_load (v := I 0) Tryz.isAgg3 rfl (H.get (.there .here)) rfl) ?_
  refine WL_step rfl (R_fieldAddr (off' := 2) Tryz.underlying46 rfl Tryz.sizeOf3 (by decide) rfl rfl) ?_
  refine WL_step rfl (R_load (v := I 0) Tryz.isAgg3 rfl (H.get (.there .here)) rfl) ?_
  (refine WL_call rfl (R_call rfl Tryz.call30 rfl) (Host_ret (hd.keep H (Out.ofN kYs))) ?_; rintro _ w14 ⟨rfl, H1⟩; replace H := H.seq0 H1; clear H1)
  refine WL_stepM rfl (R_as) ?_
  refine WL_nil ?_
  refine W_seq ?_
  refine W_seq ?_
  refine W_region_l ?_
  refine WL_stepM rfl (R_mv) ?_
  refine WL_step rfl (R_eq_ptr_nil Tryz.underlying84 rfl rfl) ?_
  refine WL_nil ?_
  refine W_cond_f rfl ?_
  refine W_skip ?_
  refine W_seq ?_
  refine W_region_l ?_
  refine WL_stepM rfl (R_mv) ?_
  (refine WL_call rfl (R_call rfl Tryz.call61 rfl) (pick_want (C := C) (e := 0) (n := 0) (sl := 0) (H.blockN hh kYs) (hd.keep H (Out.ofN kYs)).cm hs (by decide) hp (hd.keep H (Out.ofN kYs)).ks (H.blockN hsp kYs) hq hB hT hn hst hst0) ?_; rintro _ w28 ⟨qv, M, rfl, hM2, H1⟩; have hM : ∀ p ∈ M, w.heap.size ≤ p.1 := (fun p hp => Nat.le_trans H.size (hM2 p hp)); have H9 := hp_olds H kYs H1 (by intro p hp; rcases List.mem_cons.1 hp with rfl | hp; exact .inl hlt; rcases List.mem_append.1 hp with hp | hp; exact .inr (hM2 p hp); rw [List.mem_singleton] at hp; subst hp; exact .inl hlt2); clear H H1; have H : Hp w ((h, blk [ptr C.κ.k 0, I 0, I 0, I 0, ptr c 0, I 2, I st2, I 17, I 0, I 0, .slice da 0 dc] 139) :: (M ++ (sp, blk (Sect.sxC (Sect.enter S (0 : Nat) C.κ.now).1 qv) 170) :: [(c4, blk z0 40), (c3, blk (stC 2 0) 46)])) w28 := (by simpa using H9); clear H9)
  refine WL_stepM rfl (R_mv) ?_
  refine WL_step rfl (R_extract rfl rfl) ?_
  refine WL_step rfl (R_extract rfl rfl) ?_
  (refine WL_effn rfl (E_alloc (vs := z0) H Tryz.zeroValue40 rfl) ?_; clear H; intro c7 w32 hc7 H)
  (refine WL_effu rfl (E_storeA (vs := z0) H Tryz.sizeOf40 rfl rfl (oC_one rfl rfl rfl) .here (by simp [z0, oC])) ?_; clear H; intro w33 H; replace H := H.pop hc7)
  refine WL_stepM rfl (R_as) ?_
  refine WL_nil ?_
  refine W_seq ?_
  refine W_seq ?_
  refine W_region_l ?_
  refine WL_stepM rfl (R_mv) ?_
  refine WL_step rfl (R_not_f rfl) ?_
  refine WL_nil ?_
  refine W_cond_t rfl ?_
  refine W_seq ?_
  ((have m6 : True := trivial)) <;> refine W_region_l ?_
  refine WL_step rfl (R_buildL (places := [(0, 1), (1, 1), (2, 4), (6, 1), (7, 1), (8, 1), (9, 1), (10, 1), (11, 1)]) (vs := z0) Tryz.underlying40 Tryz.typeInfo40 rfl rfl (by kernel_rfl) rfl rfl rfl) ?_
  (have _g := m6; refine WL_effu rfl (E_storeA (vs := z0) H Tryz.sizeOf40 rfl rfl (oC_one rfl rfl rfl) (.there (.app _ (.there .here))) (by simp [z0, oC])) ?_; clear H; intro w46 H; replace H : Hp w ((h, blk [ptr C.κ.k 0, I 0, I 0, I 0, ptr c 0, I 2, I st2, I 17, I 0, I 0, .slice da 0 dc] 139) :: (M ++ (sp, blk (Sect.sxC (Sect.enter S (0 : Nat) C.κ.now).1 qv) 170) :: [(c4, blk z0 40), (c3, blk (stC 2 0) 46)])) w46 := H)
  refine WL_stepM rfl (R_as) ?_
  refine WL_nil ?_
  refine W_ret ?_
  exact ⟨_, ⟨_, _, rfl, ldA Tryz.isAgg40 Tryz.sizeOf40 (H.get (.there (.app _ (.there .here)))) rfl (by simp [z0, oC]), rfl⟩, qv, M, rfl, hM, Hp.cut (L := (h, _) :: (M ++ [(sp, _)])) (M := [_, _]) (by simpa using H) kYs⟩

theorem wpick_in (hd : Wd w C wd h c sp) (hh : w.heap[h]? = some (blk [ptr C.κ.k 0, I 0, I 0, I 0, ptr c 0, I 2, I st, I 17, I 0, I 0, .slice da 0 dc] 139)) (hs : Snd C) (hp : C.pD 0 = (p0, 1))
    (hsp : w.heap[sp]? = some (blk (Sect.sxC S qv) 170)) (hold : S.held = true ∧ S.who = (0 : Nat) ∧ S.stamp = st) :
    Ret Tryz.prog 31 #[ptr wd 0, .agg (stC 2 0).toArray] w fun v w' => v = .tuple #[.agg (parO 0 0 0 (.slice da 0 dc)).toArray, .bool true] ∧
      Hp w ((endB C 0).mB ++ [(h, blk [ptr C.κ.k 0, I 0, I 0, I 0, ptr c 0, I 0, I st, I 17, I 0, I 0, .slice da 0 dc] 139), (sp, blk (Sect.sxC (Sect.leaveSx S (0 : Nat) st) qv) 170)]) w' := by
  refine Ret_of_WC (args := [_, _]) Tryz.func31 rfl Tryz.ntmps31 Tryz.results31 (by simp) ?_
  have H := Hp.refl w
  have hlt := lt_of_some hh
  have hlt2 := lt_of_some hsp
  have hlt3 := lt_of_some hd.cm.hK.hb
  refine W_seq ?_
  refine W_region_l ?_
  (refine WL_effn rfl (E_box (vs := stC 2 0) H rfl rfl) ?_; clear H; intro c3 w3 hc3 H)
  (refine WL_effn rfl (E_alloc (vs := z0) H Tryz.zeroValue40 rfl) ?_; clear H; intro c4 w4 hc4 H)
  refine WL_stepM rfl (R_as) ?_
  refine WL_nil ?_
  refine W_seq ?_
  refine W_region_l ?_
  refine WL_stepM rfl (R_mv) ?_
  refine WL_step rfl (R_fieldAddr (off' := 1) Tryz.underlying46 rfl Tryz.sizeOf3 (by decide) rfl rfl) ?_
  refine WL_step rfl (R_load (v := I 0) Tryz.isAgg3 rfl (H.get (.there .here)) rfl) ?_
  refine WL_step rfl (R_fieldAddr (off' := 2) Tryz.underlying46 rfl Tryz.sizeOf3 (by decide) rfl rfl) ?_
  refine WL_step rfl (R_load (v := I 0) Tryz.isAgg3 rfl (H.get (.there .here)) rfl) ?_
  (refine WL_call rfl (R_call rfl Tryz.call30 rfl) (Host_ret (hd.keep H (Out.ofN kYs))) ?_; rintro _ w14 ⟨rfl, H1⟩; replace H := H.seq0 H1; clear H1)
  refine WL_stepM rfl (R_as) ?_
  refine WL_nil ?_
  refine W_seq ?_
  refine W_seq ?_
  refine W_region_l ?_
  refine WL_stepM rfl (R_mv) ?_
  refine WL_step rfl (R_eq_ptr_nil Tryz.underlying84 rfl rfl) ?_
  refine WL_nil ?_
  refine W_cond_f rfl ?_
  refine W_skip ?_
  refine W_seq ?_
  refine W_region_l ?_
  refine WL_stepM rfl (R_mv) ?_
  (refine WL_call rfl (R_call rfl Tryz.call61 rfl) (pick_in (C := C) (e := 0) (n := 0) (sl := 0) (H.blockN hh kYs) (hd.keep H (Out.ofN kYs)).cm hs (by decide) hp (hd.keep H (Out.ofN kYs)).ks (H.blockN hsp kYs) hold) ?_; rintro _ w28 ⟨rfl, H1⟩; have H9 := hp_olds H kYs H1 (by intro p hp; simp only [Cs.mB, List.cons_append, List.nil_append, List.mem_cons, List.not_mem_nil, or_false] at hp; rcases hp with rfl | rfl | rfl; exact .inl hlt3; exact .inl hlt; exact .inl hlt2); clear H H1; have H := H9; clear H9)
  refine WL_stepM rfl (R_mv) ?_
  refine WL_step rfl (R_extract rfl rfl) ?_
  refine WL_step rfl (R_extract rfl rfl) ?_
  (refine WL_effn rfl (E_alloc (vs := z0) H Tryz.zeroValue40 rfl) ?_; clear H; intro c7 w32 hc7 H)
  (refine WL_effu rfl (E_storeA (vs := parO 0 0 0 (.slice da 0 dc)) H Tryz.sizeOf40 rfl rfl (oC_one rfl rfl rfl) .here (by simp [parO, z0, oC])) ?_; clear H; intro w33 H; replace H : Hp w ((c7, blk (parO 0 0 0 (.slice da 0 dc)) 40) :: ((endB C 0).mB ++ [(h, blk [ptr C.κ.k 0, I 0, I 0, I 0, ptr c 0, I 0, I st, I 17, I 0, I 0, .slice da 0 dc] 139), (sp, blk (Sect.sxC (Sect.leaveSx S (0 : Nat) st) qv) 170), (c4, blk z0 40), (c3, blk (stC 2 0) 46)])) w33 := H)
  refine WL_stepM rfl (R_as) ?_
  refine WL_nil ?_
  refine W_seq ?_
  refine W_seq ?_
  refine W_region_l ?_
  refine WL_stepM rfl (R_mv) ?_
  refine WL_step rfl (R_not_t rfl) ?_
  refine WL_nil ?_
  refine W_cond_f rfl ?_
  refine W_skip ?_
  refine W_seq ?_
  ((have m7 : True := trivial)) <;> refine W_region_l ?_
  refine WL_step rfl (R_fieldAddr (off' := 1) Tryz.underlying46 rfl Tryz.sizeOf3 (by decide) rfl rfl) ?_
  refine WL_step rfl (R_load (v := I 0) Tryz.isAgg3 rfl (H.get (.there (.there (.there (.there (.there .here)))))) rfl) ?_
  refine WL_step rfl (R_fieldAddr (off' := 0) Tryz.underlying40 rfl Tryz.sizeOf3 (by decide) rfl rfl) ?_
  (have _g := m7; refine WL_effu rfl (E_store (v := I 0) H Tryz.sizeOf3 rfl rfl rfl .here (by simp [parO, oC])) ?_; clear H; intro w49 H; replace H : Hp w ((c7, blk (parO 0 0 0 (.slice da 0 dc)) 40) :: ((endB C 0).mB ++ [(h, blk [ptr C.κ.k 0, I 0, I 0, I 0, ptr c 0, I 0, I st, I 17, I 0, I 0, .slice da 0 dc] 139), (sp, blk (Sect.sxC (Sect.leaveSx S (0 : Nat) st) qv) 170), (c4, blk z0 40), (c3, blk (stC 2 0) 46)])) w49 := H)
  refine WL_nil ?_
  refine W_seq ?_
  refine W_seq ?_
  refine W_region_l ?_
  refine WL_step rfl (R_fieldAddr (off' := 9) Tryz.underlying40 rfl Tryz.sizeOf4 (by decide) rfl rfl) ?_
  refine WL_step rfl (R_load (v := .bool true) Tryz.isAgg4 rfl (H.get .here) rfl) ?_
  refine WL_stepM rfl (R_mv) ?_
  refine WL_guard_t rfl rfl ?_
  refine WL_step rfl (R_fieldAddr (off' := 2) Tryz.underlying40 rfl Tryz.sizeOf38 (by decide) rfl rfl) ?_
  refine WL_guard_t rfl rfl ?_
  refine WL_step rfl (R_fieldAddr (off' := 2) Tryz.underlying38 rfl Tryz.sizeOf3 (by decide) rfl rfl) ?_
  refine WL_guard_t rfl rfl ?_
  refine WL_step rfl (R_load (v := I 17) Tryz.isAgg3 rfl (H.get .here) rfl) ?_
  refine WL_guard_t rfl rfl ?_
  refine WL_step rfl (R_eq_f rfl rfl (by omega)) ?_
  refine WL_stepM rfl (R_pk_t rfl) ?_
  refine WL_stepM rfl (R_mv) ?_
  refine WL_guard_f rfl rfl (by decide) ?_
  refine WL_guard_f rfl rfl (by decide) ?_
  refine WL_guard_f rfl rfl (by decide) ?_
  refine WL_stepM rfl (R_pk_f rfl) ?_
  refine WL_nil ?_
  refine W_cond_f rfl ?_
  refine W_skip ?_
  refine W_seq ?_
  ((have m12 : True := trivial)) <;> refine W_region_l ?_
  refine WL_step rfl (R_loadA (vs := parO 0 0 0 (.slice da 0 dc)) Tryz.isAgg40 Tryz.sizeOf40 rfl (H.get .here) rfl (by simp [parO, oC])) ?_
  (have _g := m12; refine WL_effu rfl (E_storeA (vs := parO 0 0 0 (.slice da 0 dc)) H Tryz.sizeOf40 rfl rfl (oC_one rfl rfl rfl) (.there (.there (.there (.there .here)))) (by simp [parO, z0, oC])) ?_; clear H; intro w77 H; replace H := H.pop hc7)
  refine WL_stepM rfl (R_as) ?_
  refine WL_nil ?_
  refine W_ret ?_
  exact ⟨_, ⟨_, _, rfl, ldA Tryz.isAgg40 Tryz.sizeOf40 (H.get (.there (.there (.there .here)))) rfl (by simp [parO, oC]), rfl⟩, rfl, Hp.cut (L := [_, _, _]) (M := [_, _]) H kYs⟩
end
end Go.Proofs.YtlpmfldijgdcoaaGreatDoor.Wo

/-
  The world that begins, and one call that returns.
-/
namespace Go.Proofs.YtlpmfldijgdcoaaGreatDoor.Wo
open Go Go.Proofs Go.Proofs.YtlpmfldijgdcoaaGreatDoor.Fx Go.Proofs.YtlpmfldijgdcoaaGreatDoor.Kn Go.Proofs.YtlpmfldijgdcoaaGreatDoor.Ke Go.Proofs.YtlpmfldijgdcoaaGreatDoor.Cm Go.Proofs.YtlpmfldijgdcoaaGreatDoor.Ho
set_option maxRecDepth 100000
set_option linter.unusedVariables false
set_option linter.unusedSimpArgs false
set_option maxHeartbeats 8000000

section
variable {w : World} {C : Cs} {wd h c sp : Nat}
variable {S : Sect.Sx} {qv : Value} {st : Int} {da : Option Addr} {dc : Nat}
theorem do_want {T st2 : Int} (hd : Wd w C wd h c sp) (hh : w.heap[h]? = some (blk [ptr C.κ.k 0, I 0, I 0, I 0, ptr c 0, I 1, I st, I 17, I 0, I 0, .slice da 0 dc] 139)) (hs : Snd C) (hp : C.pD 0 = (p0, 1))
    (hsp : w.heap[sp]? = some (blk (Sect.sxC S nilS) 170)) (hq : S.q = []) (hB : Sect.Bd S T) (hT : T ≤ 1000000) (hn : 0 ≤ C.κ.now ∧ C.κ.now ≤ T) (hst : (Sect.enter S (0 : Nat) C.κ.now).2.1 = st2) (hst0 : 0 < st2) :
    Ret Tryz.prog 15 #[ptr wd 0, .agg (stC 2 0).toArray] w fun v w' => ∃ qv M, v = .tuple #[.agg z0.toArray, .bool false] ∧ (∀ p ∈ M, w.heap.size ≤ p.1) ∧
      Hp w ((h, blk [ptr C.κ.k 0, I 0, I 0, I 0, ptr c 0, I 2, I st2, I 17, I 0, I 0, .slice da 0 dc] 139) :: (M ++ [(sp, blk (Sect.sxC (Sect.enter S (0 : Nat) C.κ.now).1 qv) 170)])) w' := by
  refine Ret_of_WC (args := [_, _]) Tryz.func15 rfl Tryz.ntmps15 Tryz.results15 (by simp) ?_
  have H := Hp.refl w
  have hlt := lt_of_some hh
  have hlt2 := lt_of_some hsp
  refine W_seq ?_
  refine W_region_l ?_
  (refine WL_effn rfl (E_box (vs := stC 2 0) H rfl rfl) ?_; clear H; intro c3 w3 hc3 H)
  (refine WL_effn rfl (E_alloc (vs := z0) H Tryz.zeroValue40 rfl) ?_; clear H; intro c4 w4 hc4 H)
  refine WL_stepM rfl (R_as) ?_
  refine WL_nil ?_
  refine W_seq ?_
  refine W_region_l ?_
  refine WL_stepM rfl (R_mv) ?_
  refine WL_step rfl (R_fieldAddr (off' := 1) Tryz.underlying46 rfl Tryz.sizeOf3 (by decide) rfl rfl) ?_
  refine WL_step rfl (R_load (v := I 0) Tryz.isAgg3 rfl (H.get (.there .here)) rfl) ?_
  refine WL_step rfl (R_fieldAddr (off' := 2) Tryz.underlying46 rfl Tryz.sizeOf3 (by decide) rfl rfl) ?_
  refine WL_step rfl (R_load (v := I 0) Tryz.isAgg3 rfl (H.get (.there .here)) rfl) ?_
  (refine WL_call rfl (R_call rfl Tryz.call30 rfl) (Host_ret (hd.keep H (Out.ofN kYs))) ?_; rintro _ w14 ⟨rfl, H1⟩; replace H := H.seq0 H1; clear H1)
  refine WL_stepM rfl (R_as) ?_
  refine WL_nil ?_
  refine W_seq ?_
  refine W_seq ?_
  refine W_region_l ?_
  refine WL_step rfl (R_fieldAddr (off' := 0) Tryz.underlying46 rfl Tryz.sizeOf3 (by decide) rfl rfl) ?_
  refine WL_step rfl (R_load (v := I 2) Tryz.isAgg3 rfl (H.get (.there .here)) rfl) ?_
  refine WL_nil ?_
  refine W_block ?_
  refine W_seq ?_
  refine W_region_l ?_
  refine WL_step rfl (R_eq_t rfl rfl (by omega)) ?_
  refine WL_stepM rfl (R_as) ?_
  refine WL_nil ?_
  refine W_cond_t rfl ?_
  refine W_seq ?_
  refine W_region_l ?_
  refine WL_stepM rfl (R_mv) ?_
  refine WL_step rfl (R_loadA (vs := stC 2 0) Tryz.isAgg46 Tryz.sizeOf46 rfl (H.get (.there .here)) rfl (by simp [stC])) ?_
  (refine WL_call rfl (R_call rfl Tryz.call31 rfl) (wpick_want (hd.keep H (Out.ofN kYs)) (H.blockN hh kYs) hs hp (H.blockN hsp kYs) hq hB hT hn hst hst0) ?_; rintro _ w34 ⟨qv, M, rfl, hM2, H1⟩; have hM : ∀ p ∈ M, w.heap.size ≤ p.1 := (fun p hp => Nat.le_trans H.size (hM2 p hp)); have H9 := hp_olds H kYs H1 (by intro p hp; rcases List.mem_cons.1 hp with rfl | hp; exact .inl hlt; rcases List.mem_append.1 hp with hp | hp; exact .inr (hM2 p hp); rw [List.mem_singleton] at hp; subst hp; exact .inl hlt2); clear H H1; have H : Hp w ((h, blk [ptr C.κ.k 0, I 0, I 0, I 0, ptr c 0, I 2, I st2, I 17, I 0, I 0, .slice da 0 dc] 139) :: (M ++ (sp, blk (Sect.sxC (Sect.enter S (0 : Nat) C.κ.now).1 qv) 170) :: [(c4, blk z0 40), (c3, blk (stC 2 0) 46)])) w34 := (by simpa using H9); clear H9)
  refine WL_step rfl (R_extract rfl rfl) ?_
  refine WL_step rfl (R_extract rfl rfl) ?_
  (refine WL_effu rfl (E_storeA (vs := z0) H Tryz.sizeOf40 rfl rfl (oC_one rfl rfl rfl) (.there (.app _ (.there .here))) (by simp [z0, oC])) ?_; clear H; intro w37 H; replace H : Hp w ((h, blk [ptr C.κ.k 0, I 0, I 0, I 0, ptr c 0, I 2, I st2, I 17, I 0, I 0, .slice da 0 dc] 139) :: (M ++ (sp, blk (Sect.sxC (Sect.enter S (0 : Nat) C.κ.now).1 qv) 170) :: [(c4, blk z0 40), (c3, blk (stC 2 0) 46)])) w37 := H)
  refine WL_stepM rfl (R_as) ?_
  refine WL_nil ?_
  refine W_ret ?_
  exact ⟨_, ⟨_, _, rfl, ldA Tryz.isAgg40 Tryz.sizeOf40 (H.get (.there (.app _ (.there .here)))) rfl (by simp [z0, oC]), rfl⟩, qv, M, rfl, hM, Hp.cut (L := (h, _) :: (M ++ [(sp, _)])) (M := [_, _]) (by simpa using H) kYs⟩

theorem do_in (hd : Wd w C wd h c sp) (hh : w.heap[h]? = some (blk [ptr C.κ.k 0, I 0, I 0, I 0, ptr c 0, I 2, I st, I 17, I 0, I 0, .slice da 0 dc] 139)) (hs : Snd C) (hp : C.pD 0 = (p0, 1))
    (hsp : w.heap[sp]? = some (blk (Sect.sxC S qv) 170)) (hold : S.held = true ∧ S.who = (0 : Nat) ∧ S.stamp = st) :
    Ret Tryz.prog 15 #[ptr wd 0, .agg (stC 2 0).toArray] w fun v w' => v = .tuple #[.agg (parO 0 0 0 (.slice da 0 dc)).toArray, .bool true] ∧
      Hp w ((endB C 0).mB ++ [(h, blk [ptr C.κ.k 0, I 0, I 0, I 0, ptr c 0, I 0, I st, I 17, I 0, I 0, .slice da 0 dc] 139), (sp, blk (Sect.sxC (Sect.leaveSx S (0 : Nat) st) qv) 170)]) w' := by
  refine Ret_of_WC (args := [_, _]) Tryz.func15 rfl Tryz.ntmps15 Tryz.results15 (by simp) ?_
  have H := Hp.refl w
  have hlt := lt_of_some hh
  have hlt2 := lt_of_some hsp
  have hlt3 := lt_of_some hd.cm.hK.hb
  refine W_seq ?_
  refine W_region_l ?_
  (refine WL_effn rfl (E_box (vs := stC 2 0) H rfl rfl) ?_; clear H; intro c3 w3 hc3 H)
  (refine WL_effn rfl (E_alloc (vs := z0) H Tryz.zeroValue40 rfl) ?_; clear H; intro c4 w4 hc4 H)
  refine WL_stepM rfl (R_as) ?_
  refine WL_nil ?_
  refine W_seq ?_
  refine W_region_l ?_
  refine WL_stepM rfl (R_mv) ?_
  refine WL_step rfl (R_fieldAddr (off' := 1) Tryz.underlying46 rfl Tryz.sizeOf3 (by decide) rfl rfl) ?_
  refine WL_step rfl (R_load (v := I 0) Tryz.isAgg3 rfl (H.get (.there .here)) rfl) ?_
  refine WL_step rfl (R_fieldAddr (off' := 2) Tryz.underlying46 rfl Tryz.sizeOf3 (by decide) rfl rfl) ?_
  refine WL_step rfl (R_load (v := I 0) Tryz.isAgg3 rfl (H.get (.there .here)) rfl) ?_
  (refine WL_call rfl (R_call rfl Tryz.call30 rfl) (Host_ret (hd.keep H (Out.ofN kYs))) ?_; rintro _ w14 ⟨rfl, H1⟩; replace H := H.seq0 H1; clear H1)
  refine WL_stepM rfl (R_as) ?_
  refine WL_nil ?_
  refine W_seq ?_
  refine W_seq ?_
  refine W_region_l ?_
  refine WL_step rfl (R_fieldAddr (off' := 0) Tryz.underlying46 rfl Tryz.sizeOf3 (by decide) rfl rfl) ?_
  refine WL_step rfl (R_load (v := I 2) Tryz.isAgg3 rfl (H.get (.there .here)) rfl) ?_
  refine WL_nil ?_
  refine W_block ?_
  refine W_seq ?_
  refine W_region_l ?_
  refine WL_step rfl (R_eq_t rfl rfl (by omega)) ?_
  refine WL_stepM rfl (R_as) ?_
  refine WL_nil ?_
  refine W_cond_t rfl ?_
  refine W_seq ?_
  refine W_region_l ?_
  refine WL_stepM rfl (R_mv) ?_
  refine WL_step rfl (R_loadA (vs := stC 2 0) Tryz.isAgg46 Tryz.sizeOf46 rfl (H.get (.there .here)) rfl (by simp [stC])) ?_
  (refine WL_call rfl (R_call rfl Tryz.call31 rfl) (wpick_in (hd.keep H (Out.ofN kYs)) (H.blockN hh kYs) hs hp (H.blockN hsp kYs) hold) ?_; rintro _ w34 ⟨rfl, H1⟩; have H9 := hp_olds H kYs H1 (by intro p hp; simp only [Cs.mB, List.cons_append, List.nil_append, List.mem_cons, List.not_mem_nil, or_false] at hp; rcases hp with rfl | rfl | rfl; exact .inl hlt3; exact .inl hlt; exact .inl hlt2); clear H H1; have H := H9; clear H9)
  refine WL_step rfl (R_extract rfl rfl) ?_
  refine WL_step rfl (R_extract rfl rfl) ?_
  (refine WL_effu rfl (E_storeA (vs := parO 0 0 0 (.slice da 0 dc)) H Tryz.sizeOf40 rfl rfl (oC_one rfl rfl rfl) (.there (.there (.there .here))) (by simp [parO, z0, oC])) ?_; clear H; intro w37 H)
  refine WL_stepM rfl (R_as) ?_
  refine WL_nil ?_
  refine W_ret ?_
  exact ⟨_, ⟨_, _, rfl, ldA Tryz.isAgg40 Tryz.sizeOf40 (H.get (.there (.there (.there .here)))) rfl (by simp [parO, oC]), rfl⟩, rfl, Hp.cut (L := [_, _, _]) (M := [_, _]) H kYs⟩
end

theorem bd3 : Sect.Bd (Sect.newSx 3) 0 := ⟨by decide, by decide, by decide, by decide, by decide, by decide, by decide, by decide, by decide, by decide⟩
theorem en_st {n : Int} (h : n = 0) : (Sect.enter (Sect.newSx 3) (0 : Nat) n).2.1 = 1 := by rw [h]; decide
theorem en_hold {n : Int} (h : n = 0) : (Sect.enter (Sect.newSx 3) (0 : Nat) n).1.held = true ∧ (Sect.enter (Sect.newSx 3) (0 : Nat) n).1.who = (0 : Nat) ∧ (Sect.enter (Sect.newSx 3) (0 : Nat) n).1.stamp = 1 := by rw [h]; decide
/-- the script -/
def scr : List Value := stC 1 17 ++ (stC 2 0 ++ stC 2 0)

section
variable {w : World} {pa : Option Addr} {pc sb : Nat}
theorem run_ret (hp : P1 w pa pc) (hsb : w.heap[sb]? = some (blk scr 46)) :
    Ret Tryz.prog 11 #[.agg #[.slice pa 1 pc, nilS, I 3], sl sb 0 3 3] w fun v w' => ∃ ob oc ol da dc, v = .tuple #[sl ob 0 1 oc, I 0] ∧ w.heap.size ≤ ob ∧ Hp w [(ob, blk (parO 0 0 0 (.slice da 0 dc) ++ ol) 40)] w' := by
  refine Ret_of_W (args := [_, _]) Tryz.func11 rfl Tryz.ntmps11 Tryz.results11 (by simp) ?_
  have H := Hp.refl w
  refine W_seq ?_
  refine W_region_l ?_
  (refine WL_effn rfl (E_box (vs := [.slice pa 1 pc, nilS, I 3]) H rfl rfl) ?_; clear H; intro c2 w3 hc2 H)
  refine WL_stepM rfl (R_as) ?_
  refine WL_stepM rfl (R_as) ?_
  refine WL_nil ?_
  refine W_seq ?_
  refine W_region_l ?_
  refine WL_step rfl (R_loadA (vs := [.slice pa 1 pc, nilS, I 3]) Tryz.isAgg27 Tryz.sizeOf27 rfl (H.get .here) rfl (by simp)) ?_
  (refine WL_call rfl (R_call rfl Tryz.call13 rfl) (wnew_ret (hp.keepN H kYs)) ?_; rintro _ w9 ⟨κ, ua, uc, mp, wd, h, c, sp, rfl, hWd0, hnow, hh0, hsb0, e1, e2, e3, H1⟩; have hz := H.size; replace e1 := Nat.le_trans hz e1; replace e2 := Nat.le_trans hz e2; replace e3 := Nat.le_trans hz e3; have Hw0 := hp_fresh (H.none kYs) H1 (fun _ h => nomatch h); have hst0 := Hw0.blockN hsb kNil; have hSn := snd0 κ 0 ua uc mp; have hPd := pD0 κ 0 ua uc mp; clear H H1 hz; have H := Hp.refl w9)
  refine WL_stepM rfl (R_mv) ?_
  refine WL_step rfl (R_extract rfl rfl) ?_
  refine WL_step rfl (R_extract rfl rfl) ?_
  refine WL_stepM rfl (R_as) ?_
  refine WL_stepM rfl (R_as) ?_
  refine WL_nil ?_
  refine W_seq ?_
  refine W_seq ?_
  refine W_region_l ?_
  refine WL_stepM rfl (R_mv) ?_
  refine WL_step rfl (R_ne_f rfl rfl (by omega)) ?_
  refine WL_nil ?_
  refine W_cond_f rfl ?_
  refine W_skip ?_
  refine W_seq ?_
  refine W_region_l ?_
  refine WL_stepM rfl (R_as) ?_
  refine WL_nil ?_
  refine W_seq ?_
  refine W_seq ?_
  refine W_region_l ?_
  refine WL_stepM rfl (R_mv) ?_
  refine WL_step rfl (R_len_slice Tryz.underlying23 rfl) ?_
  refine WL_stepM rfl (R_mv) ?_
  refine WL_nil ?_
  refine W_block ?_
  refine W_rounds 3 ?_
  refine W_seq ?_
  refine W_region_l ?_
  refine WL_step rfl (R_lt_t rfl rfl (by omega)) ?_
  refine WL_nil ?_
  refine W_seq ?_
  refine W_cond_t rfl ?_
  refine W_skip ?_
  refine W_seq ?_
  refine W_block ?_
  refine W_seq ?_
  refine W_region_l ?_
  refine WL_step rfl (R_indexAddr (off' := 0) Tryz.underlying23 Tryz.sizeOf46 rfl rfl (by decide) (by decide) (by decide)) ?_
  refine WL_step rfl (R_loadA (vs := stC 1 17) Tryz.isAgg46 Tryz.sizeOf46 rfl (H.blockN hst0 kYs) rfl (by decide)) ?_
  (refine WL_effn rfl (E_alloc (vs := stC 0 0) H Tryz.zeroValue46 rfl) ?_; clear H; intro c10 w51 hc10 H)
  (have _g := hh0; refine WL_effu rfl (E_storeA (vs := stC 1 17) H Tryz.sizeOf46 rfl rfl (by simp [stC, Value.oneCell']) .here (by decide)) ?_; clear H; intro w52 H; replace H : Hp w9 [(c10, blk (stC 1 17) 46)] w52 := H)
  refine WL_nil ?_
  refine W_seq ?_
  refine W_region_l ?_
  refine WL_stepM rfl (R_mv) ?_
  refine WL_step rfl (R_loadA (vs := stC 1 17) Tryz.isAgg46 Tryz.sizeOf46 rfl (H.get .here) rfl (by decide)) ?_
  (have hWd1 := hWd0.keep H (Out.ofN kYs); have hn1 := H.size; have Hx := hp_fresh Hw0 H (by intro p hp; rw [List.mem_singleton] at hp; subst hp; exact Nat.le_trans Hw0.size hc10); have hhx := H.blockN hh0 kYs; have hsx := H.blockN hsb0 kYs; have hstx := H.blockN hst0 kYs; refine WL_call rfl (R_call rfl Tryz.call15 rfl) (do_call hWd1 hhx hSn hPd) ?_; rintro _ w10 ⟨xa, xc, M, rfl, hM, H1⟩; have hWd2 := hWd1.keep H1 (Out.cons hhx (by simp [wT, cT, kT, elT]) (Out.ofN hM)); have hh1 := H1.get .here; have hsb1 := H1.blockT (T := [170]) hsx (by simp [elT]) (Out.cons hhx (by simp [elT]) (Out.ofN hM)); have hst1 := H1.blockT (T := [46]) hstx (by simp [elT]) (Out.cons hhx (by simp [elT]) (Out.ofN hM)); have Hw1 := hp_fresh Hx H1 (kCons e1 (fun p hp => Nat.le_trans Hx.size (hM p hp))); clear H H1 hh0 hsb0 hst0 hWd0 hWd1 Hx Hw0 hhx hsx hstx; have H := Hp.refl w10)
  refine WL_stepM rfl (R_mv) ?_
  refine WL_step rfl (R_extract rfl rfl) ?_
  refine WL_step rfl (R_extract rfl rfl) ?_
  (refine WL_effn rfl (E_alloc (vs := z0) H Tryz.zeroValue40 rfl) ?_; clear H; intro c11 w62 hc11 H)
  (refine WL_effu rfl (E_storeA (vs := z0) H Tryz.sizeOf40 rfl rfl (oC_one rfl rfl rfl) .here (by decide)) ?_; clear H; intro w63 H; replace H : Hp _ [(c11, blk z0 40)] w63 := H)
  refine WL_stepM rfl (R_as) ?_
  refine WL_nil ?_
  refine W_seq ?_
  refine W_region_l ?_
  refine WL_stepM rfl (R_mv) ?_
  refine WL_nil ?_
  refine W_cond_f rfl ?_
  refine W_skip ?_
  refine W_region_l ?_
  refine WL_step rfl (R_add (r := 1) rfl rfl (by decide)) ?_
  refine WL_stepM rfl (R_mv) ?_
  refine WL_nil ?_
  refine Rn_succ ?_
  refine W_seq ?_
  refine W_region_l ?_
  refine WL_step rfl (R_lt_t rfl rfl (by omega)) ?_
  refine WL_nil ?_
  refine W_seq ?_
  refine W_cond_t rfl ?_
  refine W_skip ?_
  refine W_seq ?_
  refine W_block ?_
  refine W_seq ?_
  refine W_region_l ?_
  refine WL_step rfl (R_indexAddr (off' := 16) Tryz.underlying23 Tryz.sizeOf46 rfl rfl (by decide) (by decide) (by decide)) ?_
  refine WL_step rfl (R_loadA (vs := stC 2 0) Tryz.isAgg46 Tryz.sizeOf46 rfl (H.blockN hst1 kYs) rfl (by decide)) ?_
  (refine WL_effn rfl (E_alloc (vs := stC 0 0) H Tryz.zeroValue46 rfl) ?_; clear H; intro c10 w90 hc10 H)
  (have _g := hst1; refine WL_effu rfl (E_storeA (vs := stC 2 0) H Tryz.sizeOf46 rfl rfl (by simp [stC, Value.oneCell']) .here (by decide)) ?_; clear H; intro w91 H; replace H : Hp w10 [(c10, blk (stC 2 0) 46), (c11, blk z0 40)] w91 := H)
  refine WL_nil ?_
  refine W_seq ?_
  refine W_region_l ?_
  refine WL_stepM rfl (R_mv) ?_
  refine WL_step rfl (R_loadA (vs := stC 2 0) Tryz.isAgg46 Tryz.sizeOf46 rfl (H.get .here) rfl (by decide)) ?_
  (have hWd1 := hWd2.keep H (Out.ofN kYs); have Hx := hp_fresh Hw1 H (fun p hp => Nat.le_trans Hw1.size ((kCons hc10 (kCons hc11 kNil)) p hp)); have hhx := H.blockN hh1 kYs; have hsx := H.blockN hsb1 kYs; have hstx := H.blockN hst1 kYs; refine WL_call rfl (R_call rfl Tryz.call15 rfl) (do_want (T := 0) hWd1 hhx hSn hPd hsx rfl bd3 (by decide) (by rw [show (c0 κ (X4 (List.replicate 1280 0)) 0 ua uc mp).κ.now = 0 from hnow]; decide) (en_st hnow) (by decide)) ?_; rintro _ w11 ⟨qv, M, rfl, hM, H1⟩; have hWd3 := hWd1.keep H1 (Out.cons hhx (by simp [wT, cT, kT, elT]) ((Out.ofN hM).app (Out.cons hsx (by simp [wT, cT, kT, elT]) Out.nil))); have hh2 := H1.get .here; have hsb2 := H1.get (.there (.app _ .here)); have hst2 := H1.blockT (T := [46]) hstx (by simp [elT]) (Out.cons hhx (by simp [elT]) ((Out.ofN hM).app (Out.cons hsx (by simp [elT]) Out.nil))); have Hw2 := hp_fresh Hx H1 (kCons e1 (kApp (fun p hp => Nat.le_trans Hx.size (hM p hp)) (kCons e2 kNil))); clear H H1 hh1 hsb1 hst1 hWd2 hWd1 Hx Hw1 hhx hsx hstx; have H := Hp.refl w11)
  refine WL_stepM rfl (R_mv) ?_
  refine WL_step rfl (R_extract rfl rfl) ?_
  refine WL_step rfl (R_extract rfl rfl) ?_
  (refine WL_effn rfl (E_alloc (vs := z0) H Tryz.zeroValue40 rfl) ?_; clear H; intro c11 w101 hc11 H)
  (refine WL_effu rfl (E_storeA (vs := z0) H Tryz.sizeOf40 rfl rfl (oC_one rfl rfl rfl) .here (by decide)) ?_; clear H; intro w102 H; replace H : Hp _ [(c11, blk z0 40)] w102 := H)
  refine WL_stepM rfl (R_as) ?_
  refine WL_nil ?_
  refine W_seq ?_
  refine W_region_l ?_
  refine WL_stepM rfl (R_mv) ?_
  refine WL_nil ?_
  refine W_cond_f rfl ?_
  refine W_skip ?_
  refine W_region_l ?_
  refine WL_step rfl (R_add (r := 2) rfl rfl (by decide)) ?_
  refine WL_stepM rfl (R_mv) ?_
  refine WL_nil ?_
  refine Rn_succ ?_
  refine W_seq ?_
  refine W_region_l ?_
  refine WL_step rfl (R_lt_t rfl rfl (by omega)) ?_
  refine WL_nil ?_
  refine W_seq ?_
  refine W_cond_t rfl ?_
  refine W_skip ?_
  refine W_seq ?_
  refine W_block ?_
  refine W_seq ?_
  refine W_region_l ?_
  refine WL_step rfl (R_indexAddr (off' := 32) Tryz.underlying23 Tryz.sizeOf46 rfl rfl (by decide) (by decide) (by decide)) ?_
  refine WL_step rfl (R_loadA (vs := stC 2 0) Tryz.isAgg46 Tryz.sizeOf46 rfl (H.blockN hst2 kYs) rfl (by decide)) ?_
  (refine WL_effn rfl (E_alloc (vs := stC 0 0) H Tryz.zeroValue46 rfl) ?_; clear H; intro c10 w129 hc10 H)
  (have _g := hst2; refine WL_effu rfl (E_storeA (vs := stC 2 0) H Tryz.sizeOf46 rfl rfl (by simp [stC, Value.oneCell']) .here (by decide)) ?_; clear H; intro w130 H; replace H : Hp w11 [(c10, blk (stC 2 0) 46), (c11, blk z0 40)] w130 := H)
  refine WL_nil ?_
  refine W_seq ?_
  refine W_region_l ?_
  refine WL_stepM rfl (R_mv) ?_
  refine WL_step rfl (R_loadA (vs := stC 2 0) Tryz.isAgg46 Tryz.sizeOf46 rfl (H.get .here) rfl (by decide)) ?_
  (have hWd1 := hWd3.keep H (Out.ofN kYs); have Hx := hp_fresh Hw2 H (fun p hp => Nat.le_trans Hw2.size ((kCons hc10 (kCons hc11 kNil)) p hp)); have hhx := H.blockN hh2 kYs; have hsx := H.blockN hsb2 kYs; refine WL_call rfl (R_call rfl Tryz.call15 rfl) (do_in hWd1 hhx hSn hPd hsx (en_hold hnow)) ?_; rintro _ w12 ⟨rfl, H1⟩; have Hw3 := hp_fresh Hx H1 (kCons e3 (kCons e1 (kCons e2 kNil))); clear H H1 hh2 hsb2 hst2 hWd3 hWd1 Hx Hw2 hhx hsx; have H := Hp.refl w12)
  refine WL_stepM rfl (R_mv) ?_
  refine WL_step rfl (R_extract rfl rfl) ?_
  refine WL_step rfl (R_extract rfl rfl) ?_
  (refine WL_effn rfl (E_alloc (vs := z0) H Tryz.zeroValue40 rfl) ?_; clear H; intro c11 w140 hc11 H)
  (refine WL_effu rfl (E_storeA (vs := [(.int _ _), (.int _ _), (.int _ _), (.int _ _), (.int _ _), (.slice _ _ _), (.int _ _), (.int _ _), (.slice _ _ _), (.bool _), (.slice _ _ _), (.int _ _)]) H Tryz.sizeOf40 rfl rfl (by simp [Value.oneCell']) .here (Nat.le_of_ble_eq_true rfl)) ?_; clear H; intro w141 H)
  refine WL_stepM rfl (R_as) ?_
  refine WL_nil ?_
  refine W_seq ?_
  refine W_region_l ?_
  refine WL_stepM rfl (R_mv) ?_
  refine WL_nil ?_
  refine W_cond_t rfl ?_
  refine W_region_l ?_
  refine WL_stepM rfl (R_mv) ?_
  refine WL_step rfl (R_loadA (vs := parO 0 0 0 (.slice xa 0 xc)) Tryz.isAgg40 Tryz.sizeOf40 rfl (H.get .here) rfl (by simp [parO, oC])) ?_
  (refine WL_effn rfl (E_buildRows (vss := [parO 0 0 0 (.slice xa 0 xc)]) H Tryz.underlying32 Tryz.sizeOf40 Tryz.zeroValue40 rfl rfl (by decide) rfl rfl (by simp [parO, oC])) ?_; clear H; intro b36 w152 hb36 H)
  (refine WL_effm rfl (E_append (news := parO 0 0 0 (.slice xa 0 xc)) (m := 1) H (AtM.here (M := []) (B := _)) (OwnS.nil _ _ _) Tryz.underlying32 Tryz.typeInfo40 rfl rfl rfl rfl rfl rfl (src_blk (m := 1) (sp := []) Tryz.underlying32 (by rw [List.append_nil]; exact H.get .here) rfl (oC_one rfl rfl rfl)) (by decide) (by simp only [Tryz.t40]; decide)) ?_; clear H; intro vO MO w153 hOO H; obtain ⟨ob, oc, ol, rfl, hob, rfl, _, _⟩ := hOO.pos (by decide))
  refine WL_stepM rfl (R_as) ?_
  refine WL_nil ?_
  refine W_region_l ?_
  refine WL_step rfl (R_add (r := 3) rfl rfl (by decide)) ?_
  refine WL_stepM rfl (R_mv) ?_
  refine WL_nil ?_
  refine Rn_succ ?_
  refine W_seq ?_
  refine W_region_l ?_
  refine WL_step rfl (R_lt_f rfl rfl (by omega)) ?_
  refine WL_nil ?_
  refine W_seq ?_
  refine W_cond_f rfl ?_
  refine W_exit ?_
  refine (if_pos rfl).mpr ?_
  refine W_seq ?_
  refine W_region_l ?_
  refine WL_stepM rfl (R_mv) ?_
  refine WL_stepM rfl (R_as) ?_
  refine WL_stepM rfl (R_as) ?_
  refine WL_nil ?_
  refine W_ret ?_
  (have Hz := Hp.cut (L := [(ob, _)]) (M := _) H (by intro p hp; simp only [List.mem_cons, List.not_mem_nil, or_false] at hp; rcases hp with rfl | rfl; exact hb36; exact hc11); exact ⟨_, rfl, ob, oc, ol, xa, xc, rfl, Nat.le_trans Hw3.size hob, Hw3.seqN Hz (kCons hob kNil)⟩)
end
end Go.Proofs.YtlpmfldijgdcoaaGreatDoor.Wo

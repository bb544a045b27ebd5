/-
  Package pslot's own try; the laws SlotCodes and SlotReads.
-/
import Derived.Test.YtcpkhgdjckogjaaSlotH
import Derived.Test.YtcpkhgdjckogjaaSlotJ
namespace Go.Proofs.Ytcpkhgdjckogjaa.Slot
open Go Go.Proofs Go.Proofs.Ytcpkhgdjckogjaa.Fx Go.Proofs.Ytcpkhgdjckogjaa.Codec
set_option maxRecDepth 100000
set_option linter.unusedVariables false
set_option linter.unusedSimpArgs false
set_option maxHeartbeats 2000000

/-- all of a slot's bytes in one block -/
theorem rdP {w : World} {f : Pi} {b cc : Nat} {e : TypeId} (hb : w.heap[b]? = some (blk ((bytesP f).map U) e)) (h : 24 ≤ cc) : RdS w (sl b 0 24 cc) ((bytesP f).map U) :=
  RdS.blk (c := (bytesP f).map U) (off := 0) hb (by rw [List.drop_zero, List.take_of_length_le (by rw [List.length_map, bytes_len]; decide)]) (by rw [List.length_map, bytes_len]; decide) h

theorem awake_ret (w : World) : Ret Try.prog 29 #[] w fun v w' => v = .bool true ∧ Hp w [] w' := by
  refine Ret_of_W (args := []) Try.func29 rfl Try.ntmps29 Try.results29 (by simp) ?_
  have H := Hp.refl w
  obtain ⟨p1, hp1⟩ : ∃ p1 : Pi, p1 = ⟨1, 0, 0, 0, 0, 0, 0, 0, List.replicate 8 0, rfl⟩ := ⟨_, rfl⟩
  have hp1v : piC p1 = [I 1] ++ List.replicate 15 (I 0) := by rw [hp1]; rfl
  have hs1 : p1.s = 1 := by rw [hp1]
  have hok : okP p1 := by rw [hp1]; decide
  have hr : vP p1 = .agg ([I 1] ++ List.replicate 15 (I 0)).toArray := congrArg (fun l => Value.agg (List.toArray l)) hp1v
  refine W_seq ?_
  refine W_region_l ?_
  refine WL_stepM rfl (R_as) ?_
  refine WL_nil ?_
  refine W_seq ?_
  refine W_region_l ?_
  (refine WL_step rfl (R_buildL (places := [(0, 1), (1, 1), (2, 1), (3, 1), (4, 1), (5, 1), (6, 1), (7, 1), (8, 8)]) (vs := [I 1] ++ List.replicate 15 (I 0)) Try.underlying53 Try.typeInfo53 rfl rfl (by kernel_rfl) rfl rfl rfl) ?_; rw [← hr])
  (refine WL_call rfl (R_call rfl Try.call28 rfl) (enc_yes p1 hok _) ?_; rintro _ w8 ⟨be, rfl, hbe, H1⟩; replace H := H.seqN H1 (kCons hbe kNil); clear H1)
  refine WL_stepM rfl (R_mv) ?_
  refine WL_step rfl (R_extract rfl rfl) ?_
  refine WL_step rfl (R_extract rfl rfl) ?_
  refine WL_stepM rfl (R_as) ?_
  refine WL_stepM rfl (R_as) ?_
  refine WL_nil ?_
  refine W_seq ?_
  refine W_region_l ?_
  (refine WL_effn rfl (E_makeSlice H Try.underlying22 Try.sizeOf5 Try.typeInfo5 Try.zeroValue5 rfl rfl rfl (by decide) (by decide) (by decide) (by decide)) ?_; clear H; intro bz w17 hbz H)
  (refine WL_call rfl (R_call rfl Try.call32 rfl) (dec_to (xs := List.replicate 24 0) (decP_free rfl (by simp)) (RdS.blk (c := (List.replicate 24 0).map U) (off := 0) (H.get .here) rfl (by simp) (by decide)) (by simp)) ?_; rintro _ w18 ⟨rfl, H1⟩; replace H := H.seq0 H1; clear H1)
  refine WL_stepM rfl (R_mv) ?_
  refine WL_step rfl (R_extract rfl rfl) ?_
  refine WL_step rfl (R_extract rfl rfl) ?_
  (refine WL_effn rfl (E_allocP H) ?_; clear H; intro b3 w22 hb3 H)
  (refine WL_effu rfl (E_storeP (q := zeroP) H rfl rfl .here) ?_; clear H; intro w23 H)
  refine WL_stepM rfl (R_as) ?_
  refine WL_nil ?_
  refine W_seq ?_
  refine W_region_l ?_
  refine WL_stepM rfl (R_mv) ?_
  (refine WL_call rfl (R_call rfl Try.call32 rfl) (dec_to (decP_bytes hok) (rdP (H.get (.there (.there .here))) (by decide)) (by rw [bytes_len]; decide)) ?_; rintro _ w29 ⟨rfl, H1⟩; replace H := H.seq0 H1; clear H1)
  refine WL_stepM rfl (R_mv) ?_
  refine WL_step rfl (R_extract rfl rfl) ?_
  refine WL_step rfl (R_extract rfl rfl) ?_
  (refine WL_effn rfl (E_allocP H) ?_; clear H; intro b5 w33 hb5 H)
  (have _g := hb5; refine WL_effu rfl (E_storeP (q := p1) H rfl rfl .here) ?_; clear H; intro w34 H)
  refine WL_stepM rfl (R_as) ?_
  refine WL_nil ?_
  refine W_seq ?_
  refine W_region_l ?_
  refine WL_stepM rfl (R_mv) ?_
  refine WL_stepM rfl (R_mv) ?_
  refine WL_guard_t rfl rfl ?_
  refine WL_stepM rfl (R_mv) ?_
  refine WL_guard_t rfl rfl ?_
  refine WL_step rfl (R_len_slice Try.underlying22 rfl) ?_
  refine WL_guard_t rfl rfl ?_
  refine WL_step rfl (R_eq_t rfl rfl (by omega)) ?_
  refine WL_stepM rfl (R_pk_t rfl) ?_
  refine WL_stepM rfl (R_mv) ?_
  refine WL_guard_t rfl rfl ?_
  refine WL_stepM rfl (R_mv) ?_
  refine WL_guard_t rfl rfl ?_
  refine WL_step rfl (R_eq_t rfl rfl (by omega)) ?_
  refine WL_stepM rfl (R_pk_t rfl) ?_
  refine WL_stepM rfl (R_mv) ?_
  refine WL_guard_t rfl rfl ?_
  refine WL_stepM rfl (R_mv) ?_
  refine WL_guard_t rfl rfl ?_
  refine WL_step rfl (R_eq_t rfl rfl (by omega)) ?_
  refine WL_stepM rfl (R_pk_t rfl) ?_
  refine WL_stepM rfl (R_mv) ?_
  refine WL_guard_t rfl rfl ?_
  refine WL_step rfl (R_fieldAddr (off' := 0) Try.underlying53 rfl Try.sizeOf3 (by decide) rfl rfl) ?_
  refine WL_guard_t rfl rfl ?_
  refine WL_step rfl (R_load (v := I 1) Try.isAgg3 rfl (H.get .here) (by rw [← hs1]; rfl)) ?_
  refine WL_guard_t rfl rfl ?_
  refine WL_step rfl (R_eq_t rfl rfl (by omega)) ?_
  refine WL_stepM rfl (R_pk_t rfl) ?_
  refine WL_stepM rfl (R_as) ?_
  refine WL_nil ?_
  refine W_ret ?_
  exact ⟨_, rfl, rfl, H.none (by repeat' first | exact kNil | apply kCons | apply kApp | assumption | exact OwnS.keys (by assumption))⟩

theorem codes_ret {ls : List Int} (raw : Pi) {w : World} {l : Value} (hl : RdS w l (ls.map fun x => I x)) (hlb : ls.length ≤ 9223372036854775807) :
    Ret Try.prog 9 #[vP raw, l] w fun v w' => v = .bool true ∧ Hp w [] w' := by
  refine Ret_of_W (args := [_, _]) Try.func9 rfl Try.ntmps9 Try.results9 (by simp) ?_
  have H := Hp.refl w
  obtain ⟨al, cl, rfl⟩ := hl.form
  simp only [List.length_map] at hl ⊢
  refine W_seq ?_
  refine W_region_l ?_
  (refine WL_effn rfl (E_boxP H rfl) ?_; clear H; intro b2 w3 hb2 H)
  refine WL_stepM rfl (R_as) ?_
  refine WL_nil ?_
  refine W_seq ?_
  refine W_region_l ?_
  refine WL_step rfl (R_loadP rfl (H.get .here)) ?_
  (refine WL_effn rfl (E_allocP H) ?_; clear H; intro b5 w9 hb5 H)
  (refine WL_effu rfl (E_storeP (q := raw) H rfl rfl .here) ?_; clear H; intro w10 H)
  refine WL_nil ?_
  refine W_seq ?_
  refine W_seq ?_
  refine W_region_l ?_
  refine WL_stepM rfl (R_as) ?_
  refine WL_nil ?_
  refine W_block ?_
  refine W_loopS [(4, 4), (6, 11), (13, 66)] (fun (i : Nat) E w' => ∃ f, i ≤ 2 ∧ (i ≠ 0 → okP f) ∧ E 6 = I i ∧ Hp w [(b5, blk (piC f) 53), (b2, blk (piC raw) 53)] w') (fun i => 2 - i) 0 ?e0 ?r0
  · exact ⟨raw, by omega, fun h => (h rfl).elim, rfl, H⟩
  · (clear H; rintro i E w1 ⟨f, hi, hfi, h0, H⟩; refine W_kn h0 ?_; by_cases hlt : i < 2)
    · refine W_seq ?_
      refine W_seq ?_
      refine W_region_l ?_
      refine WL_stepM rfl (R_mv) ?_
      refine WL_step rfl (R_lt_t rfl rfl (by omega)) ?_
      refine WL_nil ?_
      refine W_cond_t rfl ?_
      refine W_skip ?_
      refine W_seq ?_
      refine W_block ?_
      refine W_seq ?_
      (by_cases hok : okP f) <;> refine W_region_l ?_
      · refine WL_step rfl (R_loadP rfl (H.get .here)) ?_
        (refine WL_call rfl (R_call rfl Try.call28 rfl) (enc_yes f hok _) ?_; rintro _ w33 ⟨b, rfl, hb, H1⟩; have hsz := H.size; replace H := H.seqN H1 (kCons hb kNil); replace hb := Nat.le_trans hsz hb; clear H1 hsz)
        refine WL_stepM rfl (R_mv) ?_
        refine WL_step rfl (R_extract rfl rfl) ?_
        refine WL_step rfl (R_extract rfl rfl) ?_
        refine WL_stepM rfl (R_as) ?_
        refine WL_stepM rfl (R_as) ?_
        refine WL_nil ?_
        refine W_seq ?_
        refine W_region_l ?_
        refine WL_step rfl (R_loadP rfl (H.get (.there .here))) ?_
        (refine WL_call rfl (R_call rfl Try.call30 rfl) (refOk_to (decide_eq_true hok) _) ?_; rintro _ w43 ⟨rfl, H1⟩; replace H := H.seq0 H1; clear H1)
        refine WL_stepM rfl (R_as) ?_
        refine WL_nil ?_
        refine W_seq ?_
        refine W_seq ?_
        (have _g := hb; refine W_draw (KH w [(b, blk ((bytesP f).map U) 5), (b5, blk (piC f) 53)]) (fun _ => false) (by kernel_rfl) H ?_; clear H; intro w48 H)
        refine WA_takeM 0 rfl rfl rfl (by kernel_rfl) (by kernel_rfl) (H.kh (by simp) (by repeat' first | exact kNil | apply kCons | apply kApp | assumption | exact OwnS.keys (by assumption))) (fun _ hC => R_mv) ?_
        refine WA_takeM 1 rfl rfl rfl (by kernel_rfl) (by kernel_rfl) (H.kh (by simp) (by repeat' first | exact kNil | apply kCons | apply kApp | assumption | exact OwnS.keys (by assumption))) (fun _ hC => R_mv) ?_
        refine WA_take 2 rfl rfl rfl (by kernel_rfl) (by kernel_rfl) (H.kh (by simp) (by repeat' first | exact kNil | apply kCons | apply kApp | assumption | exact OwnS.keys (by assumption))) (fun _ hC => R_ne_bool_f Try.underlying4 rfl rfl (by decide)) ?_
        refine WA_takeM 3 rfl rfl rfl (by kernel_rfl) (by kernel_rfl) (H.kh (by simp) (by repeat' first | exact kNil | apply kCons | apply kApp | assumption | exact OwnS.keys (by assumption))) (fun _ hC => R_mv) ?_
        refine WA_takeG 4 rfl rfl rfl rfl (by kernel_rfl) (by kernel_rfl) (H.kh (by simp) (by repeat' first | exact kNil | apply kCons | apply kApp | assumption | exact OwnS.keys (by assumption))) (fun _ hC => R_loadP rfl (hC.get (.there .here))) ?_
        refine WA_takeGM 6 rfl rfl rfl rfl (by kernel_rfl) (by kernel_rfl) (H.kh (by simp) (by repeat' first | exact kNil | apply kCons | apply kApp | assumption | exact OwnS.keys (by assumption))) (fun _ hC => R_mv) ?_
        refine WA_one (i := 5) (by kernel_rfl) ?_
        (refine WI_call rfl (.inr ⟨_, _, rfl, rfl⟩) (R_call rfl Try.call27 rfl) (ok_to (decide_eq_true hok) _) (fun _ _ hR _ => (H.seq0 hR.2).kh (by simp) (by repeat' first | exact kNil | apply kCons | apply kApp | assumption | exact OwnS.keys (by assumption))) ?_; rintro _ w56 ⟨rfl, H1⟩; replace H := H.seq0 H1; clear H1)
        refine WA_takeG 7 rfl rfl rfl rfl (by kernel_rfl) (by kernel_rfl) (H.kh (by simp) (by repeat' first | exact kNil | apply kCons | apply kApp | assumption | exact OwnS.keys (by assumption))) (fun _ hC => R_ne_bool_f Try.underlying4 rfl rfl (by decide)) ?_
        refine WA_takeM 8 rfl rfl rfl (by kernel_rfl) (by kernel_rfl) (H.kh (by simp) (by repeat' first | exact kNil | apply kCons | apply kApp | assumption | exact OwnS.keys (by assumption))) (fun _ hC => R_pk_f rfl) ?_
        refine WA_takeM 9 rfl rfl rfl (by kernel_rfl) (by kernel_rfl) (H.kh (by simp) (by repeat' first | exact kNil | apply kCons | apply kApp | assumption | exact OwnS.keys (by assumption))) (fun _ hC => R_mv) ?_
        refine WA_takeGM 10 rfl rfl rfl rfl (by kernel_rfl) (by kernel_rfl) (H.kh (by simp) (by repeat' first | exact kNil | apply kCons | apply kApp | assumption | exact OwnS.keys (by assumption))) (fun _ hC => R_mv) ?_
        refine WA_takeG 11 rfl rfl rfl rfl (by kernel_rfl) (by kernel_rfl) (H.kh (by simp) (by repeat' first | exact kNil | apply kCons | apply kApp | assumption | exact OwnS.keys (by assumption))) (fun _ hC => R_not_t rfl) ?_
        refine WA_takeGM 12 rfl rfl rfl rfl (by kernel_rfl) (by kernel_rfl) (H.kh (by simp) (by repeat' first | exact kNil | apply kCons | apply kApp | assumption | exact OwnS.keys (by assumption))) (fun _ hC => R_mv) ?_
        refine WA_pass 13 rfl rfl rfl (fun h => nomatch h) (by kernel_rfl) (by kernel_rfl) (H.kh (by simp) (by repeat' first | exact kNil | apply kCons | apply kApp | assumption | exact OwnS.keys (by assumption))) ?_
        refine WA_pass 14 rfl rfl rfl (fun h => nomatch h) (by kernel_rfl) (by kernel_rfl) (H.kh (by simp) (by repeat' first | exact kNil | apply kCons | apply kApp | assumption | exact OwnS.keys (by assumption))) ?_
        refine WA_pass 15 rfl rfl rfl (fun h => nomatch h) (by kernel_rfl) (by kernel_rfl) (H.kh (by simp) (by repeat' first | exact kNil | apply kCons | apply kApp | assumption | exact OwnS.keys (by assumption))) ?_
        refine WA_takeGM 16 rfl rfl rfl rfl (by kernel_rfl) (by kernel_rfl) (H.kh (by simp) (by repeat' first | exact kNil | apply kCons | apply kApp | assumption | exact OwnS.keys (by assumption))) (fun _ hC => R_pk_f rfl) ?_
        refine WA_takeM 17 rfl rfl rfl (by kernel_rfl) (by kernel_rfl) (H.kh (by simp) (by repeat' first | exact kNil | apply kCons | apply kApp | assumption | exact OwnS.keys (by assumption))) (fun _ hC => R_pk_f rfl) ?_
        refine WA_takeM 18 rfl rfl rfl (by kernel_rfl) (by kernel_rfl) (H.kh (by simp) (by repeat' first | exact kNil | apply kCons | apply kApp | assumption | exact OwnS.keys (by assumption))) (fun _ hC => R_mv) ?_
        refine WA_takeGM 19 rfl rfl rfl rfl (by kernel_rfl) (by kernel_rfl) (H.kh (by simp) (by repeat' first | exact kNil | apply kCons | apply kApp | assumption | exact OwnS.keys (by assumption))) (fun _ hC => R_mv) ?_
        refine WA_takeGM 20 rfl rfl rfl rfl (by kernel_rfl) (by kernel_rfl) (H.kh (by simp) (by repeat' first | exact kNil | apply kCons | apply kApp | assumption | exact OwnS.keys (by assumption))) (fun _ hC => R_mv) ?_
        refine WA_takeGM 21 rfl rfl rfl rfl (by kernel_rfl) (by kernel_rfl) (H.kh (by simp) (by repeat' first | exact kNil | apply kCons | apply kApp | assumption | exact OwnS.keys (by assumption))) (fun _ hC => R_mv) ?_
        refine WA_takeG 22 rfl rfl rfl rfl (by kernel_rfl) (by kernel_rfl) (H.kh (by simp) (by repeat' first | exact kNil | apply kCons | apply kApp | assumption | exact OwnS.keys (by assumption))) (fun _ hC => R_conv_bs (xs := bytesP f) Try.underlying22 Try.underlying5 Try.underlying9 rfl (rdP (hC.get .here) (by decide))) ?_
        refine WA_takeG 23 rfl rfl rfl rfl (by kernel_rfl) (by kernel_rfl) (H.kh (by simp) (by repeat' first | exact kNil | apply kCons | apply kApp | assumption | exact OwnS.keys (by assumption))) (fun _ hC => R_loadP rfl (hC.get (.there .here))) ?_
        refine WA_one (i := 24) (by kernel_rfl) ?_
        (refine WI_call rfl (.inr ⟨_, _, rfl, rfl⟩) (R_call rfl Try.call31 rfl) (refBytes_ret f hok _) (fun _ _ hR _ => (H.seq0 hR.2).kh (by simp) (by repeat' first | exact kNil | apply kCons | apply kApp | assumption | exact OwnS.keys (by assumption))) ?_; rintro _ w75 ⟨rfl, H1⟩; replace H := H.seq0 H1; clear H1)
        refine WA_takeG 25 rfl rfl rfl rfl (by kernel_rfl) (by kernel_rfl) (H.kh (by simp) (by repeat' first | exact kNil | apply kCons | apply kApp | assumption | exact OwnS.keys (by assumption))) (fun _ hC => R_ne_S_f rfl rfl rfl) ?_
        refine WA_takeGM 26 rfl rfl rfl rfl (by kernel_rfl) (by kernel_rfl) (H.kh (by simp) (by repeat' first | exact kNil | apply kCons | apply kApp | assumption | exact OwnS.keys (by assumption))) (fun _ hC => R_pk_t rfl) ?_
        refine WA_takeM 27 rfl rfl rfl (by kernel_rfl) (by kernel_rfl) (H.kh (by simp) (by repeat' first | exact kNil | apply kCons | apply kApp | assumption | exact OwnS.keys (by assumption))) (fun _ hC => R_pk_f rfl) ?_
        refine WA_done (by kernel_rfl) ?_
        refine W_cond_f rfl ?_
        refine W_skip ?_
        refine W_seq ?_
        refine W_seq ?_
        refine W_region_l ?_
        refine WL_stepM rfl (R_mv) ?_
        refine WL_nil ?_
        refine W_cond_t rfl ?_
        refine W_seq ?_
        refine W_region_l ?_
        refine WL_stepM rfl (R_mv) ?_
        (refine WL_call rfl (R_call rfl Try.call32 rfl) (dec_to (decP_bytes hok) (rdP (H.get .here) (by decide)) (by rw [bytes_len]; decide)) ?_; rintro _ w91 ⟨rfl, H1⟩; replace H := H.seq0 H1; clear H1)
        refine WL_stepM rfl (R_mv) ?_
        refine WL_step rfl (R_extract rfl rfl) ?_
        refine WL_step rfl (R_extract rfl rfl) ?_
        (refine WL_effn rfl (E_allocP H) ?_; clear H; intro b10 w95 hb10 H)
        (have _g := hb10; refine WL_effu rfl (E_storeP (q := f) H rfl rfl .here) ?_; clear H; intro w96 H)
        refine WL_stepM rfl (R_as) ?_
        refine WL_nil ?_
        refine W_seq ?_
        refine W_region_l ?_
        refine WL_stepM rfl (R_mv) ?_
        refine WL_step rfl (R_ne_f rfl rfl (by omega)) ?_
        refine WL_stepM rfl (R_mv) ?_
        refine WL_guard_t rfl rfl ?_
        refine WL_step rfl (R_loadP rfl (H.get .here)) ?_
        refine WL_guard_t rfl rfl ?_
        refine WL_step rfl (R_loadP rfl (H.get (.there (.there .here)))) ?_
        refine WL_guard_t rfl rfl ?_
        refine WL_step rfl (R_ne_P_f rfl rfl) ?_
        refine WL_stepM rfl (R_pk_f rfl) ?_
        refine WL_nil ?_
        refine W_cond_f rfl ?_
        refine W_skip ?_
        ((have _g := hok; replace H := Hp.dropN (M := [_, _]) H (kCons hb10 (kCons hb kNil)))) <;> refine W_region_l ?_
        refine WL_stepM rfl (R_mv) ?_
        (refine WL_call rfl (R_call rfl Try.call33 rfl) (proc_ret (hl.monoN H (by repeat' first | exact kNil | apply kCons | apply kApp | assumption | exact OwnS.keys (by assumption))) hlb) ?_; rintro _ w116 ⟨pp, hpp, rfl, H1⟩; replace H := H.seq0 H1; clear H1)
        (refine WL_effu rfl (E_storeP (q := pp) H rfl rfl .here) ?_; clear H; intro w117 H)
        refine WL_nil ?_
        refine W_region_l ?_
        refine WL_stepM rfl (R_mv) ?_
        refine WL_step rfl (R_add rfl rfl (w_i64 (by omega))) ?_
        refine WL_stepM rfl (R_as) ?_
        refine WL_nil ?_
        exact ⟨(same_mov rfl (same_updo rfl (same_mov rfl (same_updn (same_updo rfl (same_mov rfl (same_mov rfl (same_updo rfl (same_updo rfl (same_updo rfl (same_mov rfl (same_updo rfl (same_mov rfl (same_mov rfl (same_updn (same_updo rfl (same_updo rfl (same_updo rfl (same_mov rfl (same_updo rfl (same_mov rfl (same_mov rfl (same_mov rfl (same_mov rfl (same_updo rfl (same_updo rfl (same_updo rfl (same_updo rfl (same_mov rfl (same_mov rfl (same_mov rfl (same_mov rfl (same_mov rfl (same_mov rfl (same_updo rfl (same_updo rfl (same_updo rfl (same_mov rfl (same_updo rfl (same_mov rfl (same_mov rfl (same_mov rfl (same_updo rfl (same_updo rfl (same_mov rfl (same_updo rfl (same_mov rfl (same_updo rfl (same_mov rfl (same_mov rfl (same_mov rfl (same_updo rfl (same_updo rfl (same_mov rfl (same_mov rfl (same_updo rfl (same_updo rfl (same_mov rfl (same_updo rfl (same_updo rfl (same_updo rfl (same_mov rfl same_ovr)))))))))))))))))))))))))))))))))))))))))))))))))))))))))))))), i + 1, by omega, pp, by omega, fun _ => hpp, rfl, H⟩
      · refine WL_step rfl (R_loadP rfl (H.get .here)) ?_
        (refine WL_call rfl (R_call rfl Try.call28 rfl) (enc_no f hok _) ?_; rintro _ w126 ⟨rfl, H1⟩; replace H := H.seq0 H1; clear H1)
        refine WL_stepM rfl (R_mv) ?_
        refine WL_step rfl (R_extract rfl rfl) ?_
        refine WL_step rfl (R_extract rfl rfl) ?_
        refine WL_stepM rfl (R_as) ?_
        refine WL_stepM rfl (R_as) ?_
        refine WL_nil ?_
        refine W_seq ?_
        refine W_region_l ?_
        refine WL_step rfl (R_loadP rfl (H.get .here)) ?_
        (refine WL_call rfl (R_call rfl Try.call30 rfl) (refOk_to (decide_eq_false hok) _) ?_; rintro _ w136 ⟨rfl, H1⟩; replace H := H.seq0 H1; clear H1)
        refine WL_stepM rfl (R_as) ?_
        refine WL_nil ?_
        refine W_seq ?_
        refine W_seq ?_
        (refine W_draw (KH w [(b5, blk (piC f) 53)]) (fun _ => false) (by kernel_rfl) H ?_; clear H; intro w141 H)
        refine WA_takeM 0 rfl rfl rfl (by kernel_rfl) (by kernel_rfl) (H.kh (by simp) (by repeat' first | exact kNil | apply kCons | apply kApp | assumption | exact OwnS.keys (by assumption))) (fun _ hC => R_mv) ?_
        refine WA_takeM 1 rfl rfl rfl (by kernel_rfl) (by kernel_rfl) (H.kh (by simp) (by repeat' first | exact kNil | apply kCons | apply kApp | assumption | exact OwnS.keys (by assumption))) (fun _ hC => R_mv) ?_
        refine WA_take 2 rfl rfl rfl (by kernel_rfl) (by kernel_rfl) (H.kh (by simp) (by repeat' first | exact kNil | apply kCons | apply kApp | assumption | exact OwnS.keys (by assumption))) (fun _ hC => R_ne_bool_f Try.underlying4 rfl rfl (by decide)) ?_
        refine WA_takeM 3 rfl rfl rfl (by kernel_rfl) (by kernel_rfl) (H.kh (by simp) (by repeat' first | exact kNil | apply kCons | apply kApp | assumption | exact OwnS.keys (by assumption))) (fun _ hC => R_mv) ?_
        refine WA_takeG 4 rfl rfl rfl rfl (by kernel_rfl) (by kernel_rfl) (H.kh (by simp) (by repeat' first | exact kNil | apply kCons | apply kApp | assumption | exact OwnS.keys (by assumption))) (fun _ hC => R_loadP rfl (hC.get .here)) ?_
        refine WA_takeGM 6 rfl rfl rfl rfl (by kernel_rfl) (by kernel_rfl) (H.kh (by simp) (by repeat' first | exact kNil | apply kCons | apply kApp | assumption | exact OwnS.keys (by assumption))) (fun _ hC => R_mv) ?_
        refine WA_one (i := 5) (by kernel_rfl) ?_
        (refine WI_call rfl (.inr ⟨_, _, rfl, rfl⟩) (R_call rfl Try.call27 rfl) (ok_to (decide_eq_false hok) _) (fun _ _ hR _ => (H.seq0 hR.2).kh (by simp) (by repeat' first | exact kNil | apply kCons | apply kApp | assumption | exact OwnS.keys (by assumption))) ?_; rintro _ w149 ⟨rfl, H1⟩; replace H := H.seq0 H1; clear H1)
        refine WA_takeG 7 rfl rfl rfl rfl (by kernel_rfl) (by kernel_rfl) (H.kh (by simp) (by repeat' first | exact kNil | apply kCons | apply kApp | assumption | exact OwnS.keys (by assumption))) (fun _ hC => R_ne_bool_f Try.underlying4 rfl rfl (by decide)) ?_
        refine WA_takeM 8 rfl rfl rfl (by kernel_rfl) (by kernel_rfl) (H.kh (by simp) (by repeat' first | exact kNil | apply kCons | apply kApp | assumption | exact OwnS.keys (by assumption))) (fun _ hC => R_pk_f rfl) ?_
        refine WA_takeM 9 rfl rfl rfl (by kernel_rfl) (by kernel_rfl) (H.kh (by simp) (by repeat' first | exact kNil | apply kCons | apply kApp | assumption | exact OwnS.keys (by assumption))) (fun _ hC => R_mv) ?_
        refine WA_takeGM 10 rfl rfl rfl rfl (by kernel_rfl) (by kernel_rfl) (H.kh (by simp) (by repeat' first | exact kNil | apply kCons | apply kApp | assumption | exact OwnS.keys (by assumption))) (fun _ hC => R_mv) ?_
        refine WA_takeG 11 rfl rfl rfl rfl (by kernel_rfl) (by kernel_rfl) (H.kh (by simp) (by repeat' first | exact kNil | apply kCons | apply kApp | assumption | exact OwnS.keys (by assumption))) (fun _ hC => R_not_f rfl) ?_
        refine WA_takeGM 12 rfl rfl rfl rfl (by kernel_rfl) (by kernel_rfl) (H.kh (by simp) (by repeat' first | exact kNil | apply kCons | apply kApp | assumption | exact OwnS.keys (by assumption))) (fun _ hC => R_mv) ?_
        refine WA_takeGM 13 rfl rfl rfl rfl (by kernel_rfl) (by kernel_rfl) (H.kh (by simp) (by repeat' first | exact kNil | apply kCons | apply kApp | assumption | exact OwnS.keys (by assumption))) (fun _ hC => R_mv) ?_
        refine WA_takeG 14 rfl rfl rfl rfl (by kernel_rfl) (by kernel_rfl) (H.kh (by simp) (by repeat' first | exact kNil | apply kCons | apply kApp | assumption | exact OwnS.keys (by assumption))) (fun _ hC => R_len_slice Try.underlying22 rfl) ?_
        refine WA_takeG 15 rfl rfl rfl rfl (by kernel_rfl) (by kernel_rfl) (H.kh (by simp) (by repeat' first | exact kNil | apply kCons | apply kApp | assumption | exact OwnS.keys (by assumption))) (fun _ hC => R_ne_f rfl rfl (by omega)) ?_
        refine WA_takeGM 16 rfl rfl rfl rfl (by kernel_rfl) (by kernel_rfl) (H.kh (by simp) (by repeat' first | exact kNil | apply kCons | apply kApp | assumption | exact OwnS.keys (by assumption))) (fun _ hC => R_pk_t rfl) ?_
        refine WA_takeM 17 rfl rfl rfl (by kernel_rfl) (by kernel_rfl) (H.kh (by simp) (by repeat' first | exact kNil | apply kCons | apply kApp | assumption | exact OwnS.keys (by assumption))) (fun _ hC => R_pk_f rfl) ?_
        refine WA_takeM 18 rfl rfl rfl (by kernel_rfl) (by kernel_rfl) (H.kh (by simp) (by repeat' first | exact kNil | apply kCons | apply kApp | assumption | exact OwnS.keys (by assumption))) (fun _ hC => R_mv) ?_
        refine WA_takeGM 19 rfl rfl rfl rfl (by kernel_rfl) (by kernel_rfl) (H.kh (by simp) (by repeat' first | exact kNil | apply kCons | apply kApp | assumption | exact OwnS.keys (by assumption))) (fun _ hC => R_mv) ?_
        refine WA_takeGM 20 rfl rfl rfl rfl (by kernel_rfl) (by kernel_rfl) (H.kh (by simp) (by repeat' first | exact kNil | apply kCons | apply kApp | assumption | exact OwnS.keys (by assumption))) (fun _ hC => R_mv) ?_
        refine WA_pass 21 rfl rfl rfl (fun h => nomatch h) (by kernel_rfl) (by kernel_rfl) (H.kh (by simp) (by repeat' first | exact kNil | apply kCons | apply kApp | assumption | exact OwnS.keys (by assumption))) ?_
        refine WA_pass 22 rfl rfl rfl (fun h => nomatch h) (by kernel_rfl) (by kernel_rfl) (H.kh (by simp) (by repeat' first | exact kNil | apply kCons | apply kApp | assumption | exact OwnS.keys (by assumption))) ?_
        refine WA_pass 23 rfl rfl rfl (fun h => nomatch h) (by kernel_rfl) (by kernel_rfl) (H.kh (by simp) (by repeat' first | exact kNil | apply kCons | apply kApp | assumption | exact OwnS.keys (by assumption))) ?_
        refine WA_pass 24 rfl rfl rfl (fun h => nomatch h) (by kernel_rfl) (by kernel_rfl) (H.kh (by simp) (by repeat' first | exact kNil | apply kCons | apply kApp | assumption | exact OwnS.keys (by assumption))) ?_
        refine WA_pass 25 rfl rfl rfl (fun h => nomatch h) (by kernel_rfl) (by kernel_rfl) (H.kh (by simp) (by repeat' first | exact kNil | apply kCons | apply kApp | assumption | exact OwnS.keys (by assumption))) ?_
        refine WA_takeGM 26 rfl rfl rfl rfl (by kernel_rfl) (by kernel_rfl) (H.kh (by simp) (by repeat' first | exact kNil | apply kCons | apply kApp | assumption | exact OwnS.keys (by assumption))) (fun _ hC => R_pk_f rfl) ?_
        refine WA_takeM 27 rfl rfl rfl (by kernel_rfl) (by kernel_rfl) (H.kh (by simp) (by repeat' first | exact kNil | apply kCons | apply kApp | assumption | exact OwnS.keys (by assumption))) (fun _ hC => R_pk_f rfl) ?_
        refine WA_done (by kernel_rfl) ?_
        refine W_cond_f rfl ?_
        refine W_skip ?_
        refine W_seq ?_
        refine W_seq ?_
        refine W_region_l ?_
        refine WL_stepM rfl (R_mv) ?_
        refine WL_nil ?_
        refine W_cond_f rfl ?_
        refine W_skip ?_
        refine W_region_l ?_
        refine WL_stepM rfl (R_mv) ?_
        (refine WL_call rfl (R_call rfl Try.call33 rfl) (proc_ret (hl.monoN H (by repeat' first | exact kNil | apply kCons | apply kApp | assumption | exact OwnS.keys (by assumption))) hlb) ?_; rintro _ w183 ⟨pp, hpp, rfl, H1⟩; replace H := H.seq0 H1; clear H1)
        (refine WL_effu rfl (E_storeP (q := pp) H rfl rfl .here) ?_; clear H; intro w184 H)
        refine WL_nil ?_
        refine W_region_l ?_
        refine WL_stepM rfl (R_mv) ?_
        refine WL_step rfl (R_add rfl rfl (w_i64 (by omega))) ?_
        refine WL_stepM rfl (R_as) ?_
        refine WL_nil ?_
        exact ⟨(same_mov rfl (same_updo rfl (same_mov rfl (same_updn (same_updo rfl (same_mov rfl (same_mov rfl (same_mov rfl (same_mov rfl (same_updo rfl (same_updo rfl (same_updo rfl (same_updo rfl (same_updo rfl (same_mov rfl (same_mov rfl (same_mov rfl (same_mov rfl (same_mov rfl (same_updo rfl (same_updo rfl (same_mov rfl (same_mov rfl (same_updo rfl (same_mov rfl (same_mov rfl (same_mov rfl (same_updo rfl (same_updo rfl (same_mov rfl (same_updo rfl (same_mov rfl (same_updo rfl (same_mov rfl (same_mov rfl (same_mov rfl (same_updo rfl (same_updo rfl (same_mov rfl (same_mov rfl (same_updo rfl (same_updo rfl (same_mov rfl (same_updo rfl (same_updo rfl (same_updo rfl (same_mov rfl same_ovr))))))))))))))))))))))))))))))))))))))))))))))), i + 1, by omega, pp, by omega, fun _ => hpp, rfl, H⟩
    · refine W_seq ?_
      refine W_seq ?_
      refine W_region_l ?_
      refine WL_stepM rfl (R_mv) ?_
      refine WL_step rfl (R_lt_f rfl rfl (by omega)) ?_
      refine WL_nil ?_
      refine W_cond_f rfl ?_
      refine W_exit ?_
      refine (if_pos rfl).mpr ?_
      refine W_seq ?_
      refine W_region_l ?_
      refine WL_step rfl (R_loadP rfl (H.get .here)) ?_
      (refine WL_call rfl (R_call rfl Try.call30 rfl) (refOk_to (decide_eq_true (hfi (by omega))) _) ?_; rintro _ w204 ⟨rfl, H1⟩; replace H := H.seq0 H1; clear H1)
      refine WL_stepM rfl (R_mv) ?_
      refine WL_guard_t rfl rfl ?_
      (refine WL_call rfl (R_call rfl Try.call29 rfl) (awake_ret _) ?_; rintro _ w207 ⟨rfl, H1⟩; replace H := H.seq0 H1; clear H1)
      refine WL_stepM rfl (R_pk_t rfl) ?_
      refine WL_stepM rfl (R_as) ?_
      refine WL_nil ?_
      refine W_ret ?_
      exact ⟨_, rfl, rfl, H.none (by repeat' first | exact kNil | apply kCons | apply kApp | assumption | exact OwnS.keys (by assumption))⟩

/-- the three rows of bytes that are looked at -/
theorem pick3 {w : World} {xs ys : List UInt8} {ao : Option Addr} {ca bc cc m i : Nat} {sp : List Value} {fz : Nat × Nat} (hl : RdS w (.slice ao xs.length ca) (xs.map U)) (hyl : ys.length = 24) (hi : i < 3) (hbc : w.heap.size ≤ bc) (hcc : 24 ≤ cc) (hlen : xs.length ≤ 100) (hm : m ≤ 24) :
    ∃ (v : Value) (zs : List UInt8), [.slice ao xs.length ca, sl bc 0 24 cc, sl bc 0 m cc][i]? = some v ∧ (∀ w2 L, Hp w ((bc, .cells (ys.map U ++ sp).toArray 5 fz) :: L) w2 → (∀ p ∈ L, w.heap.size ≤ p.1) → RdS w2 v (zs.map U)) ∧ zs.length ≤ 100 := by
  match i, hi with
  | 0, _ => exact ⟨_, xs, rfl, fun w2 L H hL => hl.monoN H (kCons hbc hL), hlen⟩
  | 1, _ => exact ⟨_, ys, rfl, fun w2 L H hL => RdS.blk (H.get .here) (by rw [List.drop_zero, List.take_left' (by simpa using hyl)]) (by simp; omega) hcc, by omega⟩
  | 2, _ => exact ⟨_, ys.take m, rfl, fun w2 L H hL => RdS.blk (H.get .here) (by rw [List.drop_zero, List.take_append_of_le_length (by simp; omega), List.map_take]) (by simp; omega) (by omega), by simp; omega⟩

theorem reads_ret {xs : List UInt8} {ls : List Int} {w : World} {l m : Value} (at_ : Int) (to : UInt8) (cut : Int) (hl : RdS w l (xs.map U)) (hm : RdS w m (ls.map fun x => I x)) (hb : xs.length ≤ 9223372036854775807) (hlb : ls.length ≤ 9223372036854775807) :
    Ret Try.prog 10 #[l, m, I at_, U to, I cut] w fun v w' => v = .bool true ∧ Hp w [] w' := by
  refine Ret_of_W (args := [_, _, _, _, _]) Try.func10 rfl Try.ntmps10 Try.results10 (by simp) ?_
  have H := Hp.refl w
  obtain ⟨ao, ca, rfl⟩ := hl.form
  obtain ⟨am, cm, rfl⟩ := hm.form
  simp only [List.length_map] at hl hm ⊢
  by_cases hlen : xs.length ≤ 100
  · obtain ⟨k, hk, hk24⟩ : ∃ k : Nat, at_ % 65536 % 24 = (k : Int) ∧ k < 24 := ⟨(at_ % 65536 % 24).toNat, by omega, by omega⟩
    obtain ⟨c, hc, hc25⟩ : ∃ m : Nat, cut % 256 % 25 = (m : Int) ∧ m < 25 := ⟨(cut % 256 % 25).toNat, by omega, by omega⟩
    refine W_seq ?_
    refine W_region_l ?_
    refine WL_stepM rfl (R_as) ?_
    refine WL_nil ?_
    refine W_seq ?_
    refine W_seq ?_
    refine W_region_l ?_
    refine WL_stepM rfl (R_mv) ?_
    refine WL_step rfl (R_len_slice Try.underlying22 rfl) ?_
    refine WL_step rfl (R_gt_f rfl rfl (by omega)) ?_
    refine WL_nil ?_
    refine W_cond_f rfl ?_
    refine W_skip ?_
    refine W_seq ?_
    refine W_region_l ?_
    refine WL_stepM rfl (R_mv) ?_
    (refine WL_call rfl (R_call rfl Try.call33 rfl) (proc_ret (hm.monoN H (by repeat' first | exact kNil | apply kCons | apply kApp | assumption | exact OwnS.keys (by assumption))) hlb) ?_; rintro _ w17 ⟨f, hfa, rfl, H1⟩; replace H := H.seq0 H1; clear H1; obtain ⟨ys, hys⟩ : ∃ ys, (bytesP f).set k to = ys := ⟨_, rfl⟩; have hyl : ys.length = 24 := (by rw [← hys]; simp [bytes_len]))
    (refine WL_call rfl (R_call rfl Try.call31 rfl) (refBytes_ret f hfa _) ?_; rintro _ w18 ⟨rfl, H1⟩; replace H := H.seq0 H1; clear H1)
    (refine WL_effm rfl (E_conv_sb (xs := bytesP f) H Try.underlying9 Try.underlying22 Try.underlying5 rfl) ?_; clear H; rintro _ ⟨bc, _⟩ w19 ⟨cc, sp, rfl, rfl, hcc, hbc⟩ H; rw [bytes_len] at hcc; rw [bytes_len])
    refine WL_stepM rfl (R_as) ?_
    refine WL_nil ?_
    refine W_seq ?_
    refine W_region_l ?_
    refine WL_stepM rfl (R_mv) ?_
    refine WL_stepM rfl (R_mv) ?_
    refine WL_step rfl (R_bits rfl rfl (by simp) (and_mask_i64 16 65536 (by decide) rfl (by decide))) ?_
    refine WL_step rfl (R_rem (r := (k : Int)) rfl rfl (by omega) ((rem_pos (by omega)).trans hk)) ?_
    refine WL_stepM rfl (R_mv) ?_
    refine WL_step rfl (R_indexAddr Try.underlying22 Try.sizeOf5 rfl rfl (by omega) (by omega) idx0_cast) ?_
    (refine WL_effu rfl (E_storeF (v := U to) H Try.sizeOf5 rfl rfl rfl .here (by simp [bytes_len]; omega) (by simp [bytes_len]; omega)) ?_; clear H; intro w30 H; rw [List.set_append_left _ _ (by simp [bytes_len]; exact hk24), ← List.map_set, hys] at H)
    refine WL_nil ?_
    refine W_seq ?_
    refine W_seq ?_
    refine W_region_l ?_
    refine WL_stepM rfl (R_as) ?_
    refine WL_nil ?_
    refine W_block ?_
    refine W_loopS [(10, 10), (12, 17), (32, 65)] (fun (i : Nat) E w' => ∃ sp fz, i ≤ 3 ∧ E 12 = I i ∧ Hp w [(bc, .cells (ys.map U ++ sp).toArray 5 fz)] w') (fun i => 3 - i) 0 ?e0 ?r0
    · exact ⟨_, _, by omega, rfl, H⟩
    · (clear H; rintro i E w1 ⟨sp, fz, hi, h0, H⟩; refine W_kn h0 ?_; by_cases hlt : i < 3)
      · refine W_seq ?_
        refine W_seq ?_
        refine W_region_l ?_
        refine WL_stepM rfl (R_mv) ?_
        refine WL_step rfl (R_lt_t rfl rfl (by omega)) ?_
        refine WL_nil ?_
        refine W_cond_t rfl ?_
        refine W_skip ?_
        refine W_seq ?_
        refine W_block ?_
        refine W_seq ?_
        refine W_region_l ?_
        refine WL_stepM rfl (R_mv) ?_
        refine WL_stepM rfl (R_mv) ?_
        refine WL_stepM rfl (R_mv) ?_
        refine WL_stepM rfl (R_mv) ?_
        refine WL_step rfl (R_bits rfl rfl (by simp) (and_mask_i64 8 256 (by decide) rfl (by decide))) ?_
        refine WL_step rfl (R_rem (r := (c : Int)) rfl rfl (by omega) ((rem_pos (by omega)).trans hc)) ?_
        (refine WL_step rfl (R_to (i := c) Try.underlying22 Try.sizeOf5 rfl rfl hcc (by omega)) ?_)
        (refine WL_effn rfl (E_buildOnes (vs := [.slice ao xs.length ca, sl bc 0 24 cc, sl bc 0 c cc]) H Try.underlying38 Try.sizeOf22 Try.zeroValue22 rfl rfl (by decide) rfl rfl (by simp [Value.oneCell'])) ?_; clear H; intro b3 w59 hb3 H)
        refine WL_stepM rfl (R_mv) ?_
        refine WL_step rfl (R_indexAddr Try.underlying38 Try.sizeOf22 rfl rfl (by omega) (by omega) idx0_cast) ?_
        (obtain ⟨v, zs, hv, hzr, hzl⟩ : ∃ (v : Value) (zs : List UInt8), [.slice ao xs.length ca, sl bc 0 24 cc, sl bc 0 c cc][i]? = some v ∧ (∀ w2 L, Hp w ((bc, .cells (ys.map U ++ sp).toArray 5 fz) :: L) w2 → (∀ p ∈ L, w.heap.size ≤ p.1) → RdS w2 v (zs.map U)) ∧ zs.length ≤ 100 := pick3 hl hyl hlt hbc hcc hlen (by omega); refine WL_step rfl (R_load (v := v) Try.isAgg22 rfl (H.get .here) hv) ?_; replace H := H.pop hb3)
        refine WL_stepM rfl (R_as) ?_
        refine WL_nil ?_
        refine W_seq ?_
        (obtain ⟨⟨g, d⟩, hdec⟩ : ∃ x, decP zs = x := ⟨_, rfl⟩) <;> refine W_region_l ?_
        refine WL_stepM rfl (R_mv) ?_
        (refine WL_call rfl (R_call rfl Try.call32 rfl) (dec_to hdec (hzr _ _ H (by repeat' first | exact kNil | apply kCons | apply kApp | assumption | exact OwnS.keys (by assumption))) (by omega)) ?_; rintro _ w68 ⟨rfl, H1⟩; replace H := H.seq0 H1; clear H1)
        refine WL_stepM rfl (R_mv) ?_
        refine WL_step rfl (R_extract rfl rfl) ?_
        refine WL_step rfl (R_extract rfl rfl) ?_
        (refine WL_effn rfl (E_allocP H) ?_; clear H; intro b14 w72 hb14 H)
        (refine WL_effu rfl (E_storeP (q := g) H rfl rfl .here) ?_; clear H; intro w73 H)
        refine WL_stepM rfl (R_as) ?_
        refine WL_nil ?_
        refine W_seq ?_
        refine W_region_l ?_
        refine WL_stepM rfl (R_mv) ?_
        refine WL_step rfl (R_conv_bs (xs := zs) Try.underlying22 Try.underlying5 Try.underlying9 rfl (hzr _ _ H.swap2 (by repeat' first | exact kNil | apply kCons | apply kApp | assumption | exact OwnS.keys (by assumption)))) ?_
        (refine WL_call rfl (R_call rfl Try.call34 rfl) (refOf_to hdec (by omega)) ?_; rintro _ w80 ⟨rfl, H1⟩; replace H := H.seq0 H1; clear H1)
        refine WL_stepM rfl (R_mv) ?_
        refine WL_step rfl (R_extract rfl rfl) ?_
        refine WL_step rfl (R_extract rfl rfl) ?_
        (refine WL_effn rfl (E_allocP H) ?_; clear H; intro b16 w84 hb16 H)
        (refine WL_effu rfl (E_storeP (q := g) H rfl rfl .here) ?_; clear H; intro w85 H)
        refine WL_stepM rfl (R_as) ?_
        refine WL_nil ?_
        refine W_seq ?_
        refine W_region_l ?_
        refine WL_step rfl (R_loadP rfl (H.get (.there .here))) ?_
        refine WL_step rfl (R_loadP rfl (H.get .here)) ?_
        refine WL_step rfl (R_ne_P_f rfl rfl) ?_
        refine WL_stepM rfl (R_mv) ?_
        refine WL_guard_t rfl rfl ?_
        refine WL_stepM rfl (R_mv) ?_
        refine WL_guard_t rfl rfl ?_
        refine WL_stepM rfl (R_mv) ?_
        refine WL_guard_t rfl rfl ?_
        refine WL_step rfl (R_ne_f rfl rfl rfl) ?_
        refine WL_stepM rfl (R_pk_f rfl) ?_
        refine WL_nil ?_
        refine W_cond_f rfl ?_
        refine W_skip ?_
        refine W_region_l ?_
        refine WL_stepM rfl (R_mv) ?_
        refine WL_step rfl (R_add rfl rfl (w_i64 (by omega))) ?_
        refine WL_stepM rfl (R_as) ?_
        refine WL_nil ?_
        exact ⟨(same_mov rfl (same_updo rfl (same_mov rfl (same_mov rfl (same_updo rfl (same_mov rfl (same_mov rfl (same_mov rfl (same_updo rfl (same_updo rfl (same_updo rfl (same_mov rfl (same_updn (same_updo rfl (same_updo rfl (same_updo rfl (same_mov rfl (same_updo rfl (same_updo rfl (same_mov rfl (same_mov rfl (same_updn (same_updo rfl (same_updo rfl (same_updo rfl (same_mov rfl (same_updo rfl (same_mov rfl (same_mov rfl (same_updo rfl (same_updo rfl (same_mov rfl (same_updo rfl (same_updo rfl (same_updo rfl (same_updo rfl (same_mov rfl (same_mov rfl (same_mov rfl (same_mov rfl (same_updo rfl (same_mov rfl same_ovr)))))))))))))))))))))))))))))))))))))))))), i + 1, by omega, sp, fz, by omega, rfl, (H.pop hb16).pop hb14⟩
      · refine W_seq ?_
        refine W_seq ?_
        refine W_region_l ?_
        refine WL_stepM rfl (R_mv) ?_
        refine WL_step rfl (R_lt_f rfl rfl (by omega)) ?_
        refine WL_nil ?_
        refine W_cond_f rfl ?_
        refine W_exit ?_
        refine (if_pos rfl).mpr ?_
        refine W_seq ?_
        refine W_region_l ?_
        (refine WL_call rfl (R_call rfl Try.call29 rfl) (awake_ret _) ?_; rintro _ w121 ⟨rfl, H1⟩; replace H := H.seq0 H1; clear H1)
        refine WL_stepM rfl (R_as) ?_
        refine WL_nil ?_
        refine W_ret ?_
        exact ⟨_, rfl, rfl, H.none (by repeat' first | exact kNil | apply kCons | apply kApp | assumption | exact OwnS.keys (by assumption))⟩
  · refine W_seq ?_
    refine W_region_l ?_
    refine WL_stepM rfl (R_as) ?_
    refine WL_nil ?_
    refine W_seq ?_
    refine W_seq ?_
    refine W_region_l ?_
    refine WL_stepM rfl (R_mv) ?_
    refine WL_step rfl (R_len_slice Try.underlying22 rfl) ?_
    refine WL_step rfl (R_gt_t rfl rfl (by omega)) ?_
    refine WL_nil ?_
    refine W_cond_t rfl ?_
    refine W_seq ?_
    refine W_region_l ?_
    (refine WL_call rfl (R_call rfl Try.call29 rfl) (awake_ret _) ?_; rintro _ w15 ⟨rfl, H1⟩; replace H := H.seq0 H1; clear H1)
    refine WL_stepM rfl (R_as) ?_
    refine WL_nil ?_
    refine W_ret ?_
    exact ⟨_, rfl, rfl, H.none (by repeat' first | exact kNil | apply kCons | apply kApp | assumption | exact OwnS.keys (by assumption))⟩
end Go.Proofs.Ytcpkhgdjckogjaa.Slot

/-
  The law RingCodes.
-/
import Derived.Test.YtcpkhgdjckogjaaRingM
namespace Go.Proofs.Ytcpkhgdjckogjaa.Ring
open Go Go.Proofs Go.Proofs.Ytcpkhgdjckogjaa.Fx Go.Proofs.Ytcpkhgdjckogjaa.Codec
set_option maxRecDepth 100000
set_option linter.unusedVariables false
set_option linter.unusedSimpArgs false
set_option maxHeartbeats 2000000

/-- all of a pipe's bytes in one block -/
theorem rdP {w : World} {f : Pi} {b cc : Nat} {e : TypeId} (hb : w.heap[b]? = some (blk ((bytesP f).map U) e)) (h : 40 ≤ cc) : RdS w (sl b 0 40 cc) ((bytesP f).map U) :=
  RdS.blk (c := (bytesP f).map U) (off := 0) hb (by rw [List.drop_zero, List.take_of_length_le (by rw [List.length_map, bytes_len]; decide)]) (by rw [List.length_map, bytes_len]; decide) h

/-- the two rows of bytes that are looked at -/
theorem pick2 {w : World} {xs ys : List UInt8} {ao : Option Addr} {ca bc cc i : Nat} {sp : List Value} {fz : Nat × Nat} (hl : RdS w (.slice ao xs.length ca) (xs.map U)) (hyl : ys.length = 40) (hi : i < 2) (hbc : w.heap.size ≤ bc) (hcc : 40 ≤ cc) (hlen : xs.length ≤ 100) :
    ∃ (v : Value) (zs : List UInt8), [.slice ao xs.length ca, sl bc 0 40 cc][i]? = some v ∧ (∀ w2 L, Hp w ((bc, .cells (ys.map U ++ sp).toArray 5 fz) :: L) w2 → (∀ p ∈ L, w.heap.size ≤ p.1) → RdS w2 v (zs.map U)) ∧ zs.length ≤ 100 := by
  match i, hi with
  | 0, _ => exact ⟨_, xs, rfl, fun w2 L H hL => hl.monoN H (kCons hbc hL), hlen⟩
  | 1, _ => exact ⟨_, ys, rfl, fun w2 L H hL => RdS.blk (H.get .here) (by rw [List.drop_zero, List.take_left' (by simpa using hyl)]) (by simp; omega) hcc, by omega⟩

theorem codes_ret {ds bs : List UInt8} (raw : Pi) (x a : Int) (to : UInt8) {w : World} {l m : Value} (hl : RdS w l (ds.map U)) (hm : RdS w m (bs.map U)) (hlb : ds.length ≤ 9223372036854775807) (hmb : bs.length ≤ 9223372036854775807) :
    Ret Try.prog 4 #[vP raw, I x, l, m, I a, U to] w fun v w' => v = .bool true ∧ Hp w [] w' := by
  refine Ret_of_W (args := [_, _, _, _, _, _]) Try.func4 rfl Try.ntmps4 Try.results4 (by simp) ?_
  have H := Hp.refl w
  obtain ⟨al, cl, rfl⟩ := hl.form
  obtain ⟨ao, ca, rfl⟩ := hm.form
  simp only [List.length_map] at hl hm ⊢
  by_cases hlen : bs.length ≤ 100
  · obtain ⟨pp, hpp⟩ : ∃ p, pipeN x ds = p := ⟨_, rfl⟩
    have hfa : okP pp := by rw [← hpp]; exact pipeN_ok x ds
    obtain ⟨k, hk, hk40⟩ : ∃ k : Nat, a % 65536 % 40 = (k : Int) ∧ k < 40 := ⟨(a % 65536 % 40).toNat, by omega, by omega⟩
    obtain ⟨ys, hys⟩ : ∃ ys, (bytesP pp).set k to = ys := ⟨_, rfl⟩
    have hyl : ys.length = 40 := by rw [← hys]; simp [bytes_len]
    refine W_seq ?_
    refine W_region_l ?_
    (refine WL_effn rfl (E_boxP H rfl) ?_; clear H; intro b6 w3 hb6 H)
    refine WL_stepM rfl (R_as) ?_
    refine WL_nil ?_
    refine W_seq ?_
    refine W_seq ?_
    refine W_region_l ?_
    refine WL_stepM rfl (R_mv) ?_
    refine WL_step rfl (R_len_slice Try.underlying22 rfl) ?_
    refine WL_step rfl (R_gt_f rfl rfl (by omega)) ?_
    refine WL_stepM rfl (R_mv) ?_
    refine WL_guard_t rfl rfl ?_
    refine WL_stepM rfl (R_mv) ?_
    refine WL_guard_t rfl rfl ?_
    refine WL_step rfl (R_len_slice Try.underlying22 rfl) ?_
    refine WL_guard_t rfl rfl ?_
    refine WL_step rfl (R_gt rfl rfl) ?_
    refine WL_stepM rfl (R_pk_f rfl) ?_
    refine WL_nil ?_
    refine W_if rfl (fun h21 => ?_) (fun h21 => ?_)
    · refine W_seq ?_
      refine W_region_l ?_
      (refine WL_call rfl (R_call rfl Try.call14 rfl) (awake_ret _) ?_; rintro _ w24 ⟨rfl, H1⟩; replace H := H.seq0 H1; clear H1)
      refine WL_stepM rfl (R_as) ?_
      refine WL_nil ?_
      refine W_ret ?_
      exact ⟨_, rfl, rfl, H.none (by repeat' first | exact kNil | apply kCons | apply kApp | assumption | exact OwnS.keys (by assumption))⟩
    · refine W_skip ?_
      refine W_seq ?_
      refine W_region_l ?_
      refine WL_step rfl (R_loadP rfl (H.get .here)) ?_
      (refine WL_effn rfl (E_allocP H) ?_; clear H; intro b13 w33 hb13 H)
      (refine WL_effu rfl (E_storeP (q := raw) H rfl rfl .here) ?_; clear H; intro w34 H)
      refine WL_nil ?_
      refine W_seq ?_
      refine W_seq ?_
      refine W_region_l ?_
      refine WL_stepM rfl (R_as) ?_
      refine WL_nil ?_
      refine W_block ?_
      refine W_loopS [(12, 12), (14, 19), (37, 91)] (fun (i : Nat) E w' => ∃ f, i ≤ 2 ∧ (i ≠ 0 → f = pp) ∧ E 14 = I i ∧ Hp w [(b13, blk (piC f) 26), (b6, blk (piC raw) 26)] w') (fun i => 2 - i) 0 ?e0 ?r0
      · exact ⟨raw, by omega, fun h => (h rfl).elim, rfl, H⟩
      · (clear H; rintro i E w1 ⟨f, hi, hfi, h0, H⟩; refine W_kn h0 ?_; by_cases hlt : i < 2)
        · refine W_seq ?_
          refine W_seq ?_
          refine W_region_l ?_
          refine WL_stepM rfl (R_mv) ?_
          refine WL_step rfl (R_lt_t rfl rfl (by omega)) ?_
          refine WL_nil ?_
          refine W_cond_t rfl ?_
          refine W_skip ?_
          refine W_seq ?_
          refine W_block ?_
          refine W_seq ?_
          (by_cases hok : okP f) <;> refine W_region_l ?_
          · refine WL_step rfl (R_loadP rfl (H.get .here)) ?_
            (refine WL_call rfl (R_call rfl Try.call17 rfl) (enc_yes f hok _) ?_; rintro _ w57 ⟨b, rfl, hb, H1⟩; have hsz := H.size; replace H := H.seqN H1 (kCons hb kNil); replace hb := Nat.le_trans hsz hb; clear H1 hsz)
            refine WL_stepM rfl (R_mv) ?_
            refine WL_step rfl (R_extract rfl rfl) ?_
            refine WL_step rfl (R_extract rfl rfl) ?_
            refine WL_stepM rfl (R_as) ?_
            refine WL_stepM rfl (R_as) ?_
            refine WL_nil ?_
            refine W_seq ?_
            refine W_region_l ?_
            refine WL_step rfl (R_loadP rfl (H.get (.there .here))) ?_
            (refine WL_call rfl (R_call rfl Try.call18 rfl) (refOk_to (decide_eq_true hok) _) ?_; rintro _ w67 ⟨rfl, H1⟩; replace H := H.seq0 H1; clear H1)
            refine WL_stepM rfl (R_as) ?_
            refine WL_nil ?_
            refine W_seq ?_
            refine W_seq ?_
            (have _g := hb; refine W_draw (KH w [(b, blk ((bytesP f).map U) 5), (b13, blk (piC f) 26)]) (fun _ => false) (by kernel_rfl) H ?_; clear H; intro w72 H)
            refine WA_takeM 0 rfl rfl rfl (by kernel_rfl) (by kernel_rfl) (H.kh (by simp) (by repeat' first | exact kNil | apply kCons | apply kApp | assumption | exact OwnS.keys (by assumption))) (fun _ hC => R_mv) ?_
            refine WA_takeM 1 rfl rfl rfl (by kernel_rfl) (by kernel_rfl) (H.kh (by simp) (by repeat' first | exact kNil | apply kCons | apply kApp | assumption | exact OwnS.keys (by assumption))) (fun _ hC => R_mv) ?_
            refine WA_take 2 rfl rfl rfl (by kernel_rfl) (by kernel_rfl) (H.kh (by simp) (by repeat' first | exact kNil | apply kCons | apply kApp | assumption | exact OwnS.keys (by assumption))) (fun _ hC => R_ne_bool_f Try.underlying4 rfl rfl (by decide)) ?_
            refine WA_takeM 3 rfl rfl rfl (by kernel_rfl) (by kernel_rfl) (H.kh (by simp) (by repeat' first | exact kNil | apply kCons | apply kApp | assumption | exact OwnS.keys (by assumption))) (fun _ hC => R_mv) ?_
            refine WA_takeG 4 rfl rfl rfl rfl (by kernel_rfl) (by kernel_rfl) (H.kh (by simp) (by repeat' first | exact kNil | apply kCons | apply kApp | assumption | exact OwnS.keys (by assumption))) (fun _ hC => R_loadP rfl (hC.get (.there .here))) ?_
            refine WA_takeGM 6 rfl rfl rfl rfl (by kernel_rfl) (by kernel_rfl) (H.kh (by simp) (by repeat' first | exact kNil | apply kCons | apply kApp | assumption | exact OwnS.keys (by assumption))) (fun _ hC => R_mv) ?_
            refine WA_one (i := 5) (by kernel_rfl) ?_
            (refine WI_call rfl (.inr ⟨_, _, rfl, rfl⟩) (R_call rfl Try.call19 rfl) (ok_to (decide_eq_true hok) _) (fun _ _ hR _ => (H.seq0 hR.2).kh (by simp) (by repeat' first | exact kNil | apply kCons | apply kApp | assumption | exact OwnS.keys (by assumption))) ?_; rintro _ w80 ⟨rfl, H1⟩; replace H := H.seq0 H1; clear H1)
            refine WA_takeG 7 rfl rfl rfl rfl (by kernel_rfl) (by kernel_rfl) (H.kh (by simp) (by repeat' first | exact kNil | apply kCons | apply kApp | assumption | exact OwnS.keys (by assumption))) (fun _ hC => R_ne_bool_f Try.underlying4 rfl rfl (by decide)) ?_
            refine WA_takeM 8 rfl rfl rfl (by kernel_rfl) (by kernel_rfl) (H.kh (by simp) (by repeat' first | exact kNil | apply kCons | apply kApp | assumption | exact OwnS.keys (by assumption))) (fun _ hC => R_pk_f rfl) ?_
            refine WA_takeM 9 rfl rfl rfl (by kernel_rfl) (by kernel_rfl) (H.kh (by simp) (by repeat' first | exact kNil | apply kCons | apply kApp | assumption | exact OwnS.keys (by assumption))) (fun _ hC => R_mv) ?_
            refine WA_takeGM 10 rfl rfl rfl rfl (by kernel_rfl) (by kernel_rfl) (H.kh (by simp) (by repeat' first | exact kNil | apply kCons | apply kApp | assumption | exact OwnS.keys (by assumption))) (fun _ hC => R_mv) ?_
            refine WA_takeG 11 rfl rfl rfl rfl (by kernel_rfl) (by kernel_rfl) (H.kh (by simp) (by repeat' first | exact kNil | apply kCons | apply kApp | assumption | exact OwnS.keys (by assumption))) (fun _ hC => R_not_t rfl) ?_
            refine WA_takeGM 12 rfl rfl rfl rfl (by kernel_rfl) (by kernel_rfl) (H.kh (by simp) (by repeat' first | exact kNil | apply kCons | apply kApp | assumption | exact OwnS.keys (by assumption))) (fun _ hC => R_mv) ?_
            refine WA_pass 13 rfl rfl rfl (fun h => nomatch h) (by kernel_rfl) (by kernel_rfl) (H.kh (by simp) (by repeat' first | exact kNil | apply kCons | apply kApp | assumption | exact OwnS.keys (by assumption))) ?_
            refine WA_pass 14 rfl rfl rfl (fun h => nomatch h) (by kernel_rfl) (by kernel_rfl) (H.kh (by simp) (by repeat' first | exact kNil | apply kCons | apply kApp | assumption | exact OwnS.keys (by assumption))) ?_
            refine WA_pass 15 rfl rfl rfl (fun h => nomatch h) (by kernel_rfl) (by kernel_rfl) (H.kh (by simp) (by repeat' first | exact kNil | apply kCons | apply kApp | assumption | exact OwnS.keys (by assumption))) ?_
            refine WA_takeGM 16 rfl rfl rfl rfl (by kernel_rfl) (by kernel_rfl) (H.kh (by simp) (by repeat' first | exact kNil | apply kCons | apply kApp | assumption | exact OwnS.keys (by assumption))) (fun _ hC => R_pk_f rfl) ?_
            refine WA_takeM 17 rfl rfl rfl (by kernel_rfl) (by kernel_rfl) (H.kh (by simp) (by repeat' first | exact kNil | apply kCons | apply kApp | assumption | exact OwnS.keys (by assumption))) (fun _ hC => R_pk_f rfl) ?_
            refine WA_takeM 18 rfl rfl rfl (by kernel_rfl) (by kernel_rfl) (H.kh (by simp) (by repeat' first | exact kNil | apply kCons | apply kApp | assumption | exact OwnS.keys (by assumption))) (fun _ hC => R_mv) ?_
            refine WA_takeGM 19 rfl rfl rfl rfl (by kernel_rfl) (by kernel_rfl) (H.kh (by simp) (by repeat' first | exact kNil | apply kCons | apply kApp | assumption | exact OwnS.keys (by assumption))) (fun _ hC => R_mv) ?_
            refine WA_takeGM 20 rfl rfl rfl rfl (by kernel_rfl) (by kernel_rfl) (H.kh (by simp) (by repeat' first | exact kNil | apply kCons | apply kApp | assumption | exact OwnS.keys (by assumption))) (fun _ hC => R_mv) ?_
            refine WA_takeGM 21 rfl rfl rfl rfl (by kernel_rfl) (by kernel_rfl) (H.kh (by simp) (by repeat' first | exact kNil | apply kCons | apply kApp | assumption | exact OwnS.keys (by assumption))) (fun _ hC => R_mv) ?_
            refine WA_takeG 22 rfl rfl rfl rfl (by kernel_rfl) (by kernel_rfl) (H.kh (by simp) (by repeat' first | exact kNil | apply kCons | apply kApp | assumption | exact OwnS.keys (by assumption))) (fun _ hC => R_conv_bs (xs := bytesP f) Try.underlying22 Try.underlying5 Try.underlying9 rfl (rdP (hC.get .here) (by decide))) ?_
            refine WA_takeG 23 rfl rfl rfl rfl (by kernel_rfl) (by kernel_rfl) (H.kh (by simp) (by repeat' first | exact kNil | apply kCons | apply kApp | assumption | exact OwnS.keys (by assumption))) (fun _ hC => R_loadP rfl (hC.get (.there .here))) ?_
            refine WA_one (i := 24) (by kernel_rfl) ?_
            (refine WI_call rfl (.inr ⟨_, _, rfl, rfl⟩) (R_call rfl Try.call20 rfl) (refBytes_ret f hok _) (fun _ _ hR _ => (H.seq0 hR.2).kh (by simp) (by repeat' first | exact kNil | apply kCons | apply kApp | assumption | exact OwnS.keys (by assumption))) ?_; rintro _ w99 ⟨rfl, H1⟩; replace H := H.seq0 H1; clear H1)
            refine WA_takeG 25 rfl rfl rfl rfl (by kernel_rfl) (by kernel_rfl) (H.kh (by simp) (by repeat' first | exact kNil | apply kCons | apply kApp | assumption | exact OwnS.keys (by assumption))) (fun _ hC => R_ne_S_f rfl rfl rfl) ?_
            refine WA_takeGM 26 rfl rfl rfl rfl (by kernel_rfl) (by kernel_rfl) (H.kh (by simp) (by repeat' first | exact kNil | apply kCons | apply kApp | assumption | exact OwnS.keys (by assumption))) (fun _ hC => R_pk_t rfl) ?_
            refine WA_takeM 27 rfl rfl rfl (by kernel_rfl) (by kernel_rfl) (H.kh (by simp) (by repeat' first | exact kNil | apply kCons | apply kApp | assumption | exact OwnS.keys (by assumption))) (fun _ hC => R_pk_f rfl) ?_
            refine WA_done (by kernel_rfl) ?_
            refine W_cond_f rfl ?_
            refine W_skip ?_
            refine W_seq ?_
            refine W_seq ?_
            refine W_region_l ?_
            refine WL_stepM rfl (R_mv) ?_
            refine WL_nil ?_
            refine W_cond_t rfl ?_
            refine W_seq ?_
            refine W_region_l ?_
            refine WL_stepM rfl (R_mv) ?_
            (refine WL_call rfl (R_call rfl Try.call21 rfl) (dec_to (decP_bytes hok) (rdP (H.get .here) (by decide)) (by rw [bytes_len]; decide)) ?_; rintro _ w115 ⟨rfl, H1⟩; replace H := H.seq0 H1; clear H1)
            refine WL_stepM rfl (R_mv) ?_
            refine WL_step rfl (R_extract rfl rfl) ?_
            refine WL_step rfl (R_extract rfl rfl) ?_
            (refine WL_effn rfl (E_allocP H) ?_; clear H; intro b18 w119 hb18 H)
            (have _g := hb18; refine WL_effu rfl (E_storeP (q := f) H rfl rfl .here) ?_; clear H; intro w120 H)
            refine WL_stepM rfl (R_as) ?_
            refine WL_nil ?_
            refine W_seq ?_
            refine W_region_l ?_
            refine WL_stepM rfl (R_mv) ?_
            refine WL_step rfl (R_ne_f rfl rfl (by omega)) ?_
            refine WL_stepM rfl (R_mv) ?_
            refine WL_guard_t rfl rfl ?_
            refine WL_step rfl (R_loadP rfl (H.get .here)) ?_
            refine WL_guard_t rfl rfl ?_
            refine WL_step rfl (R_loadP rfl (H.get (.there (.there .here)))) ?_
            refine WL_guard_t rfl rfl ?_
            refine WL_step rfl (R_ne_P_f rfl rfl) ?_
            refine WL_stepM rfl (R_pk_f rfl) ?_
            refine WL_nil ?_
            refine W_cond_f rfl ?_
            refine W_skip ?_
            ((have _g := hok; replace H := Hp.dropN (M := [_, _]) H (kCons hb18 (kCons hb kNil)))) <;> refine W_region_l ?_
            refine WL_stepM rfl (R_mv) ?_
            refine WL_stepM rfl (R_mv) ?_
            (refine WL_call rfl (R_call rfl Try.call22 rfl) (pipe_ret (bs := ds) x (hl.monoN H (by repeat' first | exact kNil | apply kCons | apply kApp | assumption | exact OwnS.keys (by assumption))) (by omega)) ?_; rintro _ w141 ⟨rfl, H1⟩; replace H := H.seq0 H1; clear H1; rw [hpp])
            (refine WL_effu rfl (E_storeP (q := pp) H rfl rfl .here) ?_; clear H; intro w142 H)
            refine WL_nil ?_
            refine W_region_l ?_
            refine WL_stepM rfl (R_mv) ?_
            refine WL_step rfl (R_add rfl rfl (w_i64 (by omega))) ?_
            refine WL_stepM rfl (R_as) ?_
            refine WL_nil ?_
            exact ⟨(same_mov rfl (same_updo rfl (same_mov rfl (same_updn (same_updo rfl (same_mov rfl (same_mov rfl (same_mov rfl (same_updo rfl (same_updo rfl (same_updo rfl (same_mov rfl (same_updo rfl (same_mov rfl (same_mov rfl (same_updn (same_updo rfl (same_updo rfl (same_updo rfl (same_mov rfl (same_updo rfl (same_mov rfl (same_mov rfl (same_mov rfl (same_mov rfl (same_updo rfl (same_updo rfl (same_updo rfl (same_updo rfl (same_mov rfl (same_mov rfl (same_mov rfl (same_mov rfl (same_mov rfl (same_mov rfl (same_updo rfl (same_updo rfl (same_updo rfl (same_mov rfl (same_updo rfl (same_mov rfl (same_mov rfl (same_mov rfl (same_updo rfl (same_updo rfl (same_mov rfl (same_updo rfl (same_mov rfl (same_updo rfl (same_mov rfl (same_mov rfl (same_mov rfl (same_updo rfl (same_updo rfl (same_mov rfl (same_mov rfl (same_updo rfl (same_updo rfl (same_mov rfl (same_updo rfl (same_updo rfl (same_updo rfl (same_mov rfl same_ovr))))))))))))))))))))))))))))))))))))))))))))))))))))))))))))))), i + 1, by omega, pp, by omega, fun _ => rfl, rfl, H⟩
          · refine WL_step rfl (R_loadP rfl (H.get .here)) ?_
            (refine WL_call rfl (R_call rfl Try.call17 rfl) (enc_no f hok _) ?_; rintro _ w151 ⟨rfl, H1⟩; replace H := H.seq0 H1; clear H1)
            refine WL_stepM rfl (R_mv) ?_
            refine WL_step rfl (R_extract rfl rfl) ?_
            refine WL_step rfl (R_extract rfl rfl) ?_
            refine WL_stepM rfl (R_as) ?_
            refine WL_stepM rfl (R_as) ?_
            refine WL_nil ?_
            refine W_seq ?_
            refine W_region_l ?_
            refine WL_step rfl (R_loadP rfl (H.get .here)) ?_
            (refine WL_call rfl (R_call rfl Try.call18 rfl) (refOk_to (decide_eq_false hok) _) ?_; rintro _ w161 ⟨rfl, H1⟩; replace H := H.seq0 H1; clear H1)
            refine WL_stepM rfl (R_as) ?_
            refine WL_nil ?_
            refine W_seq ?_
            refine W_seq ?_
            (refine W_draw (KH w [(b13, blk (piC f) 26)]) (fun _ => false) (by kernel_rfl) H ?_; clear H; intro w166 H)
            refine WA_takeM 0 rfl rfl rfl (by kernel_rfl) (by kernel_rfl) (H.kh (by simp) (by repeat' first | exact kNil | apply kCons | apply kApp | assumption | exact OwnS.keys (by assumption))) (fun _ hC => R_mv) ?_
            refine WA_takeM 1 rfl rfl rfl (by kernel_rfl) (by kernel_rfl) (H.kh (by simp) (by repeat' first | exact kNil | apply kCons | apply kApp | assumption | exact OwnS.keys (by assumption))) (fun _ hC => R_mv) ?_
            refine WA_take 2 rfl rfl rfl (by kernel_rfl) (by kernel_rfl) (H.kh (by simp) (by repeat' first | exact kNil | apply kCons | apply kApp | assumption | exact OwnS.keys (by assumption))) (fun _ hC => R_ne_bool_f Try.underlying4 rfl rfl (by decide)) ?_
            refine WA_takeM 3 rfl rfl rfl (by kernel_rfl) (by kernel_rfl) (H.kh (by simp) (by repeat' first | exact kNil | apply kCons | apply kApp | assumption | exact OwnS.keys (by assumption))) (fun _ hC => R_mv) ?_
            refine WA_takeG 4 rfl rfl rfl rfl (by kernel_rfl) (by kernel_rfl) (H.kh (by simp) (by repeat' first | exact kNil | apply kCons | apply kApp | assumption | exact OwnS.keys (by assumption))) (fun _ hC => R_loadP rfl (hC.get .here)) ?_
            refine WA_takeGM 6 rfl rfl rfl rfl (by kernel_rfl) (by kernel_rfl) (H.kh (by simp) (by repeat' first | exact kNil | apply kCons | apply kApp | assumption | exact OwnS.keys (by assumption))) (fun _ hC => R_mv) ?_
            refine WA_one (i := 5) (by kernel_rfl) ?_
            (refine WI_call rfl (.inr ⟨_, _, rfl, rfl⟩) (R_call rfl Try.call19 rfl) (ok_to (decide_eq_false hok) _) (fun _ _ hR _ => (H.seq0 hR.2).kh (by simp) (by repeat' first | exact kNil | apply kCons | apply kApp | assumption | exact OwnS.keys (by assumption))) ?_; rintro _ w174 ⟨rfl, H1⟩; replace H := H.seq0 H1; clear H1)
            refine WA_takeG 7 rfl rfl rfl rfl (by kernel_rfl) (by kernel_rfl) (H.kh (by simp) (by repeat' first | exact kNil | apply kCons | apply kApp | assumption | exact OwnS.keys (by assumption))) (fun _ hC => R_ne_bool_f Try.underlying4 rfl rfl (by decide)) ?_
            refine WA_takeM 8 rfl rfl rfl (by kernel_rfl) (by kernel_rfl) (H.kh (by simp) (by repeat' first | exact kNil | apply kCons | apply kApp | assumption | exact OwnS.keys (by assumption))) (fun _ hC => R_pk_f rfl) ?_
            refine WA_takeM 9 rfl rfl rfl (by kernel_rfl) (by kernel_rfl) (H.kh (by simp) (by repeat' first | exact kNil | apply kCons | apply kApp | assumption | exact OwnS.keys (by assumption))) (fun _ hC => R_mv) ?_
            refine WA_takeGM 10 rfl rfl rfl rfl (by kernel_rfl) (by kernel_rfl) (H.kh (by simp) (by repeat' first | exact kNil | apply kCons | apply kApp | assumption | exact OwnS.keys (by assumption))) (fun _ hC => R_mv) ?_
            refine WA_takeG 11 rfl rfl rfl rfl (by kernel_rfl) (by kernel_rfl) (H.kh (by simp) (by repeat' first | exact kNil | apply kCons | apply kApp | assumption | exact OwnS.keys (by assumption))) (fun _ hC => R_not_f rfl) ?_
            refine WA_takeGM 12 rfl rfl rfl rfl (by kernel_rfl) (by kernel_rfl) (H.kh (by simp) (by repeat' first | exact kNil | apply kCons | apply kApp | assumption | exact OwnS.keys (by assumption))) (fun _ hC => R_mv) ?_
            refine WA_takeGM 13 rfl rfl rfl rfl (by kernel_rfl) (by kernel_rfl) (H.kh (by simp) (by repeat' first | exact kNil | apply kCons | apply kApp | assumption | exact OwnS.keys (by assumption))) (fun _ hC => R_mv) ?_
            refine WA_takeG 14 rfl rfl rfl rfl (by kernel_rfl) (by kernel_rfl) (H.kh (by simp) (by repeat' first | exact kNil | apply kCons | apply kApp | assumption | exact OwnS.keys (by assumption))) (fun _ hC => R_len_slice Try.underlying22 rfl) ?_
            refine WA_takeG 15 rfl rfl rfl rfl (by kernel_rfl) (by kernel_rfl) (H.kh (by simp) (by repeat' first | exact kNil | apply kCons | apply kApp | assumption | exact OwnS.keys (by assumption))) (fun _ hC => R_ne_f rfl rfl (by omega)) ?_
            refine WA_takeGM 16 rfl rfl rfl rfl (by kernel_rfl) (by kernel_rfl) (H.kh (by simp) (by repeat' first | exact kNil | apply kCons | apply kApp | assumption | exact OwnS.keys (by assumption))) (fun _ hC => R_pk_t rfl) ?_
            refine WA_takeM 17 rfl rfl rfl (by kernel_rfl) (by kernel_rfl) (H.kh (by simp) (by repeat' first | exact kNil | apply kCons | apply kApp | assumption | exact OwnS.keys (by assumption))) (fun _ hC => R_pk_f rfl) ?_
            refine WA_takeM 18 rfl rfl rfl (by kernel_rfl) (by kernel_rfl) (H.kh (by simp) (by repeat' first | exact kNil | apply kCons | apply kApp | assumption | exact OwnS.keys (by assumption))) (fun _ hC => R_mv) ?_
            refine WA_takeGM 19 rfl rfl rfl rfl (by kernel_rfl) (by kernel_rfl) (H.kh (by simp) (by repeat' first | exact kNil | apply kCons | apply kApp | assumption | exact OwnS.keys (by assumption))) (fun _ hC => R_mv) ?_
            refine WA_takeGM 20 rfl rfl rfl rfl (by kernel_rfl) (by kernel_rfl) (H.kh (by simp) (by repeat' first | exact kNil | apply kCons | apply kApp | assumption | exact OwnS.keys (by assumption))) (fun _ hC => R_mv) ?_
            refine WA_pass 21 rfl rfl rfl (fun h => nomatch h) (by kernel_rfl) (by kernel_rfl) (H.kh (by simp) (by repeat' first | exact kNil | apply kCons | apply kApp | assumption | exact OwnS.keys (by assumption))) ?_
            refine WA_pass 22 rfl rfl rfl (fun h => nomatch h) (by kernel_rfl) (by kernel_rfl) (H.kh (by simp) (by repeat' first | exact kNil | apply kCons | apply kApp | assumption | exact OwnS.keys (by assumption))) ?_
            refine WA_pass 23 rfl rfl rfl (fun h => nomatch h) (by kernel_rfl) (by kernel_rfl) (H.kh (by simp) (by repeat' first | exact kNil | apply kCons | apply kApp | assumption | exact OwnS.keys (by assumption))) ?_
            refine WA_pass 24 rfl rfl rfl (fun h => nomatch h) (by kernel_rfl) (by kernel_rfl) (H.kh (by simp) (by repeat' first | exact kNil | apply kCons | apply kApp | assumption | exact OwnS.keys (by assumption))) ?_
            refine WA_pass 25 rfl rfl rfl (fun h => nomatch h) (by kernel_rfl) (by kernel_rfl) (H.kh (by simp) (by repeat' first | exact kNil | apply kCons | apply kApp | assumption | exact OwnS.keys (by assumption))) ?_
            refine WA_takeGM 26 rfl rfl rfl rfl (by kernel_rfl) (by kernel_rfl) (H.kh (by simp) (by repeat' first | exact kNil | apply kCons | apply kApp | assumption | exact OwnS.keys (by assumption))) (fun _ hC => R_pk_f rfl) ?_
            refine WA_takeM 27 rfl rfl rfl (by kernel_rfl) (by kernel_rfl) (H.kh (by simp) (by repeat' first | exact kNil | apply kCons | apply kApp | assumption | exact OwnS.keys (by assumption))) (fun _ hC => R_pk_f rfl) ?_
            refine WA_done (by kernel_rfl) ?_
            refine W_cond_f rfl ?_
            refine W_skip ?_
            refine W_seq ?_
            refine W_seq ?_
            refine W_region_l ?_
            refine WL_stepM rfl (R_mv) ?_
            refine WL_nil ?_
            refine W_cond_f rfl ?_
            refine W_skip ?_
            refine W_region_l ?_
            refine WL_stepM rfl (R_mv) ?_
            refine WL_stepM rfl (R_mv) ?_
            (refine WL_call rfl (R_call rfl Try.call22 rfl) (pipe_ret (bs := ds) x (hl.monoN H (by repeat' first | exact kNil | apply kCons | apply kApp | assumption | exact OwnS.keys (by assumption))) (by omega)) ?_; rintro _ w209 ⟨rfl, H1⟩; replace H := H.seq0 H1; clear H1; rw [hpp])
            (refine WL_effu rfl (E_storeP (q := pp) H rfl rfl .here) ?_; clear H; intro w210 H)
            refine WL_nil ?_
            refine W_region_l ?_
            refine WL_stepM rfl (R_mv) ?_
            refine WL_step rfl (R_add rfl rfl (w_i64 (by omega))) ?_
            refine WL_stepM rfl (R_as) ?_
            refine WL_nil ?_
            exact ⟨(same_mov rfl (same_updo rfl (same_mov rfl (same_updn (same_updo rfl (same_mov rfl (same_mov rfl (same_mov rfl (same_mov rfl (same_mov rfl (same_updo rfl (same_updo rfl (same_updo rfl (same_updo rfl (same_updo rfl (same_mov rfl (same_mov rfl (same_mov rfl (same_mov rfl (same_mov rfl (same_updo rfl (same_updo rfl (same_mov rfl (same_mov rfl (same_updo rfl (same_mov rfl (same_mov rfl (same_mov rfl (same_updo rfl (same_updo rfl (same_mov rfl (same_updo rfl (same_mov rfl (same_updo rfl (same_mov rfl (same_mov rfl (same_mov rfl (same_updo rfl (same_updo rfl (same_mov rfl (same_mov rfl (same_updo rfl (same_updo rfl (same_mov rfl (same_updo rfl (same_updo rfl (same_updo rfl (same_mov rfl same_ovr)))))))))))))))))))))))))))))))))))))))))))))))), i + 1, by omega, pp, by omega, fun _ => rfl, rfl, H⟩
        · refine W_seq ?_
          refine W_seq ?_
          refine W_region_l ?_
          refine WL_stepM rfl (R_mv) ?_
          refine WL_step rfl (R_lt_f rfl rfl (by omega)) ?_
          refine WL_nil ?_
          refine W_cond_f rfl ?_
          refine W_exit ?_
          refine (if_pos rfl).mpr ?_
          refine W_seq ?_
          ((obtain rfl : f = pp := hfi (by omega))) <;> refine W_region_l ?_
          refine WL_step rfl (R_loadP rfl (H.get .here)) ?_
          (refine WL_call rfl (R_call rfl Try.call20 rfl) (refBytes_ret f hfa _) ?_; rintro _ w230 ⟨rfl, H1⟩; replace H := H.seq0 H1; clear H1)
          (refine WL_effm rfl (E_conv_sb (xs := bytesP f) H Try.underlying9 Try.underlying22 Try.underlying5 rfl) ?_; clear H; rintro _ ⟨bc, _⟩ w231 ⟨cc, sp, rfl, rfl, hcc, hbc⟩ H; rw [bytes_len] at hcc; rw [bytes_len])
          refine WL_stepM rfl (R_as) ?_
          refine WL_nil ?_
          refine W_seq ?_
          refine W_region_l ?_
          refine WL_stepM rfl (R_mv) ?_
          refine WL_stepM rfl (R_mv) ?_
          refine WL_step rfl (R_bits rfl rfl (by simp) (and_mask_i64 16 65536 (by decide) rfl (by decide))) ?_
          refine WL_step rfl (R_rem (r := (k : Int)) rfl rfl (by omega) ((rem_pos (by omega)).trans hk)) ?_
          refine WL_stepM rfl (R_mv) ?_
          refine WL_step rfl (R_indexAddr Try.underlying22 Try.sizeOf5 rfl rfl (by omega) (by omega) idx0_cast) ?_
          (refine WL_effu rfl (E_storeF (v := U to) H Try.sizeOf5 rfl rfl rfl .here (by simp [bytes_len]; omega) (by simp [bytes_len]; omega)) ?_; clear H; intro w242 H; rw [List.set_append_left _ _ (by simp [bytes_len]; exact hk40), ← List.map_set, hys] at H)
          refine WL_nil ?_
          refine W_seq ?_
          refine W_seq ?_
          refine W_region_l ?_
          refine WL_stepM rfl (R_as) ?_
          refine WL_nil ?_
          refine W_block ?_
          refine W_loopS [(12, 12), (21, 26), (101, 129)] (fun (i : Nat) E w' => ∃ sp fz, i ≤ 2 ∧ E 21 = I i ∧ Hp w [(bc, .cells (ys.map U ++ sp).toArray 5 fz), (b13, blk (piC f) 26), (b6, blk (piC raw) 26)] w') (fun i => 2 - i) 0 ?e2 ?r2
          · exact ⟨_, _, by omega, rfl, H⟩
          · (clear H; rintro i E w1 ⟨sp, fz, hi, h0, H⟩; refine W_kn h0 ?_; by_cases hlt : i < 2)
            · refine W_seq ?_
              refine W_seq ?_
              refine W_region_l ?_
              refine WL_stepM rfl (R_mv) ?_
              refine WL_step rfl (R_lt_t rfl rfl (by omega)) ?_
              refine WL_nil ?_
              refine W_cond_t rfl ?_
              refine W_skip ?_
              refine W_seq ?_
              refine W_block ?_
              refine W_seq ?_
              refine W_region_l ?_
              refine WL_stepM rfl (R_mv) ?_
              refine WL_stepM rfl (R_mv) ?_
              (refine WL_effn rfl (E_buildOnes (vs := [.slice ao bs.length ca, sl bc 0 40 cc]) H Try.underlying38 Try.sizeOf22 Try.zeroValue22 rfl rfl (by decide) rfl rfl (by simp [Value.oneCell'])) ?_; clear H; intro b3 w266 hb3 H)
              refine WL_stepM rfl (R_mv) ?_
              refine WL_step rfl (R_indexAddr Try.underlying38 Try.sizeOf22 rfl rfl (by omega) (by omega) idx0_cast) ?_
              (obtain ⟨v, zs, hv, hzr, hzl⟩ : ∃ (v : Value) (zs : List UInt8), [.slice ao bs.length ca, sl bc 0 40 cc][i]? = some v ∧ (∀ w2 L, Hp w ((bc, .cells (ys.map U ++ sp).toArray 5 fz) :: L) w2 → (∀ p ∈ L, w.heap.size ≤ p.1) → RdS w2 v (zs.map U)) ∧ zs.length ≤ 100 := pick2 hm hyl hlt hbc hcc hlen; refine WL_step rfl (R_load (v := v) Try.isAgg22 rfl (H.get .here) hv) ?_; replace H := H.pop hb3)
              refine WL_stepM rfl (R_as) ?_
              refine WL_nil ?_
              refine W_seq ?_
              (obtain ⟨⟨g, d⟩, hdec⟩ : ∃ x, decP zs = x := ⟨_, rfl⟩) <;> refine W_region_l ?_
              refine WL_stepM rfl (R_mv) ?_
              (refine WL_call rfl (R_call rfl Try.call21 rfl) (dec_to hdec (hzr _ _ H (by repeat' first | exact kNil | apply kCons | apply kApp | assumption | exact OwnS.keys (by assumption))) (by omega)) ?_; rintro _ w275 ⟨rfl, H1⟩; replace H := H.seq0 H1; clear H1)
              refine WL_stepM rfl (R_mv) ?_
              refine WL_step rfl (R_extract rfl rfl) ?_
              refine WL_step rfl (R_extract rfl rfl) ?_
              (refine WL_effn rfl (E_allocP H) ?_; clear H; intro b23 w279 hb23 H)
              (have _g := hb23; refine WL_effu rfl (E_storeP (q := g) H rfl rfl .here) ?_; clear H; intro w280 H)
              refine WL_stepM rfl (R_as) ?_
              refine WL_nil ?_
              refine W_seq ?_
              refine W_region_l ?_
              refine WL_stepM rfl (R_mv) ?_
              refine WL_step rfl (R_conv_bs (xs := zs) Try.underlying22 Try.underlying5 Try.underlying9 rfl (hzr _ _ H.swap2 (by repeat' first | exact kNil | apply kCons | apply kApp | assumption | exact OwnS.keys (by assumption)))) ?_
              (refine WL_call rfl (R_call rfl Try.call23 rfl) (refOf_to hdec (by omega)) ?_; rintro _ w287 ⟨rfl, H1⟩; replace H := H.seq0 H1; clear H1)
              refine WL_stepM rfl (R_mv) ?_
              refine WL_step rfl (R_extract rfl rfl) ?_
              refine WL_step rfl (R_extract rfl rfl) ?_
              (refine WL_effn rfl (E_allocP H) ?_; clear H; intro b25 w291 hb25 H)
              (have _g := hb25; refine WL_effu rfl (E_storeP (q := g) H rfl rfl .here) ?_; clear H; intro w292 H)
              refine WL_stepM rfl (R_as) ?_
              refine WL_nil ?_
              refine W_seq ?_
              refine W_region_l ?_
              refine WL_step rfl (R_loadP rfl (H.get (.there .here))) ?_
              refine WL_step rfl (R_loadP rfl (H.get .here)) ?_
              refine WL_step rfl (R_ne_P_f rfl rfl) ?_
              refine WL_stepM rfl (R_mv) ?_
              refine WL_guard_t rfl rfl ?_
              refine WL_stepM rfl (R_mv) ?_
              refine WL_guard_t rfl rfl ?_
              refine WL_stepM rfl (R_mv) ?_
              refine WL_guard_t rfl rfl ?_
              refine WL_step rfl (R_ne_f rfl rfl rfl) ?_
              refine WL_stepM rfl (R_pk_f rfl) ?_
              refine WL_nil ?_
              refine W_cond_f rfl ?_
              refine W_skip ?_
              refine W_region_l ?_
              refine WL_stepM rfl (R_mv) ?_
              refine WL_step rfl (R_add rfl rfl (w_i64 (by omega))) ?_
              refine WL_stepM rfl (R_as) ?_
              refine WL_nil ?_
              exact ⟨(same_mov rfl (same_updo rfl (same_mov rfl (same_mov rfl (same_updo rfl (same_mov rfl (same_mov rfl (same_mov rfl (same_updo rfl (same_updo rfl (same_updo rfl (same_mov rfl (same_updn (same_updo rfl (same_updo rfl (same_updo rfl (same_mov rfl (same_updo rfl (same_updo rfl (same_mov rfl (same_mov rfl (same_updn (same_updo rfl (same_updo rfl (same_updo rfl (same_mov rfl (same_updo rfl (same_mov rfl (same_mov rfl (same_updo rfl (same_updo rfl (same_mov rfl (same_updo rfl (same_mov rfl (same_mov rfl (same_updo rfl (same_mov rfl same_ovr))))))))))))))))))))))))))))))))))))), i + 1, by omega, sp, fz, by omega, rfl, (H.pop hb25).pop hb23⟩
            · refine W_seq ?_
              refine W_seq ?_
              refine W_region_l ?_
              refine WL_stepM rfl (R_mv) ?_
              refine WL_step rfl (R_lt_f rfl rfl (by omega)) ?_
              refine WL_nil ?_
              refine W_cond_f rfl ?_
              refine W_exit ?_
              refine (if_pos rfl).mpr ?_
              refine W_seq ?_
              refine W_region_l ?_
              (refine WL_call rfl (R_call rfl Try.call14 rfl) (awake_ret _) ?_; rintro _ w328 ⟨rfl, H1⟩; replace H := H.seq0 H1; clear H1)
              refine WL_stepM rfl (R_as) ?_
              refine WL_nil ?_
              refine W_ret ?_
              exact ⟨_, rfl, rfl, H.none (by repeat' first | exact kNil | apply kCons | apply kApp | assumption | exact OwnS.keys (by assumption))⟩
  · refine W_seq ?_
    refine W_region_l ?_
    (refine WL_effn rfl (E_boxP H rfl) ?_; clear H; intro b6 w3 hb6 H)
    refine WL_stepM rfl (R_as) ?_
    refine WL_nil ?_
    refine W_seq ?_
    refine W_seq ?_
    refine W_region_l ?_
    refine WL_stepM rfl (R_mv) ?_
    refine WL_step rfl (R_len_slice Try.underlying22 rfl) ?_
    refine WL_step rfl (R_gt_t rfl rfl (by omega)) ?_
    refine WL_stepM rfl (R_mv) ?_
    refine WL_guard_f rfl rfl (by decide) ?_
    refine WL_guard_f rfl rfl (by decide) ?_
    refine WL_guard_f rfl rfl (by decide) ?_
    refine WL_stepM rfl (R_pk_t rfl) ?_
    refine WL_nil ?_
    refine W_cond_t rfl ?_
    refine W_seq ?_
    refine W_region_l ?_
    (refine WL_call rfl (R_call rfl Try.call14 rfl) (awake_ret _) ?_; rintro _ w21 ⟨rfl, H1⟩; replace H := H.seq0 H1; clear H1)
    refine WL_stepM rfl (R_as) ?_
    refine WL_nil ?_
    refine W_ret ?_
    exact ⟨_, rfl, rfl, H.none (by repeat' first | exact kNil | apply kCons | apply kApp | assumption | exact OwnS.keys (by assumption))⟩
end Go.Proofs.Ytcpkhgdjckogjaa.Ring

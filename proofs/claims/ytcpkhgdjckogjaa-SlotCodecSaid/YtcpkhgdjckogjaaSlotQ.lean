/-
  The law SlotCodec.
-/
import Derived.Test.YtcpkhgdjckogjaaSlotM
namespace Go.Proofs.Ytcpkhgdjckogjaa.Slot
open Go Go.Proofs Go.Proofs.Ytcpkhgdjckogjaa.Fx Go.Proofs.Ytcpkhgdjckogjaa.Codec
set_option maxRecDepth 100000
set_option linter.unusedVariables false
set_option linter.unusedSimpArgs false
set_option maxHeartbeats 2000000

theorem size_ret {q : Nat} {w : World} (hq : w.heap[q]? = some cod) : Ret Try.prog 36 #[ptr q 0] w fun v w' => v = I 24 ∧ Hp w [] w' := by
  refine Ret_of_W (args := [_]) Try.func36 rfl Try.ntmps36 Try.results36 (by simp) ?_
  have H := Hp.focus0 hq
  refine W_seq ?_
  refine W_region_l ?_
  refine WL_stepM rfl (R_as) ?_
  refine WL_nil ?_
  refine W_seq ?_
  refine W_region_l ?_
  refine WL_stepM rfl (R_mv) ?_
  refine WL_step rfl (R_nilCheck rfl) ?_
  refine WL_step rfl (R_fieldAddr (off' := 0) Try.underlying91 rfl Try.sizeOf3 (by decide) rfl rfl) ?_
  refine WL_step rfl (R_load Try.isAgg3 rfl (H.get .here) rfl) ?_
  refine WL_stepM rfl (R_as) ?_
  refine WL_nil ?_
  refine W_ret ?_
  exact ⟨_, rfl, rfl, Hp.refl _⟩
theorem dec_two (xs : List UInt8) : (good xs ∧ decP xs = (ofB xs, 1)) ∨ (¬ good xs ∧ ∃ d : Int, d ≠ 1 ∧ decP xs = (zeroP, d)) := by
  by_cases hg : good xs
  · exact .inl ⟨hg, decP_good hg⟩
  · rcases dec_cases xs with ⟨h, _⟩ | h
    · exact (hg h).elim
    · exact .inr ⟨hg, h⟩
theorem row0 (p q : Pi) : (([piC p, piC q] : List (List Value)).flatten.drop 0).take 16 = piC p := by
  rw [List.drop_zero, List.flatten_cons, List.take_left' (piC_len p)]
theorem row1 (p q : Pi) : (([piC p, piC q] : List (List Value)).flatten.drop 16).take 16 = piC q := by
  rw [List.flatten_cons, List.drop_left' (piC_len p), List.flatten_cons, List.flatten_nil, List.append_nil, List.take_of_length_le (by rw [piC_len]; decide)]
theorem rowL (p q : Pi) : ([piC p, piC q] : List (List Value)).flatten.length = 32 := by
  rw [List.flatten_cons, List.flatten_cons, List.flatten_nil, List.append_nil, List.length_append, piC_len, piC_len]

theorem codec_law_ret {ls : List Int} {xs : List UInt8} (raw : Pi) {w : World} {l n : Value} (hl : RdS w l (ls.map fun x => I x)) (hn : RdS w n (xs.map U)) (hlb : ls.length ≤ 9223372036854775807) (hb : xs.length ≤ 9223372036854775807) :
    Ret Try.prog 13 #[vP raw, l, n] w fun v w' => v = .bool true ∧ Hp w [] w' := by
  refine Ret_of_W (args := [_, _, _]) Try.func13 rfl Try.ntmps13 Try.results13 (by simp) ?_
  have H := Hp.refl w
  obtain ⟨al, cl, rfl⟩ := hl.form
  obtain ⟨an, cn, rfl⟩ := hn.form
  simp only [List.length_map] at hl hn ⊢
  by_cases hlen : xs.length ≤ 100
  · refine W_seq ?_
    refine W_region_l ?_
    (refine WL_effn rfl (E_boxP H rfl) ?_; clear H; intro c3 w3 hc3 H)
    refine WL_stepM rfl (R_as) ?_
    refine WL_nil ?_
    refine W_seq ?_
    refine W_region_l ?_
    (refine WL_call rfl (R_call rfl Try.call35 rfl) (codec_ret _) ?_; rintro _ w8 ⟨q, rfl, hq, H1⟩; have hsz := H.size; replace H := H.seqN H1 (kCons hq kNil); replace hq := Nat.le_trans hsz hq; clear H1 hsz)
    refine WL_stepM rfl (R_as) ?_
    refine WL_nil ?_
    refine W_seq ?_
    refine W_seq ?_
    refine W_region_l ?_
    refine WL_stepM rfl (R_mv) ?_
    refine WL_step rfl (R_eq_ptr_nil Try.underlying67 rfl rfl) ?_
    refine WL_stepM rfl (R_mv) ?_
    refine WL_guard_t rfl rfl ?_
    refine WL_stepM rfl (R_mv) ?_
    refine WL_guard_t rfl rfl ?_
    (refine WL_call rfl (R_call rfl Try.call36 rfl) (size_ret (H.get .here)) ?_; rintro _ w20 ⟨rfl, H1⟩; replace H := H.seq0 H1; clear H1)
    refine WL_guard_t rfl rfl ?_
    refine WL_step rfl (R_ne_f rfl rfl (by omega)) ?_
    refine WL_stepM rfl (R_pk_f rfl) ?_
    refine WL_stepM rfl (R_mv) ?_
    refine WL_guard_t rfl rfl ?_
    refine WL_stepM rfl (R_mv) ?_
    refine WL_guard_t rfl rfl ?_
    refine WL_step rfl (R_len_slice Try.underlying22 rfl) ?_
    refine WL_guard_t rfl rfl ?_
    refine WL_step rfl (R_gt_f rfl rfl (by omega)) ?_
    refine WL_stepM rfl (R_pk_f rfl) ?_
    refine WL_nil ?_
    refine W_cond_f rfl ?_
    refine W_skip ?_
    refine W_seq ?_
    refine W_seq ?_
    refine W_region_l ?_
    refine WL_stepM rfl (R_as) ?_
    refine WL_nil ?_
    refine W_block ?_
    refine W_loopS [(6, 6), (8, 12), (40, 71)] (fun (i : Nat) E w' => i ≤ 2 ∧ E 8 = I i ∧ Hp w [(q, cod), (c3, blk (piC raw) 53)] w') (fun i => 2 - i) 0 ?e0 ?r0
    · exact ⟨by omega, rfl, H⟩
    · (clear H; rintro i E w1 ⟨hi, h0, H⟩; refine W_kn h0 ?_; rcases (show i = 0 ∨ i = 1 ∨ i = 2 by omega) with rfl | rfl | rfl)
      · refine W_seq ?_
        refine W_seq ?_
        refine W_region_l ?_
        refine WL_stepM rfl (R_mv) ?_
        refine WL_step rfl (R_lt_t rfl rfl (by omega)) ?_
        refine WL_nil ?_
        refine W_cond_t rfl ?_
        refine W_skip ?_
        refine W_seq ?_
        refine W_block ?_
        refine W_seq ?_
        (refine W_draw (KH w [(c3, blk (piC raw) 53)]) (fun _ => false) (by kernel_rfl) H ?_; clear H; intro w54 H)
        refine WA_take 0 rfl rfl rfl (by kernel_rfl) (by kernel_rfl) (H.kh (by simp) (by repeat' first | exact kNil | apply kCons | apply kApp | assumption | exact OwnS.keys (by assumption))) (fun _ hC => R_loadP rfl (hC.get .here)) ?_
        refine WA_takeM 1 rfl rfl rfl (by kernel_rfl) (by kernel_rfl) (H.kh (by simp) (by repeat' first | exact kNil | apply kCons | apply kApp | assumption | exact OwnS.keys (by assumption))) (fun _ hC => R_mv) ?_
        refine WA_takeM 4 rfl rfl rfl (by kernel_rfl) (by kernel_rfl) (H.kh (by simp) (by repeat' first | exact kNil | apply kCons | apply kApp | assumption | exact OwnS.keys (by assumption))) (fun _ hC => R_mv) ?_
        refine WA_two (i := 2) (j := 7) (by kernel_rfl) ?_ ?_
        · (refine WI_call rfl (.inl rfl) (R_call rfl Try.call33 rfl) (proc_ret (hl.monoN H (by repeat' first | exact kNil | apply kCons | apply kApp | assumption | exact OwnS.keys (by assumption))) hlb) (fun _ _ ⟨_, _, _, hR⟩ _ => (H.seq0 hR).kh (by simp) (by repeat' first | exact kNil | apply kCons | apply kApp | assumption | exact OwnS.keys (by assumption))) ?_; rintro _ w59 ⟨pp, hpp, rfl, H1⟩; replace H := H.seq0 H1; clear H1)
          refine WA_two (i := 3) (j := 7) (by kernel_rfl) ?_ ?_
          · (refine WI_effnA rfl (.inl rfl) (E_buildRows (vss := [piC raw, piC pp]) H Try.underlying70 Try.sizeOf53 Try.zeroValue53 rfl rfl (by decide) rfl rfl (by simp [piC_len])) (fun _ _ _ H => (by first | exact fun h => absurd h (by decide) | exact fun _ => H | exact fun _ => H.none (by repeat' first | exact kNil | apply kCons | apply kApp | assumption | exact OwnS.keys (by assumption)) | exact fun _ => H.dropN (by repeat' first | exact kNil | apply kCons | apply kApp | assumption | exact OwnS.keys (by assumption)) | exact fun _ => H.pop (by assumption) | exact fun _ => (H.pop (by assumption)).pop (by assumption) | exact fun _ => H.kp | exact fun _ => H.kp.tail | exact fun _ => H.kp.tail.tail | exact fun _ => H.kp.tail.tail.tail | exact fun _ => H.kp.sub (by simp) | exact fun _ => Kp.nil | exact fun _ => H.kh (by simp) (by repeat' first | exact kNil | apply kCons | apply kApp | assumption | exact OwnS.keys (by assumption)))) ?_; clear H; intro c47 w61 hc47 H)
            refine WA_take 5 rfl rfl rfl (by kernel_rfl) (by kernel_rfl) (H.kh (by simp) (by repeat' first | exact kNil | apply kCons | apply kApp | assumption | exact OwnS.keys (by assumption))) (fun _ hC => R_indexAddr (off' := 0) Try.underlying70 Try.sizeOf53 rfl rfl (by decide) (by decide) (by decide)) ?_
            refine WA_two (i := 6) (j := 7) (by kernel_rfl) ?_ ?_
            · refine WI_value rfl (.inl rfl) (R_loadA (vs := piC raw) Try.isAgg53 Try.sizeOf53 rfl (H.get .here) (row0 raw pp) (by rw [rowL]; decide)) (by first | exact fun h => absurd h (by decide) | exact fun _ => H | exact fun _ => H.none (by repeat' first | exact kNil | apply kCons | apply kApp | assumption | exact OwnS.keys (by assumption)) | exact fun _ => H.dropN (by repeat' first | exact kNil | apply kCons | apply kApp | assumption | exact OwnS.keys (by assumption)) | exact fun _ => H.pop (by assumption) | exact fun _ => (H.pop (by assumption)).pop (by assumption) | exact fun _ => H.kp | exact fun _ => H.kp.tail | exact fun _ => H.kp.tail.tail | exact fun _ => H.kp.tail.tail.tail | exact fun _ => H.kp.sub (by simp) | exact fun _ => Kp.nil | exact fun _ => H.kh (by simp) (by repeat' first | exact kNil | apply kCons | apply kApp | assumption | exact OwnS.keys (by assumption))) ?_
              refine WA_one (i := 7) (by kernel_rfl) ?_
              (refine WI_effnA rfl (.inl rfl) (E_allocP H) (fun _ _ _ H => (by first | exact fun h => absurd h (by decide) | exact fun _ => H | exact fun _ => H.none (by repeat' first | exact kNil | apply kCons | apply kApp | assumption | exact OwnS.keys (by assumption)) | exact fun _ => H.dropN (by repeat' first | exact kNil | apply kCons | apply kApp | assumption | exact OwnS.keys (by assumption)) | exact fun _ => H.pop (by assumption) | exact fun _ => (H.pop (by assumption)).pop (by assumption) | exact fun _ => H.kp | exact fun _ => H.kp.tail | exact fun _ => H.kp.tail.tail | exact fun _ => H.kp.tail.tail.tail | exact fun _ => H.kp.sub (by simp) | exact fun _ => Kp.nil | exact fun _ => H.kh (by simp) (by repeat' first | exact kNil | apply kCons | apply kApp | assumption | exact OwnS.keys (by assumption)))) ?_; clear H; intro c9 w66 hc9 H)
              refine WA_one (i := 8) (by kernel_rfl) ?_
              (refine WI_effu rfl (.inl rfl) (E_storeP (q := raw) H rfl rfl .here) (fun _ H => (by first | exact fun h => absurd h (by decide) | exact fun _ => H | exact fun _ => H.none (by repeat' first | exact kNil | apply kCons | apply kApp | assumption | exact OwnS.keys (by assumption)) | exact fun _ => H.dropN (by repeat' first | exact kNil | apply kCons | apply kApp | assumption | exact OwnS.keys (by assumption)) | exact fun _ => H.pop (by assumption) | exact fun _ => (H.pop (by assumption)).pop (by assumption) | exact fun _ => H.kp | exact fun _ => H.kp.tail | exact fun _ => H.kp.tail.tail | exact fun _ => H.kp.tail.tail.tail | exact fun _ => H.kp.sub (by simp) | exact fun _ => Kp.nil | exact fun _ => H.kh (by simp) (by repeat' first | exact kNil | apply kCons | apply kApp | assumption | exact OwnS.keys (by assumption)))) ?_; clear H; intro w68 H; replace H := H.pop2 hc47)
              refine WA_done (by kernel_rfl) ?_
              refine W_seq ?_
              ((obtain ⟨r, H⟩ : ∃ r, Hp w [(c9, blk (piC r) 53), (q, cod), (c3, blk (piC raw) 53)] _ := ⟨_, H⟩; by_cases hok : okP r)) <;> refine W_region_l ?_
              · refine WL_stepM rfl (R_mv) ?_
                refine WL_step rfl (R_loadP rfl (H.get .here)) ?_
                (refine WL_call rfl (R_call rfl Try.call37 rfl) (encM_ret r (H.get (.there .here))) ?_; rintro _ w74 (⟨_, b, rfl, hbb, H1⟩ | ⟨hno, _⟩); rotate_left; exact (hno hok).elim; have hsz := H.size; replace H := H.seqN H1 (kCons hbb kNil); replace hbb := Nat.le_trans hsz hbb; clear H1 hsz)
                refine WL_stepM rfl (R_mv) ?_
                refine WL_step rfl (R_extract rfl rfl) ?_
                refine WL_step rfl (R_extract rfl rfl) ?_
                refine WL_stepM rfl (R_as) ?_
                refine WL_stepM rfl (R_as) ?_
                refine WL_nil ?_
                refine W_seq ?_
                refine W_region_l ?_
                refine WL_step rfl (R_loadP rfl (H.get (.there .here))) ?_
                (refine WL_call rfl (R_call rfl Try.call30 rfl) (refOk_to (decide_eq_true hok) _) ?_; rintro _ w84 ⟨rfl, H1⟩; replace H := H.seq0 H1; clear H1)
                refine WL_stepM rfl (R_as) ?_
                refine WL_nil ?_
                refine W_seq ?_
                (have _g := hbb; refine W_draw (KH w [(b, blk ((bytesP r).map U) 5), (c9, blk (piC r) 53)]) (fun _ => false) (by kernel_rfl) H ?_; clear H; intro w88 H)
                refine WA_takeM 0 rfl rfl rfl (by kernel_rfl) (by kernel_rfl) (H.kh (by simp) (by repeat' first | exact kNil | apply kCons | apply kApp | assumption | exact OwnS.keys (by assumption))) (fun _ hC => R_mv) ?_
                refine WA_takeM 1 rfl rfl rfl (by kernel_rfl) (by kernel_rfl) (H.kh (by simp) (by repeat' first | exact kNil | apply kCons | apply kApp | assumption | exact OwnS.keys (by assumption))) (fun _ hC => R_mv) ?_
                refine WA_take 2 rfl rfl rfl (by kernel_rfl) (by kernel_rfl) (H.kh (by simp) (by repeat' first | exact kNil | apply kCons | apply kApp | assumption | exact OwnS.keys (by assumption))) (fun _ hC => R_ne_bool_f Try.underlying4 rfl rfl (by decide)) ?_
                refine WA_takeM 3 rfl rfl rfl (by kernel_rfl) (by kernel_rfl) (H.kh (by simp) (by repeat' first | exact kNil | apply kCons | apply kApp | assumption | exact OwnS.keys (by assumption))) (fun _ hC => R_mv) ?_
                refine WA_takeGM 4 rfl rfl rfl rfl (by kernel_rfl) (by kernel_rfl) (H.kh (by simp) (by repeat' first | exact kNil | apply kCons | apply kApp | assumption | exact OwnS.keys (by assumption))) (fun _ hC => R_mv) ?_
                refine WA_takeGM 5 rfl rfl rfl rfl (by kernel_rfl) (by kernel_rfl) (H.kh (by simp) (by repeat' first | exact kNil | apply kCons | apply kApp | assumption | exact OwnS.keys (by assumption))) (fun _ hC => R_mv) ?_
                refine WA_takeGM 6 rfl rfl rfl rfl (by kernel_rfl) (by kernel_rfl) (H.kh (by simp) (by repeat' first | exact kNil | apply kCons | apply kApp | assumption | exact OwnS.keys (by assumption))) (fun _ hC => R_mv) ?_
                refine WA_takeG 7 rfl rfl rfl rfl (by kernel_rfl) (by kernel_rfl) (H.kh (by simp) (by repeat' first | exact kNil | apply kCons | apply kApp | assumption | exact OwnS.keys (by assumption))) (fun _ hC => R_conv_bs (xs := bytesP r) Try.underlying22 Try.underlying5 Try.underlying9 rfl (rdP (hC.get .here) (by decide))) ?_
                refine WA_takeG 8 rfl rfl rfl rfl (by kernel_rfl) (by kernel_rfl) (H.kh (by simp) (by repeat' first | exact kNil | apply kCons | apply kApp | assumption | exact OwnS.keys (by assumption))) (fun _ hC => R_loadP rfl (hC.get (.there .here))) ?_
                refine WA_one (i := 9) (by kernel_rfl) ?_
                (refine WI_call rfl (.inr ⟨_, _, rfl, rfl⟩) (R_call rfl Try.call31 rfl) (refBytes_ret r hok _) (fun _ _ hR _ => (H.seq0 hR.2).kh (by simp) (by repeat' first | exact kNil | apply kCons | apply kApp | assumption | exact OwnS.keys (by assumption))) ?_; rintro _ w99 ⟨rfl, H1⟩; replace H := H.seq0 H1; clear H1)
                refine WA_takeG 10 rfl rfl rfl rfl (by kernel_rfl) (by kernel_rfl) (H.kh (by simp) (by repeat' first | exact kNil | apply kCons | apply kApp | assumption | exact OwnS.keys (by assumption))) (fun _ hC => R_ne_S_f rfl rfl rfl) ?_
                refine WA_takeGM 11 rfl rfl rfl rfl (by kernel_rfl) (by kernel_rfl) (H.kh (by simp) (by repeat' first | exact kNil | apply kCons | apply kApp | assumption | exact OwnS.keys (by assumption))) (fun _ hC => R_pk_t rfl) ?_
                refine WA_takeM 12 rfl rfl rfl (by kernel_rfl) (by kernel_rfl) (H.kh (by simp) (by repeat' first | exact kNil | apply kCons | apply kApp | assumption | exact OwnS.keys (by assumption))) (fun _ hC => R_pk_f rfl) ?_
                refine WA_done (by kernel_rfl) ?_
                refine W_cond_f rfl ?_
                refine W_skip ?_
                refine W_region_l ?_
                refine WL_stepM rfl (R_mv) ?_
                refine WL_step rfl (R_add rfl rfl (w_i64 (by omega))) ?_
                refine WL_stepM rfl (R_as) ?_
                refine WL_nil ?_
                exact ⟨(same_mov rfl (same_updo rfl (same_mov rfl (same_mov rfl (same_mov rfl (same_updo rfl (same_updo rfl (same_updo rfl (same_updo rfl (same_mov rfl (same_mov rfl (same_mov rfl (same_mov rfl (same_updo rfl (same_mov rfl (same_mov rfl (same_mov rfl (same_updo rfl (same_updo rfl (same_mov rfl (same_mov rfl (same_updo rfl (same_updo rfl (same_mov rfl (same_updo rfl (same_updo rfl (same_mov rfl (same_updn (same_updo rfl (same_updo rfl (same_updo rfl (same_updo rfl (same_updo rfl (same_mov rfl (same_mov rfl (same_updo rfl (same_updo rfl (same_mov rfl same_ovr)))))))))))))))))))))))))))))))))))))), 1, by omega, by omega, rfl, Hp.dropN (M := [_, _]) H (kCons hbb (kCons hc9 kNil))⟩
              · refine WL_stepM rfl (R_mv) ?_
                refine WL_step rfl (R_loadP rfl (H.get .here)) ?_
                (refine WL_call rfl (R_call rfl Try.call37 rfl) (encM_ret r (H.get (.there .here))) ?_; rintro _ w114 (⟨hyes, _⟩ | ⟨_, rfl, H1⟩); exact (hok hyes).elim; replace H := H.seq0 H1; clear H1)
                refine WL_stepM rfl (R_mv) ?_
                refine WL_step rfl (R_extract rfl rfl) ?_
                refine WL_step rfl (R_extract rfl rfl) ?_
                refine WL_stepM rfl (R_as) ?_
                refine WL_stepM rfl (R_as) ?_
                refine WL_nil ?_
                refine W_seq ?_
                refine W_region_l ?_
                refine WL_step rfl (R_loadP rfl (H.get .here)) ?_
                (refine WL_call rfl (R_call rfl Try.call30 rfl) (refOk_to (decide_eq_false hok) _) ?_; rintro _ w124 ⟨rfl, H1⟩; replace H := H.seq0 H1; clear H1)
                refine WL_stepM rfl (R_as) ?_
                refine WL_nil ?_
                refine W_seq ?_
                (refine W_draw (KH w [(c9, blk (piC r) 53)]) (fun _ => false) (by kernel_rfl) H ?_; clear H; intro w128 H)
                refine WA_takeM 0 rfl rfl rfl (by kernel_rfl) (by kernel_rfl) (H.kh (by simp) (by repeat' first | exact kNil | apply kCons | apply kApp | assumption | exact OwnS.keys (by assumption))) (fun _ hC => R_mv) ?_
                refine WA_takeM 1 rfl rfl rfl (by kernel_rfl) (by kernel_rfl) (H.kh (by simp) (by repeat' first | exact kNil | apply kCons | apply kApp | assumption | exact OwnS.keys (by assumption))) (fun _ hC => R_mv) ?_
                refine WA_take 2 rfl rfl rfl (by kernel_rfl) (by kernel_rfl) (H.kh (by simp) (by repeat' first | exact kNil | apply kCons | apply kApp | assumption | exact OwnS.keys (by assumption))) (fun _ hC => R_ne_bool_f Try.underlying4 rfl rfl (by decide)) ?_
                refine WA_takeM 3 rfl rfl rfl (by kernel_rfl) (by kernel_rfl) (H.kh (by simp) (by repeat' first | exact kNil | apply kCons | apply kApp | assumption | exact OwnS.keys (by assumption))) (fun _ hC => R_mv) ?_
                refine WA_takeGM 4 rfl rfl rfl rfl (by kernel_rfl) (by kernel_rfl) (H.kh (by simp) (by repeat' first | exact kNil | apply kCons | apply kApp | assumption | exact OwnS.keys (by assumption))) (fun _ hC => R_mv) ?_
                refine WA_takeGM 5 rfl rfl rfl rfl (by kernel_rfl) (by kernel_rfl) (H.kh (by simp) (by repeat' first | exact kNil | apply kCons | apply kApp | assumption | exact OwnS.keys (by assumption))) (fun _ hC => R_mv) ?_
                refine WA_pass 6 rfl rfl rfl (fun h => nomatch h) (by kernel_rfl) (by kernel_rfl) (H.kh (by simp) (by repeat' first | exact kNil | apply kCons | apply kApp | assumption | exact OwnS.keys (by assumption))) ?_
                refine WA_pass 7 rfl rfl rfl (fun h => nomatch h) (by kernel_rfl) (by kernel_rfl) (H.kh (by simp) (by repeat' first | exact kNil | apply kCons | apply kApp | assumption | exact OwnS.keys (by assumption))) ?_
                refine WA_pass 8 rfl rfl rfl (fun h => nomatch h) (by kernel_rfl) (by kernel_rfl) (H.kh (by simp) (by repeat' first | exact kNil | apply kCons | apply kApp | assumption | exact OwnS.keys (by assumption))) ?_
                refine WA_pass 9 rfl rfl rfl (fun h => nomatch h) (by kernel_rfl) (by kernel_rfl) (H.kh (by simp) (by repeat' first | exact kNil | apply kCons | apply kApp | assumption | exact OwnS.keys (by assumption))) ?_
                refine WA_pass 10 rfl rfl rfl (fun h => nomatch h) (by kernel_rfl) (by kernel_rfl) (H.kh (by simp) (by repeat' first | exact kNil | apply kCons | apply kApp | assumption | exact OwnS.keys (by assumption))) ?_
                refine WA_takeGM 11 rfl rfl rfl rfl (by kernel_rfl) (by kernel_rfl) (H.kh (by simp) (by repeat' first | exact kNil | apply kCons | apply kApp | assumption | exact OwnS.keys (by assumption))) (fun _ hC => R_pk_f rfl) ?_
                refine WA_takeM 12 rfl rfl rfl (by kernel_rfl) (by kernel_rfl) (H.kh (by simp) (by repeat' first | exact kNil | apply kCons | apply kApp | assumption | exact OwnS.keys (by assumption))) (fun _ hC => R_pk_f rfl) ?_
                refine WA_done (by kernel_rfl) ?_
                refine W_cond_f rfl ?_
                refine W_skip ?_
                refine W_region_l ?_
                refine WL_stepM rfl (R_mv) ?_
                refine WL_step rfl (R_add rfl rfl (w_i64 (by omega))) ?_
                refine WL_stepM rfl (R_as) ?_
                refine WL_nil ?_
                exact ⟨(same_mov rfl (same_updo rfl (same_mov rfl (same_mov rfl (same_mov rfl (same_updo rfl (same_updo rfl (same_updo rfl (same_updo rfl (same_updo rfl (same_mov rfl (same_mov rfl (same_mov rfl (same_updo rfl (same_mov rfl (same_mov rfl (same_mov rfl (same_updo rfl (same_updo rfl (same_mov rfl (same_mov rfl (same_updo rfl (same_updo rfl (same_mov rfl (same_updo rfl (same_updo rfl (same_mov rfl (same_updn (same_updo rfl (same_updo rfl (same_updo rfl (same_updo rfl (same_updo rfl (same_mov rfl (same_mov rfl (same_updo rfl (same_updo rfl (same_mov rfl same_ovr)))))))))))))))))))))))))))))))))))))), 1, by omega, by omega, rfl, H.pop hc9⟩
            · (refine WI_effnA rfl (.inl rfl) (E_allocP H) (fun _ _ _ H => (by first | exact fun h => absurd h (by decide) | exact fun _ => H | exact fun _ => H.none (by repeat' first | exact kNil | apply kCons | apply kApp | assumption | exact OwnS.keys (by assumption)) | exact fun _ => H.dropN (by repeat' first | exact kNil | apply kCons | apply kApp | assumption | exact OwnS.keys (by assumption)) | exact fun _ => H.pop (by assumption) | exact fun _ => (H.pop (by assumption)).pop (by assumption) | exact fun _ => H.kp | exact fun _ => H.kp.tail | exact fun _ => H.kp.tail.tail | exact fun _ => H.kp.tail.tail.tail | exact fun _ => H.kp.sub (by simp) | exact fun _ => Kp.nil | exact fun _ => H.kh (by simp) (by repeat' first | exact kNil | apply kCons | apply kApp | assumption | exact OwnS.keys (by assumption)))) ?_; clear H; intro c9 w151 hc9 H)
              refine WA_one (i := 6) (by kernel_rfl) ?_
              refine WI_value rfl (.inl rfl) (R_loadA (vs := piC raw) Try.isAgg53 Try.sizeOf53 rfl (H.get (.there .here)) (row0 raw pp) (by rw [rowL]; decide)) (by first | exact fun h => absurd h (by decide) | exact fun _ => H | exact fun _ => H.none (by repeat' first | exact kNil | apply kCons | apply kApp | assumption | exact OwnS.keys (by assumption)) | exact fun _ => H.dropN (by repeat' first | exact kNil | apply kCons | apply kApp | assumption | exact OwnS.keys (by assumption)) | exact fun _ => H.pop (by assumption) | exact fun _ => (H.pop (by assumption)).pop (by assumption) | exact fun _ => H.kp | exact fun _ => H.kp.tail | exact fun _ => H.kp.tail.tail | exact fun _ => H.kp.tail.tail.tail | exact fun _ => H.kp.sub (by simp) | exact fun _ => Kp.nil | exact fun _ => H.kh (by simp) (by repeat' first | exact kNil | apply kCons | apply kApp | assumption | exact OwnS.keys (by assumption))) ?_
              refine WA_one (i := 8) (by kernel_rfl) ?_
              (refine WI_effu rfl (.inl rfl) (E_storeP (q := raw) H rfl rfl .here) (fun _ H => (by first | exact fun h => absurd h (by decide) | exact fun _ => H | exact fun _ => H.none (by repeat' first | exact kNil | apply kCons | apply kApp | assumption | exact OwnS.keys (by assumption)) | exact fun _ => H.dropN (by repeat' first | exact kNil | apply kCons | apply kApp | assumption | exact OwnS.keys (by assumption)) | exact fun _ => H.pop (by assumption) | exact fun _ => (H.pop (by assumption)).pop (by assumption) | exact fun _ => H.kp | exact fun _ => H.kp.tail | exact fun _ => H.kp.tail.tail | exact fun _ => H.kp.tail.tail.tail | exact fun _ => H.kp.sub (by simp) | exact fun _ => Kp.nil | exact fun _ => H.kh (by simp) (by repeat' first | exact kNil | apply kCons | apply kApp | assumption | exact OwnS.keys (by assumption)))) ?_; clear H; intro w155 H; replace H := H.pop2 hc47)
              refine WA_done (by kernel_rfl) ?_
              refine W_seq ?_
              ((obtain ⟨r, H⟩ : ∃ r, Hp w [(c9, blk (piC r) 53), (q, cod), (c3, blk (piC raw) 53)] _ := ⟨_, H⟩; by_cases hok : okP r)) <;> refine W_region_l ?_
              · refine WL_stepM rfl (R_mv) ?_
                refine WL_step rfl (R_loadP rfl (H.get .here)) ?_
                (refine WL_call rfl (R_call rfl Try.call37 rfl) (encM_ret r (H.get (.there .here))) ?_; rintro _ w161 (⟨_, b, rfl, hbb, H1⟩ | ⟨hno, _⟩); rotate_left; exact (hno hok).elim; have hsz := H.size; replace H := H.seqN H1 (kCons hbb kNil); replace hbb := Nat.le_trans hsz hbb; clear H1 hsz)
                refine WL_stepM rfl (R_mv) ?_
                refine WL_step rfl (R_extract rfl rfl) ?_
                refine WL_step rfl (R_extract rfl rfl) ?_
                refine WL_stepM rfl (R_as) ?_
                refine WL_stepM rfl (R_as) ?_
                refine WL_nil ?_
                refine W_seq ?_
                refine W_region_l ?_
                refine WL_step rfl (R_loadP rfl (H.get (.there .here))) ?_
                (refine WL_call rfl (R_call rfl Try.call30 rfl) (refOk_to (decide_eq_true hok) _) ?_; rintro _ w171 ⟨rfl, H1⟩; replace H := H.seq0 H1; clear H1)
                refine WL_stepM rfl (R_as) ?_
                refine WL_nil ?_
                refine W_seq ?_
                (have _g := hbb; refine W_draw (KH w [(b, blk ((bytesP r).map U) 5), (c9, blk (piC r) 53)]) (fun _ => false) (by kernel_rfl) H ?_; clear H; intro w175 H)
                refine WA_takeM 0 rfl rfl rfl (by kernel_rfl) (by kernel_rfl) (H.kh (by simp) (by repeat' first | exact kNil | apply kCons | apply kApp | assumption | exact OwnS.keys (by assumption))) (fun _ hC => R_mv) ?_
                refine WA_takeM 1 rfl rfl rfl (by kernel_rfl) (by kernel_rfl) (H.kh (by simp) (by repeat' first | exact kNil | apply kCons | apply kApp | assumption | exact OwnS.keys (by assumption))) (fun _ hC => R_mv) ?_
                refine WA_take 2 rfl rfl rfl (by kernel_rfl) (by kernel_rfl) (H.kh (by simp) (by repeat' first | exact kNil | apply kCons | apply kApp | assumption | exact OwnS.keys (by assumption))) (fun _ hC => R_ne_bool_f Try.underlying4 rfl rfl (by decide)) ?_
                refine WA_takeM 3 rfl rfl rfl (by kernel_rfl) (by kernel_rfl) (H.kh (by simp) (by repeat' first | exact kNil | apply kCons | apply kApp | assumption | exact OwnS.keys (by assumption))) (fun _ hC => R_mv) ?_
                refine WA_takeGM 4 rfl rfl rfl rfl (by kernel_rfl) (by kernel_rfl) (H.kh (by simp) (by repeat' first | exact kNil | apply kCons | apply kApp | assumption | exact OwnS.keys (by assumption))) (fun _ hC => R_mv) ?_
                refine WA_takeGM 5 rfl rfl rfl rfl (by kernel_rfl) (by kernel_rfl) (H.kh (by simp) (by repeat' first | exact kNil | apply kCons | apply kApp | assumption | exact OwnS.keys (by assumption))) (fun _ hC => R_mv) ?_
                refine WA_takeGM 6 rfl rfl rfl rfl (by kernel_rfl) (by kernel_rfl) (H.kh (by simp) (by repeat' first | exact kNil | apply kCons | apply kApp | assumption | exact OwnS.keys (by assumption))) (fun _ hC => R_mv) ?_
                refine WA_takeG 7 rfl rfl rfl rfl (by kernel_rfl) (by kernel_rfl) (H.kh (by simp) (by repeat' first | exact kNil | apply kCons | apply kApp | assumption | exact OwnS.keys (by assumption))) (fun _ hC => R_conv_bs (xs := bytesP r) Try.underlying22 Try.underlying5 Try.underlying9 rfl (rdP (hC.get .here) (by decide))) ?_
                refine WA_takeG 8 rfl rfl rfl rfl (by kernel_rfl) (by kernel_rfl) (H.kh (by simp) (by repeat' first | exact kNil | apply kCons | apply kApp | assumption | exact OwnS.keys (by assumption))) (fun _ hC => R_loadP rfl (hC.get (.there .here))) ?_
                refine WA_one (i := 9) (by kernel_rfl) ?_
                (refine WI_call rfl (.inr ⟨_, _, rfl, rfl⟩) (R_call rfl Try.call31 rfl) (refBytes_ret r hok _) (fun _ _ hR _ => (H.seq0 hR.2).kh (by simp) (by repeat' first | exact kNil | apply kCons | apply kApp | assumption | exact OwnS.keys (by assumption))) ?_; rintro _ w186 ⟨rfl, H1⟩; replace H := H.seq0 H1; clear H1)
                refine WA_takeG 10 rfl rfl rfl rfl (by kernel_rfl) (by kernel_rfl) (H.kh (by simp) (by repeat' first | exact kNil | apply kCons | apply kApp | assumption | exact OwnS.keys (by assumption))) (fun _ hC => R_ne_S_f rfl rfl rfl) ?_
                refine WA_takeGM 11 rfl rfl rfl rfl (by kernel_rfl) (by kernel_rfl) (H.kh (by simp) (by repeat' first | exact kNil | apply kCons | apply kApp | assumption | exact OwnS.keys (by assumption))) (fun _ hC => R_pk_t rfl) ?_
                refine WA_takeM 12 rfl rfl rfl (by kernel_rfl) (by kernel_rfl) (H.kh (by simp) (by repeat' first | exact kNil | apply kCons | apply kApp | assumption | exact OwnS.keys (by assumption))) (fun _ hC => R_pk_f rfl) ?_
                refine WA_done (by kernel_rfl) ?_
                refine W_cond_f rfl ?_
                refine W_skip ?_
                refine W_region_l ?_
                refine WL_stepM rfl (R_mv) ?_
                refine WL_step rfl (R_add rfl rfl (w_i64 (by omega))) ?_
                refine WL_stepM rfl (R_as) ?_
                refine WL_nil ?_
                exact ⟨(same_mov rfl (same_updo rfl (same_mov rfl (same_mov rfl (same_mov rfl (same_updo rfl (same_updo rfl (same_updo rfl (same_updo rfl (same_mov rfl (same_mov rfl (same_mov rfl (same_mov rfl (same_updo rfl (same_mov rfl (same_mov rfl (same_mov rfl (same_updo rfl (same_updo rfl (same_mov rfl (same_mov rfl (same_updo rfl (same_updo rfl (same_mov rfl (same_updo rfl (same_updo rfl (same_mov rfl (same_updn (same_updo rfl (same_updo rfl (same_updo rfl (same_updo rfl (same_updo rfl (same_mov rfl (same_mov rfl (same_updo rfl (same_updo rfl (same_mov rfl same_ovr)))))))))))))))))))))))))))))))))))))), 1, by omega, by omega, rfl, Hp.dropN (M := [_, _]) H (kCons hbb (kCons hc9 kNil))⟩
              · refine WL_stepM rfl (R_mv) ?_
                refine WL_step rfl (R_loadP rfl (H.get .here)) ?_
                (refine WL_call rfl (R_call rfl Try.call37 rfl) (encM_ret r (H.get (.there .here))) ?_; rintro _ w201 (⟨hyes, _⟩ | ⟨_, rfl, H1⟩); exact (hok hyes).elim; replace H := H.seq0 H1; clear H1)
                refine WL_stepM rfl (R_mv) ?_
                refine WL_step rfl (R_extract rfl rfl) ?_
                refine WL_step rfl (R_extract rfl rfl) ?_
                refine WL_stepM rfl (R_as) ?_
                refine WL_stepM rfl (R_as) ?_
                refine WL_nil ?_
                refine W_seq ?_
                refine W_region_l ?_
                refine WL_step rfl (R_loadP rfl (H.get .here)) ?_
                (refine WL_call rfl (R_call rfl Try.call30 rfl) (refOk_to (decide_eq_false hok) _) ?_; rintro _ w211 ⟨rfl, H1⟩; replace H := H.seq0 H1; clear H1)
                refine WL_stepM rfl (R_as) ?_
                refine WL_nil ?_
                refine W_seq ?_
                (refine W_draw (KH w [(c9, blk (piC r) 53)]) (fun _ => false) (by kernel_rfl) H ?_; clear H; intro w215 H)
                refine WA_takeM 0 rfl rfl rfl (by kernel_rfl) (by kernel_rfl) (H.kh (by simp) (by repeat' first | exact kNil | apply kCons | apply kApp | assumption | exact OwnS.keys (by assumption))) (fun _ hC => R_mv) ?_
                refine WA_takeM 1 rfl rfl rfl (by kernel_rfl) (by kernel_rfl) (H.kh (by simp) (by repeat' first | exact kNil | apply kCons | apply kApp | assumption | exact OwnS.keys (by assumption))) (fun _ hC => R_mv) ?_
                refine WA_take 2 rfl rfl rfl (by kernel_rfl) (by kernel_rfl) (H.kh (by simp) (by repeat' first | exact kNil | apply kCons | apply kApp | assumption | exact OwnS.keys (by assumption))) (fun _ hC => R_ne_bool_f Try.underlying4 rfl rfl (by decide)) ?_
                refine WA_takeM 3 rfl rfl rfl (by kernel_rfl) (by kernel_rfl) (H.kh (by simp) (by repeat' first | exact kNil | apply kCons | apply kApp | assumption | exact OwnS.keys (by assumption))) (fun _ hC => R_mv) ?_
                refine WA_takeGM 4 rfl rfl rfl rfl (by kernel_rfl) (by kernel_rfl) (H.kh (by simp) (by repeat' first | exact kNil | apply kCons | apply kApp | assumption | exact OwnS.keys (by assumption))) (fun _ hC => R_mv) ?_
                refine WA_takeGM 5 rfl rfl rfl rfl (by kernel_rfl) (by kernel_rfl) (H.kh (by simp) (by repeat' first | exact kNil | apply kCons | apply kApp | assumption | exact OwnS.keys (by assumption))) (fun _ hC => R_mv) ?_
                refine WA_pass 6 rfl rfl rfl (fun h => nomatch h) (by kernel_rfl) (by kernel_rfl) (H.kh (by simp) (by repeat' first | exact kNil | apply kCons | apply kApp | assumption | exact OwnS.keys (by assumption))) ?_
                refine WA_pass 7 rfl rfl rfl (fun h => nomatch h) (by kernel_rfl) (by kernel_rfl) (H.kh (by simp) (by repeat' first | exact kNil | apply kCons | apply kApp | assumption | exact OwnS.keys (by assumption))) ?_
                refine WA_pass 8 rfl rfl rfl (fun h => nomatch h) (by kernel_rfl) (by kernel_rfl) (H.kh (by simp) (by repeat' first | exact kNil | apply kCons | apply kApp | assumption | exact OwnS.keys (by assumption))) ?_
                refine WA_pass 9 rfl rfl rfl (fun h => nomatch h) (by kernel_rfl) (by kernel_rfl) (H.kh (by simp) (by repeat' first | exact kNil | apply kCons | apply kApp | assumption | exact OwnS.keys (by assumption))) ?_
                refine WA_pass 10 rfl rfl rfl (fun h => nomatch h) (by kernel_rfl) (by kernel_rfl) (H.kh (by simp) (by repeat' first | exact kNil | apply kCons | apply kApp | assumption | exact OwnS.keys (by assumption))) ?_
                refine WA_takeGM 11 rfl rfl rfl rfl (by kernel_rfl) (by kernel_rfl) (H.kh (by simp) (by repeat' first | exact kNil | apply kCons | apply kApp | assumption | exact OwnS.keys (by assumption))) (fun _ hC => R_pk_f rfl) ?_
                refine WA_takeM 12 rfl rfl rfl (by kernel_rfl) (by kernel_rfl) (H.kh (by simp) (by repeat' first | exact kNil | apply kCons | apply kApp | assumption | exact OwnS.keys (by assumption))) (fun _ hC => R_pk_f rfl) ?_
                refine WA_done (by kernel_rfl) ?_
                refine W_cond_f rfl ?_
                refine W_skip ?_
                refine W_region_l ?_
                refine WL_stepM rfl (R_mv) ?_
                refine WL_step rfl (R_add rfl rfl (w_i64 (by omega))) ?_
                refine WL_stepM rfl (R_as) ?_
                refine WL_nil ?_
                exact ⟨(same_mov rfl (same_updo rfl (same_mov rfl (same_mov rfl (same_mov rfl (same_updo rfl (same_updo rfl (same_updo rfl (same_updo rfl (same_updo rfl (same_mov rfl (same_mov rfl (same_mov rfl (same_updo rfl (same_mov rfl (same_mov rfl (same_mov rfl (same_updo rfl (same_updo rfl (same_mov rfl (same_mov rfl (same_updo rfl (same_updo rfl (same_mov rfl (same_updo rfl (same_updo rfl (same_mov rfl (same_updn (same_updo rfl (same_updo rfl (same_updo rfl (same_updo rfl (same_updo rfl (same_mov rfl (same_mov rfl (same_updo rfl (same_updo rfl (same_mov rfl same_ovr)))))))))))))))))))))))))))))))))))))), 1, by omega, by omega, rfl, H.pop hc9⟩
          · (refine WI_effnA rfl (.inl rfl) (E_allocP H) (fun _ _ _ H => (by first | exact fun h => absurd h (by decide) | exact fun _ => H | exact fun _ => H.none (by repeat' first | exact kNil | apply kCons | apply kApp | assumption | exact OwnS.keys (by assumption)) | exact fun _ => H.dropN (by repeat' first | exact kNil | apply kCons | apply kApp | assumption | exact OwnS.keys (by assumption)) | exact fun _ => H.pop (by assumption) | exact fun _ => (H.pop (by assumption)).pop (by assumption) | exact fun _ => H.kp | exact fun _ => H.kp.tail | exact fun _ => H.kp.tail.tail | exact fun _ => H.kp.tail.tail.tail | exact fun _ => H.kp.sub (by simp) | exact fun _ => Kp.nil | exact fun _ => H.kh (by simp) (by repeat' first | exact kNil | apply kCons | apply kApp | assumption | exact OwnS.keys (by assumption)))) ?_; clear H; intro c9 w238 hc9 H)
            refine WA_one (i := 3) (by kernel_rfl) ?_
            (refine WI_effnA rfl (.inl rfl) (E_buildRows (vss := [piC raw, piC pp]) H Try.underlying70 Try.sizeOf53 Try.zeroValue53 rfl rfl (by decide) rfl rfl (by simp [piC_len])) (fun _ _ _ H => (by first | exact fun h => absurd h (by decide) | exact fun _ => H | exact fun _ => H.none (by repeat' first | exact kNil | apply kCons | apply kApp | assumption | exact OwnS.keys (by assumption)) | exact fun _ => H.dropN (by repeat' first | exact kNil | apply kCons | apply kApp | assumption | exact OwnS.keys (by assumption)) | exact fun _ => H.pop (by assumption) | exact fun _ => (H.pop (by assumption)).pop (by assumption) | exact fun _ => H.kp | exact fun _ => H.kp.tail | exact fun _ => H.kp.tail.tail | exact fun _ => H.kp.tail.tail.tail | exact fun _ => H.kp.sub (by simp) | exact fun _ => Kp.nil | exact fun _ => H.kh (by simp) (by repeat' first | exact kNil | apply kCons | apply kApp | assumption | exact OwnS.keys (by assumption)))) ?_; clear H; intro c47 w240 hc47 H)
            refine WA_take 5 rfl rfl rfl (by kernel_rfl) (by kernel_rfl) (H.kh (by simp) (by repeat' first | exact kNil | apply kCons | apply kApp | assumption | exact OwnS.keys (by assumption))) (fun _ hC => R_indexAddr (off' := 0) Try.underlying70 Try.sizeOf53 rfl rfl (by decide) (by decide) (by decide)) ?_
            refine WA_one (i := 6) (by kernel_rfl) ?_
            refine WI_value rfl (.inl rfl) (R_loadA (vs := piC raw) Try.isAgg53 Try.sizeOf53 rfl (H.get .here) (row0 raw pp) (by rw [rowL]; decide)) (by first | exact fun h => absurd h (by decide) | exact fun _ => H | exact fun _ => H.none (by repeat' first | exact kNil | apply kCons | apply kApp | assumption | exact OwnS.keys (by assumption)) | exact fun _ => H.dropN (by repeat' first | exact kNil | apply kCons | apply kApp | assumption | exact OwnS.keys (by assumption)) | exact fun _ => H.pop (by assumption) | exact fun _ => (H.pop (by assumption)).pop (by assumption) | exact fun _ => H.kp | exact fun _ => H.kp.tail | exact fun _ => H.kp.tail.tail | exact fun _ => H.kp.tail.tail.tail | exact fun _ => H.kp.sub (by simp) | exact fun _ => Kp.nil | exact fun _ => H.kh (by simp) (by repeat' first | exact kNil | apply kCons | apply kApp | assumption | exact OwnS.keys (by assumption))) ?_
            refine WA_one (i := 8) (by kernel_rfl) ?_
            (refine WI_effu rfl (.inl rfl) (E_storeP (q := raw) H rfl rfl (.there .here)) (fun _ H => (by first | exact fun h => absurd h (by decide) | exact fun _ => H | exact fun _ => H.none (by repeat' first | exact kNil | apply kCons | apply kApp | assumption | exact OwnS.keys (by assumption)) | exact fun _ => H.dropN (by repeat' first | exact kNil | apply kCons | apply kApp | assumption | exact OwnS.keys (by assumption)) | exact fun _ => H.pop (by assumption) | exact fun _ => (H.pop (by assumption)).pop (by assumption) | exact fun _ => H.kp | exact fun _ => H.kp.tail | exact fun _ => H.kp.tail.tail | exact fun _ => H.kp.tail.tail.tail | exact fun _ => H.kp.sub (by simp) | exact fun _ => Kp.nil | exact fun _ => H.kh (by simp) (by repeat' first | exact kNil | apply kCons | apply kApp | assumption | exact OwnS.keys (by assumption)))) ?_; clear H; intro w245 H; replace H := H.pop hc47)
            refine WA_done (by kernel_rfl) ?_
            refine W_seq ?_
            ((obtain ⟨r, H⟩ : ∃ r, Hp w [(c9, blk (piC r) 53), (q, cod), (c3, blk (piC raw) 53)] _ := ⟨_, H⟩; by_cases hok : okP r)) <;> refine W_region_l ?_
            · refine WL_stepM rfl (R_mv) ?_
              refine WL_step rfl (R_loadP rfl (H.get .here)) ?_
              (refine WL_call rfl (R_call rfl Try.call37 rfl) (encM_ret r (H.get (.there .here))) ?_; rintro _ w251 (⟨_, b, rfl, hbb, H1⟩ | ⟨hno, _⟩); rotate_left; exact (hno hok).elim; have hsz := H.size; replace H := H.seqN H1 (kCons hbb kNil); replace hbb := Nat.le_trans hsz hbb; clear H1 hsz)
              refine WL_stepM rfl (R_mv) ?_
              refine WL_step rfl (R_extract rfl rfl) ?_
              refine WL_step rfl (R_extract rfl rfl) ?_
              refine WL_stepM rfl (R_as) ?_
              refine WL_stepM rfl (R_as) ?_
              refine WL_nil ?_
              refine W_seq ?_
              refine W_region_l ?_
              refine WL_step rfl (R_loadP rfl (H.get (.there .here))) ?_
              (refine WL_call rfl (R_call rfl Try.call30 rfl) (refOk_to (decide_eq_true hok) _) ?_; rintro _ w261 ⟨rfl, H1⟩; replace H := H.seq0 H1; clear H1)
              refine WL_stepM rfl (R_as) ?_
              refine WL_nil ?_
              refine W_seq ?_
              (have _g := hbb; refine W_draw (KH w [(b, blk ((bytesP r).map U) 5), (c9, blk (piC r) 53)]) (fun _ => false) (by kernel_rfl) H ?_; clear H; intro w265 H)
              refine WA_takeM 0 rfl rfl rfl (by kernel_rfl) (by kernel_rfl) (H.kh (by simp) (by repeat' first | exact kNil | apply kCons | apply kApp | assumption | exact OwnS.keys (by assumption))) (fun _ hC => R_mv) ?_
              refine WA_takeM 1 rfl rfl rfl (by kernel_rfl) (by kernel_rfl) (H.kh (by simp) (by repeat' first | exact kNil | apply kCons | apply kApp | assumption | exact OwnS.keys (by assumption))) (fun _ hC => R_mv) ?_
              refine WA_take 2 rfl rfl rfl (by kernel_rfl) (by kernel_rfl) (H.kh (by simp) (by repeat' first | exact kNil | apply kCons | apply kApp | assumption | exact OwnS.keys (by assumption))) (fun _ hC => R_ne_bool_f Try.underlying4 rfl rfl (by decide)) ?_
              refine WA_takeM 3 rfl rfl rfl (by kernel_rfl) (by kernel_rfl) (H.kh (by simp) (by repeat' first | exact kNil | apply kCons | apply kApp | assumption | exact OwnS.keys (by assumption))) (fun _ hC => R_mv) ?_
              refine WA_takeGM 4 rfl rfl rfl rfl (by kernel_rfl) (by kernel_rfl) (H.kh (by simp) (by repeat' first | exact kNil | apply kCons | apply kApp | assumption | exact OwnS.keys (by assumption))) (fun _ hC => R_mv) ?_
              refine WA_takeGM 5 rfl rfl rfl rfl (by kernel_rfl) (by kernel_rfl) (H.kh (by simp) (by repeat' first | exact kNil | apply kCons | apply kApp | assumption | exact OwnS.keys (by assumption))) (fun _ hC => R_mv) ?_
              refine WA_takeGM 6 rfl rfl rfl rfl (by kernel_rfl) (by kernel_rfl) (H.kh (by simp) (by repeat' first | exact kNil | apply kCons | apply kApp | assumption | exact OwnS.keys (by assumption))) (fun _ hC => R_mv) ?_
              refine WA_takeG 7 rfl rfl rfl rfl (by kernel_rfl) (by kernel_rfl) (H.kh (by simp) (by repeat' first | exact kNil | apply kCons | apply kApp | assumption | exact OwnS.keys (by assumption))) (fun _ hC => R_conv_bs (xs := bytesP r) Try.underlying22 Try.underlying5 Try.underlying9 rfl (rdP (hC.get .here) (by decide))) ?_
              refine WA_takeG 8 rfl rfl rfl rfl (by kernel_rfl) (by kernel_rfl) (H.kh (by simp) (by repeat' first | exact kNil | apply kCons | apply kApp | assumption | exact OwnS.keys (by assumption))) (fun _ hC => R_loadP rfl (hC.get (.there .here))) ?_
              refine WA_one (i := 9) (by kernel_rfl) ?_
              (refine WI_call rfl (.inr ⟨_, _, rfl, rfl⟩) (R_call rfl Try.call31 rfl) (refBytes_ret r hok _) (fun _ _ hR _ => (H.seq0 hR.2).kh (by simp) (by repeat' first | exact kNil | apply kCons | apply kApp | assumption | exact OwnS.keys (by assumption))) ?_; rintro _ w276 ⟨rfl, H1⟩; replace H := H.seq0 H1; clear H1)
              refine WA_takeG 10 rfl rfl rfl rfl (by kernel_rfl) (by kernel_rfl) (H.kh (by simp) (by repeat' first | exact kNil | apply kCons | apply kApp | assumption | exact OwnS.keys (by assumption))) (fun _ hC => R_ne_S_f rfl rfl rfl) ?_
              refine WA_takeGM 11 rfl rfl rfl rfl (by kernel_rfl) (by kernel_rfl) (H.kh (by simp) (by repeat' first | exact kNil | apply kCons | apply kApp | assumption | exact OwnS.keys (by assumption))) (fun _ hC => R_pk_t rfl) ?_
              refine WA_takeM 12 rfl rfl rfl (by kernel_rfl) (by kernel_rfl) (H.kh (by simp) (by repeat' first | exact kNil | apply kCons | apply kApp | assumption | exact OwnS.keys (by assumption))) (fun _ hC => R_pk_f rfl) ?_
              refine WA_done (by kernel_rfl) ?_
              refine W_cond_f rfl ?_
              refine W_skip ?_
              refine W_region_l ?_
              refine WL_stepM rfl (R_mv) ?_
              refine WL_step rfl (R_add rfl rfl (w_i64 (by omega))) ?_
              refine WL_stepM rfl (R_as) ?_
              refine WL_nil ?_
              exact ⟨(same_mov rfl (same_updo rfl (same_mov rfl (same_mov rfl (same_mov rfl (same_updo rfl (same_updo rfl (same_updo rfl (same_updo rfl (same_mov rfl (same_mov rfl (same_mov rfl (same_mov rfl (same_updo rfl (same_mov rfl (same_mov rfl (same_mov rfl (same_updo rfl (same_updo rfl (same_mov rfl (same_mov rfl (same_updo rfl (same_updo rfl (same_mov rfl (same_updo rfl (same_updo rfl (same_mov rfl (same_updn (same_updo rfl (same_updo rfl (same_updo rfl (same_updo rfl (same_updo rfl (same_mov rfl (same_mov rfl (same_updo rfl (same_updo rfl (same_mov rfl same_ovr)))))))))))))))))))))))))))))))))))))), 1, by omega, by omega, rfl, Hp.dropN (M := [_, _]) H (kCons hbb (kCons hc9 kNil))⟩
            · refine WL_stepM rfl (R_mv) ?_
              refine WL_step rfl (R_loadP rfl (H.get .here)) ?_
              (refine WL_call rfl (R_call rfl Try.call37 rfl) (encM_ret r (H.get (.there .here))) ?_; rintro _ w291 (⟨hyes, _⟩ | ⟨_, rfl, H1⟩); exact (hok hyes).elim; replace H := H.seq0 H1; clear H1)
              refine WL_stepM rfl (R_mv) ?_
              refine WL_step rfl (R_extract rfl rfl) ?_
              refine WL_step rfl (R_extract rfl rfl) ?_
              refine WL_stepM rfl (R_as) ?_
              refine WL_stepM rfl (R_as) ?_
              refine WL_nil ?_
              refine W_seq ?_
              refine W_region_l ?_
              refine WL_step rfl (R_loadP rfl (H.get .here)) ?_
              (refine WL_call rfl (R_call rfl Try.call30 rfl) (refOk_to (decide_eq_false hok) _) ?_; rintro _ w301 ⟨rfl, H1⟩; replace H := H.seq0 H1; clear H1)
              refine WL_stepM rfl (R_as) ?_
              refine WL_nil ?_
              refine W_seq ?_
              (refine W_draw (KH w [(c9, blk (piC r) 53)]) (fun _ => false) (by kernel_rfl) H ?_; clear H; intro w305 H)
              refine WA_takeM 0 rfl rfl rfl (by kernel_rfl) (by kernel_rfl) (H.kh (by simp) (by repeat' first | exact kNil | apply kCons | apply kApp | assumption | exact OwnS.keys (by assumption))) (fun _ hC => R_mv) ?_
              refine WA_takeM 1 rfl rfl rfl (by kernel_rfl) (by kernel_rfl) (H.kh (by simp) (by repeat' first | exact kNil | apply kCons | apply kApp | assumption | exact OwnS.keys (by assumption))) (fun _ hC => R_mv) ?_
              refine WA_take 2 rfl rfl rfl (by kernel_rfl) (by kernel_rfl) (H.kh (by simp) (by repeat' first | exact kNil | apply kCons | apply kApp | assumption | exact OwnS.keys (by assumption))) (fun _ hC => R_ne_bool_f Try.underlying4 rfl rfl (by decide)) ?_
              refine WA_takeM 3 rfl rfl rfl (by kernel_rfl) (by kernel_rfl) (H.kh (by simp) (by repeat' first | exact kNil | apply kCons | apply kApp | assumption | exact OwnS.keys (by assumption))) (fun _ hC => R_mv) ?_
              refine WA_takeGM 4 rfl rfl rfl rfl (by kernel_rfl) (by kernel_rfl) (H.kh (by simp) (by repeat' first | exact kNil | apply kCons | apply kApp | assumption | exact OwnS.keys (by assumption))) (fun _ hC => R_mv) ?_
              refine WA_takeGM 5 rfl rfl rfl rfl (by kernel_rfl) (by kernel_rfl) (H.kh (by simp) (by repeat' first | exact kNil | apply kCons | apply kApp | assumption | exact OwnS.keys (by assumption))) (fun _ hC => R_mv) ?_
              refine WA_pass 6 rfl rfl rfl (fun h => nomatch h) (by kernel_rfl) (by kernel_rfl) (H.kh (by simp) (by repeat' first | exact kNil | apply kCons | apply kApp | assumption | exact OwnS.keys (by assumption))) ?_
              refine WA_pass 7 rfl rfl rfl (fun h => nomatch h) (by kernel_rfl) (by kernel_rfl) (H.kh (by simp) (by repeat' first | exact kNil | apply kCons | apply kApp | assumption | exact OwnS.keys (by assumption))) ?_
              refine WA_pass 8 rfl rfl rfl (fun h => nomatch h) (by kernel_rfl) (by kernel_rfl) (H.kh (by simp) (by repeat' first | exact kNil | apply kCons | apply kApp | assumption | exact OwnS.keys (by assumption))) ?_
              refine WA_pass 9 rfl rfl rfl (fun h => nomatch h) (by kernel_rfl) (by kernel_rfl) (H.kh (by simp) (by repeat' first | exact kNil | apply kCons | apply kApp | assumption | exact OwnS.keys (by assumption))) ?_
              refine WA_pass 10 rfl rfl rfl (fun h => nomatch h) (by kernel_rfl) (by kernel_rfl) (H.kh (by simp) (by repeat' first | exact kNil | apply kCons | apply kApp | assumption | exact OwnS.keys (by assumption))) ?_
              refine WA_takeGM 11 rfl rfl rfl rfl (by kernel_rfl) (by kernel_rfl) (H.kh (by simp) (by repeat' first | exact kNil | apply kCons | apply kApp | assumption | exact OwnS.keys (by assumption))) (fun _ hC => R_pk_f rfl) ?_
              refine WA_takeM 12 rfl rfl rfl (by kernel_rfl) (by kernel_rfl) (H.kh (by simp) (by repeat' first | exact kNil | apply kCons | apply kApp | assumption | exact OwnS.keys (by assumption))) (fun _ hC => R_pk_f rfl) ?_
              refine WA_done (by kernel_rfl) ?_
              refine W_cond_f rfl ?_
              refine W_skip ?_
              refine W_region_l ?_
              refine WL_stepM rfl (R_mv) ?_
              refine WL_step rfl (R_add rfl rfl (w_i64 (by omega))) ?_
              refine WL_stepM rfl (R_as) ?_
              refine WL_nil ?_
              exact ⟨(same_mov rfl (same_updo rfl (same_mov rfl (same_mov rfl (same_mov rfl (same_updo rfl (same_updo rfl (same_updo rfl (same_updo rfl (same_updo rfl (same_mov rfl (same_mov rfl (same_mov rfl (same_updo rfl (same_mov rfl (same_mov rfl (same_mov rfl (same_updo rfl (same_updo rfl (same_mov rfl (same_mov rfl (same_updo rfl (same_updo rfl (same_mov rfl (same_updo rfl (same_updo rfl (same_mov rfl (same_updn (same_updo rfl (same_updo rfl (same_updo rfl (same_updo rfl (same_updo rfl (same_mov rfl (same_mov rfl (same_updo rfl (same_updo rfl (same_mov rfl same_ovr)))))))))))))))))))))))))))))))))))))), 1, by omega, by omega, rfl, H.pop hc9⟩
        · (refine WI_effnA rfl (.inl rfl) (E_allocP H) (fun _ _ _ H => (by first | exact fun h => absurd h (by decide) | exact fun _ => H | exact fun _ => H.none (by repeat' first | exact kNil | apply kCons | apply kApp | assumption | exact OwnS.keys (by assumption)) | exact fun _ => H.dropN (by repeat' first | exact kNil | apply kCons | apply kApp | assumption | exact OwnS.keys (by assumption)) | exact fun _ => H.pop (by assumption) | exact fun _ => (H.pop (by assumption)).pop (by assumption) | exact fun _ => H.kp | exact fun _ => H.kp.tail | exact fun _ => H.kp.tail.tail | exact fun _ => H.kp.tail.tail.tail | exact fun _ => H.kp.sub (by simp) | exact fun _ => Kp.nil | exact fun _ => H.kh (by simp) (by repeat' first | exact kNil | apply kCons | apply kApp | assumption | exact OwnS.keys (by assumption)))) ?_; clear H; intro c9 w328 hc9 H)
          refine WA_one (i := 2) (by kernel_rfl) ?_
          (refine WI_call rfl (.inl rfl) (R_call rfl Try.call33 rfl) (proc_ret (hl.monoN H (by repeat' first | exact kNil | apply kCons | apply kApp | assumption | exact OwnS.keys (by assumption))) hlb) (fun _ _ ⟨_, _, _, hR⟩ _ => (H.seq0 hR).kh (by simp) (by repeat' first | exact kNil | apply kCons | apply kApp | assumption | exact OwnS.keys (by assumption))) ?_; rintro _ w330 ⟨pp, hpp, rfl, H1⟩; replace H := H.seq0 H1; clear H1)
          refine WA_one (i := 3) (by kernel_rfl) ?_
          (refine WI_effnA rfl (.inl rfl) (E_buildRows (vss := [piC raw, piC pp]) H Try.underlying70 Try.sizeOf53 Try.zeroValue53 rfl rfl (by decide) rfl rfl (by simp [piC_len])) (fun _ _ _ H => (by first | exact fun h => absurd h (by decide) | exact fun _ => H | exact fun _ => H.none (by repeat' first | exact kNil | apply kCons | apply kApp | assumption | exact OwnS.keys (by assumption)) | exact fun _ => H.dropN (by repeat' first | exact kNil | apply kCons | apply kApp | assumption | exact OwnS.keys (by assumption)) | exact fun _ => H.pop (by assumption) | exact fun _ => (H.pop (by assumption)).pop (by assumption) | exact fun _ => H.kp | exact fun _ => H.kp.tail | exact fun _ => H.kp.tail.tail | exact fun _ => H.kp.tail.tail.tail | exact fun _ => H.kp.sub (by simp) | exact fun _ => Kp.nil | exact fun _ => H.kh (by simp) (by repeat' first | exact kNil | apply kCons | apply kApp | assumption | exact OwnS.keys (by assumption)))) ?_; clear H; intro c47 w332 hc47 H)
          refine WA_take 5 rfl rfl rfl (by kernel_rfl) (by kernel_rfl) (H.kh (by simp) (by repeat' first | exact kNil | apply kCons | apply kApp | assumption | exact OwnS.keys (by assumption))) (fun _ hC => R_indexAddr (off' := 0) Try.underlying70 Try.sizeOf53 rfl rfl (by decide) (by decide) (by decide)) ?_
          refine WA_one (i := 6) (by kernel_rfl) ?_
          refine WI_value rfl (.inl rfl) (R_loadA (vs := piC raw) Try.isAgg53 Try.sizeOf53 rfl (H.get .here) (row0 raw pp) (by rw [rowL]; decide)) (by first | exact fun h => absurd h (by decide) | exact fun _ => H | exact fun _ => H.none (by repeat' first | exact kNil | apply kCons | apply kApp | assumption | exact OwnS.keys (by assumption)) | exact fun _ => H.dropN (by repeat' first | exact kNil | apply kCons | apply kApp | assumption | exact OwnS.keys (by assumption)) | exact fun _ => H.pop (by assumption) | exact fun _ => (H.pop (by assumption)).pop (by assumption) | exact fun _ => H.kp | exact fun _ => H.kp.tail | exact fun _ => H.kp.tail.tail | exact fun _ => H.kp.tail.tail.tail | exact fun _ => H.kp.sub (by simp) | exact fun _ => Kp.nil | exact fun _ => H.kh (by simp) (by repeat' first | exact kNil | apply kCons | apply kApp | assumption | exact OwnS.keys (by assumption))) ?_
          refine WA_one (i := 8) (by kernel_rfl) ?_
          (refine WI_effu rfl (.inl rfl) (E_storeP (q := raw) H rfl rfl (.there .here)) (fun _ H => (by first | exact fun h => absurd h (by decide) | exact fun _ => H | exact fun _ => H.none (by repeat' first | exact kNil | apply kCons | apply kApp | assumption | exact OwnS.keys (by assumption)) | exact fun _ => H.dropN (by repeat' first | exact kNil | apply kCons | apply kApp | assumption | exact OwnS.keys (by assumption)) | exact fun _ => H.pop (by assumption) | exact fun _ => (H.pop (by assumption)).pop (by assumption) | exact fun _ => H.kp | exact fun _ => H.kp.tail | exact fun _ => H.kp.tail.tail | exact fun _ => H.kp.tail.tail.tail | exact fun _ => H.kp.sub (by simp) | exact fun _ => Kp.nil | exact fun _ => H.kh (by simp) (by repeat' first | exact kNil | apply kCons | apply kApp | assumption | exact OwnS.keys (by assumption)))) ?_; clear H; intro w337 H; replace H := H.pop hc47)
          refine WA_done (by kernel_rfl) ?_
          refine W_seq ?_
          ((obtain ⟨r, H⟩ : ∃ r, Hp w [(c9, blk (piC r) 53), (q, cod), (c3, blk (piC raw) 53)] _ := ⟨_, H⟩; by_cases hok : okP r)) <;> refine W_region_l ?_
          · refine WL_stepM rfl (R_mv) ?_
            refine WL_step rfl (R_loadP rfl (H.get .here)) ?_
            (refine WL_call rfl (R_call rfl Try.call37 rfl) (encM_ret r (H.get (.there .here))) ?_; rintro _ w343 (⟨_, b, rfl, hbb, H1⟩ | ⟨hno, _⟩); rotate_left; exact (hno hok).elim; have hsz := H.size; replace H := H.seqN H1 (kCons hbb kNil); replace hbb := Nat.le_trans hsz hbb; clear H1 hsz)
            refine WL_stepM rfl (R_mv) ?_
            refine WL_step rfl (R_extract rfl rfl) ?_
            refine WL_step rfl (R_extract rfl rfl) ?_
            refine WL_stepM rfl (R_as) ?_
            refine WL_stepM rfl (R_as) ?_
            refine WL_nil ?_
            refine W_seq ?_
            refine W_region_l ?_
            refine WL_step rfl (R_loadP rfl (H.get (.there .here))) ?_
            (refine WL_call rfl (R_call rfl Try.call30 rfl) (refOk_to (decide_eq_true hok) _) ?_; rintro _ w353 ⟨rfl, H1⟩; replace H := H.seq0 H1; clear H1)
            refine WL_stepM rfl (R_as) ?_
            refine WL_nil ?_
            refine W_seq ?_
            (have _g := hbb; refine W_draw (KH w [(b, blk ((bytesP r).map U) 5), (c9, blk (piC r) 53)]) (fun _ => false) (by kernel_rfl) H ?_; clear H; intro w357 H)
            refine WA_takeM 0 rfl rfl rfl (by kernel_rfl) (by kernel_rfl) (H.kh (by simp) (by repeat' first | exact kNil | apply kCons | apply kApp | assumption | exact OwnS.keys (by assumption))) (fun _ hC => R_mv) ?_
            refine WA_takeM 1 rfl rfl rfl (by kernel_rfl) (by kernel_rfl) (H.kh (by simp) (by repeat' first | exact kNil | apply kCons | apply kApp | assumption | exact OwnS.keys (by assumption))) (fun _ hC => R_mv) ?_
            refine WA_take 2 rfl rfl rfl (by kernel_rfl) (by kernel_rfl) (H.kh (by simp) (by repeat' first | exact kNil | apply kCons | apply kApp | assumption | exact OwnS.keys (by assumption))) (fun _ hC => R_ne_bool_f Try.underlying4 rfl rfl (by decide)) ?_
            refine WA_takeM 3 rfl rfl rfl (by kernel_rfl) (by kernel_rfl) (H.kh (by simp) (by repeat' first | exact kNil | apply kCons | apply kApp | assumption | exact OwnS.keys (by assumption))) (fun _ hC => R_mv) ?_
            refine WA_takeGM 4 rfl rfl rfl rfl (by kernel_rfl) (by kernel_rfl) (H.kh (by simp) (by repeat' first | exact kNil | apply kCons | apply kApp | assumption | exact OwnS.keys (by assumption))) (fun _ hC => R_mv) ?_
            refine WA_takeGM 5 rfl rfl rfl rfl (by kernel_rfl) (by kernel_rfl) (H.kh (by simp) (by repeat' first | exact kNil | apply kCons | apply kApp | assumption | exact OwnS.keys (by assumption))) (fun _ hC => R_mv) ?_
            refine WA_takeGM 6 rfl rfl rfl rfl (by kernel_rfl) (by kernel_rfl) (H.kh (by simp) (by repeat' first | exact kNil | apply kCons | apply kApp | assumption | exact OwnS.keys (by assumption))) (fun _ hC => R_mv) ?_
            refine WA_takeG 7 rfl rfl rfl rfl (by kernel_rfl) (by kernel_rfl) (H.kh (by simp) (by repeat' first | exact kNil | apply kCons | apply kApp | assumption | exact OwnS.keys (by assumption))) (fun _ hC => R_conv_bs (xs := bytesP r) Try.underlying22 Try.underlying5 Try.underlying9 rfl (rdP (hC.get .here) (by decide))) ?_
            refine WA_takeG 8 rfl rfl rfl rfl (by kernel_rfl) (by kernel_rfl) (H.kh (by simp) (by repeat' first | exact kNil | apply kCons | apply kApp | assumption | exact OwnS.keys (by assumption))) (fun _ hC => R_loadP rfl (hC.get (.there .here))) ?_
            refine WA_one (i := 9) (by kernel_rfl) ?_
            (refine WI_call rfl (.inr ⟨_, _, rfl, rfl⟩) (R_call rfl Try.call31 rfl) (refBytes_ret r hok _) (fun _ _ hR _ => (H.seq0 hR.2).kh (by simp) (by repeat' first | exact kNil | apply kCons | apply kApp | assumption | exact OwnS.keys (by assumption))) ?_; rintro _ w368 ⟨rfl, H1⟩; replace H := H.seq0 H1; clear H1)
            refine WA_takeG 10 rfl rfl rfl rfl (by kernel_rfl) (by kernel_rfl) (H.kh (by simp) (by repeat' first | exact kNil | apply kCons | apply kApp | assumption | exact OwnS.keys (by assumption))) (fun _ hC => R_ne_S_f rfl rfl rfl) ?_
            refine WA_takeGM 11 rfl rfl rfl rfl (by kernel_rfl) (by kernel_rfl) (H.kh (by simp) (by repeat' first | exact kNil | apply kCons | apply kApp | assumption | exact OwnS.keys (by assumption))) (fun _ hC => R_pk_t rfl) ?_
            refine WA_takeM 12 rfl rfl rfl (by kernel_rfl) (by kernel_rfl) (H.kh (by simp) (by repeat' first | exact kNil | apply kCons | apply kApp | assumption | exact OwnS.keys (by assumption))) (fun _ hC => R_pk_f rfl) ?_
            refine WA_done (by kernel_rfl) ?_
            refine W_cond_f rfl ?_
            refine W_skip ?_
            refine W_region_l ?_
            refine WL_stepM rfl (R_mv) ?_
            refine WL_step rfl (R_add rfl rfl (w_i64 (by omega))) ?_
            refine WL_stepM rfl (R_as) ?_
            refine WL_nil ?_
            exact ⟨(same_mov rfl (same_updo rfl (same_mov rfl (same_mov rfl (same_mov rfl (same_updo rfl (same_updo rfl (same_updo rfl (same_updo rfl (same_mov rfl (same_mov rfl (same_mov rfl (same_mov rfl (same_updo rfl (same_mov rfl (same_mov rfl (same_mov rfl (same_updo rfl (same_updo rfl (same_mov rfl (same_mov rfl (same_updo rfl (same_updo rfl (same_mov rfl (same_updo rfl (same_updo rfl (same_mov rfl (same_updn (same_updo rfl (same_updo rfl (same_updo rfl (same_updo rfl (same_updo rfl (same_mov rfl (same_mov rfl (same_updo rfl (same_updo rfl (same_mov rfl same_ovr)))))))))))))))))))))))))))))))))))))), 1, by omega, by omega, rfl, Hp.dropN (M := [_, _]) H (kCons hbb (kCons hc9 kNil))⟩
          · refine WL_stepM rfl (R_mv) ?_
            refine WL_step rfl (R_loadP rfl (H.get .here)) ?_
            (refine WL_call rfl (R_call rfl Try.call37 rfl) (encM_ret r (H.get (.there .here))) ?_; rintro _ w383 (⟨hyes, _⟩ | ⟨_, rfl, H1⟩); exact (hok hyes).elim; replace H := H.seq0 H1; clear H1)
            refine WL_stepM rfl (R_mv) ?_
            refine WL_step rfl (R_extract rfl rfl) ?_
            refine WL_step rfl (R_extract rfl rfl) ?_
            refine WL_stepM rfl (R_as) ?_
            refine WL_stepM rfl (R_as) ?_
            refine WL_nil ?_
            refine W_seq ?_
            refine W_region_l ?_
            refine WL_step rfl (R_loadP rfl (H.get .here)) ?_
            (refine WL_call rfl (R_call rfl Try.call30 rfl) (refOk_to (decide_eq_false hok) _) ?_; rintro _ w393 ⟨rfl, H1⟩; replace H := H.seq0 H1; clear H1)
            refine WL_stepM rfl (R_as) ?_
            refine WL_nil ?_
            refine W_seq ?_
            (refine W_draw (KH w [(c9, blk (piC r) 53)]) (fun _ => false) (by kernel_rfl) H ?_; clear H; intro w397 H)
            refine WA_takeM 0 rfl rfl rfl (by kernel_rfl) (by kernel_rfl) (H.kh (by simp) (by repeat' first | exact kNil | apply kCons | apply kApp | assumption | exact OwnS.keys (by assumption))) (fun _ hC => R_mv) ?_
            refine WA_takeM 1 rfl rfl rfl (by kernel_rfl) (by kernel_rfl) (H.kh (by simp) (by repeat' first | exact kNil | apply kCons | apply kApp | assumption | exact OwnS.keys (by assumption))) (fun _ hC => R_mv) ?_
            refine WA_take 2 rfl rfl rfl (by kernel_rfl) (by kernel_rfl) (H.kh (by simp) (by repeat' first | exact kNil | apply kCons | apply kApp | assumption | exact OwnS.keys (by assumption))) (fun _ hC => R_ne_bool_f Try.underlying4 rfl rfl (by decide)) ?_
            refine WA_takeM 3 rfl rfl rfl (by kernel_rfl) (by kernel_rfl) (H.kh (by simp) (by repeat' first | exact kNil | apply kCons | apply kApp | assumption | exact OwnS.keys (by assumption))) (fun _ hC => R_mv) ?_
            refine WA_takeGM 4 rfl rfl rfl rfl (by kernel_rfl) (by kernel_rfl) (H.kh (by simp) (by repeat' first | exact kNil | apply kCons | apply kApp | assumption | exact OwnS.keys (by assumption))) (fun _ hC => R_mv) ?_
            refine WA_takeGM 5 rfl rfl rfl rfl (by kernel_rfl) (by kernel_rfl) (H.kh (by simp) (by repeat' first | exact kNil | apply kCons | apply kApp | assumption | exact OwnS.keys (by assumption))) (fun _ hC => R_mv) ?_
            refine WA_pass 6 rfl rfl rfl (fun h => nomatch h) (by kernel_rfl) (by kernel_rfl) (H.kh (by simp) (by repeat' first | exact kNil | apply kCons | apply kApp | assumption | exact OwnS.keys (by assumption))) ?_
            refine WA_pass 7 rfl rfl rfl (fun h => nomatch h) (by kernel_rfl) (by kernel_rfl) (H.kh (by simp) (by repeat' first | exact kNil | apply kCons | apply kApp | assumption | exact OwnS.keys (by assumption))) ?_
            refine WA_pass 8 rfl rfl rfl (fun h => nomatch h) (by kernel_rfl) (by kernel_rfl) (H.kh (by simp) (by repeat' first | exact kNil | apply kCons | apply kApp | assumption | exact OwnS.keys (by assumption))) ?_
            refine WA_pass 9 rfl rfl rfl (fun h => nomatch h) (by kernel_rfl) (by kernel_rfl) (H.kh (by simp) (by repeat' first | exact kNil | apply kCons | apply kApp | assumption | exact OwnS.keys (by assumption))) ?_
            refine WA_pass 10 rfl rfl rfl (fun h => nomatch h) (by kernel_rfl) (by kernel_rfl) (H.kh (by simp) (by repeat' first | exact kNil | apply kCons | apply kApp | assumption | exact OwnS.keys (by assumption))) ?_
            refine WA_takeGM 11 rfl rfl rfl rfl (by kernel_rfl) (by kernel_rfl) (H.kh (by simp) (by repeat' first | exact kNil | apply kCons | apply kApp | assumption | exact OwnS.keys (by assumption))) (fun _ hC => R_pk_f rfl) ?_
            refine WA_takeM 12 rfl rfl rfl (by kernel_rfl) (by kernel_rfl) (H.kh (by simp) (by repeat' first | exact kNil | apply kCons | apply kApp | assumption | exact OwnS.keys (by assumption))) (fun _ hC => R_pk_f rfl) ?_
            refine WA_done (by kernel_rfl) ?_
            refine W_cond_f rfl ?_
            refine W_skip ?_
            refine W_region_l ?_
            refine WL_stepM rfl (R_mv) ?_
            refine WL_step rfl (R_add rfl rfl (w_i64 (by omega))) ?_
            refine WL_stepM rfl (R_as) ?_
            refine WL_nil ?_
            exact ⟨(same_mov rfl (same_updo rfl (same_mov rfl (same_mov rfl (same_mov rfl (same_updo rfl (same_updo rfl (same_updo rfl (same_updo rfl (same_updo rfl (same_mov rfl (same_mov rfl (same_mov rfl (same_updo rfl (same_mov rfl (same_mov rfl (same_mov rfl (same_updo rfl (same_updo rfl (same_mov rfl (same_mov rfl (same_updo rfl (same_updo rfl (same_mov rfl (same_updo rfl (same_updo rfl (same_mov rfl (same_updn (same_updo rfl (same_updo rfl (same_updo rfl (same_updo rfl (same_updo rfl (same_mov rfl (same_mov rfl (same_updo rfl (same_updo rfl (same_mov rfl same_ovr)))))))))))))))))))))))))))))))))))))), 1, by omega, by omega, rfl, H.pop hc9⟩
      · refine W_seq ?_
        refine W_seq ?_
        refine W_region_l ?_
        refine WL_stepM rfl (R_mv) ?_
        refine WL_step rfl (R_lt_t rfl rfl (by omega)) ?_
        refine WL_nil ?_
        refine W_cond_t rfl ?_
        refine W_skip ?_
        refine W_seq ?_
        refine W_block ?_
        refine W_seq ?_
        (refine W_draw (KH w [(c3, blk (piC raw) 53)]) (fun _ => false) (by kernel_rfl) H ?_; clear H; intro w431 H)
        refine WA_take 0 rfl rfl rfl (by kernel_rfl) (by kernel_rfl) (H.kh (by simp) (by repeat' first | exact kNil | apply kCons | apply kApp | assumption | exact OwnS.keys (by assumption))) (fun _ hC => R_loadP rfl (hC.get .here)) ?_
        refine WA_takeM 1 rfl rfl rfl (by kernel_rfl) (by kernel_rfl) (H.kh (by simp) (by repeat' first | exact kNil | apply kCons | apply kApp | assumption | exact OwnS.keys (by assumption))) (fun _ hC => R_mv) ?_
        refine WA_takeM 4 rfl rfl rfl (by kernel_rfl) (by kernel_rfl) (H.kh (by simp) (by repeat' first | exact kNil | apply kCons | apply kApp | assumption | exact OwnS.keys (by assumption))) (fun _ hC => R_mv) ?_
        refine WA_two (i := 2) (j := 7) (by kernel_rfl) ?_ ?_
        · (refine WI_call rfl (.inl rfl) (R_call rfl Try.call33 rfl) (proc_ret (hl.monoN H (by repeat' first | exact kNil | apply kCons | apply kApp | assumption | exact OwnS.keys (by assumption))) hlb) (fun _ _ ⟨_, _, _, hR⟩ _ => (H.seq0 hR).kh (by simp) (by repeat' first | exact kNil | apply kCons | apply kApp | assumption | exact OwnS.keys (by assumption))) ?_; rintro _ w436 ⟨pp, hpp, rfl, H1⟩; replace H := H.seq0 H1; clear H1)
          refine WA_two (i := 3) (j := 7) (by kernel_rfl) ?_ ?_
          · (refine WI_effnA rfl (.inl rfl) (E_buildRows (vss := [piC raw, piC pp]) H Try.underlying70 Try.sizeOf53 Try.zeroValue53 rfl rfl (by decide) rfl rfl (by simp [piC_len])) (fun _ _ _ H => (by first | exact fun h => absurd h (by decide) | exact fun _ => H | exact fun _ => H.none (by repeat' first | exact kNil | apply kCons | apply kApp | assumption | exact OwnS.keys (by assumption)) | exact fun _ => H.dropN (by repeat' first | exact kNil | apply kCons | apply kApp | assumption | exact OwnS.keys (by assumption)) | exact fun _ => H.pop (by assumption) | exact fun _ => (H.pop (by assumption)).pop (by assumption) | exact fun _ => H.kp | exact fun _ => H.kp.tail | exact fun _ => H.kp.tail.tail | exact fun _ => H.kp.tail.tail.tail | exact fun _ => H.kp.sub (by simp) | exact fun _ => Kp.nil | exact fun _ => H.kh (by simp) (by repeat' first | exact kNil | apply kCons | apply kApp | assumption | exact OwnS.keys (by assumption)))) ?_; clear H; intro c47 w438 hc47 H)
            refine WA_take 5 rfl rfl rfl (by kernel_rfl) (by kernel_rfl) (H.kh (by simp) (by repeat' first | exact kNil | apply kCons | apply kApp | assumption | exact OwnS.keys (by assumption))) (fun _ hC => R_indexAddr (off' := 16) Try.underlying70 Try.sizeOf53 rfl rfl (by decide) (by decide) (by decide)) ?_
            refine WA_two (i := 6) (j := 7) (by kernel_rfl) ?_ ?_
            · refine WI_value rfl (.inl rfl) (R_loadA (vs := piC pp) Try.isAgg53 Try.sizeOf53 rfl (H.get .here) (row1 raw pp) (by rw [rowL]; decide)) (by first | exact fun h => absurd h (by decide) | exact fun _ => H | exact fun _ => H.none (by repeat' first | exact kNil | apply kCons | apply kApp | assumption | exact OwnS.keys (by assumption)) | exact fun _ => H.dropN (by repeat' first | exact kNil | apply kCons | apply kApp | assumption | exact OwnS.keys (by assumption)) | exact fun _ => H.pop (by assumption) | exact fun _ => (H.pop (by assumption)).pop (by assumption) | exact fun _ => H.kp | exact fun _ => H.kp.tail | exact fun _ => H.kp.tail.tail | exact fun _ => H.kp.tail.tail.tail | exact fun _ => H.kp.sub (by simp) | exact fun _ => Kp.nil | exact fun _ => H.kh (by simp) (by repeat' first | exact kNil | apply kCons | apply kApp | assumption | exact OwnS.keys (by assumption))) ?_
              refine WA_one (i := 7) (by kernel_rfl) ?_
              (refine WI_effnA rfl (.inl rfl) (E_allocP H) (fun _ _ _ H => (by first | exact fun h => absurd h (by decide) | exact fun _ => H | exact fun _ => H.none (by repeat' first | exact kNil | apply kCons | apply kApp | assumption | exact OwnS.keys (by assumption)) | exact fun _ => H.dropN (by repeat' first | exact kNil | apply kCons | apply kApp | assumption | exact OwnS.keys (by assumption)) | exact fun _ => H.pop (by assumption) | exact fun _ => (H.pop (by assumption)).pop (by assumption) | exact fun _ => H.kp | exact fun _ => H.kp.tail | exact fun _ => H.kp.tail.tail | exact fun _ => H.kp.tail.tail.tail | exact fun _ => H.kp.sub (by simp) | exact fun _ => Kp.nil | exact fun _ => H.kh (by simp) (by repeat' first | exact kNil | apply kCons | apply kApp | assumption | exact OwnS.keys (by assumption)))) ?_; clear H; intro c9 w443 hc9 H)
              refine WA_one (i := 8) (by kernel_rfl) ?_
              (refine WI_effu rfl (.inl rfl) (E_storeP (q := pp) H rfl rfl .here) (fun _ H => (by first | exact fun h => absurd h (by decide) | exact fun _ => H | exact fun _ => H.none (by repeat' first | exact kNil | apply kCons | apply kApp | assumption | exact OwnS.keys (by assumption)) | exact fun _ => H.dropN (by repeat' first | exact kNil | apply kCons | apply kApp | assumption | exact OwnS.keys (by assumption)) | exact fun _ => H.pop (by assumption) | exact fun _ => (H.pop (by assumption)).pop (by assumption) | exact fun _ => H.kp | exact fun _ => H.kp.tail | exact fun _ => H.kp.tail.tail | exact fun _ => H.kp.tail.tail.tail | exact fun _ => H.kp.sub (by simp) | exact fun _ => Kp.nil | exact fun _ => H.kh (by simp) (by repeat' first | exact kNil | apply kCons | apply kApp | assumption | exact OwnS.keys (by assumption)))) ?_; clear H; intro w445 H; replace H := H.pop2 hc47)
              refine WA_done (by kernel_rfl) ?_
              refine W_seq ?_
              ((obtain ⟨r, H⟩ : ∃ r, Hp w [(c9, blk (piC r) 53), (q, cod), (c3, blk (piC raw) 53)] _ := ⟨_, H⟩; by_cases hok : okP r)) <;> refine W_region_l ?_
              · refine WL_stepM rfl (R_mv) ?_
                refine WL_step rfl (R_loadP rfl (H.get .here)) ?_
                (refine WL_call rfl (R_call rfl Try.call37 rfl) (encM_ret r (H.get (.there .here))) ?_; rintro _ w451 (⟨_, b, rfl, hbb, H1⟩ | ⟨hno, _⟩); rotate_left; exact (hno hok).elim; have hsz := H.size; replace H := H.seqN H1 (kCons hbb kNil); replace hbb := Nat.le_trans hsz hbb; clear H1 hsz)
                refine WL_stepM rfl (R_mv) ?_
                refine WL_step rfl (R_extract rfl rfl) ?_
                refine WL_step rfl (R_extract rfl rfl) ?_
                refine WL_stepM rfl (R_as) ?_
                refine WL_stepM rfl (R_as) ?_
                refine WL_nil ?_
                refine W_seq ?_
                refine W_region_l ?_
                refine WL_step rfl (R_loadP rfl (H.get (.there .here))) ?_
                (refine WL_call rfl (R_call rfl Try.call30 rfl) (refOk_to (decide_eq_true hok) _) ?_; rintro _ w461 ⟨rfl, H1⟩; replace H := H.seq0 H1; clear H1)
                refine WL_stepM rfl (R_as) ?_
                refine WL_nil ?_
                refine W_seq ?_
                (have _g := hbb; refine W_draw (KH w [(b, blk ((bytesP r).map U) 5), (c9, blk (piC r) 53)]) (fun _ => false) (by kernel_rfl) H ?_; clear H; intro w465 H)
                refine WA_takeM 0 rfl rfl rfl (by kernel_rfl) (by kernel_rfl) (H.kh (by simp) (by repeat' first | exact kNil | apply kCons | apply kApp | assumption | exact OwnS.keys (by assumption))) (fun _ hC => R_mv) ?_
                refine WA_takeM 1 rfl rfl rfl (by kernel_rfl) (by kernel_rfl) (H.kh (by simp) (by repeat' first | exact kNil | apply kCons | apply kApp | assumption | exact OwnS.keys (by assumption))) (fun _ hC => R_mv) ?_
                refine WA_take 2 rfl rfl rfl (by kernel_rfl) (by kernel_rfl) (H.kh (by simp) (by repeat' first | exact kNil | apply kCons | apply kApp | assumption | exact OwnS.keys (by assumption))) (fun _ hC => R_ne_bool_f Try.underlying4 rfl rfl (by decide)) ?_
                refine WA_takeM 3 rfl rfl rfl (by kernel_rfl) (by kernel_rfl) (H.kh (by simp) (by repeat' first | exact kNil | apply kCons | apply kApp | assumption | exact OwnS.keys (by assumption))) (fun _ hC => R_mv) ?_
                refine WA_takeGM 4 rfl rfl rfl rfl (by kernel_rfl) (by kernel_rfl) (H.kh (by simp) (by repeat' first | exact kNil | apply kCons | apply kApp | assumption | exact OwnS.keys (by assumption))) (fun _ hC => R_mv) ?_
                refine WA_takeGM 5 rfl rfl rfl rfl (by kernel_rfl) (by kernel_rfl) (H.kh (by simp) (by repeat' first | exact kNil | apply kCons | apply kApp | assumption | exact OwnS.keys (by assumption))) (fun _ hC => R_mv) ?_
                refine WA_takeGM 6 rfl rfl rfl rfl (by kernel_rfl) (by kernel_rfl) (H.kh (by simp) (by repeat' first | exact kNil | apply kCons | apply kApp | assumption | exact OwnS.keys (by assumption))) (fun _ hC => R_mv) ?_
                refine WA_takeG 7 rfl rfl rfl rfl (by kernel_rfl) (by kernel_rfl) (H.kh (by simp) (by repeat' first | exact kNil | apply kCons | apply kApp | assumption | exact OwnS.keys (by assumption))) (fun _ hC => R_conv_bs (xs := bytesP r) Try.underlying22 Try.underlying5 Try.underlying9 rfl (rdP (hC.get .here) (by decide))) ?_
                refine WA_takeG 8 rfl rfl rfl rfl (by kernel_rfl) (by kernel_rfl) (H.kh (by simp) (by repeat' first | exact kNil | apply kCons | apply kApp | assumption | exact OwnS.keys (by assumption))) (fun _ hC => R_loadP rfl (hC.get (.there .here))) ?_
                refine WA_one (i := 9) (by kernel_rfl) ?_
                (refine WI_call rfl (.inr ⟨_, _, rfl, rfl⟩) (R_call rfl Try.call31 rfl) (refBytes_ret r hok _) (fun _ _ hR _ => (H.seq0 hR.2).kh (by simp) (by repeat' first | exact kNil | apply kCons | apply kApp | assumption | exact OwnS.keys (by assumption))) ?_; rintro _ w476 ⟨rfl, H1⟩; replace H := H.seq0 H1; clear H1)
                refine WA_takeG 10 rfl rfl rfl rfl (by kernel_rfl) (by kernel_rfl) (H.kh (by simp) (by repeat' first | exact kNil | apply kCons | apply kApp | assumption | exact OwnS.keys (by assumption))) (fun _ hC => R_ne_S_f rfl rfl rfl) ?_
                refine WA_takeGM 11 rfl rfl rfl rfl (by kernel_rfl) (by kernel_rfl) (H.kh (by simp) (by repeat' first | exact kNil | apply kCons | apply kApp | assumption | exact OwnS.keys (by assumption))) (fun _ hC => R_pk_t rfl) ?_
                refine WA_takeM 12 rfl rfl rfl (by kernel_rfl) (by kernel_rfl) (H.kh (by simp) (by repeat' first | exact kNil | apply kCons | apply kApp | assumption | exact OwnS.keys (by assumption))) (fun _ hC => R_pk_f rfl) ?_
                refine WA_done (by kernel_rfl) ?_
                refine W_cond_f rfl ?_
                refine W_skip ?_
                refine W_region_l ?_
                refine WL_stepM rfl (R_mv) ?_
                refine WL_step rfl (R_add rfl rfl (w_i64 (by omega))) ?_
                refine WL_stepM rfl (R_as) ?_
                refine WL_nil ?_
                exact ⟨(same_mov rfl (same_updo rfl (same_mov rfl (same_mov rfl (same_mov rfl (same_updo rfl (same_updo rfl (same_updo rfl (same_updo rfl (same_mov rfl (same_mov rfl (same_mov rfl (same_mov rfl (same_updo rfl (same_mov rfl (same_mov rfl (same_mov rfl (same_updo rfl (same_updo rfl (same_mov rfl (same_mov rfl (same_updo rfl (same_updo rfl (same_mov rfl (same_updo rfl (same_updo rfl (same_mov rfl (same_updn (same_updo rfl (same_updo rfl (same_updo rfl (same_updo rfl (same_updo rfl (same_mov rfl (same_mov rfl (same_updo rfl (same_updo rfl (same_mov rfl same_ovr)))))))))))))))))))))))))))))))))))))), 2, by omega, by omega, rfl, Hp.dropN (M := [_, _]) H (kCons hbb (kCons hc9 kNil))⟩
              · refine WL_stepM rfl (R_mv) ?_
                refine WL_step rfl (R_loadP rfl (H.get .here)) ?_
                (refine WL_call rfl (R_call rfl Try.call37 rfl) (encM_ret r (H.get (.there .here))) ?_; rintro _ w491 (⟨hyes, _⟩ | ⟨_, rfl, H1⟩); exact (hok hyes).elim; replace H := H.seq0 H1; clear H1)
                refine WL_stepM rfl (R_mv) ?_
                refine WL_step rfl (R_extract rfl rfl) ?_
                refine WL_step rfl (R_extract rfl rfl) ?_
                refine WL_stepM rfl (R_as) ?_
                refine WL_stepM rfl (R_as) ?_
                refine WL_nil ?_
                refine W_seq ?_
                refine W_region_l ?_
                refine WL_step rfl (R_loadP rfl (H.get .here)) ?_
                (refine WL_call rfl (R_call rfl Try.call30 rfl) (refOk_to (decide_eq_false hok) _) ?_; rintro _ w501 ⟨rfl, H1⟩; replace H := H.seq0 H1; clear H1)
                refine WL_stepM rfl (R_as) ?_
                refine WL_nil ?_
                refine W_seq ?_
                (refine W_draw (KH w [(c9, blk (piC r) 53)]) (fun _ => false) (by kernel_rfl) H ?_; clear H; intro w505 H)
                refine WA_takeM 0 rfl rfl rfl (by kernel_rfl) (by kernel_rfl) (H.kh (by simp) (by repeat' first | exact kNil | apply kCons | apply kApp | assumption | exact OwnS.keys (by assumption))) (fun _ hC => R_mv) ?_
                refine WA_takeM 1 rfl rfl rfl (by kernel_rfl) (by kernel_rfl) (H.kh (by simp) (by repeat' first | exact kNil | apply kCons | apply kApp | assumption | exact OwnS.keys (by assumption))) (fun _ hC => R_mv) ?_
                refine WA_take 2 rfl rfl rfl (by kernel_rfl) (by kernel_rfl) (H.kh (by simp) (by repeat' first | exact kNil | apply kCons | apply kApp | assumption | exact OwnS.keys (by assumption))) (fun _ hC => R_ne_bool_f Try.underlying4 rfl rfl (by decide)) ?_
                refine WA_takeM 3 rfl rfl rfl (by kernel_rfl) (by kernel_rfl) (H.kh (by simp) (by repeat' first | exact kNil | apply kCons | apply kApp | assumption | exact OwnS.keys (by assumption))) (fun _ hC => R_mv) ?_
                refine WA_takeGM 4 rfl rfl rfl rfl (by kernel_rfl) (by kernel_rfl) (H.kh (by simp) (by repeat' first | exact kNil | apply kCons | apply kApp | assumption | exact OwnS.keys (by assumption))) (fun _ hC => R_mv) ?_
                refine WA_takeGM 5 rfl rfl rfl rfl (by kernel_rfl) (by kernel_rfl) (H.kh (by simp) (by repeat' first | exact kNil | apply kCons | apply kApp | assumption | exact OwnS.keys (by assumption))) (fun _ hC => R_mv) ?_
                refine WA_pass 6 rfl rfl rfl (fun h => nomatch h) (by kernel_rfl) (by kernel_rfl) (H.kh (by simp) (by repeat' first | exact kNil | apply kCons | apply kApp | assumption | exact OwnS.keys (by assumption))) ?_
                refine WA_pass 7 rfl rfl rfl (fun h => nomatch h) (by kernel_rfl) (by kernel_rfl) (H.kh (by simp) (by repeat' first | exact kNil | apply kCons | apply kApp | assumption | exact OwnS.keys (by assumption))) ?_
                refine WA_pass 8 rfl rfl rfl (fun h => nomatch h) (by kernel_rfl) (by kernel_rfl) (H.kh (by simp) (by repeat' first | exact kNil | apply kCons | apply kApp | assumption | exact OwnS.keys (by assumption))) ?_
                refine WA_pass 9 rfl rfl rfl (fun h => nomatch h) (by kernel_rfl) (by kernel_rfl) (H.kh (by simp) (by repeat' first | exact kNil | apply kCons | apply kApp | assumption | exact OwnS.keys (by assumption))) ?_
                refine WA_pass 10 rfl rfl rfl (fun h => nomatch h) (by kernel_rfl) (by kernel_rfl) (H.kh (by simp) (by repeat' first | exact kNil | apply kCons | apply kApp | assumption | exact OwnS.keys (by assumption))) ?_
                refine WA_takeGM 11 rfl rfl rfl rfl (by kernel_rfl) (by kernel_rfl) (H.kh (by simp) (by repeat' first | exact kNil | apply kCons | apply kApp | assumption | exact OwnS.keys (by assumption))) (fun _ hC => R_pk_f rfl) ?_
                refine WA_takeM 12 rfl rfl rfl (by kernel_rfl) (by kernel_rfl) (H.kh (by simp) (by repeat' first | exact kNil | apply kCons | apply kApp | assumption | exact OwnS.keys (by assumption))) (fun _ hC => R_pk_f rfl) ?_
                refine WA_done (by kernel_rfl) ?_
                refine W_cond_f rfl ?_
                refine W_skip ?_
                refine W_region_l ?_
                refine WL_stepM rfl (R_mv) ?_
                refine WL_step rfl (R_add rfl rfl (w_i64 (by omega))) ?_
                refine WL_stepM rfl (R_as) ?_
                refine WL_nil ?_
                exact ⟨(same_mov rfl (same_updo rfl (same_mov rfl (same_mov rfl (same_mov rfl (same_updo rfl (same_updo rfl (same_updo rfl (same_updo rfl (same_updo rfl (same_mov rfl (same_mov rfl (same_mov rfl (same_updo rfl (same_mov rfl (same_mov rfl (same_mov rfl (same_updo rfl (same_updo rfl (same_mov rfl (same_mov rfl (same_updo rfl (same_updo rfl (same_mov rfl (same_updo rfl (same_updo rfl (same_mov rfl (same_updn (same_updo rfl (same_updo rfl (same_updo rfl (same_updo rfl (same_updo rfl (same_mov rfl (same_mov rfl (same_updo rfl (same_updo rfl (same_mov rfl same_ovr)))))))))))))))))))))))))))))))))))))), 2, by omega, by omega, rfl, H.pop hc9⟩
            · (refine WI_effnA rfl (.inl rfl) (E_allocP H) (fun _ _ _ H => (by first | exact fun h => absurd h (by decide) | exact fun _ => H | exact fun _ => H.none (by repeat' first | exact kNil | apply kCons | apply kApp | assumption | exact OwnS.keys (by assumption)) | exact fun _ => H.dropN (by repeat' first | exact kNil | apply kCons | apply kApp | assumption | exact OwnS.keys (by assumption)) | exact fun _ => H.pop (by assumption) | exact fun _ => (H.pop (by assumption)).pop (by assumption) | exact fun _ => H.kp | exact fun _ => H.kp.tail | exact fun _ => H.kp.tail.tail | exact fun _ => H.kp.tail.tail.tail | exact fun _ => H.kp.sub (by simp) | exact fun _ => Kp.nil | exact fun _ => H.kh (by simp) (by repeat' first | exact kNil | apply kCons | apply kApp | assumption | exact OwnS.keys (by assumption)))) ?_; clear H; intro c9 w528 hc9 H)
              refine WA_one (i := 6) (by kernel_rfl) ?_
              refine WI_value rfl (.inl rfl) (R_loadA (vs := piC pp) Try.isAgg53 Try.sizeOf53 rfl (H.get (.there .here)) (row1 raw pp) (by rw [rowL]; decide)) (by first | exact fun h => absurd h (by decide) | exact fun _ => H | exact fun _ => H.none (by repeat' first | exact kNil | apply kCons | apply kApp | assumption | exact OwnS.keys (by assumption)) | exact fun _ => H.dropN (by repeat' first | exact kNil | apply kCons | apply kApp | assumption | exact OwnS.keys (by assumption)) | exact fun _ => H.pop (by assumption) | exact fun _ => (H.pop (by assumption)).pop (by assumption) | exact fun _ => H.kp | exact fun _ => H.kp.tail | exact fun _ => H.kp.tail.tail | exact fun _ => H.kp.tail.tail.tail | exact fun _ => H.kp.sub (by simp) | exact fun _ => Kp.nil | exact fun _ => H.kh (by simp) (by repeat' first | exact kNil | apply kCons | apply kApp | assumption | exact OwnS.keys (by assumption))) ?_
              refine WA_one (i := 8) (by kernel_rfl) ?_
              (refine WI_effu rfl (.inl rfl) (E_storeP (q := pp) H rfl rfl .here) (fun _ H => (by first | exact fun h => absurd h (by decide) | exact fun _ => H | exact fun _ => H.none (by repeat' first | exact kNil | apply kCons | apply kApp | assumption | exact OwnS.keys (by assumption)) | exact fun _ => H.dropN (by repeat' first | exact kNil | apply kCons | apply kApp | assumption | exact OwnS.keys (by assumption)) | exact fun _ => H.pop (by assumption) | exact fun _ => (H.pop (by assumption)).pop (by assumption) | exact fun _ => H.kp | exact fun _ => H.kp.tail | exact fun _ => H.kp.tail.tail | exact fun _ => H.kp.tail.tail.tail | exact fun _ => H.kp.sub (by simp) | exact fun _ => Kp.nil | exact fun _ => H.kh (by simp) (by repeat' first | exact kNil | apply kCons | apply kApp | assumption | exact OwnS.keys (by assumption)))) ?_; clear H; intro w532 H; replace H := H.pop2 hc47)
              refine WA_done (by kernel_rfl) ?_
              refine W_seq ?_
              ((obtain ⟨r, H⟩ : ∃ r, Hp w [(c9, blk (piC r) 53), (q, cod), (c3, blk (piC raw) 53)] _ := ⟨_, H⟩; by_cases hok : okP r)) <;> refine W_region_l ?_
              · refine WL_stepM rfl (R_mv) ?_
                refine WL_step rfl (R_loadP rfl (H.get .here)) ?_
                (refine WL_call rfl (R_call rfl Try.call37 rfl) (encM_ret r (H.get (.there .here))) ?_; rintro _ w538 (⟨_, b, rfl, hbb, H1⟩ | ⟨hno, _⟩); rotate_left; exact (hno hok).elim; have hsz := H.size; replace H := H.seqN H1 (kCons hbb kNil); replace hbb := Nat.le_trans hsz hbb; clear H1 hsz)
                refine WL_stepM rfl (R_mv) ?_
                refine WL_step rfl (R_extract rfl rfl) ?_
                refine WL_step rfl (R_extract rfl rfl) ?_
                refine WL_stepM rfl (R_as) ?_
                refine WL_stepM rfl (R_as) ?_
                refine WL_nil ?_
                refine W_seq ?_
                refine W_region_l ?_
                refine WL_step rfl (R_loadP rfl (H.get (.there .here))) ?_
                (refine WL_call rfl (R_call rfl Try.call30 rfl) (refOk_to (decide_eq_true hok) _) ?_; rintro _ w548 ⟨rfl, H1⟩; replace H := H.seq0 H1; clear H1)
                refine WL_stepM rfl (R_as) ?_
                refine WL_nil ?_
                refine W_seq ?_
                (have _g := hbb; refine W_draw (KH w [(b, blk ((bytesP r).map U) 5), (c9, blk (piC r) 53)]) (fun _ => false) (by kernel_rfl) H ?_; clear H; intro w552 H)
                refine WA_takeM 0 rfl rfl rfl (by kernel_rfl) (by kernel_rfl) (H.kh (by simp) (by repeat' first | exact kNil | apply kCons | apply kApp | assumption | exact OwnS.keys (by assumption))) (fun _ hC => R_mv) ?_
                refine WA_takeM 1 rfl rfl rfl (by kernel_rfl) (by kernel_rfl) (H.kh (by simp) (by repeat' first | exact kNil | apply kCons | apply kApp | assumption | exact OwnS.keys (by assumption))) (fun _ hC => R_mv) ?_
                refine WA_take 2 rfl rfl rfl (by kernel_rfl) (by kernel_rfl) (H.kh (by simp) (by repeat' first | exact kNil | apply kCons | apply kApp | assumption | exact OwnS.keys (by assumption))) (fun _ hC => R_ne_bool_f Try.underlying4 rfl rfl (by decide)) ?_
                refine WA_takeM 3 rfl rfl rfl (by kernel_rfl) (by kernel_rfl) (H.kh (by simp) (by repeat' first | exact kNil | apply kCons | apply kApp | assumption | exact OwnS.keys (by assumption))) (fun _ hC => R_mv) ?_
                refine WA_takeGM 4 rfl rfl rfl rfl (by kernel_rfl) (by kernel_rfl) (H.kh (by simp) (by repeat' first | exact kNil | apply kCons | apply kApp | assumption | exact OwnS.keys (by assumption))) (fun _ hC => R_mv) ?_
                refine WA_takeGM 5 rfl rfl rfl rfl (by kernel_rfl) (by kernel_rfl) (H.kh (by simp) (by repeat' first | exact kNil | apply kCons | apply kApp | assumption | exact OwnS.keys (by assumption))) (fun _ hC => R_mv) ?_
                refine WA_takeGM 6 rfl rfl rfl rfl (by kernel_rfl) (by kernel_rfl) (H.kh (by simp) (by repeat' first | exact kNil | apply kCons | apply kApp | assumption | exact OwnS.keys (by assumption))) (fun _ hC => R_mv) ?_
                refine WA_takeG 7 rfl rfl rfl rfl (by kernel_rfl) (by kernel_rfl) (H.kh (by simp) (by repeat' first | exact kNil | apply kCons | apply kApp | assumption | exact OwnS.keys (by assumption))) (fun _ hC => R_conv_bs (xs := bytesP r) Try.underlying22 Try.underlying5 Try.underlying9 rfl (rdP (hC.get .here) (by decide))) ?_
                refine WA_takeG 8 rfl rfl rfl rfl (by kernel_rfl) (by kernel_rfl) (H.kh (by simp) (by repeat' first | exact kNil | apply kCons | apply kApp | assumption | exact OwnS.keys (by assumption))) (fun _ hC => R_loadP rfl (hC.get (.there .here))) ?_
                refine WA_one (i := 9) (by kernel_rfl) ?_
                (refine WI_call rfl (.inr ⟨_, _, rfl, rfl⟩) (R_call rfl Try.call31 rfl) (refBytes_ret r hok _) (fun _ _ hR _ => (H.seq0 hR.2).kh (by simp) (by repeat' first | exact kNil | apply kCons | apply kApp | assumption | exact OwnS.keys (by assumption))) ?_; rintro _ w563 ⟨rfl, H1⟩; replace H := H.seq0 H1; clear H1)
                refine WA_takeG 10 rfl rfl rfl rfl (by kernel_rfl) (by kernel_rfl) (H.kh (by simp) (by repeat' first | exact kNil | apply kCons | apply kApp | assumption | exact OwnS.keys (by assumption))) (fun _ hC => R_ne_S_f rfl rfl rfl) ?_
                refine WA_takeGM 11 rfl rfl rfl rfl (by kernel_rfl) (by kernel_rfl) (H.kh (by simp) (by repeat' first | exact kNil | apply kCons | apply kApp | assumption | exact OwnS.keys (by assumption))) (fun _ hC => R_pk_t rfl) ?_
                refine WA_takeM 12 rfl rfl rfl (by kernel_rfl) (by kernel_rfl) (H.kh (by simp) (by repeat' first | exact kNil | apply kCons | apply kApp | assumption | exact OwnS.keys (by assumption))) (fun _ hC => R_pk_f rfl) ?_
                refine WA_done (by kernel_rfl) ?_
                refine W_cond_f rfl ?_
                refine W_skip ?_
                refine W_region_l ?_
                refine WL_stepM rfl (R_mv) ?_
                refine WL_step rfl (R_add rfl rfl (w_i64 (by omega))) ?_
                refine WL_stepM rfl (R_as) ?_
                refine WL_nil ?_
                exact ⟨(same_mov rfl (same_updo rfl (same_mov rfl (same_mov rfl (same_mov rfl (same_updo rfl (same_updo rfl (same_updo rfl (same_updo rfl (same_mov rfl (same_mov rfl (same_mov rfl (same_mov rfl (same_updo rfl (same_mov rfl (same_mov rfl (same_mov rfl (same_updo rfl (same_updo rfl (same_mov rfl (same_mov rfl (same_updo rfl (same_updo rfl (same_mov rfl (same_updo rfl (same_updo rfl (same_mov rfl (same_updn (same_updo rfl (same_updo rfl (same_updo rfl (same_updo rfl (same_updo rfl (same_mov rfl (same_mov rfl (same_updo rfl (same_updo rfl (same_mov rfl same_ovr)))))))))))))))))))))))))))))))))))))), 2, by omega, by omega, rfl, Hp.dropN (M := [_, _]) H (kCons hbb (kCons hc9 kNil))⟩
              · refine WL_stepM rfl (R_mv) ?_
                refine WL_step rfl (R_loadP rfl (H.get .here)) ?_
                (refine WL_call rfl (R_call rfl Try.call37 rfl) (encM_ret r (H.get (.there .here))) ?_; rintro _ w578 (⟨hyes, _⟩ | ⟨_, rfl, H1⟩); exact (hok hyes).elim; replace H := H.seq0 H1; clear H1)
                refine WL_stepM rfl (R_mv) ?_
                refine WL_step rfl (R_extract rfl rfl) ?_
                refine WL_step rfl (R_extract rfl rfl) ?_
                refine WL_stepM rfl (R_as) ?_
                refine WL_stepM rfl (R_as) ?_
                refine WL_nil ?_
                refine W_seq ?_
                refine W_region_l ?_
                refine WL_step rfl (R_loadP rfl (H.get .here)) ?_
                (refine WL_call rfl (R_call rfl Try.call30 rfl) (refOk_to (decide_eq_false hok) _) ?_; rintro _ w588 ⟨rfl, H1⟩; replace H := H.seq0 H1; clear H1)
                refine WL_stepM rfl (R_as) ?_
                refine WL_nil ?_
                refine W_seq ?_
                (refine W_draw (KH w [(c9, blk (piC r) 53)]) (fun _ => false) (by kernel_rfl) H ?_; clear H; intro w592 H)
                refine WA_takeM 0 rfl rfl rfl (by kernel_rfl) (by kernel_rfl) (H.kh (by simp) (by repeat' first | exact kNil | apply kCons | apply kApp | assumption | exact OwnS.keys (by assumption))) (fun _ hC => R_mv) ?_
                refine WA_takeM 1 rfl rfl rfl (by kernel_rfl) (by kernel_rfl) (H.kh (by simp) (by repeat' first | exact kNil | apply kCons | apply kApp | assumption | exact OwnS.keys (by assumption))) (fun _ hC => R_mv) ?_
                refine WA_take 2 rfl rfl rfl (by kernel_rfl) (by kernel_rfl) (H.kh (by simp) (by repeat' first | exact kNil | apply kCons | apply kApp | assumption | exact OwnS.keys (by assumption))) (fun _ hC => R_ne_bool_f Try.underlying4 rfl rfl (by decide)) ?_
                refine WA_takeM 3 rfl rfl rfl (by kernel_rfl) (by kernel_rfl) (H.kh (by simp) (by repeat' first | exact kNil | apply kCons | apply kApp | assumption | exact OwnS.keys (by assumption))) (fun _ hC => R_mv) ?_
                refine WA_takeGM 4 rfl rfl rfl rfl (by kernel_rfl) (by kernel_rfl) (H.kh (by simp) (by repeat' first | exact kNil | apply kCons | apply kApp | assumption | exact OwnS.keys (by assumption))) (fun _ hC => R_mv) ?_
                refine WA_takeGM 5 rfl rfl rfl rfl (by kernel_rfl) (by kernel_rfl) (H.kh (by simp) (by repeat' first | exact kNil | apply kCons | apply kApp | assumption | exact OwnS.keys (by assumption))) (fun _ hC => R_mv) ?_
                refine WA_pass 6 rfl rfl rfl (fun h => nomatch h) (by kernel_rfl) (by kernel_rfl) (H.kh (by simp) (by repeat' first | exact kNil | apply kCons | apply kApp | assumption | exact OwnS.keys (by assumption))) ?_
                refine WA_pass 7 rfl rfl rfl (fun h => nomatch h) (by kernel_rfl) (by kernel_rfl) (H.kh (by simp) (by repeat' first | exact kNil | apply kCons | apply kApp | assumption | exact OwnS.keys (by assumption))) ?_
                refine WA_pass 8 rfl rfl rfl (fun h => nomatch h) (by kernel_rfl) (by kernel_rfl) (H.kh (by simp) (by repeat' first | exact kNil | apply kCons | apply kApp | assumption | exact OwnS.keys (by assumption))) ?_
                refine WA_pass 9 rfl rfl rfl (fun h => nomatch h) (by kernel_rfl) (by kernel_rfl) (H.kh (by simp) (by repeat' first | exact kNil | apply kCons | apply kApp | assumption | exact OwnS.keys (by assumption))) ?_
                refine WA_pass 10 rfl rfl rfl (fun h => nomatch h) (by kernel_rfl) (by kernel_rfl) (H.kh (by simp) (by repeat' first | exact kNil | apply kCons | apply kApp | assumption | exact OwnS.keys (by assumption))) ?_
                refine WA_takeGM 11 rfl rfl rfl rfl (by kernel_rfl) (by kernel_rfl) (H.kh (by simp) (by repeat' first | exact kNil | apply kCons | apply kApp | assumption | exact OwnS.keys (by assumption))) (fun _ hC => R_pk_f rfl) ?_
                refine WA_takeM 12 rfl rfl rfl (by kernel_rfl) (by kernel_rfl) (H.kh (by simp) (by repeat' first | exact kNil | apply kCons | apply kApp | assumption | exact OwnS.keys (by assumption))) (fun _ hC => R_pk_f rfl) ?_
                refine WA_done (by kernel_rfl) ?_
                refine W_cond_f rfl ?_
                refine W_skip ?_
                refine W_region_l ?_
                refine WL_stepM rfl (R_mv) ?_
                refine WL_step rfl (R_add rfl rfl (w_i64 (by omega))) ?_
                refine WL_stepM rfl (R_as) ?_
                refine WL_nil ?_
                exact ⟨(same_mov rfl (same_updo rfl (same_mov rfl (same_mov rfl (same_mov rfl (same_updo rfl (same_updo rfl (same_updo rfl (same_updo rfl (same_updo rfl (same_mov rfl (same_mov rfl (same_mov rfl (same_updo rfl (same_mov rfl (same_mov rfl (same_mov rfl (same_updo rfl (same_updo rfl (same_mov rfl (same_mov rfl (same_updo rfl (same_updo rfl (same_mov rfl (same_updo rfl (same_updo rfl (same_mov rfl (same_updn (same_updo rfl (same_updo rfl (same_updo rfl (same_updo rfl (same_updo rfl (same_mov rfl (same_mov rfl (same_updo rfl (same_updo rfl (same_mov rfl same_ovr)))))))))))))))))))))))))))))))))))))), 2, by omega, by omega, rfl, H.pop hc9⟩
          · (refine WI_effnA rfl (.inl rfl) (E_allocP H) (fun _ _ _ H => (by first | exact fun h => absurd h (by decide) | exact fun _ => H | exact fun _ => H.none (by repeat' first | exact kNil | apply kCons | apply kApp | assumption | exact OwnS.keys (by assumption)) | exact fun _ => H.dropN (by repeat' first | exact kNil | apply kCons | apply kApp | assumption | exact OwnS.keys (by assumption)) | exact fun _ => H.pop (by assumption) | exact fun _ => (H.pop (by assumption)).pop (by assumption) | exact fun _ => H.kp | exact fun _ => H.kp.tail | exact fun _ => H.kp.tail.tail | exact fun _ => H.kp.tail.tail.tail | exact fun _ => H.kp.sub (by simp) | exact fun _ => Kp.nil | exact fun _ => H.kh (by simp) (by repeat' first | exact kNil | apply kCons | apply kApp | assumption | exact OwnS.keys (by assumption)))) ?_; clear H; intro c9 w615 hc9 H)
            refine WA_one (i := 3) (by kernel_rfl) ?_
            (refine WI_effnA rfl (.inl rfl) (E_buildRows (vss := [piC raw, piC pp]) H Try.underlying70 Try.sizeOf53 Try.zeroValue53 rfl rfl (by decide) rfl rfl (by simp [piC_len])) (fun _ _ _ H => (by first | exact fun h => absurd h (by decide) | exact fun _ => H | exact fun _ => H.none (by repeat' first | exact kNil | apply kCons | apply kApp | assumption | exact OwnS.keys (by assumption)) | exact fun _ => H.dropN (by repeat' first | exact kNil | apply kCons | apply kApp | assumption | exact OwnS.keys (by assumption)) | exact fun _ => H.pop (by assumption) | exact fun _ => (H.pop (by assumption)).pop (by assumption) | exact fun _ => H.kp | exact fun _ => H.kp.tail | exact fun _ => H.kp.tail.tail | exact fun _ => H.kp.tail.tail.tail | exact fun _ => H.kp.sub (by simp) | exact fun _ => Kp.nil | exact fun _ => H.kh (by simp) (by repeat' first | exact kNil | apply kCons | apply kApp | assumption | exact OwnS.keys (by assumption)))) ?_; clear H; intro c47 w617 hc47 H)
            refine WA_take 5 rfl rfl rfl (by kernel_rfl) (by kernel_rfl) (H.kh (by simp) (by repeat' first | exact kNil | apply kCons | apply kApp | assumption | exact OwnS.keys (by assumption))) (fun _ hC => R_indexAddr (off' := 16) Try.underlying70 Try.sizeOf53 rfl rfl (by decide) (by decide) (by decide)) ?_
            refine WA_one (i := 6) (by kernel_rfl) ?_
            refine WI_value rfl (.inl rfl) (R_loadA (vs := piC pp) Try.isAgg53 Try.sizeOf53 rfl (H.get .here) (row1 raw pp) (by rw [rowL]; decide)) (by first | exact fun h => absurd h (by decide) | exact fun _ => H | exact fun _ => H.none (by repeat' first | exact kNil | apply kCons | apply kApp | assumption | exact OwnS.keys (by assumption)) | exact fun _ => H.dropN (by repeat' first | exact kNil | apply kCons | apply kApp | assumption | exact OwnS.keys (by assumption)) | exact fun _ => H.pop (by assumption) | exact fun _ => (H.pop (by assumption)).pop (by assumption) | exact fun _ => H.kp | exact fun _ => H.kp.tail | exact fun _ => H.kp.tail.tail | exact fun _ => H.kp.tail.tail.tail | exact fun _ => H.kp.sub (by simp) | exact fun _ => Kp.nil | exact fun _ => H.kh (by simp) (by repeat' first | exact kNil | apply kCons | apply kApp | assumption | exact OwnS.keys (by assumption))) ?_
            refine WA_one (i := 8) (by kernel_rfl) ?_
            (refine WI_effu rfl (.inl rfl) (E_storeP (q := pp) H rfl rfl (.there .here)) (fun _ H => (by first | exact fun h => absurd h (by decide) | exact fun _ => H | exact fun _ => H.none (by repeat' first | exact kNil | apply kCons | apply kApp | assumption | exact OwnS.keys (by assumption)) | exact fun _ => H.dropN (by repeat' first | exact kNil | apply kCons | apply kApp | assumption | exact OwnS.keys (by assumption)) | exact fun _ => H.pop (by assumption) | exact fun _ => (H.pop (by assumption)).pop (by assumption) | exact fun _ => H.kp | exact fun _ => H.kp.tail | exact fun _ => H.kp.tail.tail | exact fun _ => H.kp.tail.tail.tail | exact fun _ => H.kp.sub (by simp) | exact fun _ => Kp.nil | exact fun _ => H.kh (by simp) (by repeat' first | exact kNil | apply kCons | apply kApp | assumption | exact OwnS.keys (by assumption)))) ?_; clear H; intro w622 H; replace H := H.pop hc47)
            refine WA_done (by kernel_rfl) ?_
            refine W_seq ?_
            ((obtain ⟨r, H⟩ : ∃ r, Hp w [(c9, blk (piC r) 53), (q, cod), (c3, blk (piC raw) 53)] _ := ⟨_, H⟩; by_cases hok : okP r)) <;> refine W_region_l ?_
            · refine WL_stepM rfl (R_mv) ?_
              refine WL_step rfl (R_loadP rfl (H.get .here)) ?_
              (refine WL_call rfl (R_call rfl Try.call37 rfl) (encM_ret r (H.get (.there .here))) ?_; rintro _ w628 (⟨_, b, rfl, hbb, H1⟩ | ⟨hno, _⟩); rotate_left; exact (hno hok).elim; have hsz := H.size; replace H := H.seqN H1 (kCons hbb kNil); replace hbb := Nat.le_trans hsz hbb; clear H1 hsz)
              refine WL_stepM rfl (R_mv) ?_
              refine WL_step rfl (R_extract rfl rfl) ?_
              refine WL_step rfl (R_extract rfl rfl) ?_
              refine WL_stepM rfl (R_as) ?_
              refine WL_stepM rfl (R_as) ?_
              refine WL_nil ?_
              refine W_seq ?_
              refine W_region_l ?_
              refine WL_step rfl (R_loadP rfl (H.get (.there .here))) ?_
              (refine WL_call rfl (R_call rfl Try.call30 rfl) (refOk_to (decide_eq_true hok) _) ?_; rintro _ w638 ⟨rfl, H1⟩; replace H := H.seq0 H1; clear H1)
              refine WL_stepM rfl (R_as) ?_
              refine WL_nil ?_
              refine W_seq ?_
              (have _g := hbb; refine W_draw (KH w [(b, blk ((bytesP r).map U) 5), (c9, blk (piC r) 53)]) (fun _ => false) (by kernel_rfl) H ?_; clear H; intro w642 H)
              refine WA_takeM 0 rfl rfl rfl (by kernel_rfl) (by kernel_rfl) (H.kh (by simp) (by repeat' first | exact kNil | apply kCons | apply kApp | assumption | exact OwnS.keys (by assumption))) (fun _ hC => R_mv) ?_
              refine WA_takeM 1 rfl rfl rfl (by kernel_rfl) (by kernel_rfl) (H.kh (by simp) (by repeat' first | exact kNil | apply kCons | apply kApp | assumption | exact OwnS.keys (by assumption))) (fun _ hC => R_mv) ?_
              refine WA_take 2 rfl rfl rfl (by kernel_rfl) (by kernel_rfl) (H.kh (by simp) (by repeat' first | exact kNil | apply kCons | apply kApp | assumption | exact OwnS.keys (by assumption))) (fun _ hC => R_ne_bool_f Try.underlying4 rfl rfl (by decide)) ?_
              refine WA_takeM 3 rfl rfl rfl (by kernel_rfl) (by kernel_rfl) (H.kh (by simp) (by repeat' first | exact kNil | apply kCons | apply kApp | assumption | exact OwnS.keys (by assumption))) (fun _ hC => R_mv) ?_
              refine WA_takeGM 4 rfl rfl rfl rfl (by kernel_rfl) (by kernel_rfl) (H.kh (by simp) (by repeat' first | exact kNil | apply kCons | apply kApp | assumption | exact OwnS.keys (by assumption))) (fun _ hC => R_mv) ?_
              refine WA_takeGM 5 rfl rfl rfl rfl (by kernel_rfl) (by kernel_rfl) (H.kh (by simp) (by repeat' first | exact kNil | apply kCons | apply kApp | assumption | exact OwnS.keys (by assumption))) (fun _ hC => R_mv) ?_
              refine WA_takeGM 6 rfl rfl rfl rfl (by kernel_rfl) (by kernel_rfl) (H.kh (by simp) (by repeat' first | exact kNil | apply kCons | apply kApp | assumption | exact OwnS.keys (by assumption))) (fun _ hC => R_mv) ?_
              refine WA_takeG 7 rfl rfl rfl rfl (by kernel_rfl) (by kernel_rfl) (H.kh (by simp) (by repeat' first | exact kNil | apply kCons | apply kApp | assumption | exact OwnS.keys (by assumption))) (fun _ hC => R_conv_bs (xs := bytesP r) Try.underlying22 Try.underlying5 Try.underlying9 rfl (rdP (hC.get .here) (by decide))) ?_
              refine WA_takeG 8 rfl rfl rfl rfl (by kernel_rfl) (by kernel_rfl) (H.kh (by simp) (by repeat' first | exact kNil | apply kCons | apply kApp | assumption | exact OwnS.keys (by assumption))) (fun _ hC => R_loadP rfl (hC.get (.there .here))) ?_
              refine WA_one (i := 9) (by kernel_rfl) ?_
              (refine WI_call rfl (.inr ⟨_, _, rfl, rfl⟩) (R_call rfl Try.call31 rfl) (refBytes_ret r hok _) (fun _ _ hR _ => (H.seq0 hR.2).kh (by simp) (by repeat' first | exact kNil | apply kCons | apply kApp | assumption | exact OwnS.keys (by assumption))) ?_; rintro _ w653 ⟨rfl, H1⟩; replace H := H.seq0 H1; clear H1)
              refine WA_takeG 10 rfl rfl rfl rfl (by kernel_rfl) (by kernel_rfl) (H.kh (by simp) (by repeat' first | exact kNil | apply kCons | apply kApp | assumption | exact OwnS.keys (by assumption))) (fun _ hC => R_ne_S_f rfl rfl rfl) ?_
              refine WA_takeGM 11 rfl rfl rfl rfl (by kernel_rfl) (by kernel_rfl) (H.kh (by simp) (by repeat' first | exact kNil | apply kCons | apply kApp | assumption | exact OwnS.keys (by assumption))) (fun _ hC => R_pk_t rfl) ?_
              refine WA_takeM 12 rfl rfl rfl (by kernel_rfl) (by kernel_rfl) (H.kh (by simp) (by repeat' first | exact kNil | apply kCons | apply kApp | assumption | exact OwnS.keys (by assumption))) (fun _ hC => R_pk_f rfl) ?_
              refine WA_done (by kernel_rfl) ?_
              refine W_cond_f rfl ?_
              refine W_skip ?_
              refine W_region_l ?_
              refine WL_stepM rfl (R_mv) ?_
              refine WL_step rfl (R_add rfl rfl (w_i64 (by omega))) ?_
              refine WL_stepM rfl (R_as) ?_
              refine WL_nil ?_
              exact ⟨(same_mov rfl (same_updo rfl (same_mov rfl (same_mov rfl (same_mov rfl (same_updo rfl (same_updo rfl (same_updo rfl (same_updo rfl (same_mov rfl (same_mov rfl (same_mov rfl (same_mov rfl (same_updo rfl (same_mov rfl (same_mov rfl (same_mov rfl (same_updo rfl (same_updo rfl (same_mov rfl (same_mov rfl (same_updo rfl (same_updo rfl (same_mov rfl (same_updo rfl (same_updo rfl (same_mov rfl (same_updn (same_updo rfl (same_updo rfl (same_updo rfl (same_updo rfl (same_updo rfl (same_mov rfl (same_mov rfl (same_updo rfl (same_updo rfl (same_mov rfl same_ovr)))))))))))))))))))))))))))))))))))))), 2, by omega, by omega, rfl, Hp.dropN (M := [_, _]) H (kCons hbb (kCons hc9 kNil))⟩
            · refine WL_stepM rfl (R_mv) ?_
              refine WL_step rfl (R_loadP rfl (H.get .here)) ?_
              (refine WL_call rfl (R_call rfl Try.call37 rfl) (encM_ret r (H.get (.there .here))) ?_; rintro _ w668 (⟨hyes, _⟩ | ⟨_, rfl, H1⟩); exact (hok hyes).elim; replace H := H.seq0 H1; clear H1)
              refine WL_stepM rfl (R_mv) ?_
              refine WL_step rfl (R_extract rfl rfl) ?_
              refine WL_step rfl (R_extract rfl rfl) ?_
              refine WL_stepM rfl (R_as) ?_
              refine WL_stepM rfl (R_as) ?_
              refine WL_nil ?_
              refine W_seq ?_
              refine W_region_l ?_
              refine WL_step rfl (R_loadP rfl (H.get .here)) ?_
              (refine WL_call rfl (R_call rfl Try.call30 rfl) (refOk_to (decide_eq_false hok) _) ?_; rintro _ w678 ⟨rfl, H1⟩; replace H := H.seq0 H1; clear H1)
              refine WL_stepM rfl (R_as) ?_
              refine WL_nil ?_
              refine W_seq ?_
              (refine W_draw (KH w [(c9, blk (piC r) 53)]) (fun _ => false) (by kernel_rfl) H ?_; clear H; intro w682 H)
              refine WA_takeM 0 rfl rfl rfl (by kernel_rfl) (by kernel_rfl) (H.kh (by simp) (by repeat' first | exact kNil | apply kCons | apply kApp | assumption | exact OwnS.keys (by assumption))) (fun _ hC => R_mv) ?_
              refine WA_takeM 1 rfl rfl rfl (by kernel_rfl) (by kernel_rfl) (H.kh (by simp) (by repeat' first | exact kNil | apply kCons | apply kApp | assumption | exact OwnS.keys (by assumption))) (fun _ hC => R_mv) ?_
              refine WA_take 2 rfl rfl rfl (by kernel_rfl) (by kernel_rfl) (H.kh (by simp) (by repeat' first | exact kNil | apply kCons | apply kApp | assumption | exact OwnS.keys (by assumption))) (fun _ hC => R_ne_bool_f Try.underlying4 rfl rfl (by decide)) ?_
              refine WA_takeM 3 rfl rfl rfl (by kernel_rfl) (by kernel_rfl) (H.kh (by simp) (by repeat' first | exact kNil | apply kCons | apply kApp | assumption | exact OwnS.keys (by assumption))) (fun _ hC => R_mv) ?_
              refine WA_takeGM 4 rfl rfl rfl rfl (by kernel_rfl) (by kernel_rfl) (H.kh (by simp) (by repeat' first | exact kNil | apply kCons | apply kApp | assumption | exact OwnS.keys (by assumption))) (fun _ hC => R_mv) ?_
              refine WA_takeGM 5 rfl rfl rfl rfl (by kernel_rfl) (by kernel_rfl) (H.kh (by simp) (by repeat' first | exact kNil | apply kCons | apply kApp | assumption | exact OwnS.keys (by assumption))) (fun _ hC => R_mv) ?_
              refine WA_pass 6 rfl rfl rfl (fun h => nomatch h) (by kernel_rfl) (by kernel_rfl) (H.kh (by simp) (by repeat' first | exact kNil | apply kCons | apply kApp | assumption | exact OwnS.keys (by assumption))) ?_
              refine WA_pass 7 rfl rfl rfl (fun h => nomatch h) (by kernel_rfl) (by kernel_rfl) (H.kh (by simp) (by repeat' first | exact kNil | apply kCons | apply kApp | assumption | exact OwnS.keys (by assumption))) ?_
              refine WA_pass 8 rfl rfl rfl (fun h => nomatch h) (by kernel_rfl) (by kernel_rfl) (H.kh (by simp) (by repeat' first | exact kNil | apply kCons | apply kApp | assumption | exact OwnS.keys (by assumption))) ?_
              refine WA_pass 9 rfl rfl rfl (fun h => nomatch h) (by kernel_rfl) (by kernel_rfl) (H.kh (by simp) (by repeat' first | exact kNil | apply kCons | apply kApp | assumption | exact OwnS.keys (by assumption))) ?_
              refine WA_pass 10 rfl rfl rfl (fun h => nomatch h) (by kernel_rfl) (by kernel_rfl) (H.kh (by simp) (by repeat' first | exact kNil | apply kCons | apply kApp | assumption | exact OwnS.keys (by assumption))) ?_
              refine WA_takeGM 11 rfl rfl rfl rfl (by kernel_rfl) (by kernel_rfl) (H.kh (by simp) (by repeat' first | exact kNil | apply kCons | apply kApp | assumption | exact OwnS.keys (by assumption))) (fun _ hC => R_pk_f rfl) ?_
              refine WA_takeM 12 rfl rfl rfl (by kernel_rfl) (by kernel_rfl) (H.kh (by simp) (by repeat' first | exact kNil | apply kCons | apply kApp | assumption | exact OwnS.keys (by assumption))) (fun _ hC => R_pk_f rfl) ?_
              refine WA_done (by kernel_rfl) ?_
              refine W_cond_f rfl ?_
              refine W_skip ?_
              refine W_region_l ?_
              refine WL_stepM rfl (R_mv) ?_
              refine WL_step rfl (R_add rfl rfl (w_i64 (by omega))) ?_
              refine WL_stepM rfl (R_as) ?_
              refine WL_nil ?_
              exact ⟨(same_mov rfl (same_updo rfl (same_mov rfl (same_mov rfl (same_mov rfl (same_updo rfl (same_updo rfl (same_updo rfl (same_updo rfl (same_updo rfl (same_mov rfl (same_mov rfl (same_mov rfl (same_updo rfl (same_mov rfl (same_mov rfl (same_mov rfl (same_updo rfl (same_updo rfl (same_mov rfl (same_mov rfl (same_updo rfl (same_updo rfl (same_mov rfl (same_updo rfl (same_updo rfl (same_mov rfl (same_updn (same_updo rfl (same_updo rfl (same_updo rfl (same_updo rfl (same_updo rfl (same_mov rfl (same_mov rfl (same_updo rfl (same_updo rfl (same_mov rfl same_ovr)))))))))))))))))))))))))))))))))))))), 2, by omega, by omega, rfl, H.pop hc9⟩
        · (refine WI_effnA rfl (.inl rfl) (E_allocP H) (fun _ _ _ H => (by first | exact fun h => absurd h (by decide) | exact fun _ => H | exact fun _ => H.none (by repeat' first | exact kNil | apply kCons | apply kApp | assumption | exact OwnS.keys (by assumption)) | exact fun _ => H.dropN (by repeat' first | exact kNil | apply kCons | apply kApp | assumption | exact OwnS.keys (by assumption)) | exact fun _ => H.pop (by assumption) | exact fun _ => (H.pop (by assumption)).pop (by assumption) | exact fun _ => H.kp | exact fun _ => H.kp.tail | exact fun _ => H.kp.tail.tail | exact fun _ => H.kp.tail.tail.tail | exact fun _ => H.kp.sub (by simp) | exact fun _ => Kp.nil | exact fun _ => H.kh (by simp) (by repeat' first | exact kNil | apply kCons | apply kApp | assumption | exact OwnS.keys (by assumption)))) ?_; clear H; intro c9 w705 hc9 H)
          refine WA_one (i := 2) (by kernel_rfl) ?_
          (refine WI_call rfl (.inl rfl) (R_call rfl Try.call33 rfl) (proc_ret (hl.monoN H (by repeat' first | exact kNil | apply kCons | apply kApp | assumption | exact OwnS.keys (by assumption))) hlb) (fun _ _ ⟨_, _, _, hR⟩ _ => (H.seq0 hR).kh (by simp) (by repeat' first | exact kNil | apply kCons | apply kApp | assumption | exact OwnS.keys (by assumption))) ?_; rintro _ w707 ⟨pp, hpp, rfl, H1⟩; replace H := H.seq0 H1; clear H1)
          refine WA_one (i := 3) (by kernel_rfl) ?_
          (refine WI_effnA rfl (.inl rfl) (E_buildRows (vss := [piC raw, piC pp]) H Try.underlying70 Try.sizeOf53 Try.zeroValue53 rfl rfl (by decide) rfl rfl (by simp [piC_len])) (fun _ _ _ H => (by first | exact fun h => absurd h (by decide) | exact fun _ => H | exact fun _ => H.none (by repeat' first | exact kNil | apply kCons | apply kApp | assumption | exact OwnS.keys (by assumption)) | exact fun _ => H.dropN (by repeat' first | exact kNil | apply kCons | apply kApp | assumption | exact OwnS.keys (by assumption)) | exact fun _ => H.pop (by assumption) | exact fun _ => (H.pop (by assumption)).pop (by assumption) | exact fun _ => H.kp | exact fun _ => H.kp.tail | exact fun _ => H.kp.tail.tail | exact fun _ => H.kp.tail.tail.tail | exact fun _ => H.kp.sub (by simp) | exact fun _ => Kp.nil | exact fun _ => H.kh (by simp) (by repeat' first | exact kNil | apply kCons | apply kApp | assumption | exact OwnS.keys (by assumption)))) ?_; clear H; intro c47 w709 hc47 H)
          refine WA_take 5 rfl rfl rfl (by kernel_rfl) (by kernel_rfl) (H.kh (by simp) (by repeat' first | exact kNil | apply kCons | apply kApp | assumption | exact OwnS.keys (by assumption))) (fun _ hC => R_indexAddr (off' := 16) Try.underlying70 Try.sizeOf53 rfl rfl (by decide) (by decide) (by decide)) ?_
          refine WA_one (i := 6) (by kernel_rfl) ?_
          refine WI_value rfl (.inl rfl) (R_loadA (vs := piC pp) Try.isAgg53 Try.sizeOf53 rfl (H.get .here) (row1 raw pp) (by rw [rowL]; decide)) (by first | exact fun h => absurd h (by decide) | exact fun _ => H | exact fun _ => H.none (by repeat' first | exact kNil | apply kCons | apply kApp | assumption | exact OwnS.keys (by assumption)) | exact fun _ => H.dropN (by repeat' first | exact kNil | apply kCons | apply kApp | assumption | exact OwnS.keys (by assumption)) | exact fun _ => H.pop (by assumption) | exact fun _ => (H.pop (by assumption)).pop (by assumption) | exact fun _ => H.kp | exact fun _ => H.kp.tail | exact fun _ => H.kp.tail.tail | exact fun _ => H.kp.tail.tail.tail | exact fun _ => H.kp.sub (by simp) | exact fun _ => Kp.nil | exact fun _ => H.kh (by simp) (by repeat' first | exact kNil | apply kCons | apply kApp | assumption | exact OwnS.keys (by assumption))) ?_
          refine WA_one (i := 8) (by kernel_rfl) ?_
          (refine WI_effu rfl (.inl rfl) (E_storeP (q := pp) H rfl rfl (.there .here)) (fun _ H => (by first | exact fun h => absurd h (by decide) | exact fun _ => H | exact fun _ => H.none (by repeat' first | exact kNil | apply kCons | apply kApp | assumption | exact OwnS.keys (by assumption)) | exact fun _ => H.dropN (by repeat' first | exact kNil | apply kCons | apply kApp | assumption | exact OwnS.keys (by assumption)) | exact fun _ => H.pop (by assumption) | exact fun _ => (H.pop (by assumption)).pop (by assumption) | exact fun _ => H.kp | exact fun _ => H.kp.tail | exact fun _ => H.kp.tail.tail | exact fun _ => H.kp.tail.tail.tail | exact fun _ => H.kp.sub (by simp) | exact fun _ => Kp.nil | exact fun _ => H.kh (by simp) (by repeat' first | exact kNil | apply kCons | apply kApp | assumption | exact OwnS.keys (by assumption)))) ?_; clear H; intro w714 H; replace H := H.pop hc47)
          refine WA_done (by kernel_rfl) ?_
          refine W_seq ?_
          ((obtain ⟨r, H⟩ : ∃ r, Hp w [(c9, blk (piC r) 53), (q, cod), (c3, blk (piC raw) 53)] _ := ⟨_, H⟩; by_cases hok : okP r)) <;> refine W_region_l ?_
          · refine WL_stepM rfl (R_mv) ?_
            refine WL_step rfl (R_loadP rfl (H.get .here)) ?_
            (refine WL_call rfl (R_call rfl Try.call37 rfl) (encM_ret r (H.get (.there .here))) ?_; rintro _ w720 (⟨_, b, rfl, hbb, H1⟩ | ⟨hno, _⟩); rotate_left; exact (hno hok).elim; have hsz := H.size; replace H := H.seqN H1 (kCons hbb kNil); replace hbb := Nat.le_trans hsz hbb; clear H1 hsz)
            refine WL_stepM rfl (R_mv) ?_
            refine WL_step rfl (R_extract rfl rfl) ?_
            refine WL_step rfl (R_extract rfl rfl) ?_
            refine WL_stepM rfl (R_as) ?_
            refine WL_stepM rfl (R_as) ?_
            refine WL_nil ?_
            refine W_seq ?_
            refine W_region_l ?_
            refine WL_step rfl (R_loadP rfl (H.get (.there .here))) ?_
            (refine WL_call rfl (R_call rfl Try.call30 rfl) (refOk_to (decide_eq_true hok) _) ?_; rintro _ w730 ⟨rfl, H1⟩; replace H := H.seq0 H1; clear H1)
            refine WL_stepM rfl (R_as) ?_
            refine WL_nil ?_
            refine W_seq ?_
            (have _g := hbb; refine W_draw (KH w [(b, blk ((bytesP r).map U) 5), (c9, blk (piC r) 53)]) (fun _ => false) (by kernel_rfl) H ?_; clear H; intro w734 H)
            refine WA_takeM 0 rfl rfl rfl (by kernel_rfl) (by kernel_rfl) (H.kh (by simp) (by repeat' first | exact kNil | apply kCons | apply kApp | assumption | exact OwnS.keys (by assumption))) (fun _ hC => R_mv) ?_
            refine WA_takeM 1 rfl rfl rfl (by kernel_rfl) (by kernel_rfl) (H.kh (by simp) (by repeat' first | exact kNil | apply kCons | apply kApp | assumption | exact OwnS.keys (by assumption))) (fun _ hC => R_mv) ?_
            refine WA_take 2 rfl rfl rfl (by kernel_rfl) (by kernel_rfl) (H.kh (by simp) (by repeat' first | exact kNil | apply kCons | apply kApp | assumption | exact OwnS.keys (by assumption))) (fun _ hC => R_ne_bool_f Try.underlying4 rfl rfl (by decide)) ?_
            refine WA_takeM 3 rfl rfl rfl (by kernel_rfl) (by kernel_rfl) (H.kh (by simp) (by repeat' first | exact kNil | apply kCons | apply kApp | assumption | exact OwnS.keys (by assumption))) (fun _ hC => R_mv) ?_
            refine WA_takeGM 4 rfl rfl rfl rfl (by kernel_rfl) (by kernel_rfl) (H.kh (by simp) (by repeat' first | exact kNil | apply kCons | apply kApp | assumption | exact OwnS.keys (by assumption))) (fun _ hC => R_mv) ?_
            refine WA_takeGM 5 rfl rfl rfl rfl (by kernel_rfl) (by kernel_rfl) (H.kh (by simp) (by repeat' first | exact kNil | apply kCons | apply kApp | assumption | exact OwnS.keys (by assumption))) (fun _ hC => R_mv) ?_
            refine WA_takeGM 6 rfl rfl rfl rfl (by kernel_rfl) (by kernel_rfl) (H.kh (by simp) (by repeat' first | exact kNil | apply kCons | apply kApp | assumption | exact OwnS.keys (by assumption))) (fun _ hC => R_mv) ?_
            refine WA_takeG 7 rfl rfl rfl rfl (by kernel_rfl) (by kernel_rfl) (H.kh (by simp) (by repeat' first | exact kNil | apply kCons | apply kApp | assumption | exact OwnS.keys (by assumption))) (fun _ hC => R_conv_bs (xs := bytesP r) Try.underlying22 Try.underlying5 Try.underlying9 rfl (rdP (hC.get .here) (by decide))) ?_
            refine WA_takeG 8 rfl rfl rfl rfl (by kernel_rfl) (by kernel_rfl) (H.kh (by simp) (by repeat' first | exact kNil | apply kCons | apply kApp | assumption | exact OwnS.keys (by assumption))) (fun _ hC => R_loadP rfl (hC.get (.there .here))) ?_
            refine WA_one (i := 9) (by kernel_rfl) ?_
            (refine WI_call rfl (.inr ⟨_, _, rfl, rfl⟩) (R_call rfl Try.call31 rfl) (refBytes_ret r hok _) (fun _ _ hR _ => (H.seq0 hR.2).kh (by simp) (by repeat' first | exact kNil | apply kCons | apply kApp | assumption | exact OwnS.keys (by assumption))) ?_; rintro _ w745 ⟨rfl, H1⟩; replace H := H.seq0 H1; clear H1)
            refine WA_takeG 10 rfl rfl rfl rfl (by kernel_rfl) (by kernel_rfl) (H.kh (by simp) (by repeat' first | exact kNil | apply kCons | apply kApp | assumption | exact OwnS.keys (by assumption))) (fun _ hC => R_ne_S_f rfl rfl rfl) ?_
            refine WA_takeGM 11 rfl rfl rfl rfl (by kernel_rfl) (by kernel_rfl) (H.kh (by simp) (by repeat' first | exact kNil | apply kCons | apply kApp | assumption | exact OwnS.keys (by assumption))) (fun _ hC => R_pk_t rfl) ?_
            refine WA_takeM 12 rfl rfl rfl (by kernel_rfl) (by kernel_rfl) (H.kh (by simp) (by repeat' first | exact kNil | apply kCons | apply kApp | assumption | exact OwnS.keys (by assumption))) (fun _ hC => R_pk_f rfl) ?_
            refine WA_done (by kernel_rfl) ?_
            refine W_cond_f rfl ?_
            refine W_skip ?_
            refine W_region_l ?_
            refine WL_stepM rfl (R_mv) ?_
            refine WL_step rfl (R_add rfl rfl (w_i64 (by omega))) ?_
            refine WL_stepM rfl (R_as) ?_
            refine WL_nil ?_
            exact ⟨(same_mov rfl (same_updo rfl (same_mov rfl (same_mov rfl (same_mov rfl (same_updo rfl (same_updo rfl (same_updo rfl (same_updo rfl (same_mov rfl (same_mov rfl (same_mov rfl (same_mov rfl (same_updo rfl (same_mov rfl (same_mov rfl (same_mov rfl (same_updo rfl (same_updo rfl (same_mov rfl (same_mov rfl (same_updo rfl (same_updo rfl (same_mov rfl (same_updo rfl (same_updo rfl (same_mov rfl (same_updn (same_updo rfl (same_updo rfl (same_updo rfl (same_updo rfl (same_updo rfl (same_mov rfl (same_mov rfl (same_updo rfl (same_updo rfl (same_mov rfl same_ovr)))))))))))))))))))))))))))))))))))))), 2, by omega, by omega, rfl, Hp.dropN (M := [_, _]) H (kCons hbb (kCons hc9 kNil))⟩
          · refine WL_stepM rfl (R_mv) ?_
            refine WL_step rfl (R_loadP rfl (H.get .here)) ?_
            (refine WL_call rfl (R_call rfl Try.call37 rfl) (encM_ret r (H.get (.there .here))) ?_; rintro _ w760 (⟨hyes, _⟩ | ⟨_, rfl, H1⟩); exact (hok hyes).elim; replace H := H.seq0 H1; clear H1)
            refine WL_stepM rfl (R_mv) ?_
            refine WL_step rfl (R_extract rfl rfl) ?_
            refine WL_step rfl (R_extract rfl rfl) ?_
            refine WL_stepM rfl (R_as) ?_
            refine WL_stepM rfl (R_as) ?_
            refine WL_nil ?_
            refine W_seq ?_
            refine W_region_l ?_
            refine WL_step rfl (R_loadP rfl (H.get .here)) ?_
            (refine WL_call rfl (R_call rfl Try.call30 rfl) (refOk_to (decide_eq_false hok) _) ?_; rintro _ w770 ⟨rfl, H1⟩; replace H := H.seq0 H1; clear H1)
            refine WL_stepM rfl (R_as) ?_
            refine WL_nil ?_
            refine W_seq ?_
            (refine W_draw (KH w [(c9, blk (piC r) 53)]) (fun _ => false) (by kernel_rfl) H ?_; clear H; intro w774 H)
            refine WA_takeM 0 rfl rfl rfl (by kernel_rfl) (by kernel_rfl) (H.kh (by simp) (by repeat' first | exact kNil | apply kCons | apply kApp | assumption | exact OwnS.keys (by assumption))) (fun _ hC => R_mv) ?_
            refine WA_takeM 1 rfl rfl rfl (by kernel_rfl) (by kernel_rfl) (H.kh (by simp) (by repeat' first | exact kNil | apply kCons | apply kApp | assumption | exact OwnS.keys (by assumption))) (fun _ hC => R_mv) ?_
            refine WA_take 2 rfl rfl rfl (by kernel_rfl) (by kernel_rfl) (H.kh (by simp) (by repeat' first | exact kNil | apply kCons | apply kApp | assumption | exact OwnS.keys (by assumption))) (fun _ hC => R_ne_bool_f Try.underlying4 rfl rfl (by decide)) ?_
            refine WA_takeM 3 rfl rfl rfl (by kernel_rfl) (by kernel_rfl) (H.kh (by simp) (by repeat' first | exact kNil | apply kCons | apply kApp | assumption | exact OwnS.keys (by assumption))) (fun _ hC => R_mv) ?_
            refine WA_takeGM 4 rfl rfl rfl rfl (by kernel_rfl) (by kernel_rfl) (H.kh (by simp) (by repeat' first | exact kNil | apply kCons | apply kApp | assumption | exact OwnS.keys (by assumption))) (fun _ hC => R_mv) ?_
            refine WA_takeGM 5 rfl rfl rfl rfl (by kernel_rfl) (by kernel_rfl) (H.kh (by simp) (by repeat' first | exact kNil | apply kCons | apply kApp | assumption | exact OwnS.keys (by assumption))) (fun _ hC => R_mv) ?_
            refine WA_pass 6 rfl rfl rfl (fun h => nomatch h) (by kernel_rfl) (by kernel_rfl) (H.kh (by simp) (by repeat' first | exact kNil | apply kCons | apply kApp | assumption | exact OwnS.keys (by assumption))) ?_
            refine WA_pass 7 rfl rfl rfl (fun h => nomatch h) (by kernel_rfl) (by kernel_rfl) (H.kh (by simp) (by repeat' first | exact kNil | apply kCons | apply kApp | assumption | exact OwnS.keys (by assumption))) ?_
            refine WA_pass 8 rfl rfl rfl (fun h => nomatch h) (by kernel_rfl) (by kernel_rfl) (H.kh (by simp) (by repeat' first | exact kNil | apply kCons | apply kApp | assumption | exact OwnS.keys (by assumption))) ?_
            refine WA_pass 9 rfl rfl rfl (fun h => nomatch h) (by kernel_rfl) (by kernel_rfl) (H.kh (by simp) (by repeat' first | exact kNil | apply kCons | apply kApp | assumption | exact OwnS.keys (by assumption))) ?_
            refine WA_pass 10 rfl rfl rfl (fun h => nomatch h) (by kernel_rfl) (by kernel_rfl) (H.kh (by simp) (by repeat' first | exact kNil | apply kCons | apply kApp | assumption | exact OwnS.keys (by assumption))) ?_
            refine WA_takeGM 11 rfl rfl rfl rfl (by kernel_rfl) (by kernel_rfl) (H.kh (by simp) (by repeat' first | exact kNil | apply kCons | apply kApp | assumption | exact OwnS.keys (by assumption))) (fun _ hC => R_pk_f rfl) ?_
            refine WA_takeM 12 rfl rfl rfl (by kernel_rfl) (by kernel_rfl) (H.kh (by simp) (by repeat' first | exact kNil | apply kCons | apply kApp | assumption | exact OwnS.keys (by assumption))) (fun _ hC => R_pk_f rfl) ?_
            refine WA_done (by kernel_rfl) ?_
            refine W_cond_f rfl ?_
            refine W_skip ?_
            refine W_region_l ?_
            refine WL_stepM rfl (R_mv) ?_
            refine WL_step rfl (R_add rfl rfl (w_i64 (by omega))) ?_
            refine WL_stepM rfl (R_as) ?_
            refine WL_nil ?_
            exact ⟨(same_mov rfl (same_updo rfl (same_mov rfl (same_mov rfl (same_mov rfl (same_updo rfl (same_updo rfl (same_updo rfl (same_updo rfl (same_updo rfl (same_mov rfl (same_mov rfl (same_mov rfl (same_updo rfl (same_mov rfl (same_mov rfl (same_mov rfl (same_updo rfl (same_updo rfl (same_mov rfl (same_mov rfl (same_updo rfl (same_updo rfl (same_mov rfl (same_updo rfl (same_updo rfl (same_mov rfl (same_updn (same_updo rfl (same_updo rfl (same_updo rfl (same_updo rfl (same_updo rfl (same_mov rfl (same_mov rfl (same_updo rfl (same_updo rfl (same_mov rfl same_ovr)))))))))))))))))))))))))))))))))))))), 2, by omega, by omega, rfl, H.pop hc9⟩
      · refine W_seq ?_
        refine W_seq ?_
        refine W_region_l ?_
        refine WL_stepM rfl (R_mv) ?_
        refine WL_step rfl (R_lt_f rfl rfl (by omega)) ?_
        refine WL_nil ?_
        refine W_cond_f rfl ?_
        refine W_exit ?_
        refine (if_pos rfl).mpr ?_
        refine W_seq ?_
        ((rcases dec_two xs with ⟨hg, hdec⟩ | ⟨hg, d, hd, hdec⟩)) <;> refine W_region_l ?_
        · refine WL_stepM rfl (R_mv) ?_
          refine WL_stepM rfl (R_mv) ?_
          (refine WL_call rfl (R_call rfl Try.call38 rfl) (decM_ret (xs := xs) (H.get .here) (hn.monoN H (by repeat' first | exact kNil | apply kCons | apply kApp | assumption | exact OwnS.keys (by assumption))) (by omega)) ?_; rintro _ w810 ⟨(⟨_, rfl⟩ | ⟨hno, _⟩), H1⟩; rotate_left; exact (hno hg).elim; replace H := H.seq0 H1; clear H1)
          refine WL_stepM rfl (R_mv) ?_
          refine WL_step rfl (R_extract rfl rfl) ?_
          refine WL_step rfl (R_extract rfl rfl) ?_
          (refine WL_effn rfl (E_allocP H) ?_; clear H; intro c13 w814 hc13 H)
          (refine WL_effu rfl (E_storeP (q := ofB xs) H rfl rfl .here) ?_; clear H; intro w815 H)
          refine WL_stepM rfl (R_as) ?_
          refine WL_nil ?_
          refine W_seq ?_
          refine W_region_l ?_
          refine WL_stepM rfl (R_mv) ?_
          refine WL_step rfl (R_conv_bs (xs := xs) Try.underlying22 Try.underlying5 Try.underlying9 rfl (hn.monoN H (by repeat' first | exact kNil | apply kCons | apply kApp | assumption | exact OwnS.keys (by assumption)))) ?_
          (refine WL_call rfl (R_call rfl Try.call34 rfl) (refOf_to hdec (by omega)) ?_; rintro _ w822 ⟨rfl, H1⟩; replace H := H.seq0 H1; clear H1)
          refine WL_stepM rfl (R_mv) ?_
          refine WL_step rfl (R_extract rfl rfl) ?_
          refine WL_step rfl (R_extract rfl rfl) ?_
          (refine WL_effn rfl (E_allocP H) ?_; clear H; intro c15 w826 hc15 H)
          (refine WL_effu rfl (E_storeP (q := ofB xs) H rfl rfl .here) ?_; clear H; intro w827 H)
          refine WL_stepM rfl (R_as) ?_
          refine WL_nil ?_
          refine W_seq ?_
          refine W_region_l ?_
          refine WL_stepM rfl (R_mv) ?_
          refine WL_stepM rfl (R_mv) ?_
          refine WL_step rfl (R_eq_t rfl rfl rfl) ?_
          refine WL_step rfl (R_eq_bool_t Try.underlying4 rfl rfl (by decide)) ?_
          refine WL_stepM rfl (R_mv) ?_
          refine WL_guard_t rfl rfl ?_
          refine WL_stepM rfl (R_mv) ?_
          refine WL_guard_t rfl rfl ?_
          refine WL_step rfl (R_not_t rfl) ?_
          refine WL_guard_t rfl rfl ?_
          refine WL_stepM rfl (R_mv) ?_
          refine WL_guard_t rfl rfl ?_
          refine WL_step rfl (R_loadP rfl (H.get (.there .here))) ?_
          refine WL_guard_t rfl rfl ?_
          refine WL_step rfl (R_loadP rfl (H.get .here)) ?_
          refine WL_guard_t rfl rfl ?_
          refine WL_step rfl (R_eq_P_t rfl rfl) ?_
          refine WL_guard_t rfl rfl ?_
          refine WL_stepM rfl (R_pk_f rfl) ?_
          refine WL_stepM rfl (R_pk_t rfl) ?_
          refine WL_stepM rfl (R_mv) ?_
          refine WL_guard_t rfl rfl ?_
          (refine WL_call rfl (R_call rfl Try.call29 rfl) (awake_ret _) ?_; rintro _ w854 ⟨rfl, H1⟩; replace H := H.seq0 H1; clear H1)
          refine WL_stepM rfl (R_pk_t rfl) ?_
          refine WL_stepM rfl (R_as) ?_
          refine WL_nil ?_
          refine W_ret ?_
          exact ⟨_, rfl, rfl, H.none (by repeat' first | exact kNil | apply kCons | apply kApp | assumption | exact OwnS.keys (by assumption))⟩
        · refine WL_stepM rfl (R_mv) ?_
          refine WL_stepM rfl (R_mv) ?_
          (refine WL_call rfl (R_call rfl Try.call38 rfl) (decM_ret (xs := xs) (H.get .here) (hn.monoN H (by repeat' first | exact kNil | apply kCons | apply kApp | assumption | exact OwnS.keys (by assumption))) (by omega)) ?_; rintro _ w862 ⟨(⟨hyes, _⟩ | ⟨_, rfl⟩), H1⟩; exact (hg hyes).elim; replace H := H.seq0 H1; clear H1)
          refine WL_stepM rfl (R_mv) ?_
          refine WL_step rfl (R_extract rfl rfl) ?_
          refine WL_step rfl (R_extract rfl rfl) ?_
          (refine WL_effn rfl (E_allocP H) ?_; clear H; intro c13 w866 hc13 H)
          (refine WL_effu rfl (E_storeP (q := zeroP) H rfl rfl .here) ?_; clear H; intro w867 H)
          refine WL_stepM rfl (R_as) ?_
          refine WL_nil ?_
          refine W_seq ?_
          refine W_region_l ?_
          refine WL_stepM rfl (R_mv) ?_
          refine WL_step rfl (R_conv_bs (xs := xs) Try.underlying22 Try.underlying5 Try.underlying9 rfl (hn.monoN H (by repeat' first | exact kNil | apply kCons | apply kApp | assumption | exact OwnS.keys (by assumption)))) ?_
          (refine WL_call rfl (R_call rfl Try.call34 rfl) (refOf_to hdec (by omega)) ?_; rintro _ w874 ⟨rfl, H1⟩; replace H := H.seq0 H1; clear H1)
          refine WL_stepM rfl (R_mv) ?_
          refine WL_step rfl (R_extract rfl rfl) ?_
          refine WL_step rfl (R_extract rfl rfl) ?_
          (refine WL_effn rfl (E_allocP H) ?_; clear H; intro c15 w878 hc15 H)
          (refine WL_effu rfl (E_storeP (q := zeroP) H rfl rfl .here) ?_; clear H; intro w879 H)
          refine WL_stepM rfl (R_as) ?_
          refine WL_nil ?_
          refine W_seq ?_
          refine W_region_l ?_
          refine WL_stepM rfl (R_mv) ?_
          refine WL_stepM rfl (R_mv) ?_
          refine WL_step rfl (R_eq_f rfl rfl hd) ?_
          refine WL_step rfl (R_eq_bool_t Try.underlying4 rfl rfl (by decide)) ?_
          refine WL_stepM rfl (R_mv) ?_
          refine WL_guard_t rfl rfl ?_
          refine WL_stepM rfl (R_mv) ?_
          refine WL_guard_t rfl rfl ?_
          refine WL_step rfl (R_not_f rfl) ?_
          refine WL_guard_t rfl rfl ?_
          refine WL_stepM rfl (R_mv) ?_
          refine WL_guard_f rfl rfl (by decide) ?_
          refine WL_guard_f rfl rfl (by decide) ?_
          refine WL_guard_f rfl rfl (by decide) ?_
          refine WL_guard_t rfl rfl ?_
          refine WL_stepM rfl (R_pk_t rfl) ?_
          refine WL_stepM rfl (R_pk_t rfl) ?_
          refine WL_stepM rfl (R_mv) ?_
          refine WL_guard_t rfl rfl ?_
          (refine WL_call rfl (R_call rfl Try.call29 rfl) (awake_ret _) ?_; rintro _ w903 ⟨rfl, H1⟩; replace H := H.seq0 H1; clear H1)
          refine WL_stepM rfl (R_pk_t rfl) ?_
          refine WL_stepM rfl (R_as) ?_
          refine WL_nil ?_
          refine W_ret ?_
          exact ⟨_, rfl, rfl, H.none (by repeat' first | exact kNil | apply kCons | apply kApp | assumption | exact OwnS.keys (by assumption))⟩
  · refine W_seq ?_
    refine W_region_l ?_
    (refine WL_effn rfl (E_boxP H rfl) ?_; clear H; intro c3 w3 hc3 H)
    refine WL_stepM rfl (R_as) ?_
    refine WL_nil ?_
    refine W_seq ?_
    refine W_region_l ?_
    (refine WL_call rfl (R_call rfl Try.call35 rfl) (codec_ret _) ?_; rintro _ w8 ⟨q, rfl, hq, H1⟩; have hsz := H.size; replace H := H.seqN H1 (kCons hq kNil); replace hq := Nat.le_trans hsz hq; clear H1 hsz)
    refine WL_stepM rfl (R_as) ?_
    refine WL_nil ?_
    refine W_seq ?_
    refine W_seq ?_
    refine W_region_l ?_
    refine WL_stepM rfl (R_mv) ?_
    refine WL_step rfl (R_eq_ptr_nil Try.underlying67 rfl rfl) ?_
    refine WL_stepM rfl (R_mv) ?_
    refine WL_guard_t rfl rfl ?_
    refine WL_stepM rfl (R_mv) ?_
    refine WL_guard_t rfl rfl ?_
    (refine WL_call rfl (R_call rfl Try.call36 rfl) (size_ret (H.get .here)) ?_; rintro _ w20 ⟨rfl, H1⟩; replace H := H.seq0 H1; clear H1)
    refine WL_guard_t rfl rfl ?_
    refine WL_step rfl (R_ne_f rfl rfl (by omega)) ?_
    refine WL_stepM rfl (R_pk_f rfl) ?_
    refine WL_stepM rfl (R_mv) ?_
    refine WL_guard_t rfl rfl ?_
    refine WL_stepM rfl (R_mv) ?_
    refine WL_guard_t rfl rfl ?_
    refine WL_step rfl (R_len_slice Try.underlying22 rfl) ?_
    refine WL_guard_t rfl rfl ?_
    refine WL_step rfl (R_gt_t rfl rfl (by omega)) ?_
    refine WL_stepM rfl (R_pk_f rfl) ?_
    refine WL_nil ?_
    refine W_cond_t rfl ?_
    refine W_seq ?_
    refine W_region_l ?_
    refine WL_stepM rfl (R_mv) ?_
    refine WL_step rfl (R_ne_ptr_nil Try.underlying67 rfl rfl) ?_
    refine WL_stepM rfl (R_mv) ?_
    refine WL_guard_t rfl rfl ?_
    refine WL_stepM rfl (R_mv) ?_
    refine WL_guard_t rfl rfl ?_
    (refine WL_call rfl (R_call rfl Try.call36 rfl) (size_ret (H.get .here)) ?_; rintro _ w42 ⟨rfl, H1⟩; replace H := H.seq0 H1; clear H1)
    refine WL_guard_t rfl rfl ?_
    refine WL_step rfl (R_eq_t rfl rfl (by omega)) ?_
    refine WL_stepM rfl (R_pk_t rfl) ?_
    refine WL_stepM rfl (R_mv) ?_
    refine WL_guard_t rfl rfl ?_
    (refine WL_call rfl (R_call rfl Try.call29 rfl) (awake_ret _) ?_; rintro _ w48 ⟨rfl, H1⟩; replace H := H.seq0 H1; clear H1)
    refine WL_stepM rfl (R_pk_t rfl) ?_
    refine WL_stepM rfl (R_as) ?_
    refine WL_nil ?_
    refine W_ret ?_
    exact ⟨_, rfl, rfl, H.none (by repeat' first | exact kNil | apply kCons | apply kApp | assumption | exact OwnS.keys (by assumption))⟩
end Go.Proofs.Ytcpkhgdjckogjaa.Slot

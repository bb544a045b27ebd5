/-
  Pipes put into bytes.
-/
import Derived.Test.YtcpkhgdjckogjaaRingA
namespace Go.Proofs.Ytcpkhgdjckogjaa.Ring
open Go Go.Proofs Go.Proofs.Ytcpkhgdjckogjaa.Fx Go.Proofs.Ytcpkhgdjckogjaa.Codec
set_option maxRecDepth 100000
set_option linter.unusedVariables false
set_option linter.unusedSimpArgs false
set_option maxHeartbeats 1000000

theorem take_snoc_u {xs : List UInt8} {i : Nat} (h : i < xs.length) : xs.take i ++ [xs[i]] = xs.take (i + 1) := (List.take_succ_eq_append_getElem h).symm
theorem cat_snoc {A xs : List UInt8} {i : Nat} (h : i < xs.length) : (A ++ xs.take i) ++ [xs[i]] = A ++ xs.take (i + 1) := by
  rw [List.append_assoc, take_snoc_u h]
theorem b8l (k : Int) (h : 0 ≤ k ∧ k ≤ 255) : IntKind.u8.wrap k = ((b8 k).toNat : Int) := u8_b8 h.1

theorem refBytes_ret (p : Pi) (hok : okP p) (w : World) : Ret Try.prog 20 #[vP p] w fun v w' => v = S (bytesP p) ∧ Hp w [] w' := by
  refine Ret_of_W (args := [_]) Try.func20 rfl Try.ntmps20 Try.results20 (by simp) ?_
  have H := Hp.refl w
  have hd := p.hd
  have hok0 := hok
  unfold okP at hok
  refine W_seq ?_
  refine W_region_l ?_
  (refine WL_effn rfl (E_boxP H rfl) ?_; clear H; intro bx w3 hbx H)
  refine WL_stepM rfl (R_as) ?_
  refine WL_nil ?_
  refine W_seq ?_
  refine W_region_l ?_
  refine WL_step rfl (R_fieldAddr (off' := 0) Try.underlying26 rfl Try.sizeOf3 (by decide) rfl rfl) ?_
  refine WL_step rfl (R_load Try.isAgg3 rfl (H.get .here) rfl) ?_
  refine WL_step rfl (R_conv_int Try.underlying3 Try.underlying5 rfl (u8_b8 (n := p.h) (by omega))) ?_
  refine WL_step rfl (R_fieldAddr (off' := 1) Try.underlying26 rfl Try.sizeOf3 (by decide) rfl rfl) ?_
  refine WL_step rfl (R_load Try.isAgg3 rfl (H.get .here) rfl) ?_
  refine WL_step rfl (R_conv_int Try.underlying3 Try.underlying5 rfl (u8_b8 (n := p.c) (by omega))) ?_
  refine WL_step rfl (R_fieldAddr (off' := 2) Try.underlying26 rfl Try.sizeOf3 (by decide) rfl rfl) ?_
  refine WL_step rfl (R_load Try.isAgg3 rfl (H.get .here) rfl) ?_
  refine WL_step rfl (R_conv_int Try.underlying3 Try.underlying5 rfl (u8_b8 (n := p.r) (by omega))) ?_
  refine WL_step rfl (R_fieldAddr (off' := 3) Try.underlying26 rfl Try.sizeOf3 (by decide) rfl rfl) ?_
  refine WL_step rfl (R_load Try.isAgg3 rfl (H.get .here) rfl) ?_
  refine WL_step rfl (R_conv_int Try.underlying3 Try.underlying5 rfl (u8_b8 (n := p.w) (by omega))) ?_
  (refine WL_effn rfl (E_buildOnes (vs := [(.int _ _), (.int _ _), (.int _ _), (.int _ _), (.int _ _), (.int _ _)]) H Try.underlying22 Try.sizeOf5 Try.zeroValue5 rfl rfl (by decide) rfl rfl (by simp [Value.oneCell'])) ?_; clear H; intro b20 w20 hb20 H)
  refine WL_step rfl (R_conv_bs (xs := hb6 p) Try.underlying22 Try.underlying5 Try.underlying9 rfl (RdS.blk (H.get .here) rfl (by simp) (by simp))) ?_
  refine WL_stepM rfl (R_as) ?_
  refine WL_nil ?_
  refine W_seq ?_
  refine W_region_l ?_
  refine WL_stepM rfl (R_mv) ?_
  refine WL_stepM rfl (R_mv) ?_
  (refine WL_call rfl (R_call rfl Try.call44 rfl) (refSum_ret _ (by simp [hb6])) ?_; rintro _ w28 ⟨rfl, H1⟩; replace H := H.seq0 H1; clear H1)
  (refine WL_effn rfl (E_buildOnes (vs := [(.int _ _), (.int _ _)]) H Try.underlying22 Try.sizeOf5 Try.zeroValue5 rfl rfl (by decide) rfl rfl (by simp [Value.oneCell'])) ?_; clear H; intro b29 w29 hb29 H)
  refine WL_step rfl (R_conv_bs (xs := [sumB (hb6 p), 0]) Try.underlying22 Try.underlying5 Try.underlying9 rfl (RdS.blk (H.get .here) rfl (by simp) (by simp))) ?_
  refine WL_step rfl (R_cat_S rfl rfl (by simp [hb6])) ?_
  refine WL_stepM rfl (R_as) ?_
  refine WL_nil ?_
  refine W_seq ?_
  refine W_seq ?_
  ((replace H := (H.pop (by assumption)).pop (by assumption))) <;> refine W_region_l ?_
  refine WL_stepM rfl (R_as) ?_
  refine WL_nil ?_
  refine W_block ?_
  refine W_loopS [(3, 4), (25, 36)] (fun (i : Nat) E w' => i ≤ 32 ∧ E 3 = S ((hb6 p ++ [sumB (hb6 p), 0]) ++ p.d.take i) ∧ E 4 = I i ∧ Hp w [(bx, blk (piC p) 26)] w') (fun i => 32 - i) 0 ?e0 ?r0
  · exact ⟨by omega, by rw [List.take_zero, List.append_nil]; rfl, rfl, H⟩
  · (clear H; rintro i E w1 ⟨hi, h3, h4, H⟩; refine W_kn2 h3 h4 ?_; by_cases hlt : i < 32)
    · refine W_seq ?_
      refine W_seq ?_
      refine W_region_l ?_
      refine WL_stepM rfl (R_mv) ?_
      refine WL_step rfl (R_lt_t rfl rfl (by omega)) ?_
      refine WL_nil ?_
      refine W_cond_t rfl ?_
      refine W_skip ?_
      refine W_seq ?_
      refine W_block ?_
      refine W_region_l ?_
      refine WL_stepM rfl (R_mv) ?_
      refine WL_stepM rfl (R_mv) ?_
      refine WL_step rfl (R_fieldAddr (off' := 4) Try.underlying26 rfl Try.sizeOf24 (by decide) rfl rfl) ?_
      refine WL_step rfl (R_indexAddrA Try.underlying24 Try.sizeOf5 rfl rfl (by omega) (by omega) idx_cast1) ?_
      refine WL_step rfl (R_load (v := U (p.d[i]'(by omega))) Try.isAgg5 rfl (H.get .here) (pi_data (List.getElem?_eq_getElem (by omega)))) ?_
      (refine WL_effn rfl (E_buildOnes (vs := [(.int _ _)]) H Try.underlying22 Try.sizeOf5 Try.zeroValue5 rfl rfl (by decide) rfl rfl (by simp [Value.oneCell'])) ?_; clear H; intro b58 w58 hb58 H)
      refine WL_step rfl (R_conv_bs (xs := [p.d[i]'(by omega)]) Try.underlying22 Try.underlying5 Try.underlying9 rfl (RdS.blk (H.get .here) rfl (by simp) (by simp))) ?_
      (refine WL_step rfl (R_cat_S rfl rfl (by simp [hb6]; omega)) ?_; replace H := H.pop (by assumption))
      refine WL_stepM rfl (R_as) ?_
      refine WL_nil ?_
      refine W_region_l ?_
      refine WL_stepM rfl (R_mv) ?_
      refine WL_step rfl (R_add rfl rfl (w_i64 (by omega))) ?_
      refine WL_stepM rfl (R_as) ?_
      refine WL_nil ?_
      exact ⟨(same_mov rfl (same_updo rfl (same_mov rfl (same_mov rfl (same_updo rfl (same_updo rfl (same_updo rfl (same_updo rfl (same_updo rfl (same_updo rfl (same_mov rfl (same_mov rfl (same_updo rfl (same_mov rfl same_ovr)))))))))))))), i + 1, by omega, by omega, congrArg S (cat_snoc (by omega)), rfl, H⟩
    · refine W_seq ?_
      refine W_seq ?_
      refine W_region_l ?_
      refine WL_stepM rfl (R_mv) ?_
      refine WL_step rfl (R_lt_f rfl rfl (by omega)) ?_
      refine WL_nil ?_
      refine W_cond_f rfl ?_
      refine W_exit ?_
      refine (if_pos rfl).mpr ?_
      refine W_seq ?_
      refine W_region_l ?_
      refine WL_stepM rfl (R_mv) ?_
      refine WL_stepM rfl (R_as) ?_
      refine WL_nil ?_
      refine W_ret ?_
      exact ⟨_, rfl, by unfold bytesP; rw [List.take_of_length_le (l := p.d) (i := i) (by omega)]; rfl, H.none (by repeat' first | exact kNil | apply kCons | apply kApp | assumption | exact OwnS.keys (by assumption))⟩

theorem put_no {l : Value} (p : Pi) (hok : ¬ okP p) (w : World) : Ret Try.prog 59 #[vP p, l] w fun v w' => v = .bool false ∧ Hp w [] w' := by
  refine Ret_of_W (args := [_, _]) Try.func59 rfl Try.ntmps59 Try.results59 (by simp) ?_
  have H := Hp.refl w
  refine W_seq ?_
  refine W_region_l ?_
  (refine WL_effn rfl (E_boxP H rfl) ?_; clear H; intro bx w3 hbx H)
  refine WL_stepM rfl (R_as) ?_
  refine WL_nil ?_
  refine W_seq ?_
  refine W_seq ?_
  refine W_region_l ?_
  refine WL_step rfl (R_loadP rfl (H.get .here)) ?_
  (refine WL_call rfl (R_call rfl Try.call19 rfl) (ok_ret p _) ?_; rintro v w10 ⟨hv, H1⟩; rw [decide_eq_false hok] at hv; subst hv; replace H := H.seq0 H1; clear H1)
  refine WL_step rfl (R_not_f rfl) ?_
  refine WL_nil ?_
  refine W_cond_t rfl ?_
  refine W_seq ?_
  refine W_region_l ?_
  refine WL_stepM rfl (R_as) ?_
  refine WL_nil ?_
  refine W_ret ?_
  exact ⟨_, rfl, rfl, H.none (by repeat' first | exact kNil | apply kCons | apply kApp | assumption | exact OwnS.keys (by assumption))⟩

theorem pi_dat (p : Pi) : ((piC p).drop 4).take 32 = p.d.map U := by
  have hd := p.hd
  unfold piC
  rw [List.drop_left' (by simp), List.take_of_length_le (by simp; omega)]
theorem put_cells (p : Pi) (s : UInt8) : (((hb6 p ++ [s, 0]) ++ List.replicate 32 0).map U).take 8 ++ (p.d.map U).take 32 ++ (((hb6 p ++ [s, 0]) ++ List.replicate 32 0).map U).drop (8 + min (p.d.map U).length 32) = ((hb6 p ++ [s, 0]) ++ p.d).map U := by
  have hd := p.hd
  rw [List.take_of_length_le (l := p.d.map U) (by simp; omega), List.length_map, hd, List.drop_of_length_le (by simp [hb6]), List.append_nil, List.map_append, List.take_left' (by simp [hb6]), List.map_append, List.map_append, List.map_append]

theorem put_yes {b : Nat} {w : World} (p : Pi) (hok : okP p) (hb : w.heap[b]? = some (blk ((List.replicate 40 0).map U) 5)) :
    Ret Try.prog 59 #[vP p, sl b 0 40 40] w fun v w' => v = .bool true ∧ Hp w [(b, blk ((bytesP p).map U) 5)] w' := by
  refine Ret_of_W (args := [_, _]) Try.func59 rfl Try.ntmps59 Try.results59 (by simp) ?_
  have H := Hp.focus0 hb
  have hd := p.hd
  have hok0 := hok
  unfold okP at hok
  refine W_seq ?_
  refine W_region_l ?_
  (refine WL_effn rfl (E_boxP H rfl) ?_; clear H; intro bx w3 hbx H)
  refine WL_stepM rfl (R_as) ?_
  refine WL_nil ?_
  refine W_seq ?_
  refine W_seq ?_
  refine W_region_l ?_
  refine WL_step rfl (R_loadP rfl (H.get .here)) ?_
  (refine WL_call rfl (R_call rfl Try.call19 rfl) (ok_ret p _) ?_; rintro v w10 ⟨hv, H1⟩; rw [decide_eq_true hok0] at hv; subst hv; replace H := H.seq0 H1; clear H1)
  refine WL_step rfl (R_not_t rfl) ?_
  refine WL_nil ?_
  refine W_cond_f rfl ?_
  refine W_skip ?_
  refine W_seq ?_
  refine W_region_l ?_
  refine WL_stepM rfl (R_mv) ?_
  refine WL_step rfl (R_fieldAddr (off' := 0) Try.underlying26 rfl Try.sizeOf3 (by decide) rfl rfl) ?_
  refine WL_step rfl (R_load Try.isAgg3 rfl (H.get .here) rfl) ?_
  refine WL_step rfl (R_conv_int Try.underlying3 Try.underlying5 rfl (u8_b8 (n := p.h) (by omega))) ?_
  refine WL_step rfl (R_fieldAddr (off' := 1) Try.underlying26 rfl Try.sizeOf3 (by decide) rfl rfl) ?_
  refine WL_step rfl (R_load Try.isAgg3 rfl (H.get .here) rfl) ?_
  refine WL_step rfl (R_conv_int Try.underlying3 Try.underlying5 rfl (u8_b8 (n := p.c) (by omega))) ?_
  refine WL_step rfl (R_fieldAddr (off' := 2) Try.underlying26 rfl Try.sizeOf3 (by decide) rfl rfl) ?_
  refine WL_step rfl (R_load Try.isAgg3 rfl (H.get .here) rfl) ?_
  refine WL_step rfl (R_conv_int Try.underlying3 Try.underlying5 rfl (u8_b8 (n := p.r) (by omega))) ?_
  refine WL_step rfl (R_fieldAddr (off' := 3) Try.underlying26 rfl Try.sizeOf3 (by decide) rfl rfl) ?_
  refine WL_step rfl (R_load Try.isAgg3 rfl (H.get .here) rfl) ?_
  refine WL_step rfl (R_conv_int Try.underlying3 Try.underlying5 rfl (u8_b8 (n := p.w) (by omega))) ?_
  (refine WL_effn rfl (E_buildOnes (vs := [(.int _ _), (.int _ _), (.int _ _), (.int _ _), (.int _ _), (.int _ _)]) H Try.underlying22 Try.sizeOf5 Try.zeroValue5 rfl rfl (by decide) rfl rfl (by simp [Value.oneCell'])) ?_; clear H; intro b30 w30 hb30 H)
  (refine WL_effm rfl (E_copy (xs := (hb6 p).map U) H (.there (.there .here)) Try.underlying22 Try.sizeOf5 rfl rfl (RdS.blk (H.get .here) rfl (by simp) (by simp)).csrc (by simp) (by simp [Value.oneCell'])) ?_; clear H; rintro _ _ w31 rfl H; replace H := H.pop (by assumption); replace H : Hp w [(bx, blk (piC p) 26), (b, blk ((hb6 p ++ List.replicate 34 0).map U) 5)] _ := H)
  refine WL_nil ?_
  refine W_seq ?_
  refine W_region_l ?_
  refine WL_stepM rfl (R_mv) ?_
  refine WL_stepM rfl (R_mv) ?_
  refine WL_step rfl (R_slice Try.underlying22 Try.sizeOf5 rfl .none (.some rfl) (by omega) (by omega) (by omega) (by omega) (by omega) rfl) ?_
  (refine WL_call rfl (R_call rfl Try.call65 rfl) (sum_ret (xs := hb6 p) (RdS.blk (H.get (.there .here)) rfl (by simp [hb6]) (by simp)) (by simp [hb6])) ?_; rintro _ w38 ⟨rfl, H1⟩; replace H := H.seq0 H1; clear H1)
  refine WL_step rfl (R_indexAddr (off' := 6) Try.underlying22 Try.sizeOf5 rfl rfl (by omega) (by omega) rfl) ?_
  (refine WL_effu rfl (E_store (v := U (sumB (hb6 p))) H Try.sizeOf5 rfl rfl rfl (.there .here) (by simp [hb6])) ?_; clear H; intro w40 H; replace H : Hp w [(bx, blk (piC p) 26), (b, blk (((hb6 p ++ [sumB (hb6 p), 0]) ++ List.replicate 32 0).map U) 5)] _ := H)
  refine WL_nil ?_
  refine W_seq ?_
  (refine W_draw (Kp []) (fun _ => false) (by kernel_rfl) H ?_; clear H; intro w43 H)
  refine WA_takeM 0 rfl rfl rfl (by kernel_rfl) (by kernel_rfl) (H.kp.sub (by simp)) (fun _ hC => R_mv) ?_
  refine WA_take 1 rfl rfl rfl (by kernel_rfl) (by kernel_rfl) (H.kp.sub (by simp)) (fun _ hC => R_from (k := 8) (m := 32) (k' := 8) Try.underlying22 Try.sizeOf5 rfl rfl rfl (by decide) rfl (by decide)) ?_
  refine WA_take 2 rfl rfl rfl (by kernel_rfl) (by kernel_rfl) (H.kp.sub (by simp)) (fun _ hC => R_fieldAddr (off' := 4) Try.underlying26 rfl Try.sizeOf24 (by decide) rfl rfl) ?_
  refine WA_take 3 rfl rfl rfl (by kernel_rfl) (by kernel_rfl) (H.kp.sub (by simp)) (fun _ hC => R_all Try.underlying24 Try.sizeOf5 rfl (by decide)) ?_
  refine WA_one (i := 4) (by kernel_rfl) ?_
  (refine WI_effm rfl (.inl rfl) (E_copy (xs := p.d.map U) (off := 8) H (.there .here) Try.underlying22 Try.sizeOf5 rfl rfl (RdS.blk (off := 4) (H.get .here) (pi_dat p) (by rw [piC_len]; decide) (by decide)).csrc (by simp [hb6]) (by simp [Value.oneCell'])) (fun _ _ H => (by first | exact fun h => absurd h (by decide) | exact fun _ => H | exact fun _ => H.none (by repeat' first | exact kNil | apply kCons | apply kApp | assumption | exact OwnS.keys (by assumption)) | exact fun _ => H.dropN (by repeat' first | exact kNil | apply kCons | apply kApp | assumption | exact OwnS.keys (by assumption)) | exact fun _ => H.pop (by assumption) | exact fun _ => (H.pop (by assumption)).pop (by assumption) | exact fun _ => H.kp | exact fun _ => H.kp.tail | exact fun _ => H.kp.tail.tail | exact fun _ => H.kp.tail.tail.tail | exact fun _ => H.kp.sub (by simp) | exact fun _ => Kp.nil | exact fun _ => H.kh (by simp) (by repeat' first | exact kNil | apply kCons | apply kApp | assumption | exact OwnS.keys (by assumption)))) ?_; clear H; rintro _ _ w49 rfl H; rw [put_cells p] at H)
  refine WA_done (by kernel_rfl) ?_
  refine W_seq ?_
  refine W_region_l ?_
  refine WL_stepM rfl (R_as) ?_
  refine WL_nil ?_
  refine W_ret ?_
  exact ⟨_, rfl, rfl, H.pop (by assumption)⟩
end Go.Proofs.Ytcpkhgdjckogjaa.Ring

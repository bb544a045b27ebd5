/-
  A slot is put into bytes.
-/
import Derived.Test.YtlpmfldijgdcoaaGreatDoorSlotM1
namespace Go.Proofs.YtlpmfldijgdcoaaGreatDoor.Slot
open Go Go.Proofs Go.Proofs.YtlpmfldijgdcoaaGreatDoor.Fx Go.Proofs.YtlpmfldijgdcoaaGreatDoor.Codec
set_option maxRecDepth 100000
set_option linter.unusedVariables false
set_option linter.unusedSimpArgs false
set_option maxHeartbeats 2000000

theorem put_no {l : Value} (p : Pi) (hok : ¬ okP p) (w : World) : Ret Tryz.prog 168 #[vP p, l] w fun v w' => v = .bool false ∧ Hp w [] w' := by
  refine Ret_of_W (args := [_, _]) Tryz.func168 rfl Tryz.ntmps168 Tryz.results168 (by simp) ?_
  have H := Hp.refl w
  refine W_seq ?_
  refine W_region_l ?_
  (refine WL_effn rfl (E_boxP H rfl) ?_; clear H; intro bx w3 hbx H)
  refine WL_stepM rfl (R_as) ?_
  refine WL_nil ?_
  refine W_seq ?_
  refine W_seq ?_
  refine W_region_l ?_
  refine WL_step rfl (R_loadP rfl (H.get .here)) ?_
  (refine WL_call rfl (R_call rfl Tryz.call199 rfl) (ok_ret p _) ?_; rintro v w10 ⟨hv, H1⟩; rw [decide_eq_false hok] at hv; subst hv; replace H := H.seq0 H1; clear H1)
  refine WL_step rfl (R_not_f rfl) ?_
  refine WL_nil ?_
  refine W_cond_t rfl ?_
  refine W_seq ?_
  refine W_region_l ?_
  refine WL_stepM rfl (R_as) ?_
  refine WL_nil ?_
  refine W_ret ?_
  exact ⟨_, rfl, rfl, H.none kYs⟩

/-- one byte more of those that come -/
theorem fillW {W : List UInt8} {k n : Nat} {x : UInt8} (hW : W.length = n) (hx : W[k]? = some x) : ((W.take k ++ List.replicate (n - k) 0).map U).set k (U x) = (W.take (k + 1) ++ List.replicate (n - (k + 1)) 0).map U := by
  obtain ⟨hk, rfl⟩ := List.getElem?_eq_some_iff.1 hx
  have hl : (W.take k).length = k := by simp; omega
  rw [← List.map_set]
  congr 1
  rw [List.set_append_right _ _ (by omega), hl, Nat.sub_self, show n - k = (n - (k + 1)) + 1 by omega, List.replicate_succ, List.set_cons_zero, List.take_succ_eq_append_getElem hk, List.append_assoc]
  rfl
theorem pickH {p : Pi} (h : okP p) {i : Nat} (hi : i < 4) : ∃ z : Int, [I p.s, I p.p, I p.g, I p.e][i]? = some (I z) ∧ (bytesP p)[i]? = some (b8 z) ∧ 0 ≤ z := by
  obtain ⟨hr, _⟩ := h
  match i, hi with
  | 0, _ => exact ⟨p.s, rfl, rfl, by omega⟩
  | 1, _ => exact ⟨p.p, rfl, rfl, by omega⟩
  | 2, _ => exact ⟨p.g, rfl, rfl, by omega⟩
  | 3, _ => exact ⟨p.e, rfl, rfl, by omega⟩
theorem pickS {p : Pi} (h : okP p) {i : Nat} (hi : i < 4) : ∃ x : BitVec 64, [I p.a.toInt, I p.b.toInt, I p.c.toInt, I p.d.toInt][i]? = some (I x.toInt) ∧ okB x ∧ (bytesP p)[4 + 2 * i]? = some (UInt8.ofNat (x.toNat / 256)) ∧ (bytesP p)[4 + 2 * i + 1]? = some (UInt8.ofNat x.toNat) := by
  obtain ⟨_, ⟨⟨ha, hb, hc, hd⟩, _, _⟩, _⟩ := h
  match i, hi with
  | 0, _ => exact ⟨p.a, rfl, ha, rfl, rfl⟩
  | 1, _ => exact ⟨p.b, rfl, hb, rfl, rfl⟩
  | 2, _ => exact ⟨p.c, rfl, hc, rfl, rfl⟩
  | 3, _ => exact ⟨p.d, rfl, hd, rfl, rfl⟩
theorem bytes_12 (p : Pi) : bytesP p = h12 p ++ (p.f.map b8 ++ [167, sumB (hbs p), 0, 0]) := by
  show (((h12 p ++ p.f.map b8) ++ [167]) ++ [sumB (hbs p), 0, 0]) = _
  rw [List.append_assoc, List.append_assoc]
  rfl
theorem h12_len (p : Pi) : (h12 p).length = 12 := by simp [h12, two]
theorem pickF {p : Pi} (h : okP p) {i : Nat} (hi : i < 8) : ∃ z : Int, (p.f.map fun x => I x)[i]? = some (I z) ∧ (bytesP p)[12 + i]? = some (b8 z) ∧ 0 ≤ z := by
  have hf := p.hf
  obtain ⟨_, _, hz, _⟩ := h
  refine ⟨p.f[i], by rw [List.getElem?_map, List.getElem?_eq_getElem]; rfl, ?_, (hz _ (List.getElem_mem _)).1⟩
  rw [bytes_12, List.getElem?_append_right (by rw [h12_len]; omega), h12_len, show 12 + i - 12 = i by omega, List.getElem?_append_left (by simp; omega), List.getElem?_map, List.getElem?_eq_getElem]
  rfl
theorem bytes_20 (p : Pi) : (bytesP p)[20]? = some 167 := by
  rw [bytes_12, List.getElem?_append_right (by rw [h12_len]; decide), h12_len, List.getElem?_append_right (by simp [p.hf])]
  simp [p.hf]
theorem bytes_21 (p : Pi) : (bytesP p)[21]? = some (sumB (hbs p)) := by
  unfold bytesP
  rw [List.getElem?_append_right (by rw [hbs_len]; decide), hbs_len]
  rfl
theorem bytes_t21 (p : Pi) : (bytesP p).take 21 = hbs p := by
  unfold bytesP
  exact List.take_left' (hbs_len p)
theorem bytes_t22 (p : Pi) : (bytesP p).take 22 ++ List.replicate 2 0 = bytesP p := by
  have h : (bytesP p).take 22 = hbs p ++ [sumB (hbs p)] := by
    unfold bytesP
    rw [List.take_append, hbs_len, List.take_of_length_le (by rw [hbs_len]; decide)]
    rfl
  rw [h, List.append_assoc]
  rfl

theorem put_yes {b : Nat} {w : World} (p : Pi) (hok : okP p) (hb : w.heap[b]? = some (blk ((List.replicate 24 0).map U) 5)) :
    Ret Tryz.prog 168 #[vP p, sl b 0 24 24] w fun v w' => v = .bool true ∧ Hp w [(b, blk ((bytesP p).map U) 5)] w' := by
  refine Ret_of_W (args := [_, _]) Tryz.func168 rfl Tryz.ntmps168 Tryz.results168 (by simp) ?_
  have H := Hp.focus0 hb
  have hf8 := p.hf
  have hWl := bytes_len p
  obtain ⟨W, hW⟩ : ∃ W, bytesP p = W := ⟨_, rfl⟩
  rw [hW] at hWl
  refine W_seq ?_
  refine W_region_l ?_
  (refine WL_effn rfl (E_boxP H rfl) ?_; clear H; intro bx w3 hbx H)
  refine WL_stepM rfl (R_as) ?_
  refine WL_nil ?_
  refine W_seq ?_
  refine W_seq ?_
  refine W_region_l ?_
  refine WL_step rfl (R_loadP rfl (H.get .here)) ?_
  (refine WL_call rfl (R_call rfl Tryz.call199 rfl) (ok_ret p _) ?_; rintro v w10 ⟨hv, H1⟩; rw [decide_eq_true hok] at hv; subst hv; replace H := H.seq0 H1; clear H1)
  refine WL_step rfl (R_not_t rfl) ?_
  refine WL_nil ?_
  refine W_cond_f rfl ?_
  refine W_skip ?_
  refine W_seq ?_
  refine W_seq ?_
  refine W_region_l ?_
  refine WL_step rfl (R_fieldAddr (off' := 0) Tryz.underlying58 rfl Tryz.sizeOf3 (by decide) rfl rfl) ?_
  refine WL_step rfl (R_load Tryz.isAgg3 rfl (H.get .here) rfl) ?_
  refine WL_step rfl (R_fieldAddr (off' := 1) Tryz.underlying58 rfl Tryz.sizeOf3 (by decide) rfl rfl) ?_
  refine WL_step rfl (R_load Tryz.isAgg3 rfl (H.get .here) rfl) ?_
  refine WL_step rfl (R_fieldAddr (off' := 2) Tryz.underlying58 rfl Tryz.sizeOf3 (by decide) rfl rfl) ?_
  refine WL_step rfl (R_load Tryz.isAgg3 rfl (H.get .here) rfl) ?_
  refine WL_step rfl (R_fieldAddr (off' := 3) Tryz.underlying58 rfl Tryz.sizeOf3 (by decide) rfl rfl) ?_
  refine WL_step rfl (R_load Tryz.isAgg3 rfl (H.get .here) rfl) ?_
  (refine WL_effn rfl (E_buildOnes (vs := [I p.s, I p.p, I p.g, I p.e]) H Tryz.underlying22 Tryz.sizeOf3 Tryz.zeroValue3 rfl rfl (by decide) rfl rfl (by simp [Value.oneCell'])) ?_; clear H; intro b22 w26 hb22 H)
  refine WL_step rfl (R_len_slice Tryz.underlying22 rfl) ?_
  refine WL_stepM rfl (R_mv) ?_
  refine WL_nil ?_
  refine W_block ?_
  refine W_loopS [(5, 6), (24, 34)] (fun (i : Nat) E w' => i ≤ 4 ∧ E 24 = I i ∧ Hp w [(b22, blk [I p.s, I p.p, I p.g, I p.e] 3), (bx, blk (piC p) 58), (b, blk ((W.take i ++ List.replicate (24 - i) 0).map U) 5)] w') (fun i => 4 - i) 0 ?e0 ?r0
  · exact ⟨by omega, rfl, H⟩
  · (clear H; rintro i E w1 ⟨hi, h0, H⟩; refine W_kn h0 ?_; by_cases hlt : i < 4)
    · refine W_seq ?_
      refine W_region_l ?_
      refine WL_step rfl (R_lt_t rfl rfl (by omega)) ?_
      refine WL_nil ?_
      refine W_seq ?_
      refine W_cond_t rfl ?_
      refine W_skip ?_
      refine W_seq ?_
      refine W_block ?_
      refine W_seq ?_
      ((obtain ⟨z, hz1, hz2, hz0⟩ := pickH hok hlt; rw [hW] at hz2)) <;> refine W_region_l ?_
      refine WL_stepM rfl (R_mv) ?_
      refine WL_step rfl (R_indexAddr Tryz.underlying22 Tryz.sizeOf3 rfl rfl (by omega) (by omega) idx0_cast) ?_
      refine WL_step rfl (R_load (v := I z) Tryz.isAgg3 rfl (H.get .here) hz1) ?_
      refine WL_stepM rfl (R_as) ?_
      refine WL_stepM rfl (R_as) ?_
      refine WL_nil ?_
      refine W_region_l ?_
      refine WL_stepM rfl (R_mv) ?_
      refine WL_stepM rfl (R_mv) ?_
      refine WL_stepM rfl (R_mv) ?_
      refine WL_step rfl (R_conv_int Tryz.underlying3 Tryz.underlying5 rfl (u8_b8 (n := z) hz0)) ?_
      refine WL_step rfl (R_indexAddr Tryz.underlying36 Tryz.sizeOf5 rfl rfl (by omega) (by omega) idx0_cast) ?_
      (have _g := hz0; refine WL_effu rfl (E_store (v := U (b8 z)) H Tryz.sizeOf5 rfl rfl rfl (.there (.there .here)) (by simp; omega)) ?_; clear H; intro w56 H; rw [fillW hWl hz2] at H)
      refine WL_nil ?_
      refine W_region_l ?_
      refine WL_step rfl (R_add rfl rfl (w_i64 (by omega))) ?_
      refine WL_stepM rfl (R_mv) ?_
      refine WL_nil ?_
      exact ⟨(same_mov rfl (same_updo rfl (same_updn (same_updo rfl (same_updo rfl (same_mov rfl (same_mov rfl (same_mov rfl (same_mov rfl (same_mov rfl (same_updo rfl (same_updo rfl (same_mov rfl (same_updo rfl same_ovr)))))))))))))), i + 1, by omega, by omega, rfl, H⟩
    · refine W_seq ?_
      refine W_region_l ?_
      refine WL_step rfl (R_lt_f rfl rfl (by omega)) ?_
      refine WL_nil ?_
      refine W_seq ?_
      refine W_cond_f rfl ?_
      refine W_exit ?_
      refine (if_pos rfl).mpr ?_
      refine W_seq ?_
      refine W_seq ?_
      refine W_region_l ?_
      refine WL_step rfl (R_fieldAddr (off' := 4) Tryz.underlying58 rfl Tryz.sizeOf3 (by decide) rfl rfl) ?_
      refine WL_step rfl (R_load Tryz.isAgg3 rfl (H.get (.there .here)) rfl) ?_
      refine WL_step rfl (R_fieldAddr (off' := 5) Tryz.underlying58 rfl Tryz.sizeOf3 (by decide) rfl rfl) ?_
      refine WL_step rfl (R_load Tryz.isAgg3 rfl (H.get (.there .here)) rfl) ?_
      refine WL_step rfl (R_fieldAddr (off' := 6) Tryz.underlying58 rfl Tryz.sizeOf3 (by decide) rfl rfl) ?_
      refine WL_step rfl (R_load Tryz.isAgg3 rfl (H.get (.there .here)) rfl) ?_
      refine WL_step rfl (R_fieldAddr (off' := 7) Tryz.underlying58 rfl Tryz.sizeOf3 (by decide) rfl rfl) ?_
      refine WL_step rfl (R_load Tryz.isAgg3 rfl (H.get (.there .here)) rfl) ?_
      (refine WL_effn rfl (E_buildOnes (vs := [I p.a.toInt, I p.b.toInt, I p.c.toInt, I p.d.toInt]) H Tryz.underlying22 Tryz.sizeOf3 Tryz.zeroValue3 rfl rfl (by decide) rfl rfl (by simp [Value.oneCell'])) ?_; clear H; intro b43 w82 hb43 H)
      refine WL_step rfl (R_len_slice Tryz.underlying22 rfl) ?_
      refine WL_stepM rfl (R_mv) ?_
      refine WL_nil ?_
      refine W_block ?_
      refine W_loopS [(7, 8), (45, 56)] (fun (i : Nat) E w' => i ≤ 4 ∧ E 45 = I i ∧ Hp w [(b43, blk [I p.a.toInt, I p.b.toInt, I p.c.toInt, I p.d.toInt] 3), (b22, blk [I p.s, I p.p, I p.g, I p.e] 3), (bx, blk (piC p) 58), (b, blk ((W.take (4 + 2 * i) ++ List.replicate (24 - (4 + 2 * i)) 0).map U) 5)] w') (fun i => 4 - i) 0 ?e2 ?r2
      · (obtain rfl : i = 4 := (by omega); exact ⟨by omega, rfl, H⟩)
      · (clear H; rintro j E w1 ⟨hj, h0, H⟩; refine W_kn h0 ?_; by_cases hlj : j < 4)
        · refine W_seq ?_
          refine W_region_l ?_
          refine WL_step rfl (R_lt_t rfl rfl (by omega)) ?_
          refine WL_nil ?_
          refine W_seq ?_
          refine W_cond_t rfl ?_
          refine W_skip ?_
          refine W_seq ?_
          refine W_block ?_
          refine W_seq ?_
          ((obtain ⟨x, hz1, hz0, hz2, hz3⟩ := pickS hok hlj; rw [hW] at hz2 hz3)) <;> refine W_region_l ?_
          refine WL_stepM rfl (R_mv) ?_
          refine WL_step rfl (R_indexAddr Tryz.underlying22 Tryz.sizeOf3 rfl rfl (by omega) (by omega) idx0_cast) ?_
          refine WL_step rfl (R_load (v := I x.toInt) Tryz.isAgg3 rfl (H.get .here) hz1) ?_
          refine WL_stepM rfl (R_as) ?_
          refine WL_stepM rfl (R_as) ?_
          refine WL_nil ?_
          refine W_region_l ?_
          refine WL_stepM rfl (R_mv) ?_
          refine WL_stepM rfl (R_mv) ?_
          refine WL_step rfl (R_mul (r := ((2 * j : Nat) : Int)) rfl rfl (by rw [w_i64 (by omega)]; omega)) ?_
          refine WL_step rfl (R_add (r := ((4 + 2 * j : Nat) : Int)) rfl rfl (by rw [w_i64 (by omega)]; omega)) ?_
          refine WL_stepM rfl (R_mv) ?_
          (refine WL_call rfl (R_call rfl Tryz.call200 rfl) (put2_bv (k := 4 + 2 * j) hz0 (H.get (.there (.there (.there .here)))) (by omega) (by simp; omega) (by decide)) ?_; rintro _ w112 ⟨rfl, H1⟩; replace H := H.seq H1 (okSeq_set (.there (.there (.there .here))) okSeq_nil); clear H1; rw [Nat.zero_add, fillW hWl hz2, fillW hWl hz3] at H)
          refine WL_nil ?_
          refine W_region_l ?_
          refine WL_step rfl (R_add rfl rfl (w_i64 (by omega))) ?_
          refine WL_stepM rfl (R_mv) ?_
          refine WL_nil ?_
          exact ⟨(same_mov rfl (same_updo rfl (same_updo rfl (same_mov rfl (same_updo rfl (same_updo rfl (same_mov rfl (same_mov rfl (same_mov rfl (same_mov rfl (same_updo rfl (same_updo rfl (same_mov rfl (same_updo rfl same_ovr)))))))))))))), j + 1, by omega, by omega, rfl, H⟩
        · refine W_seq ?_
          refine W_region_l ?_
          refine WL_step rfl (R_lt_f rfl rfl (by omega)) ?_
          refine WL_nil ?_
          refine W_seq ?_
          refine W_cond_f rfl ?_
          refine W_exit ?_
          refine (if_pos rfl).mpr ?_
          refine W_seq ?_
          refine W_seq ?_
          refine W_region_l ?_
          refine WL_step rfl (R_fieldAddr (off' := 8) Tryz.underlying58 rfl Tryz.sizeOf56 (by decide) rfl rfl) ?_
          refine WL_step rfl (R_loadA (vs := p.f.map fun x => I x) Tryz.isAgg56 Tryz.sizeOf56 rfl (H.get (.there (.there .here))) (hfd p) (by rw [piC_len]; decide)) ?_
          refine WL_stepM rfl (R_mv) ?_
          refine WL_nil ?_
          refine W_block ?_
          refine W_loopS [(9, 10), (59, 69)] (fun (i : Nat) E w' => i ≤ 8 ∧ E 59 = I i ∧ Hp w [(b43, blk [I p.a.toInt, I p.b.toInt, I p.c.toInt, I p.d.toInt] 3), (b22, blk [I p.s, I p.p, I p.g, I p.e] 3), (bx, blk (piC p) 58), (b, blk ((W.take (12 + i) ++ List.replicate (24 - (12 + i)) 0).map U) 5)] w') (fun i => 8 - i) 0 ?e4 ?r4
          · (obtain rfl : j = 4 := (by omega); exact ⟨by omega, rfl, H⟩)
          · (clear H; rintro m E w1 ⟨hm, h0, H⟩; refine W_kn h0 ?_; by_cases hlm : m < 8)
            · refine W_seq ?_
              refine W_region_l ?_
              refine WL_step rfl (R_lt_t rfl rfl (by omega)) ?_
              refine WL_nil ?_
              refine W_seq ?_
              refine W_cond_t rfl ?_
              refine W_skip ?_
              refine W_seq ?_
              refine W_block ?_
              refine W_seq ?_
              ((obtain ⟨z, hz1, hz2, hz0⟩ := pickF hok hlm; rw [hW] at hz2)) <;> refine W_region_l ?_
              refine WL_stepM rfl (R_mv) ?_
              refine WL_step rfl (R_index (v := I z) (cs := p.f.map fun x => I x) Tryz.underlying56 Tryz.isAgg3 Tryz.sizeOf3 rfl rfl (by omega) (by omega) (by rw [Int.toNat_natCast, Nat.mul_one]; exact hz1)) ?_
              refine WL_stepM rfl (R_as) ?_
              refine WL_stepM rfl (R_as) ?_
              refine WL_nil ?_
              refine W_region_l ?_
              refine WL_stepM rfl (R_mv) ?_
              refine WL_stepM rfl (R_mv) ?_
              refine WL_step rfl (R_add (r := ((12 + m : Nat) : Int)) rfl rfl (by rw [w_i64 (by omega)]; omega)) ?_
              refine WL_stepM rfl (R_mv) ?_
              refine WL_step rfl (R_conv_int Tryz.underlying3 Tryz.underlying5 rfl (u8_b8 (n := z) hz0)) ?_
              refine WL_step rfl (R_indexAddr Tryz.underlying36 Tryz.sizeOf5 rfl rfl (by omega) (by omega) idx0_cast) ?_
              (have _g := hb43; refine WL_effu rfl (E_store (v := U (b8 z)) H Tryz.sizeOf5 rfl rfl rfl (.there (.there (.there .here))) (by simp; omega)) ?_; clear H; intro w160 H; rw [fillW hWl hz2] at H)
              refine WL_nil ?_
              refine W_region_l ?_
              refine WL_step rfl (R_add rfl rfl (w_i64 (by omega))) ?_
              refine WL_stepM rfl (R_mv) ?_
              refine WL_nil ?_
              exact ⟨(same_mov rfl (same_updo rfl (same_updn (same_updo rfl (same_updo rfl (same_mov rfl (same_updo rfl (same_mov rfl (same_mov rfl (same_mov rfl (same_mov rfl (same_updo rfl (same_mov rfl (same_updo rfl same_ovr)))))))))))))), m + 1, by omega, by omega, rfl, H⟩
            · refine W_seq ?_
              refine W_region_l ?_
              refine WL_step rfl (R_lt_f rfl rfl (by omega)) ?_
              refine WL_nil ?_
              refine W_seq ?_
              refine W_cond_f rfl ?_
              refine W_exit ?_
              refine (if_pos rfl).mpr ?_
              refine W_seq ?_
              ((obtain rfl : m = 8 := (by omega))) <;> refine W_region_l ?_
              refine WL_stepM rfl (R_mv) ?_
              refine WL_step rfl (R_indexAddr (off' := 20) Tryz.underlying36 Tryz.sizeOf5 rfl rfl (by omega) (by omega) rfl) ?_
              (refine WL_effu rfl (E_store (v := U 167) H Tryz.sizeOf5 rfl rfl rfl (.there (.there (.there .here))) (by simp; omega)) ?_; clear H; intro w179 H; rw [fillW hWl (by rw [← hW]; exact bytes_20 p)] at H)
              refine WL_nil ?_
              refine W_seq ?_
              refine W_region_l ?_
              refine WL_stepM rfl (R_mv) ?_
              refine WL_stepM rfl (R_mv) ?_
              refine WL_step rfl (R_to (i := 21) Tryz.underlying36 Tryz.sizeOf5 rfl rfl (by decide) (by decide)) ?_
              (refine WL_call rfl (R_call rfl Tryz.call125 rfl) (sum_ret (xs := hbs p) (RdS.blk (H.get (.there (.there (.there .here)))) (by rw [List.drop_zero, ← List.map_take, List.take_left' (by simp; omega), ← hW, bytes_t21]) (by simp; omega) (by decide)) (by rw [hbs_len]; decide)) ?_; rintro _ w186 ⟨rfl, H1⟩; replace H := H.seq0 H1; clear H1)
              refine WL_step rfl (R_indexAddr (off' := 21) Tryz.underlying36 Tryz.sizeOf5 rfl rfl (by omega) (by omega) rfl) ?_
              (refine WL_effu rfl (E_store (v := U (sumB (hbs p))) H Tryz.sizeOf5 rfl rfl rfl (.there (.there (.there .here))) (by simp; omega)) ?_; clear H; intro w188 H; rw [fillW hWl (by rw [← hW]; exact bytes_21 p), ← hW, bytes_t22] at H)
              refine WL_nil ?_
              refine W_seq ?_
              refine W_region_l ?_
              refine WL_stepM rfl (R_as) ?_
              refine WL_nil ?_
              refine W_ret ?_
              exact ⟨_, rfl, rfl, Hp.dropN (M := [_, _, _]) H (kCons hb43 (kCons hb22 (kCons hbx kNil)))⟩
end Go.Proofs.YtlpmfldijgdcoaaGreatDoor.Slot

/-
  The codec: what is put, and what is refused.
-/
namespace Go.Proofs.YtlpmfldijgdcoaaGreatDoor.Slot
open Go Go.Proofs Go.Proofs.YtlpmfldijgdcoaaGreatDoor.Fx Go.Proofs.YtlpmfldijgdcoaaGreatDoor.Codec
set_option maxRecDepth 100000
set_option linter.unusedVariables false
set_option linter.unusedSimpArgs false
set_option maxHeartbeats 1000000

/-- the codec -/
abbrev cod : Obj := blk [I 24, .func (.func 168) #[] #[], .func (.func 169) #[] #[]] 270

theorem codec_ret (w : World) : Ret Tryz.prog 128 #[] w fun v w' => ∃ q, v = ptr q 0 ∧ w.heap.size ≤ q ∧ Hp w [(q, cod)] w' := by
  refine Ret_of_W (args := []) Tryz.func128 rfl Tryz.ntmps128 Tryz.results128 (by simp) ?_
  have H := Hp.refl w
  have hnew : Ret Tryz.prog 167 #[I 24, .func (.func 168) #[] #[], .func (.func 169) #[] #[]] w fun v w' => ∃ q, v = ptr q 0 ∧ w.heap.size ≤ q ∧ Hp w [(q, cod)] w' := by
    refine Ret_of_W (args := [_, _, _]) Tryz.func167 rfl Tryz.ntmps167 Tryz.results167 (by simp) ?_
    refine W_seq ?_
    refine W_region_l ?_
    refine WL_stepM rfl (R_as) ?_
    refine WL_nil ?_
    refine W_seq ?_
    refine W_region_l ?_
    refine WL_stepM rfl (R_mv) ?_
    refine WL_step rfl (R_max (r := 24) rfl rfl (by decide)) ?_
    refine WL_step rfl (R_min (r := 24) rfl rfl (by decide)) ?_
    refine WL_stepM rfl (R_mv) ?_
    refine WL_stepM rfl (R_mv) ?_
    refine WL_step rfl (R_buildL (places := [(0, 1), (1, 1), (2, 1)]) (vs := [(.int _ _), (.func _ _ _), (.func _ _ _)]) Tryz.underlying270 Tryz.typeInfo270 rfl rfl (by kernel_rfl) rfl rfl rfl) ?_
    (refine WL_effn rfl (E_box (v := (.agg (List.toArray [(.int _ _), (.func _ _ _), (.func _ _ _)]))) H rfl rfl) ?_; clear H; intro b13 w13 hb13 H)
    refine WL_stepM rfl (R_as) ?_
    refine WL_nil ?_
    refine W_ret ?_
    exact ⟨_, rfl, _, rfl, by assumption, H⟩
  refine W_seq ?_
  refine W_region_l ?_
  refine WL_stepM rfl (R_as) ?_
  refine WL_nil ?_
  refine W_seq ?_
  refine W_region_l ?_
  (refine WL_call rfl (R_call rfl Tryz.call167 rfl) hnew ?_; rintro _ w7 ⟨q, rfl, hq, H1⟩; replace H := H.seqN H1 (kCons hq kNil); clear H1)
  refine WL_stepM rfl (R_as) ?_
  refine WL_nil ?_
  refine W_ret ?_
  exact ⟨_, rfl, _, rfl, hq, H⟩

theorem encM_ret {q : Nat} {w : World} (f : Pi) (hq : w.heap[q]? = some cod) :
    Ret Tryz.prog 129 #[ptr q 0, vP f] w fun v w' => (okP f ∧ ∃ b, v = .tuple #[sl b 0 24 24, .bool true] ∧ w.heap.size ≤ b ∧ Hp w [(b, blk ((bytesP f).map U) 5)] w') ∨ (¬ okP f ∧ v = .tuple #[nilS, .bool false] ∧ Hp w [] w') := by
  refine Ret_of_W (args := [_, _]) Tryz.func129 rfl Tryz.ntmps129 Tryz.results129 (by simp) ?_
  have H := Hp.focus0 hq
  by_cases hok : okP f
  · refine W_seq ?_
    refine W_region_l ?_
    (refine WL_effn rfl (E_boxP H rfl) ?_; clear H; intro bx w3 hbx H)
    refine WL_stepM rfl (R_as) ?_
    refine WL_stepM rfl (R_as) ?_
    refine WL_nil ?_
    refine W_seq ?_
    refine W_region_l ?_
    refine WL_stepM rfl (R_mv) ?_
    refine WL_step rfl (R_nilCheck rfl) ?_
    refine WL_step rfl (R_fieldAddr (off' := 0) Tryz.underlying270 rfl Tryz.sizeOf3 (by decide) rfl rfl) ?_
    refine WL_step rfl (R_load Tryz.isAgg3 rfl (H.get (.there .here)) rfl) ?_
    (refine WL_effn rfl (E_makeSlice H Tryz.underlying36 Tryz.sizeOf5 Tryz.typeInfo5 Tryz.zeroValue5 rfl rfl rfl (by decide) (by decide) (by decide) (by decide)) ?_; clear H; intro b w13 hb H; replace H : Hp w [(b, blk ((List.replicate 24 0).map U) 5), (bx, blk (piC f) 58), (q, cod)] _ := H)
    refine WL_stepM rfl (R_as) ?_
    refine WL_nil ?_
    refine W_seq ?_
    refine W_seq ?_
    (refine W_draw (Kp [(bx, blk (piC f) 58), (q, cod)]) (fun _ => false) (by kernel_rfl) H ?_; clear H; intro w18 H)
    refine WA_takeM 0 rfl rfl rfl (by kernel_rfl) (by kernel_rfl) (H.kp.sub (by simp)) (fun _ hC => R_mv) ?_
    refine WA_take 1 rfl rfl rfl (by kernel_rfl) (by kernel_rfl) (H.kp.sub (by simp)) (fun _ hC => R_nilCheck rfl) ?_
    refine WA_take 2 rfl rfl rfl (by kernel_rfl) (by kernel_rfl) (H.kp.sub (by simp)) (fun _ hC => R_fieldAddr (off' := 1) Tryz.underlying270 rfl Tryz.sizeOf268 (by decide) rfl rfl) ?_
    refine WA_take 3 rfl rfl rfl (by kernel_rfl) (by kernel_rfl) (H.kp.sub (by simp)) (fun _ hC => R_load Tryz.isAgg268 rfl (hC.get (.there .here)) rfl) ?_
    refine WA_take 4 rfl rfl rfl (by kernel_rfl) (by kernel_rfl) (H.kp.sub (by simp)) (fun _ hC => R_eq_fn Tryz.underlying268 rfl rfl) ?_
    refine WA_takeM 5 rfl rfl rfl (by kernel_rfl) (by kernel_rfl) (H.kp.sub (by simp)) (fun _ hC => R_mv) ?_
    refine WA_takeGM 6 rfl rfl rfl rfl (by kernel_rfl) (by kernel_rfl) (H.kp.sub (by simp)) (fun _ hC => R_mv) ?_
    refine WA_takeG 7 rfl rfl rfl rfl (by kernel_rfl) (by kernel_rfl) (H.kp.sub (by simp)) (fun _ hC => R_nilCheck rfl) ?_
    refine WA_takeG 8 rfl rfl rfl rfl (by kernel_rfl) (by kernel_rfl) (H.kp.sub (by simp)) (fun _ hC => R_fieldAddr (off' := 1) Tryz.underlying270 rfl Tryz.sizeOf268 (by decide) rfl rfl) ?_
    refine WA_takeG 9 rfl rfl rfl rfl (by kernel_rfl) (by kernel_rfl) (H.kp.sub (by simp)) (fun _ hC => R_load Tryz.isAgg268 rfl (hC.get (.there .here)) rfl) ?_
    refine WA_takeG 10 rfl rfl rfl rfl (by kernel_rfl) (by kernel_rfl) (H.kp.sub (by simp)) (fun _ hC => R_loadP rfl (hC.get .here)) ?_
    refine WA_takeGM 11 rfl rfl rfl rfl (by kernel_rfl) (by kernel_rfl) (H.kp.sub (by simp)) (fun _ hC => R_mv) ?_
    refine WA_one (i := 12) (by kernel_rfl) ?_
    (refine WI_call rfl (.inr ⟨_, _, rfl, rfl⟩) (R_call rfl Tryz.call168 rfl) (put_yes f hok (H.get .here)) (fun _ _ hR _ => (H.seq hR.2 (okSeq_set .here okSeq_nil)).kp.sub (by simp)) ?_; rintro _ w32 ⟨rfl, H1⟩; replace H := H.seq H1 (okSeq_set .here okSeq_nil); clear H1)
    refine WA_takeG 13 rfl rfl rfl rfl (by kernel_rfl) (by kernel_rfl) (H.kp.sub (by simp)) (fun _ hC => R_not_t rfl) ?_
    refine WA_takeM 14 rfl rfl rfl (by kernel_rfl) (by kernel_rfl) (H.kp.sub (by simp)) (fun _ hC => R_pk_f rfl) ?_
    refine WA_done (by kernel_rfl) ?_
    refine W_cond_f rfl ?_
    refine W_skip ?_
    refine W_seq ?_
    refine W_region_l ?_
    refine WL_stepM rfl (R_mv) ?_
    refine WL_stepM rfl (R_as) ?_
    refine WL_stepM rfl (R_as) ?_
    refine WL_nil ?_
    refine W_ret ?_
    exact ⟨_, rfl, .inl ⟨hok, b, rfl, hb, (H.pop2 hbx).swap2.back hq⟩⟩
  · refine W_seq ?_
    refine W_region_l ?_
    (refine WL_effn rfl (E_boxP H rfl) ?_; clear H; intro bx w3 hbx H)
    refine WL_stepM rfl (R_as) ?_
    refine WL_stepM rfl (R_as) ?_
    refine WL_nil ?_
    refine W_seq ?_
    refine W_region_l ?_
    refine WL_stepM rfl (R_mv) ?_
    refine WL_step rfl (R_nilCheck rfl) ?_
    refine WL_step rfl (R_fieldAddr (off' := 0) Tryz.underlying270 rfl Tryz.sizeOf3 (by decide) rfl rfl) ?_
    refine WL_step rfl (R_load Tryz.isAgg3 rfl (H.get (.there .here)) rfl) ?_
    (refine WL_effn rfl (E_makeSlice H Tryz.underlying36 Tryz.sizeOf5 Tryz.typeInfo5 Tryz.zeroValue5 rfl rfl rfl (by decide) (by decide) (by decide) (by decide)) ?_; clear H; intro b w13 hb H; replace H : Hp w [(b, blk ((List.replicate 24 0).map U) 5), (bx, blk (piC f) 58), (q, cod)] _ := H)
    refine WL_stepM rfl (R_as) ?_
    refine WL_nil ?_
    refine W_seq ?_
    refine W_seq ?_
    (refine W_draw (Kp [(bx, blk (piC f) 58), (q, cod)]) (fun _ => false) (by kernel_rfl) H ?_; clear H; intro w18 H)
    refine WA_takeM 0 rfl rfl rfl (by kernel_rfl) (by kernel_rfl) (H.kp.sub (by simp)) (fun _ hC => R_mv) ?_
    refine WA_take 1 rfl rfl rfl (by kernel_rfl) (by kernel_rfl) (H.kp.sub (by simp)) (fun _ hC => R_nilCheck rfl) ?_
    refine WA_take 2 rfl rfl rfl (by kernel_rfl) (by kernel_rfl) (H.kp.sub (by simp)) (fun _ hC => R_fieldAddr (off' := 1) Tryz.underlying270 rfl Tryz.sizeOf268 (by decide) rfl rfl) ?_
    refine WA_take 3 rfl rfl rfl (by kernel_rfl) (by kernel_rfl) (H.kp.sub (by simp)) (fun _ hC => R_load Tryz.isAgg268 rfl (hC.get (.there .here)) rfl) ?_
    refine WA_take 4 rfl rfl rfl (by kernel_rfl) (by kernel_rfl) (H.kp.sub (by simp)) (fun _ hC => R_eq_fn Tryz.underlying268 rfl rfl) ?_
    refine WA_takeM 5 rfl rfl rfl (by kernel_rfl) (by kernel_rfl) (H.kp.sub (by simp)) (fun _ hC => R_mv) ?_
    refine WA_takeGM 6 rfl rfl rfl rfl (by kernel_rfl) (by kernel_rfl) (H.kp.sub (by simp)) (fun _ hC => R_mv) ?_
    refine WA_takeG 7 rfl rfl rfl rfl (by kernel_rfl) (by kernel_rfl) (H.kp.sub (by simp)) (fun _ hC => R_nilCheck rfl) ?_
    refine WA_takeG 8 rfl rfl rfl rfl (by kernel_rfl) (by kernel_rfl) (H.kp.sub (by simp)) (fun _ hC => R_fieldAddr (off' := 1) Tryz.underlying270 rfl Tryz.sizeOf268 (by decide) rfl rfl) ?_
    refine WA_takeG 9 rfl rfl rfl rfl (by kernel_rfl) (by kernel_rfl) (H.kp.sub (by simp)) (fun _ hC => R_load Tryz.isAgg268 rfl (hC.get (.there .here)) rfl) ?_
    refine WA_takeG 10 rfl rfl rfl rfl (by kernel_rfl) (by kernel_rfl) (H.kp.sub (by simp)) (fun _ hC => R_loadP rfl (hC.get .here)) ?_
    refine WA_takeGM 11 rfl rfl rfl rfl (by kernel_rfl) (by kernel_rfl) (H.kp.sub (by simp)) (fun _ hC => R_mv) ?_
    refine WA_one (i := 12) (by kernel_rfl) ?_
    (refine WI_call rfl (.inr ⟨_, _, rfl, rfl⟩) (R_call rfl Tryz.call168 rfl) (put_no f hok _) (fun _ _ hR _ => (H.seq0 hR.2).kp.sub (by simp)) ?_; rintro _ w32 ⟨rfl, H1⟩; replace H := H.seq0 H1; clear H1)
    refine WA_takeG 13 rfl rfl rfl rfl (by kernel_rfl) (by kernel_rfl) (H.kp.sub (by simp)) (fun _ hC => R_not_f rfl) ?_
    refine WA_takeM 14 rfl rfl rfl (by kernel_rfl) (by kernel_rfl) (H.kp.sub (by simp)) (fun _ hC => R_pk_f rfl) ?_
    refine WA_done (by kernel_rfl) ?_
    refine W_cond_t rfl ?_
    refine W_seq ?_
    refine W_region_l ?_
    refine WL_stepM rfl (R_as) ?_
    refine WL_stepM rfl (R_as) ?_
    refine WL_nil ?_
    refine W_ret ?_
    exact ⟨_, rfl, .inr ⟨hok, rfl, ((H.pop hb).pop hbx).back hq⟩⟩

theorem enc_ret (f : Pi) (w : World) :
    Ret Tryz.prog 91 #[vP f] w fun v w' => (okP f ∧ ∃ b, v = .tuple #[sl b 0 24 24, .bool true] ∧ w.heap.size ≤ b ∧ Hp w [(b, blk ((bytesP f).map U) 5)] w') ∨ (¬ okP f ∧ v = .tuple #[nilS, .bool false] ∧ Hp w [] w') := by
  refine Ret_of_W (args := [_]) Tryz.func91 rfl Tryz.ntmps91 Tryz.results91 (by simp) ?_
  have H := Hp.refl w
  refine W_seq ?_
  refine W_region_l ?_
  (refine WL_effn rfl (E_boxP H rfl) ?_; clear H; intro bx w3 hbx H)
  refine WL_stepM rfl (R_as) ?_
  refine WL_stepM rfl (R_as) ?_
  refine WL_nil ?_
  refine W_seq ?_
  (refine W_draw (Kp [(bx, blk (piC f) 58)]) (fun _ => false) (by kernel_rfl) H ?_; clear H; intro w8 H)
  refine WA_take 1 rfl rfl rfl (by kernel_rfl) (by kernel_rfl) H.kp (fun _ hC => R_loadP rfl (hC.get .here)) ?_
  refine WA_one (i := 0) (by kernel_rfl) ?_
  (refine WI_call rfl (.inl rfl) (R_call rfl Tryz.call128 rfl) (codec_ret _) (fun _ _ ⟨q, _, hq, H1⟩ _ => (H.seqN H1 (kCons hq kNil)).kp.sub (by simp)) ?_; rintro _ w11 ⟨q, rfl, hq, H1⟩; have hsz := H.size; replace H := H.seqN H1 (kCons hq kNil); replace hq := Nat.le_trans hsz hq; clear H1 hsz)
  refine WA_one (i := 2) (by kernel_rfl) ?_
  (refine WI_call rfl (.inl rfl) (R_call rfl Tryz.call129 rfl) (encM_ret f (H.get .here)) (fun _ _ hR _ => by rcases hR with ⟨_, b, _, hb, H1⟩ | ⟨_, _, H1⟩; exact (H.seqN H1 (kCons hb kNil)).kp.sub (by simp); exact (H.seq0 H1).kp.sub (by simp)) ?_; rintro _ w13 (⟨hok, b, rfl, hb, H1⟩ | ⟨hok, rfl, H1⟩); (have hsz := H.size; replace H := H.seqN H1 (kCons hb kNil); replace hb := Nat.le_trans hsz hb; clear H1 hsz); rotate_left; (replace H := H.seq0 H1; clear H1))
  · refine WA_take 3 rfl rfl rfl (by kernel_rfl) (by kernel_rfl) (H.kp.sub (by simp)) (fun _ hC => R_extract rfl rfl) ?_
    refine WA_take 4 rfl rfl rfl (by kernel_rfl) (by kernel_rfl) (H.kp.sub (by simp)) (fun _ hC => R_extract rfl rfl) ?_
    refine WA_takeM 5 rfl rfl rfl (by kernel_rfl) (by kernel_rfl) (H.kp.sub (by simp)) (fun _ hC => R_as) ?_
    refine WA_takeM 6 rfl rfl rfl (by kernel_rfl) (by kernel_rfl) (H.kp.sub (by simp)) (fun _ hC => R_as) ?_
    refine WA_done (by kernel_rfl) ?_
    refine W_ret ?_
    exact ⟨_, rfl, .inr ⟨hok, rfl, H.none kYs⟩⟩
  · refine WA_take 3 rfl rfl rfl (by kernel_rfl) (by kernel_rfl) (H.kp.sub (by simp)) (fun _ hC => R_extract rfl rfl) ?_
    refine WA_take 4 rfl rfl rfl (by kernel_rfl) (by kernel_rfl) (H.kp.sub (by simp)) (fun _ hC => R_extract rfl rfl) ?_
    refine WA_takeM 5 rfl rfl rfl (by kernel_rfl) (by kernel_rfl) (H.kp.sub (by simp)) (fun _ hC => R_as) ?_
    refine WA_takeM 6 rfl rfl rfl (by kernel_rfl) (by kernel_rfl) (H.kp.sub (by simp)) (fun _ hC => R_as) ?_
    refine WA_done (by kernel_rfl) ?_
    refine W_ret ?_
    exact ⟨_, rfl, .inl ⟨hok, b, rfl, hb, Hp.cut (L := [_]) H kYs⟩⟩
theorem enc_yes (f : Pi) (hok : okP f) (w : World) :
    Ret Tryz.prog 91 #[vP f] w fun v w' => ∃ b, v = .tuple #[sl b 0 24 24, .bool true] ∧ w.heap.size ≤ b ∧ Hp w [(b, blk ((bytesP f).map U) 5)] w' :=
  (enc_ret f w).mono fun v w' h => by
    rcases h with ⟨_, h⟩ | ⟨h, _⟩
    · exact h
    · exact (h hok).elim
end Go.Proofs.YtlpmfldijgdcoaaGreatDoor.Slot

/-
  Slots got of bytes.
-/
namespace Go.Proofs.YtlpmfldijgdcoaaGreatDoor.Slot
open Go Go.Proofs Go.Proofs.YtlpmfldijgdcoaaGreatDoor.Fx Go.Proofs.YtlpmfldijgdcoaaGreatDoor.Codec
set_option maxRecDepth 100000
set_option linter.unusedVariables false
set_option linter.unusedSimpArgs false
set_option maxHeartbeats 2000000

/-- a byte, as a number -/
def nb (xs : List UInt8) (i : Nat) : Nat := (xs[i]?.getD 0).toNat
theorem nb_lt (xs : List UInt8) (i : Nat) : nb xs i < 256 := (xs[i]?.getD 0).toNat_lt
theorem nb_get {xs : List UInt8} {i : Nat} (h : i < xs.length) : nb xs i = xs[i].toNat := by unfold nb; rw [List.getElem?_eq_getElem h]; rfl
/-- the slot that bytes would be -/
def ofB (xs : List UInt8) : Pi := ⟨nb xs 0, nb xs 1, nb xs 2, nb xs 3, BitVec.ofNat 64 (nb xs 4 * 256 + nb xs 5), BitVec.ofNat 64 (nb xs 6 * 256 + nb xs 7), BitVec.ofNat 64 (nb xs 8 * 256 + nb xs 9), BitVec.ofNat 64 (nb xs 10 * 256 + nb xs 11), (List.range 8).map fun i => (nb xs (12 + i) : Int), by simp⟩
theorem ofB_f {xs : List UInt8} {i : Nat} (h : i < (ofB xs).f.length) : (ofB xs).f[i] = (nb xs (12 + i) : Int) := by
  have h8 : i < 8 := by rw [(ofB xs).hf] at h; exact h
  have e : (ofB xs).f[i]? = some (nb xs (12 + i) : Int) := by
    show ((List.range 8).map fun i => (nb xs (12 + i) : Int))[i]? = _
    rw [List.getElem?_map, List.getElem?_range h8]
    rfl
  exact (List.getElem?_eq_some_iff.1 e).2
def good (xs : List UInt8) : Prop := xs.length = 24 ∧ okP (ofB xs) ∧ bytesP (ofB xs) = xs
instance (xs : List UInt8) : Decidable (good xs) := by unfold good; infer_instance
/-- what bytes are -/
def decP (xs : List UInt8) : Pi × Int := if xs.length = 24 ∧ ∀ x ∈ xs, x = 0 then (zeroP, 0) else if good xs then (ofB xs, 1) else (zeroP, 2)

theorem decP_free {xs : List UInt8} (h8 : xs.length = 24) (hz : ∀ x ∈ xs, x = 0) : decP xs = (zeroP, 0) := if_pos ⟨h8, hz⟩
theorem good_not_free {xs : List UInt8} (h : good xs) : ¬ (xs.length = 24 ∧ ∀ x ∈ xs, x = 0) := by
  rintro ⟨h8, hz⟩
  have h1 := h.2.2
  have : (167 : UInt8) ∈ xs := by rw [← h1]; exact List.mem_of_getElem? (bytes_20 _)
  exact absurd (hz 167 this) (by decide)
theorem decP_good {xs : List UInt8} (h : good xs) : decP xs = (ofB xs, 1) := by
  unfold decP; rw [if_neg (good_not_free h), if_pos h]
theorem decP_bad {xs : List UInt8} (h : ¬ good xs) (hf : ¬ (xs.length = 24 ∧ ∀ x ∈ xs, x = 0)) : decP xs = (zeroP, 2) := by
  unfold decP; rw [if_neg hf, if_neg h]
/-- one cell more of those that come -/
theorem fillV {V : List Value} {k n : Nat} {v z : Value} (hV : V.length = n) (hx : V[k]? = some v) : (V.take k ++ List.replicate (n - k) z).set k v = V.take (k + 1) ++ List.replicate (n - (k + 1)) z := by
  obtain ⟨hk, rfl⟩ := List.getElem?_eq_some_iff.1 hx
  have hl : (V.take k).length = k := by simp; omega
  rw [List.set_append_right _ _ (by omega), hl, Nat.sub_self, show n - k = (n - (k + 1)) + 1 by omega, List.replicate_succ, List.set_cons_zero, List.take_succ_eq_append_getElem hk, List.append_assoc]
  rfl
theorem bv_16 {n : Nat} (h : n < 65536) : (BitVec.ofNat 64 n).toInt = (n : Int) := by
  have e : (BitVec.ofNat 64 n).toNat = n := by rw [BitVec.toNat_ofNat]; omega
  rw [bv_small (by omega), e]
theorem pickV {xs : List UInt8} (h : xs.length = 24) {i : Nat} (hi : i < 4) : (piC (ofB xs))[4 + i]? = some (I ((xs[4 + 2 * i]'(by omega)).toNat * 256 + (xs[4 + 2 * i + 1]'(by omega)).toNat)) := by
  have key : ∀ k (hk : k + 1 < 24), (BitVec.ofNat 64 (nb xs k * 256 + nb xs (k + 1))).toInt = ((xs[k]'(by omega)).toNat * 256 + (xs[k + 1]'(by omega)).toNat : Int) := fun k hk => by
    have h1 := nb_lt xs k
    have h2 := nb_lt xs (k + 1)
    rw [bv_16 (by omega), nb_get (by omega), nb_get (by omega)]
    omega
  match i, hi with
  | 0, _ => exact congrArg (fun v => some (I v)) (key 4 (by decide))
  | 1, _ => exact congrArg (fun v => some (I v)) (key 6 (by decide))
  | 2, _ => exact congrArg (fun v => some (I v)) (key 8 (by decide))
  | 3, _ => exact congrArg (fun v => some (I v)) (key 10 (by decide))
theorem pickW {xs : List UInt8} (h : xs.length = 24) {i : Nat} (hi : i < 8) : (piC (ofB xs))[8 + i]? = some (I (xs[12 + i]'(by omega)).toNat) := by
  rw [pi_fd hi, ofB_f, nb_get (by omega)]
theorem pickB {b i : Nat} (hi : i < 4) : [ptr b 4, ptr b 5, ptr b 6, ptr b 7][i]? = some (ptr b (4 + i)) := by
  match i, hi with
  | 0, _ => rfl
  | 1, _ => rfl
  | 2, _ => rfl
  | 3, _ => rfl
theorem first4 {xs : List UInt8} (h : xs.length = 24) : (piC (ofB xs)).take 4 = [I (xs[0]'(by omega)).toNat, I (xs[1]'(by omega)).toNat, I (xs[2]'(by omega)).toNat, I (xs[3]'(by omega)).toNat] := by
  rw [← nb_get, ← nb_get, ← nb_get, ← nb_get]
  rfl

theorem get_ret {xs : List UInt8} {w : World} {l : Value} (hl : RdS w l (xs.map U)) (h8 : xs.length = 24) :
    Ret Tryz.prog 169 #[l] w fun v w' => v = .tuple #[vP (ofB xs), .bool (decide (okP (ofB xs) ∧ bytesP (ofB xs) = xs))] ∧ Hp w [] w' := by
  refine Ret_of_WC (args := [_]) Tryz.func169 rfl Tryz.ntmps169 Tryz.results169 (by simp) ?_
  have H := Hp.refl w
  have hl0 := hl
  obtain ⟨ao, ca, hlca, hra, rfl⟩ : ∃ ao ca, xs.length ≤ ca ∧ (xs.map U = [] ∨ ∃ b off, ao = some ⟨b, off, none⟩ ∧ ∀ j u, (xs.map U)[j]? = some u → w.cell? ⟨b, off + j, none⟩ = some u) ∧ l = .slice ao xs.length ca := by
    obtain ⟨ao, ca, h1, h2, h3⟩ := hl
    rw [List.length_map] at h1 h2
    exact ⟨ao, ca, h2, h3, h1⟩
  obtain ⟨bz, oz, rfl, hcell⟩ : ∃ b off, ao = some ⟨b, off, none⟩ ∧ ∀ j u, (xs.map U)[j]? = some u → w.cell? ⟨b, off + j, none⟩ = some u := by
    rcases hra with h | h
    · have := congrArg List.length h; rw [List.length_map, List.length_nil] at this; omega
    · exact h
  have hm : ∀ {i : Nat} (hi : i < xs.length), w.cell? ⟨bz, oz + i, none⟩ = some (U xs[i]) := fun {i} hi => hcell i _ (by rw [List.getElem?_map, List.getElem?_eq_getElem hi]; rfl)
  have h0 := hm (i := 0) (by omega)
  have h1 := hm (i := 1) (by omega)
  have h2 := hm (i := 2) (by omega)
  have h3 := hm (i := 3) (by omega)
  rw [h8] at hl0 hlca ⊢
  have hVl := piC_len (ofB xs)
  have hV4 := first4 h8
  obtain ⟨ff, hff⟩ : ∃ ff : Pi, ff = ofB xs := ⟨_, rfl⟩
  rw [← hff]
  rw [← hff] at hVl hV4
  obtain ⟨p0, hp0⟩ : ∃ p0 : Pi, p0 = ⟨(xs[0]'(by omega)).toNat, (xs[1]'(by omega)).toNat, (xs[2]'(by omega)).toNat, (xs[3]'(by omega)).toNat, 0, 0, 0, 0, List.replicate 8 0, rfl⟩ := ⟨_, rfl⟩
  have hp0v : piC p0 = [I (xs[0]'(by omega)).toNat, I (xs[1]'(by omega)).toNat, I (xs[2]'(by omega)).toNat, I (xs[3]'(by omega)).toNat] ++ List.replicate 12 (I 0) := by rw [hp0]; rfl
  have hp04 : piC p0 = (piC ff).take (4 + 0) ++ List.replicate (16 - (4 + 0)) (I 0) := by rw [hp0v, hV4]
  refine W_seq ?_
  refine W_region_l ?_
  (refine WL_effn rfl (E_allocP H) ?_; clear H; intro b2 w3 hb2 H)
  refine WL_stepM rfl (R_as) ?_
  refine WL_nil ?_
  refine W_seq ?_
  (refine W_draw (KH w [(b2, blk (piC zeroP) 58)]) (fun _ => false) (by kernel_rfl) H ?_; clear H; intro w7 H)
  refine WA_takeM 0 rfl rfl rfl (by kernel_rfl) (by kernel_rfl) (H.kh (by simp) kYs) (fun _ hC => R_mv) ?_
  refine WA_take 1 rfl rfl rfl (by kernel_rfl) (by kernel_rfl) (H.kh (by simp) kYs) (fun _ hC => R_indexAddr Tryz.underlying36 Tryz.sizeOf5 rfl rfl (by omega) (by omega) idx_cast1) ?_
  refine WA_take 2 rfl rfl rfl (by kernel_rfl) (by kernel_rfl) (H.kh (by simp) kYs) (fun _ hC => R_load_cell Tryz.isAgg5 rfl (hC.old.cell h0 (by simp))) ?_
  refine WA_take 3 rfl rfl rfl (by kernel_rfl) (by kernel_rfl) (H.kh (by simp) kYs) (fun _ hC => R_conv_int Tryz.underlying5 Tryz.underlying3 rfl u8_in_i64) ?_
  refine WA_takeM 4 rfl rfl rfl (by kernel_rfl) (by kernel_rfl) (H.kh (by simp) kYs) (fun _ hC => R_mv) ?_
  refine WA_take 5 rfl rfl rfl (by kernel_rfl) (by kernel_rfl) (H.kh (by simp) kYs) (fun _ hC => R_indexAddr Tryz.underlying36 Tryz.sizeOf5 rfl rfl (by omega) (by omega) idx_cast1) ?_
  refine WA_take 6 rfl rfl rfl (by kernel_rfl) (by kernel_rfl) (H.kh (by simp) kYs) (fun _ hC => R_load_cell Tryz.isAgg5 rfl (hC.old.cell h1 (by simp))) ?_
  refine WA_take 7 rfl rfl rfl (by kernel_rfl) (by kernel_rfl) (H.kh (by simp) kYs) (fun _ hC => R_conv_int Tryz.underlying5 Tryz.underlying3 rfl u8_in_i64) ?_
  refine WA_takeM 8 rfl rfl rfl (by kernel_rfl) (by kernel_rfl) (H.kh (by simp) kYs) (fun _ hC => R_mv) ?_
  refine WA_take 9 rfl rfl rfl (by kernel_rfl) (by kernel_rfl) (H.kh (by simp) kYs) (fun _ hC => R_indexAddr Tryz.underlying36 Tryz.sizeOf5 rfl rfl (by omega) (by omega) idx_cast1) ?_
  refine WA_take 10 rfl rfl rfl (by kernel_rfl) (by kernel_rfl) (H.kh (by simp) kYs) (fun _ hC => R_load_cell Tryz.isAgg5 rfl (hC.old.cell h2 (by simp))) ?_
  refine WA_take 11 rfl rfl rfl (by kernel_rfl) (by kernel_rfl) (H.kh (by simp) kYs) (fun _ hC => R_conv_int Tryz.underlying5 Tryz.underlying3 rfl u8_in_i64) ?_
  refine WA_takeM 12 rfl rfl rfl (by kernel_rfl) (by kernel_rfl) (H.kh (by simp) kYs) (fun _ hC => R_mv) ?_
  refine WA_take 13 rfl rfl rfl (by kernel_rfl) (by kernel_rfl) (H.kh (by simp) kYs) (fun _ hC => R_indexAddr Tryz.underlying36 Tryz.sizeOf5 rfl rfl (by omega) (by omega) idx_cast1) ?_
  refine WA_take 14 rfl rfl rfl (by kernel_rfl) (by kernel_rfl) (H.kh (by simp) kYs) (fun _ hC => R_load_cell Tryz.isAgg5 rfl (hC.old.cell h3 (by simp))) ?_
  refine WA_take 15 rfl rfl rfl (by kernel_rfl) (by kernel_rfl) (H.kh (by simp) kYs) (fun _ hC => R_conv_int Tryz.underlying5 Tryz.underlying3 rfl u8_in_i64) ?_
  refine WA_take 16 rfl rfl rfl (by kernel_rfl) (by kernel_rfl) (H.kh (by simp) kYs) (fun _ hC => R_buildL (places := [(0, 1), (1, 1), (2, 1), (3, 1), (4, 1), (5, 1), (6, 1), (7, 1), (8, 8)]) (vs := [I (xs[0]'(by omega)).toNat, I (xs[1]'(by omega)).toNat, I (xs[2]'(by omega)).toNat, I (xs[3]'(by omega)).toNat] ++ List.replicate 12 (I 0)) Tryz.underlying58 Tryz.typeInfo58 rfl rfl (by kernel_rfl) rfl rfl rfl) ?_
  refine WA_one (i := 17) (by kernel_rfl) ?_
  (refine WI_effnA rfl (.inl rfl) (E_allocP H) (fun _ _ _ H => (by first | exact fun h => absurd h (by decide) | exact fun _ => H | exact fun _ => H.none kYs | exact fun _ => H.dropN kYs | exact fun _ => H.pop (by assumption) | exact fun _ => (H.pop (by assumption)).pop (by assumption) | exact fun _ => H.kp | exact fun _ => H.kp.tail | exact fun _ => H.kp.tail.tail | exact fun _ => H.kp.tail.tail.tail | exact fun _ => H.kp.sub (by simp) | exact fun _ => Kp.nil | exact fun _ => H.kh (by simp) kYs)) ?_; clear H; intro b4 w26 hb4 H)
  refine WA_one (i := 18) (by kernel_rfl) ?_
  (refine WI_effu rfl (.inl rfl) (E_storeP (q := p0) H rfl (congrArg (fun l => Value.agg (List.toArray l)) hp0v.symm) .here) (fun _ H => (by first | exact fun h => absurd h (by decide) | exact fun _ => H | exact fun _ => H.none kYs | exact fun _ => H.dropN kYs | exact fun _ => H.pop (by assumption) | exact fun _ => (H.pop (by assumption)).pop (by assumption) | exact fun _ => H.kp | exact fun _ => H.kp.tail | exact fun _ => H.kp.tail.tail | exact fun _ => H.kp.tail.tail.tail | exact fun _ => H.kp.sub (by simp) | exact fun _ => Kp.nil | exact fun _ => H.kh (by simp) kYs)) ?_; clear H; intro w28 H)
  refine WA_done (by kernel_rfl) ?_
  refine W_seq ?_
  refine W_seq ?_
  refine W_region_l ?_
  refine WL_step rfl (R_fieldAddr (off' := 4) Tryz.underlying58 rfl Tryz.sizeOf3 (by decide) rfl rfl) ?_
  refine WL_step rfl (R_fieldAddr (off' := 5) Tryz.underlying58 rfl Tryz.sizeOf3 (by decide) rfl rfl) ?_
  refine WL_step rfl (R_fieldAddr (off' := 6) Tryz.underlying58 rfl Tryz.sizeOf3 (by decide) rfl rfl) ?_
  refine WL_step rfl (R_fieldAddr (off' := 7) Tryz.underlying58 rfl Tryz.sizeOf3 (by decide) rfl rfl) ?_
  (refine WL_effn rfl (E_buildOnes (vs := [ptr b4 4, ptr b4 5, ptr b4 6, ptr b4 7]) H Tryz.underlying308 Tryz.sizeOf307 Tryz.zeroValue307 rfl rfl (by decide) rfl rfl (by simp [Value.oneCell'])) ?_; clear H; intro b31 w37 hb31 H)
  refine WL_step rfl (R_len_slice Tryz.underlying308 rfl) ?_
  refine WL_stepM rfl (R_mv) ?_
  refine WL_nil ?_
  refine W_block ?_
  refine W_loopS [(5, 6), (33, 48)] (fun (i : Nat) E w' => i ≤ 4 ∧ E 33 = I i ∧ Hp w [(b31, blk [ptr b4 4, ptr b4 5, ptr b4 6, ptr b4 7] 307), (b4, blk ((piC ff).take (4 + i) ++ List.replicate (16 - (4 + i)) (I 0)) 58), (b2, blk (piC zeroP) 58)] w') (fun i => 4 - i) 0 ?e0 ?r0
  · exact ⟨by omega, rfl, by rw [← hp04]; exact H⟩
  · (clear H; rintro i E w1 ⟨hi, h9, H⟩; refine W_kn h9 ?_; by_cases hlt : i < 4)
    · refine W_seq ?_
      refine W_region_l ?_
      refine WL_step rfl (R_lt_t rfl rfl (by omega)) ?_
      refine WL_nil ?_
      refine W_seq ?_
      refine W_cond_t rfl ?_
      refine W_skip ?_
      refine W_seq ?_
      refine W_block ?_
      refine W_seq ?_
      refine W_region_l ?_
      refine WL_stepM rfl (R_mv) ?_
      refine WL_step rfl (R_indexAddr Tryz.underlying308 Tryz.sizeOf307 rfl rfl (by omega) (by omega) idx0_cast) ?_
      refine WL_step rfl (R_load (v := ptr b4 (4 + i)) Tryz.isAgg307 rfl (H.get .here) (pickB hlt)) ?_
      refine WL_stepM rfl (R_as) ?_
      refine WL_stepM rfl (R_as) ?_
      refine WL_nil ?_
      refine W_region_l ?_
      refine WL_stepM rfl (R_mv) ?_
      refine WL_stepM rfl (R_mv) ?_
      refine WL_stepM rfl (R_mv) ?_
      refine WL_step rfl (R_mul (r := ((2 * i : Nat) : Int)) rfl rfl (by rw [w_i64 (by omega)]; omega)) ?_
      refine WL_step rfl (R_add (r := ((4 + 2 * i : Nat) : Int)) rfl rfl (by rw [w_i64 (by omega)]; omega)) ?_
      (refine WL_call rfl (R_call rfl Tryz.call201 rfl) (get2_yes (xs := xs) (k := 4 + 2 * i) (hl0.monoN H kYs) (by omega) (by omega)) ?_; rintro _ w67 ⟨rfl, H1⟩; replace H := H.seq0 H1; clear H1)
      refine WL_stepM rfl (R_mv) ?_
      refine WL_step rfl (R_extract rfl rfl) ?_
      refine WL_step rfl (R_extract rfl rfl) ?_
      refine WL_step rfl (R_nilCheck rfl) ?_
      (have _g := hlt; refine WL_effu rfl (E_store (v := I (xs[4 + 2 * i].toNat * 256 + xs[4 + 2 * i + 1].toNat)) H Tryz.sizeOf3 rfl rfl rfl (.there .here) (by simp [hVl]; omega)) ?_; clear H; intro w72 H; rw [fillV hVl (by rw [hff]; exact pickV h8 hlt)] at H)
      refine WL_nil ?_
      refine W_region_l ?_
      refine WL_step rfl (R_add rfl rfl (w_i64 (by omega))) ?_
      refine WL_stepM rfl (R_mv) ?_
      refine WL_nil ?_
      exact ⟨(same_mov rfl (same_updo rfl (same_updn (same_updo rfl (same_updo rfl (same_updo rfl (same_mov rfl (same_updo rfl (same_updo rfl (same_updo rfl (same_mov rfl (same_mov rfl (same_mov rfl (same_mov rfl (same_mov rfl (same_updo rfl (same_updo rfl (same_mov rfl (same_updo rfl same_ovr))))))))))))))))))), i + 1, by omega, by omega, rfl, H⟩
    · refine W_seq ?_
      refine W_region_l ?_
      refine WL_step rfl (R_lt_f rfl rfl (by omega)) ?_
      refine WL_nil ?_
      refine W_seq ?_
      refine W_cond_f rfl ?_
      refine W_exit ?_
      refine (if_pos rfl).mpr ?_
      refine W_seq ?_
      refine W_seq ?_
      refine W_region_l ?_
      refine WL_stepM rfl (R_mv) ?_
      refine WL_nil ?_
      refine W_block ?_
      refine W_loopS [(7, 7), (49, 61)] (fun (m : Nat) E w' => m ≤ 8 ∧ E 49 = I m ∧ Hp w [(b31, blk [ptr b4 4, ptr b4 5, ptr b4 6, ptr b4 7] 307), (b4, blk ((piC ff).take (8 + m) ++ List.replicate (16 - (8 + m)) (I 0)) 58), (b2, blk (piC zeroP) 58)] w') (fun m => 8 - m) 0 ?e2 ?r2
      · (obtain rfl : i = 4 := (by omega); exact ⟨by omega, rfl, H⟩)
      · (clear H; rintro m E w1 ⟨hmm, h9, H⟩; refine W_kn h9 ?_; by_cases hlm : m < 8)
        · refine W_seq ?_
          refine W_region_l ?_
          refine WL_step rfl (R_lt_t rfl rfl (by omega)) ?_
          refine WL_nil ?_
          refine W_seq ?_
          refine W_cond_t rfl ?_
          refine W_skip ?_
          refine W_seq ?_
          refine W_block ?_
          refine W_seq ?_
          refine W_region_l ?_
          refine WL_stepM rfl (R_mv) ?_
          refine WL_stepM rfl (R_as) ?_
          refine WL_nil ?_
          refine W_region_l ?_
          refine WL_stepM rfl (R_mv) ?_
          refine WL_stepM rfl (R_mv) ?_
          refine WL_stepM rfl (R_mv) ?_
          refine WL_step rfl (R_add (r := ((12 + m : Nat) : Int)) rfl rfl (by rw [w_i64 (by omega)]; omega)) ?_
          refine WL_step rfl (R_indexAddr Tryz.underlying36 Tryz.sizeOf5 rfl rfl (by omega) (by omega) idx_cast1) ?_
          refine WL_step rfl (R_load_cell (v := U xs[12 + m]) Tryz.isAgg5 rfl (H.cellN (hm (i := 12 + m) (by omega)) kYs)) ?_
          refine WL_step rfl (R_conv_int Tryz.underlying5 Tryz.underlying3 rfl u8_in_i64) ?_
          refine WL_step rfl (R_fieldAddr (off' := 8) Tryz.underlying58 rfl Tryz.sizeOf56 (by decide) rfl rfl) ?_
          refine WL_step rfl (R_indexAddrA (off' := 8 + m) Tryz.underlying56 Tryz.sizeOf3 rfl rfl (by omega) (by omega) (by omega)) ?_
          (have _g := hlm; refine WL_effu rfl (E_store (v := I xs[12 + m].toNat) H Tryz.sizeOf3 rfl rfl rfl (.there .here) (by simp [hVl]; omega)) ?_; clear H; intro w119 H; rw [fillV hVl (by rw [hff]; exact pickW h8 hlm)] at H)
          refine WL_nil ?_
          refine W_region_l ?_
          refine WL_step rfl (R_add rfl rfl (w_i64 (by omega))) ?_
          refine WL_stepM rfl (R_mv) ?_
          refine WL_nil ?_
          exact ⟨(same_mov rfl (same_updo rfl (same_updn (same_updo rfl (same_updo rfl (same_updo rfl (same_updo rfl (same_updo rfl (same_updo rfl (same_mov rfl (same_mov rfl (same_mov rfl (same_mov rfl (same_mov rfl (same_updo rfl same_ovr))))))))))))))), m + 1, by omega, by omega, rfl, H⟩
        · refine W_seq ?_
          refine W_region_l ?_
          refine WL_step rfl (R_lt_f rfl rfl (by omega)) ?_
          refine WL_nil ?_
          refine W_seq ?_
          refine W_cond_f rfl ?_
          refine W_exit ?_
          refine (if_pos rfl).mpr ?_
          refine W_seq ?_
          ((obtain rfl : m = 8 := (by omega); replace H := H.pop hb31; rw [List.take_of_length_le (l := piC ff) (i := 8 + 8) (by omega), show 16 - (8 + 8) = 0 from rfl, List.replicate_zero, List.append_nil] at H)) <;> refine W_region_l ?_
          refine WL_step rfl (R_loadP rfl (H.get .here)) ?_
          (refine WL_call rfl (R_call rfl Tryz.call91 rfl) (enc_ret ff _) ?_; rintro _ w137 (⟨hok, b9, rfl, hb9, H1⟩ | ⟨hok, rfl, H1⟩); (have hsz := H.size; replace H := H.seqN H1 (kCons hb9 kNil); replace hb9 := Nat.le_trans hsz hb9; clear H1 hsz); rotate_left; (replace H := H.seq0 H1; clear H1))
          · refine WL_stepM rfl (R_mv) ?_
            refine WL_step rfl (R_extract rfl rfl) ?_
            refine WL_step rfl (R_extract rfl rfl) ?_
            refine WL_stepM rfl (R_as) ?_
            refine WL_stepM rfl (R_as) ?_
            refine WL_nil ?_
            refine W_seq ?_
            (refine W_draw (KH w [(b4, blk (piC ff) 58)]) (fun _ => false) (by kernel_rfl) H ?_; clear H; intro w145 H)
            refine WA_take 0 rfl rfl rfl (by kernel_rfl) (by kernel_rfl) (H.kh (by simp) kYs) (fun _ hC => R_loadP rfl (hC.get .here)) ?_
            refine WA_takeM 1 rfl rfl rfl (by kernel_rfl) (by kernel_rfl) (H.kh (by simp) kYs) (fun _ hC => R_mv) ?_
            refine WA_takeM 2 rfl rfl rfl (by kernel_rfl) (by kernel_rfl) (H.kh (by simp) kYs) (fun _ hC => R_mv) ?_
            refine WA_pass 3 rfl rfl rfl (fun h => nomatch h) (by kernel_rfl) (by kernel_rfl) (H.kh (by simp) kYs) ?_
            refine WA_pass 4 rfl rfl rfl (fun h => nomatch h) (by kernel_rfl) (by kernel_rfl) (H.kh (by simp) kYs) ?_
            refine WA_pass 5 rfl rfl rfl (fun h => nomatch h) (by kernel_rfl) (by kernel_rfl) (H.kh (by simp) kYs) ?_
            refine WA_takeM 6 rfl rfl rfl (by kernel_rfl) (by kernel_rfl) (H.kh (by simp) kYs) (fun _ hC => R_pk_f rfl) ?_
            refine WA_one (i := 7) (by kernel_rfl) ?_
            (refine WI_effu rfl (.inl rfl) (E_storeP (q := ff) H rfl rfl (.there .here)) (fun _ H => (by first | exact fun h => absurd h (by decide) | exact fun _ => H | exact fun _ => H.none kYs | exact fun _ => H.dropN kYs | exact fun _ => H.pop (by assumption) | exact fun _ => (H.pop (by assumption)).pop (by assumption) | exact fun _ => H.kp | exact fun _ => H.kp.tail | exact fun _ => H.kp.tail.tail | exact fun _ => H.kp.tail.tail.tail | exact fun _ => H.kp.sub (by simp) | exact fun _ => Kp.nil | exact fun _ => H.kh (by simp) kYs)) ?_; clear H; intro w154 H)
            refine WA_takeM 8 rfl rfl rfl (by kernel_rfl) (by kernel_rfl) (H.kh (by simp) kYs) (fun _ hC => R_as) ?_
            refine WA_done (by kernel_rfl) ?_
            refine W_ret ?_
            exact ⟨_, ⟨_, _, rfl, ldP (p := ff) (H.get (.there .here)), rfl⟩, congrArg (fun b => Value.tuple #[vP ff, .bool b]) (decide_eq_false (fun h => hok h.1)).symm, H.none kYs⟩
          · refine WL_stepM rfl (R_mv) ?_
            refine WL_step rfl (R_extract rfl rfl) ?_
            refine WL_step rfl (R_extract rfl rfl) ?_
            refine WL_stepM rfl (R_as) ?_
            refine WL_stepM rfl (R_as) ?_
            refine WL_nil ?_
            refine W_seq ?_
            (refine W_draw (KH w [(b9, blk ((bytesP ff).map U) 5), (b4, blk (piC ff) 58)]) (fun _ => false) (by kernel_rfl) H ?_; clear H; intro w166 H)
            refine WA_take 0 rfl rfl rfl (by kernel_rfl) (by kernel_rfl) (H.kh (by simp) kYs) (fun _ hC => R_loadP rfl (hC.get (.there .here))) ?_
            refine WA_takeM 1 rfl rfl rfl (by kernel_rfl) (by kernel_rfl) (H.kh (by simp) kYs) (fun _ hC => R_mv) ?_
            refine WA_takeM 2 rfl rfl rfl (by kernel_rfl) (by kernel_rfl) (H.kh (by simp) kYs) (fun _ hC => R_mv) ?_
            refine WA_takeGM 3 rfl rfl rfl rfl (by kernel_rfl) (by kernel_rfl) (H.kh (by simp) kYs) (fun _ hC => R_mv) ?_
            refine WA_takeGM 4 rfl rfl rfl rfl (by kernel_rfl) (by kernel_rfl) (H.kh (by simp) kYs) (fun _ hC => R_mv) ?_
            refine WA_one (i := 5) (by kernel_rfl) ?_
            (refine WI_call rfl (.inr ⟨_, _, rfl, rfl⟩) (R_call rfl Tryz.call197 rfl) (equal_ret (xs := bytesP ff) (ys := xs) (RdS.blk (c := (bytesP ff).map U) (off := 0) (H.get .here) (by rw [List.drop_zero, List.take_of_length_le (by rw [List.length_map, bytes_len]; decide)]) (by rw [List.length_map, bytes_len]; decide) (by decide)) (hl0.monoN H kYs) (by rw [bytes_len]; decide) (by omega)) (fun _ _ hR _ => (H.seq0 hR.2).kh (by simp) kYs) ?_; rintro _ w173 ⟨rfl, H1⟩; replace H := H.seq0 H1; clear H1)
            refine WA_takeM 6 rfl rfl rfl (by kernel_rfl) (by kernel_rfl) (H.kh (by simp) kYs) (fun _ hC => R_pk_t rfl) ?_
            refine WA_one (i := 7) (by kernel_rfl) ?_
            (refine WI_effu rfl (.inl rfl) (E_storeP (q := ff) H rfl rfl (.there (.there .here))) (fun _ H => (by first | exact fun h => absurd h (by decide) | exact fun _ => H | exact fun _ => H.none kYs | exact fun _ => H.dropN kYs | exact fun _ => H.pop (by assumption) | exact fun _ => (H.pop (by assumption)).pop (by assumption) | exact fun _ => H.kp | exact fun _ => H.kp.tail | exact fun _ => H.kp.tail.tail | exact fun _ => H.kp.tail.tail.tail | exact fun _ => H.kp.sub (by simp) | exact fun _ => Kp.nil | exact fun _ => H.kh (by simp) kYs)) ?_; clear H; intro w176 H)
            refine WA_takeM 8 rfl rfl rfl (by kernel_rfl) (by kernel_rfl) (H.kh (by simp) kYs) (fun _ hC => R_as) ?_
            refine WA_done (by kernel_rfl) ?_
            refine W_ret ?_
            exact ⟨_, ⟨_, _, rfl, ldP (p := ff) (H.get (.there (.there .here))), rfl⟩, congrArg (fun b => Value.tuple #[vP ff, .bool b]) (decide_eq_decide.2 ⟨fun h => ⟨hok, h⟩, fun h => h.2⟩), H.none kYs⟩
end Go.Proofs.YtlpmfldijgdcoaaGreatDoor.Slot

/-
  What bytes are: one of these, free, or bad.
-/
namespace Go.Proofs.YtlpmfldijgdcoaaGreatDoor.Slot
open Go Go.Proofs Go.Proofs.YtlpmfldijgdcoaaGreatDoor.Fx Go.Proofs.YtlpmfldijgdcoaaGreatDoor.Codec
set_option maxRecDepth 100000
set_option linter.unusedVariables false
set_option linter.unusedSimpArgs false
set_option maxHeartbeats 1000000

/-- what a call yields, as two ways -/
theorem decM_ret {xs : List UInt8} {q : Nat} {w : World} {l : Value} (hq : w.heap[q]? = some cod) (hl : RdS w l (xs.map U)) (hb : xs.length ≤ 9223372036854775807) :
    Ret Tryz.prog 147 #[ptr q 0, l] w fun v w' => ((good xs ∧ v = .tuple #[vP (ofB xs), .bool true]) ∨ (¬ good xs ∧ v = .tuple #[vP zeroP, .bool false])) ∧ Hp w [] w' := by
  refine Ret_of_WC (args := [_, _]) Tryz.func147 rfl Tryz.ntmps147 Tryz.results147 (by simp) ?_
  have H := Hp.refl w
  obtain ⟨ao, ca, rfl⟩ := hl.form
  simp only [List.length_map] at hl ⊢
  by_cases h8 : xs.length = 24
  · by_cases hg : good xs
    · refine W_seq ?_
      refine W_region_l ?_
      (refine WL_effn rfl (E_allocP H) ?_; clear H; intro b4 w3 hb4 H)
      refine WL_stepM rfl (R_as) ?_
      refine WL_nil ?_
      refine W_seq ?_
      refine W_region_l ?_
      (refine WL_effn rfl (E_allocP H) ?_; clear H; intro b6 w8 hb6 H)
      refine WL_nil ?_
      refine W_seq ?_
      refine W_seq ?_
      refine W_region_l ?_
      refine WL_stepM rfl (R_mv) ?_
      refine WL_step rfl (R_nilCheck rfl) ?_
      refine WL_step rfl (R_fieldAddr (off' := 2) Tryz.underlying270 rfl Tryz.sizeOf245 (by decide) rfl rfl) ?_
      refine WL_step rfl (R_load Tryz.isAgg245 rfl (H.blockN hq kYs) rfl) ?_
      refine WL_step rfl (R_eq_fn Tryz.underlying245 rfl rfl) ?_
      refine WL_stepM rfl (R_mv) ?_
      refine WL_guard_t rfl rfl ?_
      refine WL_stepM rfl (R_mv) ?_
      refine WL_guard_t rfl rfl ?_
      refine WL_step rfl (R_len_slice Tryz.underlying36 rfl) ?_
      refine WL_guard_t rfl rfl ?_
      refine WL_stepM rfl (R_mv) ?_
      refine WL_guard_t rfl rfl ?_
      refine WL_step rfl (R_nilCheck rfl) ?_
      refine WL_guard_t rfl rfl ?_
      refine WL_step rfl (R_fieldAddr (off' := 0) Tryz.underlying270 rfl Tryz.sizeOf3 (by decide) rfl rfl) ?_
      refine WL_guard_t rfl rfl ?_
      refine WL_step rfl (R_load Tryz.isAgg3 rfl (H.blockN hq kYs) rfl) ?_
      refine WL_guard_t rfl rfl ?_
      refine WL_step rfl (R_ne_f rfl rfl (by omega)) ?_
      refine WL_stepM rfl (R_pk_f rfl) ?_
      refine WL_nil ?_
      refine W_cond_f rfl ?_
      refine W_skip ?_
      refine W_seq ?_
      (refine W_draw (KH w []) (fun _ => false) (by kernel_rfl) H ?_; clear H; intro w38 H)
      refine WA_takeM 0 rfl rfl rfl (by kernel_rfl) (by kernel_rfl) (H.kh (by simp) kYs) (fun _ hC => R_mv) ?_
      refine WA_take 1 rfl rfl rfl (by kernel_rfl) (by kernel_rfl) (H.kh (by simp) kYs) (fun _ hC => R_nilCheck rfl) ?_
      refine WA_take 2 rfl rfl rfl (by kernel_rfl) (by kernel_rfl) (H.kh (by simp) kYs) (fun _ hC => R_fieldAddr (off' := 2) Tryz.underlying270 rfl Tryz.sizeOf245 (by decide) rfl rfl) ?_
      refine WA_take 3 rfl rfl rfl (by kernel_rfl) (by kernel_rfl) (H.kh (by simp) kYs) (fun _ hC => R_load Tryz.isAgg245 rfl (hC.old.block hq (by simp)) rfl) ?_
      refine WA_takeM 4 rfl rfl rfl (by kernel_rfl) (by kernel_rfl) (H.kh (by simp) kYs) (fun _ hC => R_mv) ?_
      refine WA_two (i := 5) (j := 10) (by kernel_rfl) ?_ ?_
      · (refine WI_call rfl (.inl rfl) (R_call rfl Tryz.call65 rfl) (clone_ret (xs := xs) (hl.monoN H kYs) (by omega)) (fun _ _ ⟨M, hO, H1⟩ _ => ((H.seqO hO H1).2).kh (by simp) (kApp (H.seqO hO H1).1.keys kYs)) ?_; rintro u w45 ⟨M, hO, H1⟩; have h45 := H.seqO hO H1; clear H H1 hO; obtain ⟨hO, H⟩ := h45; have hMk := hO.keys; obtain ⟨a5, c5, rfl⟩ := hO.form)
        refine WA_two (i := 6) (j := 10) (by kernel_rfl) ?_ ?_
        · (refine WI_call rfl (.inl rfl) (R_call rfl Tryz.call169 rfl) (get_ret (xs := xs) (RdS.own hO (fun p hp => H.held p (by simp [hp]))) h8) (fun _ _ hR _ => (H.seq0 hR.2).kh (by simp) kYs) ?_; rintro v w47 ⟨hv, H1⟩; rw [decide_eq_true hg.2] at hv; subst hv; replace H := H.seq0 H1; clear H1)
          refine WA_takeM 7 rfl rfl rfl (by kernel_rfl) (by kernel_rfl) (H.kh (by simp) kYs) (fun _ hC => R_mv) ?_
          refine WA_take 8 rfl rfl rfl (by kernel_rfl) (by kernel_rfl) (H.kh (by simp) kYs) (fun _ hC => R_extract rfl rfl) ?_
          refine WA_take 9 rfl rfl rfl (by kernel_rfl) (by kernel_rfl) (H.kh (by simp) kYs) (fun _ hC => R_extract rfl rfl) ?_
          refine WA_one (i := 10) (by kernel_rfl) ?_
          (refine WI_effnA rfl (.inl rfl) (E_allocP H) (fun _ _ _ H => (by first | exact fun h => absurd h (by decide) | exact fun _ => H | exact fun _ => H.none kYs | exact fun _ => H.dropN kYs | exact fun _ => H.pop (by assumption) | exact fun _ => (H.pop (by assumption)).pop (by assumption) | exact fun _ => H.kp | exact fun _ => H.kp.tail | exact fun _ => H.kp.tail.tail | exact fun _ => H.kp.tail.tail.tail | exact fun _ => H.kp.sub (by simp) | exact fun _ => Kp.nil | exact fun _ => H.kh (by simp) kYs)) ?_; clear H; intro b7 w52 hb7 H)
          refine WA_one (i := 11) (by kernel_rfl) ?_
          (refine WI_effu rfl (.inl rfl) (E_storeP (q := (ofB xs)) H rfl rfl .here) (fun _ H => (by first | exact fun h => absurd h (by decide) | exact fun _ => H | exact fun _ => H.none kYs | exact fun _ => H.dropN kYs | exact fun _ => H.pop (by assumption) | exact fun _ => (H.pop (by assumption)).pop (by assumption) | exact fun _ => H.kp | exact fun _ => H.kp.tail | exact fun _ => H.kp.tail.tail | exact fun _ => H.kp.tail.tail.tail | exact fun _ => H.kp.sub (by simp) | exact fun _ => Kp.nil | exact fun _ => H.kh (by simp) kYs)) ?_; clear H; intro w54 H; replace H := Hp.dropMid (A := [_]) H hMk)
          refine WA_takeM 12 rfl rfl rfl (by kernel_rfl) (by kernel_rfl) (H.kh (by simp) kYs) (fun _ hC => R_as) ?_
          refine WA_done (by kernel_rfl) ?_
          refine W_seq ?_
          refine W_seq ?_
          refine W_region_l ?_
          refine WL_stepM rfl (R_mv) ?_
          refine WL_step rfl (R_not_t rfl) ?_
          refine WL_nil ?_
          refine W_cond_f rfl ?_
          refine W_skip ?_
          refine W_seq ?_
          refine W_region_l ?_
          refine WL_step rfl (R_loadP rfl (H.get .here)) ?_
          (refine WL_effu rfl (E_storeP (q := (ofB xs)) H rfl rfl (.there (.there .here))) ?_; clear H; intro w68 H)
          refine WL_stepM rfl (R_as) ?_
          refine WL_nil ?_
          refine W_ret ?_
          exact ⟨_, ⟨_, _, rfl, ldP (p := (ofB xs)) (H.get (.there (.there .here))), rfl⟩, .inl ⟨hg, rfl⟩, H.none kYs⟩
        · (refine WI_effnA rfl (.inl rfl) (E_allocP H) (fun _ _ _ H => (by first | exact fun h => absurd h (by decide) | exact fun _ => H | exact fun _ => H.none kYs | exact fun _ => H.dropN kYs | exact fun _ => H.pop (by assumption) | exact fun _ => (H.pop (by assumption)).pop (by assumption) | exact fun _ => H.kp | exact fun _ => H.kp.tail | exact fun _ => H.kp.tail.tail | exact fun _ => H.kp.tail.tail.tail | exact fun _ => H.kp.sub (by simp) | exact fun _ => Kp.nil | exact fun _ => H.kh (by simp) kYs)) ?_; clear H; intro b7 w73 hb7 H)
          refine WA_one (i := 6) (by kernel_rfl) ?_
          (refine WI_call rfl (.inl rfl) (R_call rfl Tryz.call169 rfl) (get_ret (xs := xs) (RdS.own hO (fun p hp => H.held p (by simp [hp]))) h8) (fun _ _ hR _ => (H.seq0 hR.2).kh (by simp) kYs) ?_; rintro v w75 ⟨hv, H1⟩; rw [decide_eq_true hg.2] at hv; subst hv; replace H := H.seq0 H1; clear H1)
          refine WA_takeM 7 rfl rfl rfl (by kernel_rfl) (by kernel_rfl) (H.kh (by simp) kYs) (fun _ hC => R_mv) ?_
          refine WA_take 8 rfl rfl rfl (by kernel_rfl) (by kernel_rfl) (H.kh (by simp) kYs) (fun _ hC => R_extract rfl rfl) ?_
          refine WA_take 9 rfl rfl rfl (by kernel_rfl) (by kernel_rfl) (H.kh (by simp) kYs) (fun _ hC => R_extract rfl rfl) ?_
          refine WA_one (i := 11) (by kernel_rfl) ?_
          (refine WI_effu rfl (.inl rfl) (E_storeP (q := (ofB xs)) H rfl rfl .here) (fun _ H => (by first | exact fun h => absurd h (by decide) | exact fun _ => H | exact fun _ => H.none kYs | exact fun _ => H.dropN kYs | exact fun _ => H.pop (by assumption) | exact fun _ => (H.pop (by assumption)).pop (by assumption) | exact fun _ => H.kp | exact fun _ => H.kp.tail | exact fun _ => H.kp.tail.tail | exact fun _ => H.kp.tail.tail.tail | exact fun _ => H.kp.sub (by simp) | exact fun _ => Kp.nil | exact fun _ => H.kh (by simp) kYs)) ?_; clear H; intro w80 H; replace H := Hp.dropMid (A := [_]) H hMk)
          refine WA_takeM 12 rfl rfl rfl (by kernel_rfl) (by kernel_rfl) (H.kh (by simp) kYs) (fun _ hC => R_as) ?_
          refine WA_done (by kernel_rfl) ?_
          refine W_seq ?_
          refine W_seq ?_
          refine W_region_l ?_
          refine WL_stepM rfl (R_mv) ?_
          refine WL_step rfl (R_not_t rfl) ?_
          refine WL_nil ?_
          refine W_cond_f rfl ?_
          refine W_skip ?_
          refine W_seq ?_
          refine W_region_l ?_
          refine WL_step rfl (R_loadP rfl (H.get .here)) ?_
          (refine WL_effu rfl (E_storeP (q := (ofB xs)) H rfl rfl (.there (.there .here))) ?_; clear H; intro w94 H)
          refine WL_stepM rfl (R_as) ?_
          refine WL_nil ?_
          refine W_ret ?_
          exact ⟨_, ⟨_, _, rfl, ldP (p := (ofB xs)) (H.get (.there (.there .here))), rfl⟩, .inl ⟨hg, rfl⟩, H.none kYs⟩
      · (refine WI_effnA rfl (.inl rfl) (E_allocP H) (fun _ _ _ H => (by first | exact fun h => absurd h (by decide) | exact fun _ => H | exact fun _ => H.none kYs | exact fun _ => H.dropN kYs | exact fun _ => H.pop (by assumption) | exact fun _ => (H.pop (by assumption)).pop (by assumption) | exact fun _ => H.kp | exact fun _ => H.kp.tail | exact fun _ => H.kp.tail.tail | exact fun _ => H.kp.tail.tail.tail | exact fun _ => H.kp.sub (by simp) | exact fun _ => Kp.nil | exact fun _ => H.kh (by simp) kYs)) ?_; clear H; intro b7 w99 hb7 H)
        refine WA_one (i := 5) (by kernel_rfl) ?_
        (refine WI_call rfl (.inl rfl) (R_call rfl Tryz.call65 rfl) (clone_ret (xs := xs) (hl.monoN H kYs) (by omega)) (fun _ _ ⟨M, hO, H1⟩ _ => ((H.seqO hO H1).2).kh (by simp) (kApp (H.seqO hO H1).1.keys kYs)) ?_; rintro u w101 ⟨M, hO, H1⟩; have h101 := H.seqO hO H1; clear H H1 hO; obtain ⟨hO, H⟩ := h101; have hMk := hO.keys; obtain ⟨a5, c5, rfl⟩ := hO.form)
        refine WA_one (i := 6) (by kernel_rfl) ?_
        (refine WI_call rfl (.inl rfl) (R_call rfl Tryz.call169 rfl) (get_ret (xs := xs) (RdS.own hO (fun p hp => H.held p (by simp [hp]))) h8) (fun _ _ hR _ => (H.seq0 hR.2).kh (by simp) kYs) ?_; rintro v w103 ⟨hv, H1⟩; rw [decide_eq_true hg.2] at hv; subst hv; replace H := H.seq0 H1; clear H1)
        refine WA_takeM 7 rfl rfl rfl (by kernel_rfl) (by kernel_rfl) (H.kh (by simp) kYs) (fun _ hC => R_mv) ?_
        refine WA_take 8 rfl rfl rfl (by kernel_rfl) (by kernel_rfl) (H.kh (by simp) kYs) (fun _ hC => R_extract rfl rfl) ?_
        refine WA_take 9 rfl rfl rfl (by kernel_rfl) (by kernel_rfl) (H.kh (by simp) kYs) (fun _ hC => R_extract rfl rfl) ?_
        refine WA_one (i := 11) (by kernel_rfl) ?_
        (refine WI_effu rfl (.inl rfl) (E_storeP (q := (ofB xs)) H rfl rfl (.app _ .here)) (fun _ H => (by first | exact fun h => absurd h (by decide) | exact fun _ => H | exact fun _ => H.none kYs | exact fun _ => H.dropN kYs | exact fun _ => H.pop (by assumption) | exact fun _ => (H.pop (by assumption)).pop (by assumption) | exact fun _ => H.kp | exact fun _ => H.kp.tail | exact fun _ => H.kp.tail.tail | exact fun _ => H.kp.tail.tail.tail | exact fun _ => H.kp.sub (by simp) | exact fun _ => Kp.nil | exact fun _ => H.kh (by simp) kYs)) ?_; clear H; intro w108 H; replace H := Hp.dropN H hMk)
        refine WA_takeM 12 rfl rfl rfl (by kernel_rfl) (by kernel_rfl) (H.kh (by simp) kYs) (fun _ hC => R_as) ?_
        refine WA_done (by kernel_rfl) ?_
        refine W_seq ?_
        refine W_seq ?_
        refine W_region_l ?_
        refine WL_stepM rfl (R_mv) ?_
        refine WL_step rfl (R_not_t rfl) ?_
        refine WL_nil ?_
        refine W_cond_f rfl ?_
        refine W_skip ?_
        refine W_seq ?_
        refine W_region_l ?_
        refine WL_step rfl (R_loadP rfl (H.get .here)) ?_
        (refine WL_effu rfl (E_storeP (q := (ofB xs)) H rfl rfl (.there (.there .here))) ?_; clear H; intro w122 H)
        refine WL_stepM rfl (R_as) ?_
        refine WL_nil ?_
        refine W_ret ?_
        exact ⟨_, ⟨_, _, rfl, ldP (p := (ofB xs)) (H.get (.there (.there .here))), rfl⟩, .inl ⟨hg, rfl⟩, H.none kYs⟩
    · refine W_seq ?_
      refine W_region_l ?_
      (refine WL_effn rfl (E_allocP H) ?_; clear H; intro b4 w3 hb4 H)
      refine WL_stepM rfl (R_as) ?_
      refine WL_nil ?_
      refine W_seq ?_
      refine W_region_l ?_
      (refine WL_effn rfl (E_allocP H) ?_; clear H; intro b6 w8 hb6 H)
      refine WL_nil ?_
      refine W_seq ?_
      refine W_seq ?_
      refine W_region_l ?_
      refine WL_stepM rfl (R_mv) ?_
      refine WL_step rfl (R_nilCheck rfl) ?_
      refine WL_step rfl (R_fieldAddr (off' := 2) Tryz.underlying270 rfl Tryz.sizeOf245 (by decide) rfl rfl) ?_
      refine WL_step rfl (R_load Tryz.isAgg245 rfl (H.blockN hq kYs) rfl) ?_
      refine WL_step rfl (R_eq_fn Tryz.underlying245 rfl rfl) ?_
      refine WL_stepM rfl (R_mv) ?_
      refine WL_guard_t rfl rfl ?_
      refine WL_stepM rfl (R_mv) ?_
      refine WL_guard_t rfl rfl ?_
      refine WL_step rfl (R_len_slice Tryz.underlying36 rfl) ?_
      refine WL_guard_t rfl rfl ?_
      refine WL_stepM rfl (R_mv) ?_
      refine WL_guard_t rfl rfl ?_
      refine WL_step rfl (R_nilCheck rfl) ?_
      refine WL_guard_t rfl rfl ?_
      refine WL_step rfl (R_fieldAddr (off' := 0) Tryz.underlying270 rfl Tryz.sizeOf3 (by decide) rfl rfl) ?_
      refine WL_guard_t rfl rfl ?_
      refine WL_step rfl (R_load Tryz.isAgg3 rfl (H.blockN hq kYs) rfl) ?_
      refine WL_guard_t rfl rfl ?_
      refine WL_step rfl (R_ne_f rfl rfl (by omega)) ?_
      refine WL_stepM rfl (R_pk_f rfl) ?_
      refine WL_nil ?_
      refine W_cond_f rfl ?_
      refine W_skip ?_
      refine W_seq ?_
      (refine W_draw (KH w []) (fun _ => false) (by kernel_rfl) H ?_; clear H; intro w38 H)
      refine WA_takeM 0 rfl rfl rfl (by kernel_rfl) (by kernel_rfl) (H.kh (by simp) kYs) (fun _ hC => R_mv) ?_
      refine WA_take 1 rfl rfl rfl (by kernel_rfl) (by kernel_rfl) (H.kh (by simp) kYs) (fun _ hC => R_nilCheck rfl) ?_
      refine WA_take 2 rfl rfl rfl (by kernel_rfl) (by kernel_rfl) (H.kh (by simp) kYs) (fun _ hC => R_fieldAddr (off' := 2) Tryz.underlying270 rfl Tryz.sizeOf245 (by decide) rfl rfl) ?_
      refine WA_take 3 rfl rfl rfl (by kernel_rfl) (by kernel_rfl) (H.kh (by simp) kYs) (fun _ hC => R_load Tryz.isAgg245 rfl (hC.old.block hq (by simp)) rfl) ?_
      refine WA_takeM 4 rfl rfl rfl (by kernel_rfl) (by kernel_rfl) (H.kh (by simp) kYs) (fun _ hC => R_mv) ?_
      refine WA_two (i := 5) (j := 10) (by kernel_rfl) ?_ ?_
      · (refine WI_call rfl (.inl rfl) (R_call rfl Tryz.call65 rfl) (clone_ret (xs := xs) (hl.monoN H kYs) (by omega)) (fun _ _ ⟨M, hO, H1⟩ _ => ((H.seqO hO H1).2).kh (by simp) (kApp (H.seqO hO H1).1.keys kYs)) ?_; rintro u w45 ⟨M, hO, H1⟩; have h45 := H.seqO hO H1; clear H H1 hO; obtain ⟨hO, H⟩ := h45; have hMk := hO.keys; obtain ⟨a5, c5, rfl⟩ := hO.form)
        refine WA_two (i := 6) (j := 10) (by kernel_rfl) ?_ ?_
        · (refine WI_call rfl (.inl rfl) (R_call rfl Tryz.call169 rfl) (get_ret (xs := xs) (RdS.own hO (fun p hp => H.held p (by simp [hp]))) h8) (fun _ _ hR _ => (H.seq0 hR.2).kh (by simp) kYs) ?_; rintro v w47 ⟨hv, H1⟩; rw [decide_eq_false (fun h => hg ⟨h8, h⟩)] at hv; subst hv; replace H := H.seq0 H1; clear H1)
          refine WA_takeM 7 rfl rfl rfl (by kernel_rfl) (by kernel_rfl) (H.kh (by simp) kYs) (fun _ hC => R_mv) ?_
          refine WA_take 8 rfl rfl rfl (by kernel_rfl) (by kernel_rfl) (H.kh (by simp) kYs) (fun _ hC => R_extract rfl rfl) ?_
          refine WA_take 9 rfl rfl rfl (by kernel_rfl) (by kernel_rfl) (H.kh (by simp) kYs) (fun _ hC => R_extract rfl rfl) ?_
          refine WA_one (i := 10) (by kernel_rfl) ?_
          (refine WI_effnA rfl (.inl rfl) (E_allocP H) (fun _ _ _ H => (by first | exact fun h => absurd h (by decide) | exact fun _ => H | exact fun _ => H.none kYs | exact fun _ => H.dropN kYs | exact fun _ => H.pop (by assumption) | exact fun _ => (H.pop (by assumption)).pop (by assumption) | exact fun _ => H.kp | exact fun _ => H.kp.tail | exact fun _ => H.kp.tail.tail | exact fun _ => H.kp.tail.tail.tail | exact fun _ => H.kp.sub (by simp) | exact fun _ => Kp.nil | exact fun _ => H.kh (by simp) kYs)) ?_; clear H; intro b7 w52 hb7 H)
          refine WA_one (i := 11) (by kernel_rfl) ?_
          (refine WI_effu rfl (.inl rfl) (E_storeP (q := (ofB xs)) H rfl rfl .here) (fun _ H => (by first | exact fun h => absurd h (by decide) | exact fun _ => H | exact fun _ => H.none kYs | exact fun _ => H.dropN kYs | exact fun _ => H.pop (by assumption) | exact fun _ => (H.pop (by assumption)).pop (by assumption) | exact fun _ => H.kp | exact fun _ => H.kp.tail | exact fun _ => H.kp.tail.tail | exact fun _ => H.kp.tail.tail.tail | exact fun _ => H.kp.sub (by simp) | exact fun _ => Kp.nil | exact fun _ => H.kh (by simp) kYs)) ?_; clear H; intro w54 H; replace H := Hp.dropMid (A := [_]) H hMk)
          refine WA_takeM 12 rfl rfl rfl (by kernel_rfl) (by kernel_rfl) (H.kh (by simp) kYs) (fun _ hC => R_as) ?_
          refine WA_done (by kernel_rfl) ?_
          refine W_seq ?_
          refine W_seq ?_
          refine W_region_l ?_
          refine WL_stepM rfl (R_mv) ?_
          refine WL_step rfl (R_not_f rfl) ?_
          refine WL_nil ?_
          refine W_cond_t rfl ?_
          refine W_seq ?_
          refine W_region_l ?_
          refine WL_step rfl (R_loadP rfl (H.get (.there .here))) ?_
          (refine WL_effu rfl (E_storeP (q := zeroP) H rfl rfl (.there (.there .here))) ?_; clear H; intro w67 H)
          refine WL_stepM rfl (R_as) ?_
          refine WL_nil ?_
          refine W_ret ?_
          exact ⟨_, ⟨_, _, rfl, ldP (p := zeroP) (H.get (.there (.there .here))), rfl⟩, .inr ⟨hg, rfl⟩, H.none kYs⟩
        · (refine WI_effnA rfl (.inl rfl) (E_allocP H) (fun _ _ _ H => (by first | exact fun h => absurd h (by decide) | exact fun _ => H | exact fun _ => H.none kYs | exact fun _ => H.dropN kYs | exact fun _ => H.pop (by assumption) | exact fun _ => (H.pop (by assumption)).pop (by assumption) | exact fun _ => H.kp | exact fun _ => H.kp.tail | exact fun _ => H.kp.tail.tail | exact fun _ => H.kp.tail.tail.tail | exact fun _ => H.kp.sub (by simp) | exact fun _ => Kp.nil | exact fun _ => H.kh (by simp) kYs)) ?_; clear H; intro b7 w72 hb7 H)
          refine WA_one (i := 6) (by kernel_rfl) ?_
          (refine WI_call rfl (.inl rfl) (R_call rfl Tryz.call169 rfl) (get_ret (xs := xs) (RdS.own hO (fun p hp => H.held p (by simp [hp]))) h8) (fun _ _ hR _ => (H.seq0 hR.2).kh (by simp) kYs) ?_; rintro v w74 ⟨hv, H1⟩; rw [decide_eq_false (fun h => hg ⟨h8, h⟩)] at hv; subst hv; replace H := H.seq0 H1; clear H1)
          refine WA_takeM 7 rfl rfl rfl (by kernel_rfl) (by kernel_rfl) (H.kh (by simp) kYs) (fun _ hC => R_mv) ?_
          refine WA_take 8 rfl rfl rfl (by kernel_rfl) (by kernel_rfl) (H.kh (by simp) kYs) (fun _ hC => R_extract rfl rfl) ?_
          refine WA_take 9 rfl rfl rfl (by kernel_rfl) (by kernel_rfl) (H.kh (by simp) kYs) (fun _ hC => R_extract rfl rfl) ?_
          refine WA_one (i := 11) (by kernel_rfl) ?_
          (refine WI_effu rfl (.inl rfl) (E_storeP (q := (ofB xs)) H rfl rfl .here) (fun _ H => (by first | exact fun h => absurd h (by decide) | exact fun _ => H | exact fun _ => H.none kYs | exact fun _ => H.dropN kYs | exact fun _ => H.pop (by assumption) | exact fun _ => (H.pop (by assumption)).pop (by assumption) | exact fun _ => H.kp | exact fun _ => H.kp.tail | exact fun _ => H.kp.tail.tail | exact fun _ => H.kp.tail.tail.tail | exact fun _ => H.kp.sub (by simp) | exact fun _ => Kp.nil | exact fun _ => H.kh (by simp) kYs)) ?_; clear H; intro w79 H; replace H := Hp.dropMid (A := [_]) H hMk)
          refine WA_takeM 12 rfl rfl rfl (by kernel_rfl) (by kernel_rfl) (H.kh (by simp) kYs) (fun _ hC => R_as) ?_
          refine WA_done (by kernel_rfl) ?_
          refine W_seq ?_
          refine W_seq ?_
          refine W_region_l ?_
          refine WL_stepM rfl (R_mv) ?_
          refine WL_step rfl (R_not_f rfl) ?_
          refine WL_nil ?_
          refine W_cond_t rfl ?_
          refine W_seq ?_
          refine W_region_l ?_
          refine WL_step rfl (R_loadP rfl (H.get (.there .here))) ?_
          (refine WL_effu rfl (E_storeP (q := zeroP) H rfl rfl (.there (.there .here))) ?_; clear H; intro w92 H)
          refine WL_stepM rfl (R_as) ?_
          refine WL_nil ?_
          refine W_ret ?_
          exact ⟨_, ⟨_, _, rfl, ldP (p := zeroP) (H.get (.there (.there .here))), rfl⟩, .inr ⟨hg, rfl⟩, H.none kYs⟩
      · (refine WI_effnA rfl (.inl rfl) (E_allocP H) (fun _ _ _ H => (by first | exact fun h => absurd h (by decide) | exact fun _ => H | exact fun _ => H.none kYs | exact fun _ => H.dropN kYs | exact fun _ => H.pop (by assumption) | exact fun _ => (H.pop (by assumption)).pop (by assumption) | exact fun _ => H.kp | exact fun _ => H.kp.tail | exact fun _ => H.kp.tail.tail | exact fun _ => H.kp.tail.tail.tail | exact fun _ => H.kp.sub (by simp) | exact fun _ => Kp.nil | exact fun _ => H.kh (by simp) kYs)) ?_; clear H; intro b7 w97 hb7 H)
        refine WA_one (i := 5) (by kernel_rfl) ?_
        (refine WI_call rfl (.inl rfl) (R_call rfl Tryz.call65 rfl) (clone_ret (xs := xs) (hl.monoN H kYs) (by omega)) (fun _ _ ⟨M, hO, H1⟩ _ => ((H.seqO hO H1).2).kh (by simp) (kApp (H.seqO hO H1).1.keys kYs)) ?_; rintro u w99 ⟨M, hO, H1⟩; have h99 := H.seqO hO H1; clear H H1 hO; obtain ⟨hO, H⟩ := h99; have hMk := hO.keys; obtain ⟨a5, c5, rfl⟩ := hO.form)
        refine WA_one (i := 6) (by kernel_rfl) ?_
        (refine WI_call rfl (.inl rfl) (R_call rfl Tryz.call169 rfl) (get_ret (xs := xs) (RdS.own hO (fun p hp => H.held p (by simp [hp]))) h8) (fun _ _ hR _ => (H.seq0 hR.2).kh (by simp) kYs) ?_; rintro v w101 ⟨hv, H1⟩; rw [decide_eq_false (fun h => hg ⟨h8, h⟩)] at hv; subst hv; replace H := H.seq0 H1; clear H1)
        refine WA_takeM 7 rfl rfl rfl (by kernel_rfl) (by kernel_rfl) (H.kh (by simp) kYs) (fun _ hC => R_mv) ?_
        refine WA_take 8 rfl rfl rfl (by kernel_rfl) (by kernel_rfl) (H.kh (by simp) kYs) (fun _ hC => R_extract rfl rfl) ?_
        refine WA_take 9 rfl rfl rfl (by kernel_rfl) (by kernel_rfl) (H.kh (by simp) kYs) (fun _ hC => R_extract rfl rfl) ?_
        refine WA_one (i := 11) (by kernel_rfl) ?_
        (refine WI_effu rfl (.inl rfl) (E_storeP (q := (ofB xs)) H rfl rfl (.app _ .here)) (fun _ H => (by first | exact fun h => absurd h (by decide) | exact fun _ => H | exact fun _ => H.none kYs | exact fun _ => H.dropN kYs | exact fun _ => H.pop (by assumption) | exact fun _ => (H.pop (by assumption)).pop (by assumption) | exact fun _ => H.kp | exact fun _ => H.kp.tail | exact fun _ => H.kp.tail.tail | exact fun _ => H.kp.tail.tail.tail | exact fun _ => H.kp.sub (by simp) | exact fun _ => Kp.nil | exact fun _ => H.kh (by simp) kYs)) ?_; clear H; intro w106 H; replace H := Hp.dropN H hMk)
        refine WA_takeM 12 rfl rfl rfl (by kernel_rfl) (by kernel_rfl) (H.kh (by simp) kYs) (fun _ hC => R_as) ?_
        refine WA_done (by kernel_rfl) ?_
        refine W_seq ?_
        refine W_seq ?_
        refine W_region_l ?_
        refine WL_stepM rfl (R_mv) ?_
        refine WL_step rfl (R_not_f rfl) ?_
        refine WL_nil ?_
        refine W_cond_t rfl ?_
        refine W_seq ?_
        refine W_region_l ?_
        refine WL_step rfl (R_loadP rfl (H.get (.there .here))) ?_
        (refine WL_effu rfl (E_storeP (q := zeroP) H rfl rfl (.there (.there .here))) ?_; clear H; intro w119 H)
        refine WL_stepM rfl (R_as) ?_
        refine WL_nil ?_
        refine W_ret ?_
        exact ⟨_, ⟨_, _, rfl, ldP (p := zeroP) (H.get (.there (.there .here))), rfl⟩, .inr ⟨hg, rfl⟩, H.none kYs⟩
  · refine W_seq ?_
    refine W_region_l ?_
    (refine WL_effn rfl (E_allocP H) ?_; clear H; intro b4 w3 hb4 H)
    refine WL_stepM rfl (R_as) ?_
    refine WL_nil ?_
    refine W_seq ?_
    refine W_region_l ?_
    (refine WL_effn rfl (E_allocP H) ?_; clear H; intro b6 w8 hb6 H)
    refine WL_nil ?_
    refine W_seq ?_
    refine W_seq ?_
    refine W_region_l ?_
    refine WL_stepM rfl (R_mv) ?_
    refine WL_step rfl (R_nilCheck rfl) ?_
    refine WL_step rfl (R_fieldAddr (off' := 2) Tryz.underlying270 rfl Tryz.sizeOf245 (by decide) rfl rfl) ?_
    refine WL_step rfl (R_load Tryz.isAgg245 rfl (H.blockN hq kYs) rfl) ?_
    refine WL_step rfl (R_eq_fn Tryz.underlying245 rfl rfl) ?_
    refine WL_stepM rfl (R_mv) ?_
    refine WL_guard_t rfl rfl ?_
    refine WL_stepM rfl (R_mv) ?_
    refine WL_guard_t rfl rfl ?_
    refine WL_step rfl (R_len_slice Tryz.underlying36 rfl) ?_
    refine WL_guard_t rfl rfl ?_
    refine WL_stepM rfl (R_mv) ?_
    refine WL_guard_t rfl rfl ?_
    refine WL_step rfl (R_nilCheck rfl) ?_
    refine WL_guard_t rfl rfl ?_
    refine WL_step rfl (R_fieldAddr (off' := 0) Tryz.underlying270 rfl Tryz.sizeOf3 (by decide) rfl rfl) ?_
    refine WL_guard_t rfl rfl ?_
    refine WL_step rfl (R_load Tryz.isAgg3 rfl (H.blockN hq kYs) rfl) ?_
    refine WL_guard_t rfl rfl ?_
    refine WL_step rfl (R_ne_t rfl rfl (by omega)) ?_
    refine WL_stepM rfl (R_pk_f rfl) ?_
    refine WL_nil ?_
    refine W_cond_t rfl ?_
    refine W_seq ?_
    refine W_region_l ?_
    refine WL_step rfl (R_loadP rfl (H.get .here)) ?_
    (refine WL_effu rfl (E_storeP (q := zeroP) H rfl rfl (.there .here)) ?_; clear H; intro w39 H)
    refine WL_stepM rfl (R_as) ?_
    refine WL_nil ?_
    refine W_ret ?_
    exact ⟨_, ⟨_, _, rfl, ldP (p := zeroP) (H.get (.there .here)), rfl⟩, .inr ⟨fun hg => h8 hg.1, rfl⟩, H.none kYs⟩
theorem dec_ret {xs : List UInt8} {w : World} {l : Value} (hl : RdS w l (xs.map U)) (hb : xs.length ≤ 9223372036854775807) :
    Ret Tryz.prog 106 #[l] w fun v w' => v = .tuple #[vP (decP xs).1, I (decP xs).2] ∧ Hp w [] w' := by
  refine Ret_of_WC (args := [_]) Tryz.func106 rfl Tryz.ntmps106 Tryz.results106 (by simp) ?_
  have H := Hp.refl w
  obtain ⟨ao, ca, rfl⟩ := hl.form
  simp only [List.length_map] at hl ⊢
  by_cases hf : xs.length = 24 ∧ ∀ x ∈ xs, x = 0
  · have h8 := hf.1
    rw [decP_free hf.1 hf.2]
    refine W_seq ?_
    refine W_region_l ?_
    (refine WL_effn rfl (E_allocP H) ?_; clear H; intro b2 w3 hb2 H)
    refine WL_stepM rfl (R_as) ?_
    refine WL_nil ?_
    refine W_seq ?_
    refine W_seq ?_
    refine W_region_l ?_
    refine WL_stepM rfl (R_mv) ?_
    refine WL_step rfl (R_len_slice Tryz.underlying36 rfl) ?_
    refine WL_step rfl (R_eq_t rfl rfl (by omega)) ?_
    refine WL_stepM rfl (R_mv) ?_
    refine WL_guard_t rfl rfl ?_
    refine WL_stepM rfl (R_mv) ?_
    refine WL_guard_t rfl rfl ?_
    (refine WL_call rfl (R_call rfl Tryz.call146 rfl) (blank_ret (hl.monoN H kYs) (by omega)) ?_; rintro v w16 ⟨hv, H1⟩; rw [decide_eq_true hf.2] at hv; subst hv; replace H := H.seq0 H1; clear H1)
    refine WL_stepM rfl (R_pk_t rfl) ?_
    refine WL_nil ?_
    refine W_cond_t rfl ?_
    refine W_seq ?_
    refine W_region_l ?_
    refine WL_step rfl R_zeroP ?_
    (refine WL_effu rfl (E_storeP (q := zeroP) H rfl rfl .here) ?_; clear H; intro w23 H)
    refine WL_stepM rfl (R_as) ?_
    refine WL_nil ?_
    refine W_ret ?_
    exact ⟨_, ⟨_, _, rfl, ldP (p := zeroP) (H.get .here), rfl⟩, rfl, H.none kYs⟩
  · by_cases h8 : xs.length = 24
    · refine W_seq ?_
      refine W_region_l ?_
      (refine WL_effn rfl (E_allocP H) ?_; clear H; intro b2 w3 hb2 H)
      refine WL_stepM rfl (R_as) ?_
      refine WL_nil ?_
      refine W_seq ?_
      refine W_seq ?_
      refine W_region_l ?_
      refine WL_stepM rfl (R_mv) ?_
      refine WL_step rfl (R_len_slice Tryz.underlying36 rfl) ?_
      refine WL_step rfl (R_eq_t rfl rfl (by omega)) ?_
      refine WL_stepM rfl (R_mv) ?_
      refine WL_guard_t rfl rfl ?_
      refine WL_stepM rfl (R_mv) ?_
      refine WL_guard_t rfl rfl ?_
      (refine WL_call rfl (R_call rfl Tryz.call146 rfl) (blank_ret (hl.monoN H kYs) (by omega)) ?_; rintro v w16 ⟨hv, H1⟩; rw [decide_eq_false (fun h => hf ⟨h8, h⟩)] at hv; subst hv; replace H := H.seq0 H1; clear H1)
      refine WL_stepM rfl (R_pk_t rfl) ?_
      refine WL_nil ?_
      refine W_cond_f rfl ?_
      refine W_skip ?_
      refine W_seq ?_
      refine W_region_l ?_
      (refine WL_call rfl (R_call rfl Tryz.call128 rfl) (codec_ret _) ?_; rintro _ w23 ⟨q, rfl, hq, H1⟩; have hsz := H.size; replace H := H.seqN H1 (kCons hq kNil); replace hq := Nat.le_trans hsz hq; clear H1 hsz)
      refine WL_stepM rfl (R_mv) ?_
      (refine WL_call rfl (R_call rfl Tryz.call147 rfl) (decM_ret (xs := xs) (H.get .here) (hl.monoN H kYs) hb) ?_; rintro _ w25 ⟨(⟨hg, rfl⟩ | ⟨hg, rfl⟩), H1⟩ <;> (replace H := H.seq0 H1; clear H1))
      · refine WL_stepM rfl (R_mv) ?_
        refine WL_step rfl (R_extract rfl rfl) ?_
        refine WL_step rfl (R_extract rfl rfl) ?_
        (refine WL_effn rfl (E_allocP H) ?_; clear H; intro b4 w29 hb4 H)
        (have _g := hg.1; refine WL_effu rfl (E_storeP (q := (ofB xs)) H rfl rfl .here) ?_; clear H; intro w30 H)
        refine WL_stepM rfl (R_as) ?_
        refine WL_nil ?_
        refine W_seq ?_
        refine W_seq ?_
        refine W_region_l ?_
        refine WL_stepM rfl (R_mv) ?_
        refine WL_step rfl (R_not_t rfl) ?_
        refine WL_nil ?_
        refine W_cond_f rfl ?_
        refine W_skip ?_
        refine W_seq ?_
        refine W_region_l ?_
        refine WL_step rfl (R_loadP rfl (H.get .here)) ?_
        (have _g := hg.1; refine WL_effu rfl (E_storeP (q := (ofB xs)) H rfl rfl (.there (.there .here))) ?_; clear H; intro w44 H)
        refine WL_stepM rfl (R_as) ?_
        refine WL_nil ?_
        refine W_ret ?_
        exact ⟨_, ⟨_, _, rfl, ldP (p := (ofB xs)) (H.get (.there (.there .here))), rfl⟩, (by rw [decP_good hg]; rfl), H.none kYs⟩
      · refine WL_stepM rfl (R_mv) ?_
        refine WL_step rfl (R_extract rfl rfl) ?_
        refine WL_step rfl (R_extract rfl rfl) ?_
        (refine WL_effn rfl (E_allocP H) ?_; clear H; intro b4 w52 hb4 H)
        (refine WL_effu rfl (E_storeP (q := zeroP) H rfl rfl .here) ?_; clear H; intro w53 H)
        refine WL_stepM rfl (R_as) ?_
        refine WL_nil ?_
        refine W_seq ?_
        refine W_seq ?_
        refine W_region_l ?_
        refine WL_stepM rfl (R_mv) ?_
        refine WL_step rfl (R_not_f rfl) ?_
        refine WL_nil ?_
        refine W_cond_t rfl ?_
        refine W_seq ?_
        refine W_region_l ?_
        refine WL_step rfl R_zeroP ?_
        (refine WL_effu rfl (E_storeP (q := zeroP) H rfl rfl (.there (.there .here))) ?_; clear H; intro w66 H)
        refine WL_stepM rfl (R_as) ?_
        refine WL_nil ?_
        refine W_ret ?_
        exact ⟨_, ⟨_, _, rfl, ldP (p := zeroP) (H.get (.there (.there .here))), rfl⟩, (by rw [decP_bad hg hf]; rfl), H.none kYs⟩
    · refine W_seq ?_
      refine W_region_l ?_
      (refine WL_effn rfl (E_allocP H) ?_; clear H; intro b2 w3 hb2 H)
      refine WL_stepM rfl (R_as) ?_
      refine WL_nil ?_
      refine W_seq ?_
      refine W_seq ?_
      refine W_region_l ?_
      refine WL_stepM rfl (R_mv) ?_
      refine WL_step rfl (R_len_slice Tryz.underlying36 rfl) ?_
      refine WL_step rfl (R_eq_f rfl rfl (by omega)) ?_
      refine WL_stepM rfl (R_mv) ?_
      refine WL_guard_f rfl rfl (by decide) ?_
      refine WL_guard_f rfl rfl (by decide) ?_
      refine WL_stepM rfl (R_pk_f rfl) ?_
      refine WL_nil ?_
      refine W_cond_f rfl ?_
      refine W_skip ?_
      refine W_seq ?_
      refine W_region_l ?_
      (refine WL_call rfl (R_call rfl Tryz.call128 rfl) (codec_ret _) ?_; rintro _ w21 ⟨q, rfl, hq, H1⟩; have hsz := H.size; replace H := H.seqN H1 (kCons hq kNil); replace hq := Nat.le_trans hsz hq; clear H1 hsz)
      refine WL_stepM rfl (R_mv) ?_
      (refine WL_call rfl (R_call rfl Tryz.call147 rfl) (decM_ret (xs := xs) (H.get .here) (hl.monoN H kYs) hb) ?_; rintro _ w23 ⟨(⟨hg, rfl⟩ | ⟨hg, rfl⟩), H1⟩ <;> (replace H := H.seq0 H1; clear H1))
      · refine WL_stepM rfl (R_mv) ?_
        refine WL_step rfl (R_extract rfl rfl) ?_
        refine WL_step rfl (R_extract rfl rfl) ?_
        (refine WL_effn rfl (E_allocP H) ?_; clear H; intro b4 w27 hb4 H)
        (have _g := hg.1; refine WL_effu rfl (E_storeP (q := (ofB xs)) H rfl rfl .here) ?_; clear H; intro w28 H)
        refine WL_stepM rfl (R_as) ?_
        refine WL_nil ?_
        refine W_seq ?_
        refine W_seq ?_
        refine W_region_l ?_
        refine WL_stepM rfl (R_mv) ?_
        refine WL_step rfl (R_not_t rfl) ?_
        refine WL_nil ?_
        refine W_cond_f rfl ?_
        refine W_skip ?_
        refine W_seq ?_
        refine W_region_l ?_
        refine WL_step rfl (R_loadP rfl (H.get .here)) ?_
        (have _g := hg.1; refine WL_effu rfl (E_storeP (q := (ofB xs)) H rfl rfl (.there (.there .here))) ?_; clear H; intro w42 H)
        refine WL_stepM rfl (R_as) ?_
        refine WL_nil ?_
        refine W_ret ?_
        exact ⟨_, ⟨_, _, rfl, ldP (p := (ofB xs)) (H.get (.there (.there .here))), rfl⟩, (by rw [decP_good hg]; rfl), H.none kYs⟩
      · refine WL_stepM rfl (R_mv) ?_
        refine WL_step rfl (R_extract rfl rfl) ?_
        refine WL_step rfl (R_extract rfl rfl) ?_
        (refine WL_effn rfl (E_allocP H) ?_; clear H; intro b4 w50 hb4 H)
        (refine WL_effu rfl (E_storeP (q := zeroP) H rfl rfl .here) ?_; clear H; intro w51 H)
        refine WL_stepM rfl (R_as) ?_
        refine WL_nil ?_
        refine W_seq ?_
        refine W_seq ?_
        refine W_region_l ?_
        refine WL_stepM rfl (R_mv) ?_
        refine WL_step rfl (R_not_f rfl) ?_
        refine WL_nil ?_
        refine W_cond_t rfl ?_
        refine W_seq ?_
        refine W_region_l ?_
        refine WL_step rfl R_zeroP ?_
        (refine WL_effu rfl (E_storeP (q := zeroP) H rfl rfl (.there (.there .here))) ?_; clear H; intro w64 H)
        refine WL_stepM rfl (R_as) ?_
        refine WL_nil ?_
        refine W_ret ?_
        exact ⟨_, ⟨_, _, rfl, ldP (p := zeroP) (H.get (.there (.there .here))), rfl⟩, (by rw [decP_bad hg hf]; rfl), H.none kYs⟩

end Go.Proofs.YtlpmfldijgdcoaaGreatDoor.Slot

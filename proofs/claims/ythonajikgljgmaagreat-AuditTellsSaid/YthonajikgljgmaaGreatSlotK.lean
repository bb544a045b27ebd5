/-
  A slot is put into bytes.
-/
import Derived.Test.YthonajikgljgmaaGreatSlotM1
namespace Go.Proofs.YthonajikgljgmaaGreat.Slot
open Go Go.Proofs Go.Proofs.YthonajikgljgmaaGreat.Fx Go.Proofs.YthonajikgljgmaaGreat.Codec
set_option maxRecDepth 100000
set_option linter.unusedVariables false
set_option linter.unusedSimpArgs false
set_option maxHeartbeats 2000000

theorem put_no {l : Value} (p : Pi) (hok : ¬ okP p) (w : World) : Ret Tryz.prog 85 #[vP p, l] w fun v w' => v = .bool false ∧ Hp w [] w' := by
  refine Ret_of_W (args := [_, _]) Tryz.func85 rfl Tryz.ntmps85 Tryz.results85 (by simp) ?_
  have H := Hp.refl w
  refine W_seq ?_
  refine W_region_l ?_
  (refine WL_effn rfl (E_boxP H rfl) ?_; clear H; intro bx w3 hbx H)
  refine WL_stepM rfl (R_as) ?_
  refine WL_nil ?_
  refine W_seq ?_
  refine W_seq ?_
  refine W_region_l ?_
  refine WL_step rfl (R_loadP rfl (H.get .here)) ?_
  (refine WL_call rfl (R_call rfl Tryz.call94 rfl) (ok_ret p _) ?_; rintro v w10 ⟨hv, H1⟩; rw [decide_eq_false hok] at hv; subst hv; replace H := H.seq0 H1; clear H1)
  refine WL_step rfl (R_not_f rfl) ?_
  refine WL_nil ?_
  refine W_cond_t rfl ?_
  refine W_seq ?_
  refine W_region_l ?_
  refine WL_stepM rfl (R_as) ?_
  refine WL_nil ?_
  refine W_ret ?_
  exact ⟨_, rfl, rfl, H.none (by repeat' first | exact kNil | apply kCons | apply kApp | assumption | exact OwnS.keys (by assumption))⟩

/-- one byte more of those that come -/
theorem fillW {W : List UInt8} {k n : Nat} {x : UInt8} (hW : W.length = n) (hx : W[k]? = some x) : ((W.take k ++ List.replicate (n - k) 0).map U).set k (U x) = (W.take (k + 1) ++ List.replicate (n - (k + 1)) 0).map U := by
  obtain ⟨hk, rfl⟩ := List.getElem?_eq_some_iff.1 hx
  have hl : (W.take k).length = k := by simp; omega
  rw [← List.map_set]
  congr 1
  rw [List.set_append_right _ _ (by omega), hl, Nat.sub_self, show n - k = (n - (k + 1)) + 1 by omega, List.replicate_succ, List.set_cons_zero, List.take_succ_eq_append_getElem hk, List.append_assoc]
  rfl
theorem pickH {p : Pi} (h : okP p) {i : Nat} (hi : i < 4) : ∃ z : Int, [I p.s, I p.p, I p.g, I p.e][i]? = some (I z) ∧ (bytesP p)[i]? = some (b8 z) ∧ 0 ≤ z := by
  obtain ⟨hr, _⟩ := h
  match i, hi with
  | 0, _ => exact ⟨p.s, rfl, rfl, by omega⟩
  | 1, _ => exact ⟨p.p, rfl, rfl, by omega⟩
  | 2, _ => exact ⟨p.g, rfl, rfl, by omega⟩
  | 3, _ => exact ⟨p.e, rfl, rfl, by omega⟩
theorem pickS {p : Pi} (h : okP p) {i : Nat} (hi : i < 4) : ∃ x : BitVec 64, [I p.a.toInt, I p.b.toInt, I p.c.toInt, I p.d.toInt][i]? = some (I x.toInt) ∧ okB x ∧ (bytesP p)[4 + 2 * i]? = some (UInt8.ofNat (x.toNat / 256)) ∧ (bytesP p)[4 + 2 * i + 1]? = some (UInt8.ofNat x.toNat) := by
  obtain ⟨_, ⟨⟨ha, hb, hc, hd⟩, _, _⟩, _⟩ := h
  match i, hi with
  | 0, _ => exact ⟨p.a, rfl, ha, rfl, rfl⟩
  | 1, _ => exact ⟨p.b, rfl, hb, rfl, rfl⟩
  | 2, _ => exact ⟨p.c, rfl, hc, rfl, rfl⟩
  | 3, _ => exact ⟨p.d, rfl, hd, rfl, rfl⟩
theorem bytes_12 (p : Pi) : bytesP p = h12 p ++ (p.f.map b8 ++ [167, sumB (hbs p), 0, 0]) := by
  show (((h12 p ++ p.f.map b8) ++ [167]) ++ [sumB (hbs p), 0, 0]) = _
  rw [List.append_assoc, List.append_assoc]
  rfl
theorem h12_len (p : Pi) : (h12 p).length = 12 := by simp [h12, two]
theorem pickF {p : Pi} (h : okP p) {i : Nat} (hi : i < 8) : ∃ z : Int, (p.f.map fun x => I x)[i]? = some (I z) ∧ (bytesP p)[12 + i]? = some (b8 z) ∧ 0 ≤ z := by
  have hf := p.hf
  obtain ⟨_, _, hz, _⟩ := h
  refine ⟨p.f[i], by rw [List.getElem?_map, List.getElem?_eq_getElem]; rfl, ?_, (hz _ (List.getElem_mem _)).1⟩
  rw [bytes_12, List.getElem?_append_right (by rw [h12_len]; omega), h12_len, show 12 + i - 12 = i by omega, List.getElem?_append_left (by simp; omega), List.getElem?_map, List.getElem?_eq_getElem]
  rfl
theorem bytes_20 (p : Pi) : (bytesP p)[20]? = some 167 := by
  rw [bytes_12, List.getElem?_append_right (by rw [h12_len]; decide), h12_len, List.getElem?_append_right (by simp [p.hf])]
  simp [p.hf]
theorem bytes_21 (p : Pi) : (bytesP p)[21]? = some (sumB (hbs p)) := by
  unfold bytesP
  rw [List.getElem?_append_right (by rw [hbs_len]; decide), hbs_len]
  rfl
theorem bytes_t21 (p : Pi) : (bytesP p).take 21 = hbs p := by
  unfold bytesP
  exact List.take_left' (hbs_len p)
theorem bytes_t22 (p : Pi) : (bytesP p).take 22 ++ List.replicate 2 0 = bytesP p := by
  have h : (bytesP p).take 22 = hbs p ++ [sumB (hbs p)] := by
    unfold bytesP
    rw [List.take_append, hbs_len, List.take_of_length_le (by rw [hbs_len]; decide)]
    rfl
  rw [h, List.append_assoc]
  rfl

theorem put_yes {b : Nat} {w : World} (p : Pi) (hok : okP p) (hb : w.heap[b]? = some (blk ((List.replicate 24 0).map U) 5)) :
    Ret Tryz.prog 85 #[vP p, sl b 0 24 24] w fun v w' => v = .bool true ∧ Hp w [(b, blk ((bytesP p).map U) 5)] w' := by
  refine Ret_of_W (args := [_, _]) Tryz.func85 rfl Tryz.ntmps85 Tryz.results85 (by simp) ?_
  have H := Hp.focus0 hb
  have hf8 := p.hf
  have hWl := bytes_len p
  obtain ⟨W, hW⟩ : ∃ W, bytesP p = W := ⟨_, rfl⟩
  rw [hW] at hWl
  refine W_seq ?_
  refine W_region_l ?_
  (refine WL_effn rfl (E_boxP H rfl) ?_; clear H; intro bx w3 hbx H)
  refine WL_stepM rfl (R_as) ?_
  refine WL_nil ?_
  refine W_seq ?_
  refine W_seq ?_
  refine W_region_l ?_
  refine WL_step rfl (R_loadP rfl (H.get .here)) ?_
  (refine WL_call rfl (R_call rfl Tryz.call94 rfl) (ok_ret p _) ?_; rintro v w10 ⟨hv, H1⟩; rw [decide_eq_true hok] at hv; subst hv; replace H := H.seq0 H1; clear H1)
  refine WL_step rfl (R_not_t rfl) ?_
  refine WL_nil ?_
  refine W_cond_f rfl ?_
  refine W_skip ?_
  refine W_seq ?_
  refine W_seq ?_
  refine W_region_l ?_
  refine WL_step rfl (R_fieldAddr (off' := 0) Tryz.underlying36 rfl Tryz.sizeOf3 (by decide) rfl rfl) ?_
  refine WL_step rfl (R_load Tryz.isAgg3 rfl (H.get .here) rfl) ?_
  refine WL_step rfl (R_fieldAddr (off' := 1) Tryz.underlying36 rfl Tryz.sizeOf3 (by decide) rfl rfl) ?_
  refine WL_step rfl (R_load Tryz.isAgg3 rfl (H.get .here) rfl) ?_
  refine WL_step rfl (R_fieldAddr (off' := 2) Tryz.underlying36 rfl Tryz.sizeOf3 (by decide) rfl rfl) ?_
  refine WL_step rfl (R_load Tryz.isAgg3 rfl (H.get .here) rfl) ?_
  refine WL_step rfl (R_fieldAddr (off' := 3) Tryz.underlying36 rfl Tryz.sizeOf3 (by decide) rfl rfl) ?_
  refine WL_step rfl (R_load Tryz.isAgg3 rfl (H.get .here) rfl) ?_
  (refine WL_effn rfl (E_buildOnes (vs := [I p.s, I p.p, I p.g, I p.e]) H Tryz.underlying52 Tryz.sizeOf3 Tryz.zeroValue3 rfl rfl (by decide) rfl rfl (by simp [Value.oneCell'])) ?_; clear H; intro b22 w26 hb22 H)
  refine WL_step rfl (R_len_slice Tryz.underlying52 rfl) ?_
  refine WL_stepM rfl (R_mv) ?_
  refine WL_nil ?_
  refine W_block ?_
  refine W_loopS [(5, 6), (24, 34)] (fun (i : Nat) E w' => i ≤ 4 ∧ E 24 = I i ∧ Hp w [(b22, blk [I p.s, I p.p, I p.g, I p.e] 3), (bx, blk (piC p) 36), (b, blk ((W.take i ++ List.replicate (24 - i) 0).map U) 5)] w') (fun i => 4 - i) 0 ?e0 ?r0
  · exact ⟨by omega, rfl, H⟩
  · (clear H; rintro i E w1 ⟨hi, h0, H⟩; refine W_kn h0 ?_; by_cases hlt : i < 4)
    · refine W_seq ?_
      refine W_region_l ?_
      refine WL_step rfl (R_lt_t rfl rfl (by omega)) ?_
      refine WL_nil ?_
      refine W_seq ?_
      refine W_cond_t rfl ?_
      refine W_skip ?_
      refine W_seq ?_
      refine W_block ?_
      refine W_seq ?_
      ((obtain ⟨z, hz1, hz2, hz0⟩ := pickH hok hlt; rw [hW] at hz2)) <;> refine W_region_l ?_
      refine WL_stepM rfl (R_mv) ?_
      refine WL_step rfl (R_indexAddr Tryz.underlying52 Tryz.sizeOf3 rfl rfl (by omega) (by omega) idx0_cast) ?_
      refine WL_step rfl (R_load (v := I z) Tryz.isAgg3 rfl (H.get .here) hz1) ?_
      refine WL_stepM rfl (R_as) ?_
      refine WL_stepM rfl (R_as) ?_
      refine WL_nil ?_
      refine W_region_l ?_
      refine WL_stepM rfl (R_mv) ?_
      refine WL_stepM rfl (R_mv) ?_
      refine WL_stepM rfl (R_mv) ?_
      refine WL_step rfl (R_conv_int Tryz.underlying3 Tryz.underlying5 rfl (u8_b8 (n := z) hz0)) ?_
      refine WL_step rfl (R_indexAddr Tryz.underlying22 Tryz.sizeOf5 rfl rfl (by omega) (by omega) idx0_cast) ?_
      (have _g := hz0; refine WL_effu rfl (E_store (v := U (b8 z)) H Tryz.sizeOf5 rfl rfl rfl (.there (.there .here)) (by simp; omega)) ?_; clear H; intro w56 H; rw [fillW hWl hz2] at H)
      refine WL_nil ?_
      refine W_region_l ?_
      refine WL_step rfl (R_add rfl rfl (w_i64 (by omega))) ?_
      refine WL_stepM rfl (R_mv) ?_
      refine WL_nil ?_
      exact ⟨(same_mov rfl (same_updo rfl (same_updn (same_updo rfl (same_updo rfl (same_mov rfl (same_mov rfl (same_mov rfl (same_mov rfl (same_mov rfl (same_updo rfl (same_updo rfl (same_mov rfl (same_updo rfl same_ovr)))))))))))))), i + 1, by omega, by omega, rfl, H⟩
    · refine W_seq ?_
      refine W_region_l ?_
      refine WL_step rfl (R_lt_f rfl rfl (by omega)) ?_
      refine WL_nil ?_
      refine W_seq ?_
      refine W_cond_f rfl ?_
      refine W_exit ?_
      refine (if_pos rfl).mpr ?_
      refine W_seq ?_
      refine W_seq ?_
      refine W_region_l ?_
      refine WL_step rfl (R_fieldAddr (off' := 4) Tryz.underlying36 rfl Tryz.sizeOf3 (by decide) rfl rfl) ?_
      refine WL_step rfl (R_load Tryz.isAgg3 rfl (H.get (.there .here)) rfl) ?_
      refine WL_step rfl (R_fieldAddr (off' := 5) Tryz.underlying36 rfl Tryz.sizeOf3 (by decide) rfl rfl) ?_
      refine WL_step rfl (R_load Tryz.isAgg3 rfl (H.get (.there .here)) rfl) ?_
      refine WL_step rfl (R_fieldAddr (off' := 6) Tryz.underlying36 rfl Tryz.sizeOf3 (by decide) rfl rfl) ?_
      refine WL_step rfl (R_load Tryz.isAgg3 rfl (H.get (.there .here)) rfl) ?_
      refine WL_step rfl (R_fieldAddr (off' := 7) Tryz.underlying36 rfl Tryz.sizeOf3 (by decide) rfl rfl) ?_
      refine WL_step rfl (R_load Tryz.isAgg3 rfl (H.get (.there .here)) rfl) ?_
      (refine WL_effn rfl (E_buildOnes (vs := [I p.a.toInt, I p.b.toInt, I p.c.toInt, I p.d.toInt]) H Tryz.underlying52 Tryz.sizeOf3 Tryz.zeroValue3 rfl rfl (by decide) rfl rfl (by simp [Value.oneCell'])) ?_; clear H; intro b43 w82 hb43 H)
      refine WL_step rfl (R_len_slice Tryz.underlying52 rfl) ?_
      refine WL_stepM rfl (R_mv) ?_
      refine WL_nil ?_
      refine W_block ?_
      refine W_loopS [(7, 8), (45, 56)] (fun (i : Nat) E w' => i ≤ 4 ∧ E 45 = I i ∧ Hp w [(b43, blk [I p.a.toInt, I p.b.toInt, I p.c.toInt, I p.d.toInt] 3), (b22, blk [I p.s, I p.p, I p.g, I p.e] 3), (bx, blk (piC p) 36), (b, blk ((W.take (4 + 2 * i) ++ List.replicate (24 - (4 + 2 * i)) 0).map U) 5)] w') (fun i => 4 - i) 0 ?e2 ?r2
      · (obtain rfl : i = 4 := (by omega); exact ⟨by omega, rfl, H⟩)
      · (clear H; rintro j E w1 ⟨hj, h0, H⟩; refine W_kn h0 ?_; by_cases hlj : j < 4)
        · refine W_seq ?_
          refine W_region_l ?_
          refine WL_step rfl (R_lt_t rfl rfl (by omega)) ?_
          refine WL_nil ?_
          refine W_seq ?_
          refine W_cond_t rfl ?_
          refine W_skip ?_
          refine W_seq ?_
          refine W_block ?_
          refine W_seq ?_
          ((obtain ⟨x, hz1, hz0, hz2, hz3⟩ := pickS hok hlj; rw [hW] at hz2 hz3)) <;> refine W_region_l ?_
          refine WL_stepM rfl (R_mv) ?_
          refine WL_step rfl (R_indexAddr Tryz.underlying52 Tryz.sizeOf3 rfl rfl (by omega) (by omega) idx0_cast) ?_
          refine WL_step rfl (R_load (v := I x.toInt) Tryz.isAgg3 rfl (H.get .here) hz1) ?_
          refine WL_stepM rfl (R_as) ?_
          refine WL_stepM rfl (R_as) ?_
          refine WL_nil ?_
          refine W_region_l ?_
          refine WL_stepM rfl (R_mv) ?_
          refine WL_stepM rfl (R_mv) ?_
          refine WL_step rfl (R_mul (r := ((2 * j : Nat) : Int)) rfl rfl (by rw [w_i64 (by omega)]; omega)) ?_
          refine WL_step rfl (R_add (r := ((4 + 2 * j : Nat) : Int)) rfl rfl (by rw [w_i64 (by omega)]; omega)) ?_
          refine WL_stepM rfl (R_mv) ?_
          (refine WL_call rfl (R_call rfl Tryz.call95 rfl) (put2_bv (k := 4 + 2 * j) hz0 (H.get (.there (.there (.there .here)))) (by omega) (by simp; omega) (by decide)) ?_; rintro _ w112 ⟨rfl, H1⟩; replace H := H.seq H1 (okSeq_set (.there (.there (.there .here))) okSeq_nil); clear H1; rw [Nat.zero_add, fillW hWl hz2, fillW hWl hz3] at H)
          refine WL_nil ?_
          refine W_region_l ?_
          refine WL_step rfl (R_add rfl rfl (w_i64 (by omega))) ?_
          refine WL_stepM rfl (R_mv) ?_
          refine WL_nil ?_
          exact ⟨(same_mov rfl (same_updo rfl (same_updo rfl (same_mov rfl (same_updo rfl (same_updo rfl (same_mov rfl (same_mov rfl (same_mov rfl (same_mov rfl (same_updo rfl (same_updo rfl (same_mov rfl (same_updo rfl same_ovr)))))))))))))), j + 1, by omega, by omega, rfl, H⟩
        · refine W_seq ?_
          refine W_region_l ?_
          refine WL_step rfl (R_lt_f rfl rfl (by omega)) ?_
          refine WL_nil ?_
          refine W_seq ?_
          refine W_cond_f rfl ?_
          refine W_exit ?_
          refine (if_pos rfl).mpr ?_
          refine W_seq ?_
          refine W_seq ?_
          refine W_region_l ?_
          refine WL_step rfl (R_fieldAddr (off' := 8) Tryz.underlying36 rfl Tryz.sizeOf34 (by decide) rfl rfl) ?_
          refine WL_step rfl (R_loadA (vs := p.f.map fun x => I x) Tryz.isAgg34 Tryz.sizeOf34 rfl (H.get (.there (.there .here))) (hfd p) (by rw [piC_len]; decide)) ?_
          refine WL_stepM rfl (R_mv) ?_
          refine WL_nil ?_
          refine W_block ?_
          refine W_loopS [(9, 10), (59, 69)] (fun (i : Nat) E w' => i ≤ 8 ∧ E 59 = I i ∧ Hp w [(b43, blk [I p.a.toInt, I p.b.toInt, I p.c.toInt, I p.d.toInt] 3), (b22, blk [I p.s, I p.p, I p.g, I p.e] 3), (bx, blk (piC p) 36), (b, blk ((W.take (12 + i) ++ List.replicate (24 - (12 + i)) 0).map U) 5)] w') (fun i => 8 - i) 0 ?e4 ?r4
          · (obtain rfl : j = 4 := (by omega); exact ⟨by omega, rfl, H⟩)
          · (clear H; rintro m E w1 ⟨hm, h0, H⟩; refine W_kn h0 ?_; by_cases hlm : m < 8)
            · refine W_seq ?_
              refine W_region_l ?_
              refine WL_step rfl (R_lt_t rfl rfl (by omega)) ?_
              refine WL_nil ?_
              refine W_seq ?_
              refine W_cond_t rfl ?_
              refine W_skip ?_
              refine W_seq ?_
              refine W_block ?_
              refine W_seq ?_
              ((obtain ⟨z, hz1, hz2, hz0⟩ := pickF hok hlm; rw [hW] at hz2)) <;> refine W_region_l ?_
              refine WL_stepM rfl (R_mv) ?_
              refine WL_step rfl (R_index (v := I z) (cs := p.f.map fun x => I x) Tryz.underlying34 Tryz.isAgg3 Tryz.sizeOf3 rfl rfl (by omega) (by omega) (by rw [Int.toNat_natCast, Nat.mul_one]; exact hz1)) ?_
              refine WL_stepM rfl (R_as) ?_
              refine WL_stepM rfl (R_as) ?_
              refine WL_nil ?_
              refine W_region_l ?_
              refine WL_stepM rfl (R_mv) ?_
              refine WL_stepM rfl (R_mv) ?_
              refine WL_step rfl (R_add (r := ((12 + m : Nat) : Int)) rfl rfl (by rw [w_i64 (by omega)]; omega)) ?_
              refine WL_stepM rfl (R_mv) ?_
              refine WL_step rfl (R_conv_int Tryz.underlying3 Tryz.underlying5 rfl (u8_b8 (n := z) hz0)) ?_
              refine WL_step rfl (R_indexAddr Tryz.underlying22 Tryz.sizeOf5 rfl rfl (by omega) (by omega) idx0_cast) ?_
              (have _g := hb43; refine WL_effu rfl (E_store (v := U (b8 z)) H Tryz.sizeOf5 rfl rfl rfl (.there (.there (.there .here))) (by simp; omega)) ?_; clear H; intro w160 H; rw [fillW hWl hz2] at H)
              refine WL_nil ?_
              refine W_region_l ?_
              refine WL_step rfl (R_add rfl rfl (w_i64 (by omega))) ?_
              refine WL_stepM rfl (R_mv) ?_
              refine WL_nil ?_
              exact ⟨(same_mov rfl (same_updo rfl (same_updn (same_updo rfl (same_updo rfl (same_mov rfl (same_updo rfl (same_mov rfl (same_mov rfl (same_mov rfl (same_mov rfl (same_updo rfl (same_mov rfl (same_updo rfl same_ovr)))))))))))))), m + 1, by omega, by omega, rfl, H⟩
            · refine W_seq ?_
              refine W_region_l ?_
              refine WL_step rfl (R_lt_f rfl rfl (by omega)) ?_
              refine WL_nil ?_
              refine W_seq ?_
              refine W_cond_f rfl ?_
              refine W_exit ?_
              refine (if_pos rfl).mpr ?_
              refine W_seq ?_
              ((obtain rfl : m = 8 := (by omega))) <;> refine W_region_l ?_
              refine WL_stepM rfl (R_mv) ?_
              refine WL_step rfl (R_indexAddr (off' := 20) Tryz.underlying22 Tryz.sizeOf5 rfl rfl (by omega) (by omega) rfl) ?_
              (refine WL_effu rfl (E_store (v := U 167) H Tryz.sizeOf5 rfl rfl rfl (.there (.there (.there .here))) (by simp; omega)) ?_; clear H; intro w179 H; rw [fillW hWl (by rw [← hW]; exact bytes_20 p)] at H)
              refine WL_nil ?_
              refine W_seq ?_
              refine W_region_l ?_
              refine WL_stepM rfl (R_mv) ?_
              refine WL_stepM rfl (R_mv) ?_
              refine WL_step rfl (R_to (i := 21) Tryz.underlying22 Tryz.sizeOf5 rfl rfl (by decide) (by decide)) ?_
              (refine WL_call rfl (R_call rfl Tryz.call67 rfl) (sum_ret (xs := hbs p) (RdS.blk (H.get (.there (.there (.there .here)))) (by rw [List.drop_zero, ← List.map_take, List.take_left' (by simp; omega), ← hW, bytes_t21]) (by simp; omega) (by decide)) (by rw [hbs_len]; decide)) ?_; rintro _ w186 ⟨rfl, H1⟩; replace H := H.seq0 H1; clear H1)
              refine WL_step rfl (R_indexAddr (off' := 21) Tryz.underlying22 Tryz.sizeOf5 rfl rfl (by omega) (by omega) rfl) ?_
              (refine WL_effu rfl (E_store (v := U (sumB (hbs p))) H Tryz.sizeOf5 rfl rfl rfl (.there (.there (.there .here))) (by simp; omega)) ?_; clear H; intro w188 H; rw [fillW hWl (by rw [← hW]; exact bytes_21 p), ← hW, bytes_t22] at H)
              refine WL_nil ?_
              refine W_seq ?_
              refine W_region_l ?_
              refine WL_stepM rfl (R_as) ?_
              refine WL_nil ?_
              refine W_ret ?_
              exact ⟨_, rfl, rfl, Hp.dropN (M := [_, _, _]) H (kCons hb43 (kCons hb22 (kCons hbx kNil)))⟩
end Go.Proofs.YthonajikgljgmaaGreat.Slot

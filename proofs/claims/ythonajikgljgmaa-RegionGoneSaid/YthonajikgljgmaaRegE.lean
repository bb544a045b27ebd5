/-
  The law RegionOnly.
-/
import Derived.Test.YthonajikgljgmaaRegD
namespace Go.Proofs.Ythonajikgljgmaa.Reg
open Go Go.Proofs Go.Proofs.Ythonajikgljgmaa.Fx Go.Proofs.Ythonajikgljgmaa.TabC Go.Proofs.Ythonajikgljgmaa.Caps
set_option maxRecDepth 100000
set_option linter.unusedVariables false
set_option linter.unusedSimpArgs false
set_option maxHeartbeats 8000000

def bt (x : Int) : UInt8 := UInt8.ofNat (x % 256).toNat
theorem bt_wrap (x : Int) : IntKind.u8.wrap x = ((bt x).toNat : Int) := by
  unfold bt
  rw [UInt8.toNat_ofNat', IntKind.wrap_u8]
  omega
theorem write_noU {w : World} {rr : Nat} {env nm at_ e : Int} {bv : Value} {ys : List UInt8} (hl : RdS w bv (ys.map U)) (hy : ys.length ≤ 9223372036854775807) (hP : Ret Try.prog 45 #[ptr rr 0, I env, I nm, I 2, I at_, I ys.length] w fun v w' => v = .tuple #[I 0, I e] ∧ Hp w [] w') (he : e ≠ 0) :
    Ret Try.prog 20 #[ptr rr 0, I env, I nm, I at_, bv] w fun v w' => v = I e ∧ Hp w [] w' :=
  write_no hl (by rw [List.length_map]; exact hy) (by rw [List.length_map]; exact hP) he
theorem put0 {xs ys : List UInt8} (h : ys.length = xs.length) : Mem.put xs ys 0 = ys := by
  unfold Mem.put
  rw [List.take_zero, List.nil_append, Nat.zero_add, List.drop_of_length_le (by omega), List.append_nil]
theorem put_in {xs ys : List UInt8} {p i : Nat} (h : p + ys.length ≤ xs.length) (h1 : p ≤ i) (h2 : i < p + ys.length) : (Mem.put xs ys p)[i]? = ys[i - p]? := by
  unfold Mem.put
  have hl : (xs.take p).length = p := by rw [List.length_take]; omega
  rw [List.append_assoc, List.getElem?_append_right (by omega), hl, List.getElem?_append_left (by omega)]
theorem put_out {xs ys : List UInt8} {p i : Nat} (h : p + ys.length ≤ xs.length) (h1 : i < p ∨ p + ys.length ≤ i) : (Mem.put xs ys p)[i]? = xs[i]? := by
  unfold Mem.put
  have hl : (xs.take p).length = p := by rw [List.length_take]; omega
  rcases h1 with h1 | h1
  · rw [List.append_assoc, List.getElem?_append_left (by omega), List.getElem?_take_of_lt h1]
  · rw [List.getElem?_append_right (by rw [List.length_append]; omega), List.length_append, hl, List.getElem?_drop]
    congr 1; omega

theorem only_in {w : World} {ys : List UInt8} {l : Value} {lo n at_ : Int} (hl : RdS w l (ys.map U)) (hy : ys.length ≤ 200) (hV : 0 ≤ at_ ∧ at_ ≤ n % 64 ∧ (ys.length : Int) ≤ n % 64 - at_) :
    Ret Try.prog 3 #[I lo, I n, I at_, l] w fun v w' => v = .bool true ∧ Hp w [] w' := by
  refine Ret_of_W (args := [_, _, _, _]) Try.func3 rfl Try.ntmps3 Try.results3 (by simp) ?_
  have H := Hp.refl w
  obtain ⟨ao, ca0, rfl⟩ := hl.form
  simp only [List.length_map] at hl ⊢
  obtain ⟨L, hL, hL2⟩ : ∃ L : Nat, lo % 64 = (L : Int) ∧ L < 64 := ⟨(lo % 64).toNat, by omega, by omega⟩
  obtain ⟨N, hN, hN2⟩ : ∃ N : Nat, n % 64 = (N : Int) ∧ N < 64 := ⟨(n % 64).toNat, by omega, by omega⟩
  rw [hN] at hV
  obtain ⟨A, rfl⟩ : ∃ A : Nat, at_ = (A : Int) := ⟨at_.toNat, by omega⟩
  obtain ⟨ta, hta, hal, hag, ha0⟩ := tset t0_len t0_g (i := 0) (by decide) ⟨cp 0 (7 : Nat) 0 128 0 0, newPl.g, true⟩ (by decide)
  obtain ⟨tb, htb, hbl, hbg, hb0⟩ := tset t0_len t0_g (i := 0) (by decide) ⟨cp 0 3 (0 + (L : Int)) (N : Int) (0 : Nat) (0 + 256 * newPl.g : Nat), newPl.g, true⟩ (show newPl.g ≤ 1000001 by decide)
  obtain ⟨zs, hzs, hzl⟩ : ∃ zs : List UInt8, zs = List.replicate 128 0 ∧ zs.length = 128 := ⟨_, rfl, by simp⟩
  refine W_seq ?_
  refine W_region_l ?_
  refine WL_stepM rfl (R_as) ?_
  refine WL_nil ?_
  refine W_seq ?_
  refine W_region_l ?_
  (refine WL_call rfl (R_call rfl Try.call12 rfl) (Mem.new_ret 2 _) ?_; rintro _ w7 ⟨m, mb, rfl, H1, hm, hmb⟩; rw [show Mem.szOf 2 = 128 from rfl, ← Mem.zmap, ← hzs] at H1; replace H := H.seqN H1 (kCons hm (kCons hmb kNil)); replace H : Hp w [(m, blk [sl mb 0 128 128] 87), (mb, blk (zs.map U) 5)] w7 := H; clear H1)
  (refine WL_call rfl (R_call rfl Try.call13 rfl) (Caps.new_ret (E := 2) (by decide) (by decide) _) ?_; rintro _ w8 ⟨s, bs, cap, sp, PB, rfl, hPl, hs, hbs, hPB, H1⟩; obtain ⟨p0, b0, p1, b1, rfl⟩ := two hPl; have hsz := H.size; replace H := H.seqN H1 (spB_keys hs hbs hPB); clear H1; obtain ⟨hp0, hb0'⟩ := hPB (p0, b0) (.head _); obtain ⟨hp1, hb1'⟩ := hPB (p1, b1) (.tail _ (.head _)); replace hs := Nat.le_trans hsz hs; replace hbs := Nat.le_trans hsz hbs; replace hp0 : w.heap.size ≤ p0 := Nat.le_trans hsz hp0; replace hb0' : w.heap.size ≤ b0 := Nat.le_trans hsz hb0'; replace hp1 : w.heap.size ≤ p1 := Nat.le_trans hsz hp1; replace hb1' : w.heap.size ≤ b1 := Nat.le_trans hsz hb1'; clear hPB hPl hsz; replace H : Hp w [(s, blk [sl bs 0 2 cap] 90), (bs, blk (ptrs [(p0, b0), (p1, b1)] ++ sp) 91), (p0, blk [sl b0 0 32 32] 135), (b0, blk (rows plc t0) 137), (p1, blk [sl b1 0 32 32] 135), (b1, blk (rows plc t0) 137), (m, blk [sl mb 0 128 128] 87), (mb, blk (zs.map U) 5)] w8 := H)
  refine WL_stepM rfl (R_as) ?_
  refine WL_stepM rfl (R_as) ?_
  refine WL_nil ?_
  refine W_seq ?_
  refine W_region_l ?_
  refine WL_stepM rfl (R_mv) ?_
  refine WL_stepM rfl (R_mv) ?_
  (refine WL_call rfl (R_call rfl Try.call14 rfl) (new_ret m s _) ?_; rintro _ w16 ⟨rr, rfl, hrr, H1⟩; have hsz := H.size; replace H := H.seqN H1 (kCons hrr kNil); clear H1; replace hrr := Nat.le_trans hsz hrr; clear hsz; replace H : Hp w [(rr, blk [ptr m 0, ptr s 0, nilS] 95), (s, blk [sl bs 0 2 cap] 90), (bs, blk (ptrs [(p0, b0), (p1, b1)] ++ sp) 91), (p0, blk [sl b0 0 32 32] 135), (b0, blk (rows plc t0) 137), (p1, blk [sl b1 0 32 32] 135), (b1, blk (rows plc t0) 137), (m, blk [sl mb 0 128 128] 87), (mb, blk (zs.map U) 5)] w16 := H)
  refine WL_stepM rfl (R_as) ?_
  refine WL_nil ?_
  refine W_seq ?_
  refine W_seq ?_
  refine W_region_l ?_
  refine WL_stepM rfl (R_mv) ?_
  refine WL_step rfl (R_eq_ptr_nil Try.underlying23 rfl rfl) ?_
  refine WL_stepM rfl (R_mv) ?_
  refine WL_guard_t rfl rfl ?_
  refine WL_stepM rfl (R_mv) ?_
  refine WL_guard_t rfl rfl ?_
  refine WL_step rfl (R_eq_ptr_nil Try.underlying25 rfl rfl) ?_
  refine WL_stepM rfl (R_pk_f rfl) ?_
  refine WL_stepM rfl (R_mv) ?_
  refine WL_guard_t rfl rfl ?_
  refine WL_stepM rfl (R_mv) ?_
  refine WL_guard_t rfl rfl ?_
  refine WL_step rfl (R_eq_ptr_nil Try.underlying27 rfl rfl) ?_
  refine WL_stepM rfl (R_pk_f rfl) ?_
  refine WL_stepM rfl (R_mv) ?_
  refine WL_guard_t rfl rfl ?_
  refine WL_stepM rfl (R_mv) ?_
  refine WL_guard_t rfl rfl ?_
  refine WL_step rfl (R_len_slice Try.underlying22 rfl) ?_
  refine WL_guard_t rfl rfl ?_
  refine WL_step rfl (R_gt_f rfl rfl (by omega)) ?_
  refine WL_stepM rfl (R_pk_f rfl) ?_
  refine WL_nil ?_
  refine W_cond_f rfl ?_
  refine W_skip ?_
  refine W_seq ?_
  refine W_region_l ?_
  (refine WL_effn rfl (E_makeSlice H Try.underlying22 Try.sizeOf5 Try.typeInfo5 Try.zeroValue5 rfl rfl rfl (by omega) (by omega) (by omega) (by simp only [Try.t5]; omega)) ?_; clear H; intro al w49 hall H; replace H : Hp w [(al, blk (zs.map U) 5), (rr, blk [ptr m 0, ptr s 0, nilS] 95), (s, blk [sl bs 0 2 cap] 90), (bs, blk (ptrs [(p0, b0), (p1, b1)] ++ sp) 91), (p0, blk [sl b0 0 32 32] 135), (b0, blk (rows plc t0) 137), (p1, blk [sl b1 0 32 32] 135), (b1, blk (rows plc t0) 137), (m, blk [sl mb 0 128 128] 87), (mb, blk (zs.map U) 5)] w49 := by rw [hzs, Mem.zmap]; rw [hzs, Mem.zmap] at H; exact H)
  refine WL_stepM rfl (R_as) ?_
  refine WL_nil ?_
  refine W_seq ?_
  refine W_seq ?_
  refine W_region_l ?_
  refine WL_stepM rfl (R_mv) ?_
  refine WL_step rfl (R_len_slice Try.underlying22 rfl) ?_
  refine WL_stepM rfl (R_mv) ?_
  refine WL_nil ?_
  refine W_block ?_
  refine W_loopS [(13, 13), (66, 75)] (fun (i : Nat) E w' => ∃ av : List UInt8, i ≤ 128 ∧ av.length = 128 ∧ E 66 = I i ∧ Hp w [(al, blk (av.map U) 5), (rr, blk [ptr m 0, ptr s 0, nilS] 95), (s, blk [sl bs 0 2 cap] 90), (bs, blk (ptrs [(p0, b0), (p1, b1)] ++ sp) 91), (p0, blk [sl b0 0 32 32] 135), (b0, blk (rows plc t0) 137), (p1, blk [sl b1 0 32 32] 135), (b1, blk (rows plc t0) 137), (m, blk [sl mb 0 128 128] 87), (mb, blk (zs.map U) 5)] w') (fun i => 128 - i) 0 ?e0 ?r0
  · exact ⟨zs, by omega, hzl, rfl, H⟩
  · (clear H; rintro i E w1 ⟨av, hi, hasl, h0, H⟩; refine W_kn h0 ?_)
    refine W_seq ?_
    refine W_region_l ?_
    refine WL_step rfl (R_lt rfl rfl) ?_
    refine WL_nil ?_
    refine W_seq ?_
    refine W_if rfl (fun h67 => ?_) (fun h67 => ?_)
    · refine W_skip ?_
      refine W_seq ?_
      refine W_block ?_
      refine W_seq ?_
      refine W_region_l ?_
      refine WL_stepM rfl (R_mv) ?_
      refine WL_stepM rfl (R_as) ?_
      refine WL_nil ?_
      refine W_region_l ?_
      refine WL_stepM rfl (R_mv) ?_
      refine WL_stepM rfl (R_mv) ?_
      refine WL_stepM rfl (R_mv) ?_
      refine WL_step rfl (R_add rfl rfl (w_i64 (by omega))) ?_
      refine WL_step rfl (R_conv_int (r := ((bt ((i : Int) + 1)).toNat : Int)) Try.underlying3 Try.underlying5 rfl (bt_wrap ((i : Int) + 1))) ?_
      refine WL_step rfl (R_indexAddr (off' := i) Try.underlying22 Try.sizeOf5 rfl rfl (by omega) (by omega) (by omega)) ?_
      (refine WL_effu rfl (E_store (v := U (bt ((i : Int) + 1))) H Try.sizeOf5 rfl rfl rfl .here (by rw [List.length_map, hasl]; omega)) ?_; clear H; intro w83 H; rw [← List.map_set] at H)
      refine WL_nil ?_
      refine W_region_l ?_
      refine WL_step rfl (R_add rfl rfl (w_i64 (by omega))) ?_
      refine WL_stepM rfl (R_mv) ?_
      refine WL_nil ?_
      exact ⟨(same_mov rfl (same_updo rfl (same_updn (same_updo rfl (same_updo rfl (same_updo rfl (same_mov rfl (same_mov rfl (same_mov rfl (same_mov rfl (same_mov rfl (same_know rfl (same_updo rfl same_ovr))))))))))))), i + 1, by omega, av.set i (bt ((i : Int) + 1)), by omega, by rw [List.length_set]; exact hasl, rfl, H⟩
    · refine W_exit ?_
      refine (if_pos rfl).mpr ?_
      refine W_seq ?_
      refine W_region_l ?_
      refine WL_stepM rfl (R_mv) ?_
      refine WL_stepM rfl (R_mv) ?_
      (refine WL_call rfl (R_call rfl Try.call16 rfl) (Mem.store_yes (xs := zs) (ys := av) 0 (H.get (.there (.there (.there (.there (.there (.there (.there (.there .here))))))))) (H.get (.there (.there (.there (.there (.there (.there (.there (.there (.there .here)))))))))) hzl (by omega) (RdS.blk (c := av.map U) (off := 0) (m := 128) (cap := 128) (H.get .here) (by rw [List.drop_zero, List.take_of_length_le (by rw [List.length_map]; omega)]) (by rw [List.length_map]; omega) (by omega)) (by omega)) ?_; rintro _ w96 ⟨rfl, H1⟩; rw [put0 (by omega)] at H1; replace H := H.seq H1 (okSeq_set (.there (.there (.there (.there (.there (.there (.there (.there (.there .here))))))))) okSeq_nil); clear H1)
      refine WL_nil ?_
      refine W_seq ?_
      refine W_region_l ?_
      refine WL_stepM rfl (R_mv) ?_
      (refine WL_call rfl (R_call rfl Try.call17 rfl) (add_ret (xs := av) (H.get (.there .here)) (H.get (.there (.there (.there (.there (.there (.there (.there (.there .here))))))))) hasl (by decide) (lo := 0) (n := 128) (by decide) (by decide) (by decide)) ?_; rintro _ w101 ⟨a, ca, sp2, rfl, ha, H1⟩; have hsz := H.size; replace H := H.seq H1 (okSeq_set (.there .here) (okSeq_new ha okSeq_nil)); clear H1; replace ha := Nat.le_trans hsz ha; clear hsz)
      refine WL_stepM rfl (R_mv) ?_
      refine WL_step rfl (R_extract rfl rfl) ?_
      refine WL_step rfl (R_extract rfl rfl) ?_
      refine WL_stepM rfl (R_as) ?_
      refine WL_stepM rfl (R_as) ?_
      refine WL_nil ?_
      refine W_seq ?_
      refine W_region_l ?_
      refine WL_stepM rfl (R_mv) ?_
      refine WL_stepM rfl (R_mv) ?_
      refine WL_step rfl (R_buildL (places := [(0, 1), (1, 1), (2, 1), (3, 1), (4, 2)]) (vs := (cp 0 (7 : Nat) 0 128 0 0).c) Try.underlying38 Try.typeInfo38 rfl rfl (by kernel_rfl) rfl rfl rfl) ?_
      (refine WL_call rfl (R_call rfl Try.call18 rfl) (put_yes (j := 0) (i := 0) (r := 7) (o := 0) (lo := 0) (n := 128) (re := 0) (rn := 0) (Sp.from H (PB := [(p0, b0), (p1, b1)]) (ts := [t0, t0]) bs cap sp (inv2 t0_len t0_g t0_len t0_g) (fun _ hp => .tail _ (.tail _ (.tail _ (List.mem_append_left _ hp))))) rfl rfl (by decide) (by decide) (by decide) t0_at new_free (fun _ _ h => absurd h (Nat.not_lt_zero _))) ?_; rintro _ w113 ⟨rfl, H1⟩; rw [hta] at H1; replace H := H.seq H1 (okSeq_set (.there (.there (.there (.there (.there (.there .here)))))) okSeq_nil); clear H1)
      refine WL_stepM rfl (R_mv) ?_
      refine WL_step rfl (R_extract rfl rfl) ?_
      refine WL_step rfl (R_extract rfl rfl) ?_
      refine WL_stepM rfl (R_as) ?_
      refine WL_stepM rfl (R_as) ?_
      refine WL_nil ?_
      refine W_seq ?_
      refine W_region_l ?_
      refine WL_stepM rfl (R_mv) ?_
      refine WL_step rfl (R_bits (r := (L : Int)) rfl rfl (by simp) ((and_mask_i64 6 64 (by decide) rfl (by decide)).trans hL)) ?_
      refine WL_stepM rfl (R_as) ?_
      refine WL_nil ?_
      refine W_seq ?_
      refine W_region_l ?_
      refine WL_stepM rfl (R_mv) ?_
      refine WL_step rfl (R_bits (r := (N : Int)) rfl rfl (by simp) ((and_mask_i64 6 64 (by decide) rfl (by decide)).trans hN)) ?_
      refine WL_stepM rfl (R_as) ?_
      refine WL_nil ?_
      refine W_seq ?_
      refine W_region_l ?_
      refine WL_stepM rfl (R_mv) ?_
      refine WL_stepM rfl (R_mv) ?_
      refine WL_stepM rfl (R_mv) ?_
      refine WL_stepM rfl (R_mv) ?_
      (refine WL_call rfl (R_call rfl Try.call19 rfl) (grant_yes (j := 0) (i := 0) (k := 1) (i2 := 0) (l1 := L) (n1 := N) (gv := 3) (z := 4) (Sp.from H (PB := [(p0, b0), (p1, b1)]) (ts := [ta, t0]) bs cap sp (inv2 hal hag t0_len t0_g) (fun _ hp => .tail _ (.tail _ (.tail _ (List.mem_append_left _ hp))))) rfl rfl ha0 rfl rfl t0_at new_free (fun _ _ h => absurd h (Nat.not_lt_zero _)) (by decide) (by decide) (by decide) (by decide) (by decide) (by omega) (by omega)) ?_; rintro _ w138 ⟨rfl, H1⟩; rw [htb] at H1; replace H := H.seq H1 (okSeq_set (.there (.there (.there (.there (.there (.there (.there (.there .here)))))))) okSeq_nil); clear H1)
      refine WL_stepM rfl (R_mv) ?_
      refine WL_step rfl (R_extract rfl rfl) ?_
      refine WL_step rfl (R_extract rfl rfl) ?_
      refine WL_stepM rfl (R_as) ?_
      refine WL_stepM rfl (R_as) ?_
      refine WL_nil ?_
      refine W_seq ?_
      refine W_seq ?_
      refine W_region_l ?_
      refine WL_stepM rfl (R_mv) ?_
      refine WL_step rfl (R_ne_f rfl rfl (by omega)) ?_
      refine WL_nil ?_
      refine W_cond_f rfl ?_
      refine W_skip ?_
      refine W_seq ?_
      refine W_region_l ?_
      refine WL_stepM rfl (R_mv) ?_
      refine WL_step rfl (R_ge_t rfl rfl (by omega)) ?_
      refine WL_stepM rfl (R_mv) ?_
      refine WL_guard_t rfl rfl ?_
      refine WL_stepM rfl (R_mv) ?_
      refine WL_guard_t rfl rfl ?_
      refine WL_stepM rfl (R_mv) ?_
      refine WL_guard_t rfl rfl ?_
      refine WL_step rfl (R_le_t rfl rfl (by omega)) ?_
      refine WL_stepM rfl (R_pk_t rfl) ?_
      refine WL_stepM rfl (R_mv) ?_
      refine WL_guard_t rfl rfl ?_
      refine WL_stepM rfl (R_mv) ?_
      refine WL_guard_t rfl rfl ?_
      refine WL_step rfl (R_len_slice Try.underlying22 rfl) ?_
      refine WL_guard_t rfl rfl ?_
      refine WL_stepM rfl (R_mv) ?_
      refine WL_guard_t rfl rfl ?_
      refine WL_stepM rfl (R_mv) ?_
      refine WL_guard_t rfl rfl ?_
      refine WL_step rfl (R_sub rfl rfl (w_i64 (by omega))) ?_
      refine WL_guard_t rfl rfl ?_
      refine WL_step rfl (R_le_t rfl rfl (by omega)) ?_
      refine WL_stepM rfl (R_pk_t rfl) ?_
      refine WL_stepM rfl (R_as) ?_
      refine WL_nil ?_
      refine W_seq ?_
      refine W_seq ?_
      refine W_region_l ?_
      refine WL_stepM rfl (R_mv) ?_
      refine WL_stepM rfl (R_mv) ?_
      refine WL_stepM rfl (R_mv) ?_
      refine WL_stepM rfl (R_mv) ?_
      (refine WL_call rfl (R_call rfl Try.call20 rfl) (write_yes (xs := av) (ys := ys) (p := L + A) (hl.monoN H (by repeat' first | exact kNil | apply kCons | apply kApp | assumption | exact OwnS.keys (by assumption))) (place_to (j := 1) (i := 0) (z := 2) (k := ys.length) (at_ := A) (lo := 0 + (L : Int)) (rlo := 0) (rn := 128) (by omega) (H.get (.there (.there .here))) (H.get .here) (Sp.from H (PB := [(p0, b0), (p1, b1)]) (ts := [ta, tb]) bs cap sp (inv2 hal hag hbl hbg) (fun _ hp => .tail _ (.tail _ (.tail _ (List.mem_append_left _ hp))))) rfl rfl hb0 (by decide) (by decide) (by omega) (by omega) (by decide) (by decide) (by omega) (by omega) (by omega)) (H.get (.there (.there .here))) (H.get (.there (.there (.there (.there (.there (.there (.there (.there (.there .here)))))))))) (H.get (.there (.there (.there (.there (.there (.there (.there (.there (.there (.there .here))))))))))) hasl (by decide) (by omega)) ?_; rintro _ w188 ⟨rfl, H1⟩; obtain ⟨us, hus, hul⟩ : ∃ us : List UInt8, us = Mem.put av ys (L + A) ∧ us.length = 128 := ⟨_, rfl, by rw [Mem.put_length (by omega)]; exact hasl⟩; rw [← hus] at H1; replace H := H.seq H1 (okSeq_set (.there (.there (.there (.there (.there (.there (.there (.there (.there (.there .here)))))))))) okSeq_nil); clear H1)
      refine WL_stepM rfl (R_as) ?_
      refine WL_nil ?_
      refine W_seq ?_
      refine W_region_l ?_
      refine WL_stepM rfl (R_mv) ?_
      refine WL_step rfl (R_eq_t rfl rfl (by omega)) ?_
      refine WL_stepM rfl (R_mv) ?_
      refine WL_step rfl (R_ne_bool_f Try.underlying4 rfl rfl (by decide)) ?_
      refine WL_stepM rfl (R_mv) ?_
      refine WL_guard_t rfl rfl ?_
      refine WL_stepM rfl (R_mv) ?_
      refine WL_guard_t rfl rfl ?_
      refine WL_step rfl (R_not_t rfl) ?_
      refine WL_guard_t rfl rfl ?_
      refine WL_stepM rfl (R_mv) ?_
      refine WL_guard_f rfl rfl (by decide) ?_
      refine WL_guard_f rfl rfl (by decide) ?_
      refine WL_guard_t rfl rfl ?_
      refine WL_stepM rfl (R_pk_f rfl) ?_
      refine WL_stepM rfl (R_pk_f rfl) ?_
      refine WL_nil ?_
      refine W_cond_f rfl ?_
      refine W_skip ?_
      refine W_seq ?_
      refine W_region_l ?_
      refine WL_stepM rfl (R_mv) ?_
      (refine WL_call rfl (R_call rfl Try.call21 rfl) (Mem.load_yes (xs := us) 0 128 (H.get (.there (.there (.there (.there (.there (.there (.there (.there (.there .here)))))))))) (H.get (.there (.there (.there (.there (.there (.there (.there (.there (.there (.there .here))))))))))) hul (by omega) (by omega)) ?_; rintro _ w215 ⟨_, M, rfl, hO, H1⟩; rw [List.drop_zero, List.take_of_length_le (by omega)] at hO; have h215 := H.seqO hO H1; clear H H1 hO; obtain ⟨hO, H⟩ := h215; obtain ⟨ub, uc, usp, rfl, hub, rfl, husp, huc⟩ := OwnS.pos hO (by omega); replace H : Hp w [(ub, blk (us.map U ++ usp) 5), (a, blk ([I 0, I 128] ++ sp2) 98), (al, blk (av.map U) 5), (rr, blk [ptr m 0, ptr s 0, sl a 0 1 ca] 95), (s, blk [sl bs 0 2 cap] 90), (bs, blk (ptrs [(p0, b0), (p1, b1)] ++ sp) 91), (p0, blk [sl b0 0 32 32] 135), (b0, blk (rows plc ta) 137), (p1, blk [sl b1 0 32 32] 135), (b1, blk (rows plc tb) 137), (m, blk [sl mb 0 128 128] 87), (mb, blk (us.map U) 5)] w215 := H)
      refine WL_stepM rfl (R_mv) ?_
      refine WL_step rfl (R_extract rfl rfl) ?_
      refine WL_step rfl (R_extract rfl rfl) ?_
      refine WL_stepM rfl (R_as) ?_
      refine WL_stepM rfl (R_as) ?_
      refine WL_nil ?_
      refine W_seq ?_
      refine W_seq ?_
      refine W_region_l ?_
      refine WL_stepM rfl (R_mv) ?_
      refine WL_step rfl (R_ne_f rfl rfl (by omega)) ?_
      refine WL_stepM rfl (R_mv) ?_
      refine WL_guard_t rfl rfl ?_
      refine WL_stepM rfl (R_mv) ?_
      refine WL_guard_t rfl rfl ?_
      refine WL_step rfl (R_len_slice Try.underlying22 rfl) ?_
      refine WL_guard_t rfl rfl ?_
      refine WL_step rfl (R_ne_f rfl rfl (by omega)) ?_
      refine WL_stepM rfl (R_pk_f rfl) ?_
      refine WL_nil ?_
      refine W_cond_f rfl ?_
      refine W_skip ?_
      refine W_seq ?_
      refine W_seq ?_
      refine W_region_l ?_
      refine WL_stepM rfl (R_as) ?_
      refine WL_nil ?_
      refine W_block ?_
      refine W_loopS [(8, 8), (24, 25), (149, 188)] (fun (i : Nat) E w' => i ≤ 128 ∧ E 24 = I i ∧ Hp w [(ub, blk (us.map U ++ usp) 5), (a, blk ([I 0, I 128] ++ sp2) 98), (al, blk (av.map U) 5), (rr, blk [ptr m 0, ptr s 0, sl a 0 1 ca] 95), (s, blk [sl bs 0 2 cap] 90), (bs, blk (ptrs [(p0, b0), (p1, b1)] ++ sp) 91), (p0, blk [sl b0 0 32 32] 135), (b0, blk (rows plc ta) 137), (p1, blk [sl b1 0 32 32] 135), (b1, blk (rows plc tb) 137), (m, blk [sl mb 0 128 128] 87), (mb, blk (us.map U) 5)] w') (fun i => 128 - i) 0 ?e2 ?r2
      · exact ⟨by omega, rfl, H⟩
      · (clear H; rintro i E w1 ⟨hi, h0, H⟩; refine W_kn h0 ?_)
        refine W_seq ?_
        refine W_seq ?_
        refine W_region_l ?_
        refine WL_stepM rfl (R_mv) ?_
        refine WL_step rfl (R_lt rfl rfl) ?_
        refine WL_nil ?_
        refine W_if rfl (fun h252 => ?_) (fun h252 => ?_)
        · refine W_skip ?_
          refine W_seq ?_
          refine W_block ?_
          refine W_seq ?_
          ((obtain ⟨x, hx⟩ : ∃ x, us[i]? = some x := ⟨_, List.getElem?_eq_getElem (by omega)⟩; obtain ⟨y, hyy⟩ : ∃ y, av[i]? = some y := ⟨_, List.getElem?_eq_getElem (by omega)⟩)) <;> refine W_region_l ?_
          refine WL_stepM rfl (R_mv) ?_
          refine WL_stepM rfl (R_mv) ?_
          refine WL_step rfl (R_indexAddr (off' := i) Try.underlying22 Try.sizeOf5 rfl rfl (by omega) (by omega) (by omega)) ?_
          refine WL_step rfl (R_load (v := U y) Try.isAgg5 rfl (H.get (.there (.there .here))) (by rw [List.getElem?_map, hyy]; rfl)) ?_
          refine WL_stepM rfl (R_as) ?_
          refine WL_nil ?_
          refine W_seq ?_
          refine W_seq ?_
          refine W_region_l ?_
          refine WL_stepM rfl (R_mv) ?_
          refine WL_stepM rfl (R_mv) ?_
          refine WL_guard_t rfl rfl ?_
          refine WL_stepM rfl (R_mv) ?_
          refine WL_guard_t rfl rfl ?_
          refine WL_stepM rfl (R_mv) ?_
          refine WL_guard_t rfl rfl ?_
          refine WL_stepM rfl (R_mv) ?_
          refine WL_guard_t rfl rfl ?_
          refine WL_step rfl (R_add rfl rfl (w_i64 (by omega))) ?_
          refine WL_guard_t rfl rfl ?_
          refine WL_step rfl (R_ge rfl rfl) ?_
          refine WL_stepM rfl (R_pk_t rfl) ?_
          refine WL_stepM rfl (R_mv) ?_
          apply WL_andK 9 165 174 [(166, 174)] H
          case hc => rfl
          case h1 =>
            intro h281
            refine WL_guard_t rfl rfl ?_
            refine WL_stepM rfl (R_mv) ?_
            refine WL_guard_t rfl rfl ?_
            refine WL_stepM rfl (R_mv) ?_
            refine WL_guard_t rfl rfl ?_
            refine WL_stepM rfl (R_mv) ?_
            refine WL_guard_t rfl rfl ?_
            refine WL_step rfl (R_add rfl rfl (w_i64 (by omega))) ?_
            refine WL_guard_t rfl rfl ?_
            refine WL_stepM rfl (R_mv) ?_
            refine WL_guard_t rfl rfl ?_
            refine WL_step rfl (R_len_slice Try.underlying22 rfl) ?_
            refine WL_guard_t rfl rfl ?_
            refine WL_step rfl (R_add rfl rfl (w_i64 (by omega))) ?_
            refine WL_guard_t rfl rfl ?_
            refine WL_step rfl (R_lt rfl rfl) ?_
            refine WL_stepM rfl (R_pk_t rfl) ?_
            refine WL_nil ?_
            exact ⟨(same_mov rfl (same_updo rfl (same_updo rfl (same_updo rfl (same_mov rfl (same_updo rfl (same_mov rfl (same_mov rfl (same_mov rfl Same.refl))))))))), rfl, H⟩
          case h0 =>
            intro h281
            refine WL_guard_f rfl rfl (by decide) ?_
            refine WL_guard_f rfl rfl (by decide) ?_
            refine WL_guard_f rfl rfl (by decide) ?_
            refine WL_guard_f rfl rfl (by decide) ?_
            refine WL_guard_f rfl rfl (by decide) ?_
            refine WL_guard_f rfl rfl (by decide) ?_
            refine WL_guard_f rfl rfl (by decide) ?_
            refine WL_guard_f rfl rfl (by decide) ?_
            refine WL_stepM rfl (R_pk_f rfl) ?_
            refine WL_nil ?_
            exact ⟨(same_mov rfl (same_updo rfl (same_updo rfl (same_updo rfl (same_updo rfl (same_updo rfl (same_updo rfl (same_updo rfl (same_updo rfl Same.refl))))))))), rfl, H⟩
          case h2 =>
            (clear H; intro E281 w281 H)
            refine WL_nil ?_
            refine W_if rfl (fun h313 => ?_) (fun h313 => ?_)
            · (obtain ⟨z, hz⟩ : ∃ z, ys[i - (L + A)]? = some z := ⟨_, List.getElem?_eq_getElem (by omega)⟩; obtain rfl : x = z := (by rw [hus, put_in (by omega) (by omega) (by omega), hz] at hx; exact (Option.some.inj hx).symm); obtain ⟨b1, o1, rfl, hc1⟩ := hl.cell (i := i - (L + A)) (u := U x) (by rw [List.getElem?_map, hz]; rfl); refine W_region_l ?_)
              refine WL_stepM rfl (R_mv) ?_
              refine WL_stepM rfl (R_mv) ?_
              refine WL_stepM rfl (R_mv) ?_
              refine WL_step rfl (R_sub rfl rfl (w_i64 (by omega))) ?_
              refine WL_stepM rfl (R_mv) ?_
              refine WL_step rfl (R_sub (r := ((i - (L + A) : Nat) : Int)) rfl rfl (by rw [w_i64 (by omega)]; omega)) ?_
              refine WL_step rfl (R_indexAddr Try.underlying22 Try.sizeOf5 rfl rfl (by omega) (by omega) idx_cast1) ?_
              refine WL_step rfl (R_load_cell Try.isAgg5 rfl (H.cellN hc1 (by repeat' first | exact kNil | apply kCons | apply kApp | assumption | exact OwnS.keys (by assumption)))) ?_
              refine WL_stepM rfl (R_as) ?_
              refine WL_nil ?_
              refine W_seq ?_
              refine W_region_l ?_
              refine WL_stepM rfl (R_mv) ?_
              refine WL_stepM rfl (R_mv) ?_
              refine WL_step rfl (R_indexAddr (off' := i) Try.underlying22 Try.sizeOf5 rfl rfl (by omega) (by omega) (by omega)) ?_
              refine WL_step rfl (R_load (v := U x) Try.isAgg5 rfl (H.get .here) (by rw [List.getElem?_append_left (by rw [List.length_map]; omega), List.getElem?_map, hx]; rfl)) ?_
              refine WL_stepM rfl (R_mv) ?_
              refine WL_step rfl (R_ne_f rfl rfl rfl) ?_
              refine WL_nil ?_
              refine W_cond_f rfl ?_
              refine W_skip ?_
              refine W_region_l ?_
              refine WL_stepM rfl (R_mv) ?_
              refine WL_step rfl (R_add rfl rfl (w_i64 (by omega))) ?_
              refine WL_stepM rfl (R_as) ?_
              refine WL_nil ?_
              exact ⟨(same_mov rfl (same_updo rfl (same_mov rfl (same_updo rfl (same_mov rfl (same_updo rfl (same_updo rfl (same_mov rfl (same_mov rfl (same_mov rfl (same_updo rfl (same_updo rfl (same_updo rfl (same_mov rfl (same_updo rfl (same_mov rfl (same_mov rfl (same_mov rfl (same_know rfl (same_in rfl (same_mov rfl (same_mov rfl (same_updo rfl (same_updo rfl (same_mov rfl (same_mov rfl (same_mov rfl (same_mov rfl (same_mov rfl (same_mov rfl (same_updo rfl (same_updo rfl (same_mov rfl (same_mov rfl (same_know rfl (same_updo rfl (same_mov rfl same_ovr))))))))))))))))))))))))))))))))))))), i + 1, by omega, by omega, rfl, H⟩
            · refine W_skip ?_
              refine W_seq ?_
              refine W_region_l ?_
              refine WL_stepM rfl (R_mv) ?_
              refine WL_stepM rfl (R_mv) ?_
              refine WL_step rfl (R_indexAddr (off' := i) Try.underlying22 Try.sizeOf5 rfl rfl (by omega) (by omega) (by omega)) ?_
              refine WL_step rfl (R_load (v := U x) Try.isAgg5 rfl (H.get .here) (by rw [List.getElem?_append_left (by rw [List.length_map]; omega), List.getElem?_map, hx]; rfl)) ?_
              refine WL_stepM rfl (R_mv) ?_
              (obtain rfl : x = y := (by rw [hus, put_out (by omega) (by omega), hyy] at hx; exact (Option.some.inj hx).symm); refine WL_step rfl (R_ne_f rfl rfl rfl) ?_)
              refine WL_nil ?_
              refine W_cond_f rfl ?_
              refine W_skip ?_
              refine W_region_l ?_
              refine WL_stepM rfl (R_mv) ?_
              refine WL_step rfl (R_add rfl rfl (w_i64 (by omega))) ?_
              refine WL_stepM rfl (R_as) ?_
              refine WL_nil ?_
              exact ⟨(same_mov rfl (same_updo rfl (same_mov rfl (same_updo rfl (same_mov rfl (same_updo rfl (same_updo rfl (same_mov rfl (same_mov rfl (same_know rfl (same_in rfl (same_mov rfl (same_mov rfl (same_updo rfl (same_updo rfl (same_mov rfl (same_mov rfl (same_mov rfl (same_mov rfl (same_mov rfl (same_mov rfl (same_updo rfl (same_updo rfl (same_mov rfl (same_mov rfl (same_know rfl (same_updo rfl (same_mov rfl same_ovr)))))))))))))))))))))))))))), i + 1, by omega, by omega, rfl, H⟩
        · refine W_exit ?_
          refine (if_pos rfl).mpr ?_
          refine W_seq ?_
          refine W_region_l ?_
          refine WL_stepM rfl (R_mv) ?_
          refine WL_stepM rfl (R_mv) ?_
          refine WL_stepM rfl (R_mv) ?_
          (refine WL_call rfl (R_call rfl Try.call22 rfl) (read_yes (xs := us) (p := L) (k := N) (place_to (j := 1) (i := 0) (z := 1) (k := N) (at_ := 0) (lo := 0 + (L : Int)) (rlo := 0) (rn := 128) (by omega) (H.get (.there (.there (.there .here)))) (H.get (.there .here)) (Sp.from H (PB := [(p0, b0), (p1, b1)]) (ts := [ta, tb]) bs cap sp (inv2 hal hag hbl hbg) (fun _ hp => .tail _ (.tail _ (.tail _ (.tail _ (List.mem_append_left _ hp)))))) rfl rfl hb0 (by decide) (by decide) (by omega) (by omega) (by decide) (by decide) (by omega) (by omega) (by omega)) (H.get (.there (.there (.there .here)))) (H.get (.there (.there (.there (.there (.there (.there (.there (.there (.there (.there .here))))))))))) (H.get (.there (.there (.there (.there (.there (.there (.there (.there (.there (.there (.there .here)))))))))))) hul (by decide) (by omega)) ?_; rintro _ w367 ⟨u2, M2, rfl, hO2, H1⟩; have h367 := H.seqO hO2 H1; clear H H1 hO2; obtain ⟨hO2, H⟩ := h367; obtain ⟨qs, hqs, hql⟩ : ∃ qs, qs = (us.drop L).take N ∧ qs.length = N := ⟨_, rfl, by rw [List.length_take, List.length_drop]; omega⟩; rw [← hqs] at hO2; obtain ⟨a2, c2, rfl⟩ := hO2.form)
          refine WL_stepM rfl (R_mv) ?_
          refine WL_step rfl (R_extract rfl rfl) ?_
          refine WL_step rfl (R_extract rfl rfl) ?_
          refine WL_stepM rfl (R_as) ?_
          refine WL_stepM rfl (R_as) ?_
          refine WL_nil ?_
          refine W_seq ?_
          refine W_region_l ?_
          refine WL_stepM rfl (R_mv) ?_
          refine WL_stepM rfl (R_mv) ?_
          refine WL_stepM rfl (R_mv) ?_
          refine WL_step rfl (R_add rfl rfl (w_i64 (by omega))) ?_
          (have _g := hO2; refine WL_call rfl (R_call rfl Try.call22 rfl) (read_no (e := 1) (place_arg (j := 1) (i := 0) (z := 1) (k := (N : Int) + 1) (at_ := 0) (H.get (.app _ (.there (.there (.there .here))))) (Sp.from H (PB := [(p0, b0), (p1, b1)]) (ts := [ta, tb]) bs cap sp (inv2 hal hag hbl hbg) (fun _ hp => List.mem_append_right _ (.tail _ (.tail _ (.tail _ (.tail _ (List.mem_append_left _ hp))))))) rfl rfl hb0 (by decide) (by decide) (by omega) (by omega) (by omega)) (by decide)) ?_; rintro _ w380 ⟨rfl, H1⟩; replace H := H.seq0 H1; clear H1)
          refine WL_stepM rfl (R_mv) ?_
          refine WL_step rfl (R_extract rfl rfl) ?_
          refine WL_step rfl (R_extract rfl rfl) ?_
          refine WL_stepM rfl (R_as) ?_
          refine WL_stepM rfl (R_as) ?_
          refine WL_nil ?_
          refine W_seq ?_
          (refine W_drawH (fun _ => false) (by kernel_rfl) H ?_; clear H; intro w388 H)
          refine WA_takeM 0 rfl rfl rfl (by kernel_rfl) (by kernel_rfl) H (fun _ hC => R_mv) ?_
          refine WA_take 1 rfl rfl rfl (by kernel_rfl) (by kernel_rfl) H (fun _ hC => R_eq_t rfl rfl (by omega)) ?_
          refine WA_takeM 2 rfl rfl rfl (by kernel_rfl) (by kernel_rfl) H (fun _ hC => R_mv) ?_
          refine WA_takeGM 3 rfl rfl rfl rfl (by kernel_rfl) (by kernel_rfl) H (fun _ hC => R_mv) ?_
          refine WA_takeG 4 rfl rfl rfl rfl (by kernel_rfl) (by kernel_rfl) H (fun _ hC => R_conv_bs (xs := qs) Try.underlying22 Try.underlying5 Try.underlying9 rfl (RdS.own hO2 (fun q hq => hC.held q (by simp [hq])))) ?_
          refine WA_takeGM 5 rfl rfl rfl rfl (by kernel_rfl) (by kernel_rfl) H (fun _ hC => R_mv) ?_
          refine WA_takeGM 6 rfl rfl rfl rfl (by kernel_rfl) (by kernel_rfl) H (fun _ hC => R_mv) ?_
          refine WA_takeGM 7 rfl rfl rfl rfl (by kernel_rfl) (by kernel_rfl) H (fun _ hC => R_mv) ?_
          refine WA_takeGM 8 rfl rfl rfl rfl (by kernel_rfl) (by kernel_rfl) H (fun _ hC => R_mv) ?_
          refine WA_takeG 9 rfl rfl rfl rfl (by kernel_rfl) (by kernel_rfl) H (fun _ hC => R_add rfl rfl (w_i64 (by omega))) ?_
          refine WA_takeG 10 rfl rfl rfl rfl (by kernel_rfl) (by kernel_rfl) H (fun _ hC => R_slice (off' := L) (i := (L : Int)) (j := (L : Int) + N) Try.underlying22 Try.sizeOf5 rfl (.some rfl) (.some rfl) (by omega) (by omega) (by omega) (by omega) (by omega) (by omega)) ?_
          refine WA_takeG 11 rfl rfl rfl rfl (by kernel_rfl) (by kernel_rfl) H (fun _ hC => R_conv_bs (xs := qs) Try.underlying22 Try.underlying5 Try.underlying9 rfl (RdS.blk (c := us.map U ++ usp) (off := L) (m := ((L : Int) + N - L).toNat) (cap := ((uc : Int) - L).toNat) (hC.get (.app _ .here)) (by rw [show ((L : Int) + N - L).toNat = N from by omega, List.drop_append_of_le_length (by rw [List.length_map]; omega), List.take_append_of_le_length (by rw [List.length_drop, List.length_map]; omega), ← List.map_drop, ← List.map_take, hqs]) (by rw [List.length_append, List.length_map]; omega) (by omega))) ?_
          refine WA_takeG 12 rfl rfl rfl rfl (by kernel_rfl) (by kernel_rfl) H (fun _ hC => R_eq_S_t rfl rfl rfl) ?_
          refine WA_takeM 13 rfl rfl rfl (by kernel_rfl) (by kernel_rfl) H (fun _ hC => R_pk_t rfl) ?_
          refine WA_takeM 14 rfl rfl rfl (by kernel_rfl) (by kernel_rfl) H (fun _ hC => R_mv) ?_
          refine WA_takeGM 15 rfl rfl rfl rfl (by kernel_rfl) (by kernel_rfl) H (fun _ hC => R_mv) ?_
          refine WA_takeG 16 rfl rfl rfl rfl (by kernel_rfl) (by kernel_rfl) H (fun _ hC => R_eq_t rfl rfl (by omega)) ?_
          refine WA_takeM 17 rfl rfl rfl (by kernel_rfl) (by kernel_rfl) H (fun _ hC => R_pk_t rfl) ?_
          refine WA_takeM 18 rfl rfl rfl (by kernel_rfl) (by kernel_rfl) H (fun _ hC => R_mv) ?_
          refine WA_one (i := 19) (by kernel_rfl) ?_
          (refine WI_call rfl (.inr ⟨_, _, rfl, rfl⟩) (R_call rfl Try.call15 rfl) (by exact awake_ret _) (by first | exact fun _ _ hR _ => H.seq0 hR.2 | exact fun _ _ hR h => Bool.noConfusion h | exact fun _ _ hR _ => (H.seq0 hR.2).none (by repeat' first | exact kNil | apply kCons | apply kApp | assumption | exact OwnS.keys (by assumption)) | exact fun _ _ hR _ => (H.seq0 hR.2).dropN (by repeat' first | exact kNil | apply kCons | apply kApp | assumption | exact OwnS.keys (by assumption))) ?_; rintro _ w409 ⟨rfl, H1⟩; replace H := H.seq0 H1; clear H1)
          refine WA_takeM 20 rfl rfl rfl (by kernel_rfl) (by kernel_rfl) H (fun _ hC => R_pk_t rfl) ?_
          refine WA_takeM 21 rfl rfl rfl (by kernel_rfl) (by kernel_rfl) H (fun _ hC => R_as) ?_
          refine WA_done (by kernel_rfl) ?_
          refine W_ret ?_
          exact ⟨_, rfl, rfl, H.none (by repeat' first | exact kNil | apply kCons | apply kApp | assumption | exact OwnS.keys (by assumption))⟩

theorem only_o1 {w : World} {ys : List UInt8} {l : Value} {lo n at_ : Int} (hl : RdS w l (ys.map U)) (hy : ys.length ≤ 200) (hV : at_ < 0) :
    Ret Try.prog 3 #[I lo, I n, I at_, l] w fun v w' => v = .bool true ∧ Hp w [] w' := by
  refine Ret_of_W (args := [_, _, _, _]) Try.func3 rfl Try.ntmps3 Try.results3 (by simp) ?_
  have H := Hp.refl w
  obtain ⟨ao, ca0, rfl⟩ := hl.form
  simp only [List.length_map] at hl ⊢
  obtain ⟨L, hL, hL2⟩ : ∃ L : Nat, lo % 64 = (L : Int) ∧ L < 64 := ⟨(lo % 64).toNat, by omega, by omega⟩
  obtain ⟨N, hN, hN2⟩ : ∃ N : Nat, n % 64 = (N : Int) ∧ N < 64 := ⟨(n % 64).toNat, by omega, by omega⟩
  obtain ⟨ta, hta, hal, hag, ha0⟩ := tset t0_len t0_g (i := 0) (by decide) ⟨cp 0 (7 : Nat) 0 128 0 0, newPl.g, true⟩ (by decide)
  obtain ⟨tb, htb, hbl, hbg, hb0⟩ := tset t0_len t0_g (i := 0) (by decide) ⟨cp 0 3 (0 + (L : Int)) (N : Int) (0 : Nat) (0 + 256 * newPl.g : Nat), newPl.g, true⟩ (show newPl.g ≤ 1000001 by decide)
  obtain ⟨zs, hzs, hzl⟩ : ∃ zs : List UInt8, zs = List.replicate 128 0 ∧ zs.length = 128 := ⟨_, rfl, by simp⟩
  refine W_seq ?_
  refine W_region_l ?_
  refine WL_stepM rfl (R_as) ?_
  refine WL_nil ?_
  refine W_seq ?_
  refine W_region_l ?_
  (refine WL_call rfl (R_call rfl Try.call12 rfl) (Mem.new_ret 2 _) ?_; rintro _ w7 ⟨m, mb, rfl, H1, hm, hmb⟩; rw [show Mem.szOf 2 = 128 from rfl, ← Mem.zmap, ← hzs] at H1; replace H := H.seqN H1 (kCons hm (kCons hmb kNil)); replace H : Hp w [(m, blk [sl mb 0 128 128] 87), (mb, blk (zs.map U) 5)] w7 := H; clear H1)
  (refine WL_call rfl (R_call rfl Try.call13 rfl) (Caps.new_ret (E := 2) (by decide) (by decide) _) ?_; rintro _ w8 ⟨s, bs, cap, sp, PB, rfl, hPl, hs, hbs, hPB, H1⟩; obtain ⟨p0, b0, p1, b1, rfl⟩ := two hPl; have hsz := H.size; replace H := H.seqN H1 (spB_keys hs hbs hPB); clear H1; obtain ⟨hp0, hb0'⟩ := hPB (p0, b0) (.head _); obtain ⟨hp1, hb1'⟩ := hPB (p1, b1) (.tail _ (.head _)); replace hs := Nat.le_trans hsz hs; replace hbs := Nat.le_trans hsz hbs; replace hp0 : w.heap.size ≤ p0 := Nat.le_trans hsz hp0; replace hb0' : w.heap.size ≤ b0 := Nat.le_trans hsz hb0'; replace hp1 : w.heap.size ≤ p1 := Nat.le_trans hsz hp1; replace hb1' : w.heap.size ≤ b1 := Nat.le_trans hsz hb1'; clear hPB hPl hsz; replace H : Hp w [(s, blk [sl bs 0 2 cap] 90), (bs, blk (ptrs [(p0, b0), (p1, b1)] ++ sp) 91), (p0, blk [sl b0 0 32 32] 135), (b0, blk (rows plc t0) 137), (p1, blk [sl b1 0 32 32] 135), (b1, blk (rows plc t0) 137), (m, blk [sl mb 0 128 128] 87), (mb, blk (zs.map U) 5)] w8 := H)
  refine WL_stepM rfl (R_as) ?_
  refine WL_stepM rfl (R_as) ?_
  refine WL_nil ?_
  refine W_seq ?_
  refine W_region_l ?_
  refine WL_stepM rfl (R_mv) ?_
  refine WL_stepM rfl (R_mv) ?_
  (refine WL_call rfl (R_call rfl Try.call14 rfl) (new_ret m s _) ?_; rintro _ w16 ⟨rr, rfl, hrr, H1⟩; have hsz := H.size; replace H := H.seqN H1 (kCons hrr kNil); clear H1; replace hrr := Nat.le_trans hsz hrr; clear hsz; replace H : Hp w [(rr, blk [ptr m 0, ptr s 0, nilS] 95), (s, blk [sl bs 0 2 cap] 90), (bs, blk (ptrs [(p0, b0), (p1, b1)] ++ sp) 91), (p0, blk [sl b0 0 32 32] 135), (b0, blk (rows plc t0) 137), (p1, blk [sl b1 0 32 32] 135), (b1, blk (rows plc t0) 137), (m, blk [sl mb 0 128 128] 87), (mb, blk (zs.map U) 5)] w16 := H)
  refine WL_stepM rfl (R_as) ?_
  refine WL_nil ?_
  refine W_seq ?_
  refine W_seq ?_
  refine W_region_l ?_
  refine WL_stepM rfl (R_mv) ?_
  refine WL_step rfl (R_eq_ptr_nil Try.underlying23 rfl rfl) ?_
  refine WL_stepM rfl (R_mv) ?_
  refine WL_guard_t rfl rfl ?_
  refine WL_stepM rfl (R_mv) ?_
  refine WL_guard_t rfl rfl ?_
  refine WL_step rfl (R_eq_ptr_nil Try.underlying25 rfl rfl) ?_
  refine WL_stepM rfl (R_pk_f rfl) ?_
  refine WL_stepM rfl (R_mv) ?_
  refine WL_guard_t rfl rfl ?_
  refine WL_stepM rfl (R_mv) ?_
  refine WL_guard_t rfl rfl ?_
  refine WL_step rfl (R_eq_ptr_nil Try.underlying27 rfl rfl) ?_
  refine WL_stepM rfl (R_pk_f rfl) ?_
  refine WL_stepM rfl (R_mv) ?_
  refine WL_guard_t rfl rfl ?_
  refine WL_stepM rfl (R_mv) ?_
  refine WL_guard_t rfl rfl ?_
  refine WL_step rfl (R_len_slice Try.underlying22 rfl) ?_
  refine WL_guard_t rfl rfl ?_
  refine WL_step rfl (R_gt_f rfl rfl (by omega)) ?_
  refine WL_stepM rfl (R_pk_f rfl) ?_
  refine WL_nil ?_
  refine W_cond_f rfl ?_
  refine W_skip ?_
  refine W_seq ?_
  refine W_region_l ?_
  (refine WL_effn rfl (E_makeSlice H Try.underlying22 Try.sizeOf5 Try.typeInfo5 Try.zeroValue5 rfl rfl rfl (by omega) (by omega) (by omega) (by simp only [Try.t5]; omega)) ?_; clear H; intro al w49 hall H; replace H : Hp w [(al, blk (zs.map U) 5), (rr, blk [ptr m 0, ptr s 0, nilS] 95), (s, blk [sl bs 0 2 cap] 90), (bs, blk (ptrs [(p0, b0), (p1, b1)] ++ sp) 91), (p0, blk [sl b0 0 32 32] 135), (b0, blk (rows plc t0) 137), (p1, blk [sl b1 0 32 32] 135), (b1, blk (rows plc t0) 137), (m, blk [sl mb 0 128 128] 87), (mb, blk (zs.map U) 5)] w49 := by rw [hzs, Mem.zmap]; rw [hzs, Mem.zmap] at H; exact H)
  refine WL_stepM rfl (R_as) ?_
  refine WL_nil ?_
  refine W_seq ?_
  refine W_seq ?_
  refine W_region_l ?_
  refine WL_stepM rfl (R_mv) ?_
  refine WL_step rfl (R_len_slice Try.underlying22 rfl) ?_
  refine WL_stepM rfl (R_mv) ?_
  refine WL_nil ?_
  refine W_block ?_
  refine W_loopS [(13, 13), (66, 75)] (fun (i : Nat) E w' => ∃ av : List UInt8, i ≤ 128 ∧ av.length = 128 ∧ E 66 = I i ∧ Hp w [(al, blk (av.map U) 5), (rr, blk [ptr m 0, ptr s 0, nilS] 95), (s, blk [sl bs 0 2 cap] 90), (bs, blk (ptrs [(p0, b0), (p1, b1)] ++ sp) 91), (p0, blk [sl b0 0 32 32] 135), (b0, blk (rows plc t0) 137), (p1, blk [sl b1 0 32 32] 135), (b1, blk (rows plc t0) 137), (m, blk [sl mb 0 128 128] 87), (mb, blk (zs.map U) 5)] w') (fun i => 128 - i) 0 ?e0 ?r0
  · exact ⟨zs, by omega, hzl, rfl, H⟩
  · (clear H; rintro i E w1 ⟨av, hi, hasl, h0, H⟩; refine W_kn h0 ?_)
    refine W_seq ?_
    refine W_region_l ?_
    refine WL_step rfl (R_lt rfl rfl) ?_
    refine WL_nil ?_
    refine W_seq ?_
    refine W_if rfl (fun h67 => ?_) (fun h67 => ?_)
    · refine W_skip ?_
      refine W_seq ?_
      refine W_block ?_
      refine W_seq ?_
      refine W_region_l ?_
      refine WL_stepM rfl (R_mv) ?_
      refine WL_stepM rfl (R_as) ?_
      refine WL_nil ?_
      refine W_region_l ?_
      refine WL_stepM rfl (R_mv) ?_
      refine WL_stepM rfl (R_mv) ?_
      refine WL_stepM rfl (R_mv) ?_
      refine WL_step rfl (R_add rfl rfl (w_i64 (by omega))) ?_
      refine WL_step rfl (R_conv_int (r := ((bt ((i : Int) + 1)).toNat : Int)) Try.underlying3 Try.underlying5 rfl (bt_wrap ((i : Int) + 1))) ?_
      refine WL_step rfl (R_indexAddr (off' := i) Try.underlying22 Try.sizeOf5 rfl rfl (by omega) (by omega) (by omega)) ?_
      (refine WL_effu rfl (E_store (v := U (bt ((i : Int) + 1))) H Try.sizeOf5 rfl rfl rfl .here (by rw [List.length_map, hasl]; omega)) ?_; clear H; intro w83 H; rw [← List.map_set] at H)
      refine WL_nil ?_
      refine W_region_l ?_
      refine WL_step rfl (R_add rfl rfl (w_i64 (by omega))) ?_
      refine WL_stepM rfl (R_mv) ?_
      refine WL_nil ?_
      exact ⟨(same_mov rfl (same_updo rfl (same_updn (same_updo rfl (same_updo rfl (same_updo rfl (same_mov rfl (same_mov rfl (same_mov rfl (same_mov rfl (same_mov rfl (same_know rfl (same_updo rfl same_ovr))))))))))))), i + 1, by omega, av.set i (bt ((i : Int) + 1)), by omega, by rw [List.length_set]; exact hasl, rfl, H⟩
    · refine W_exit ?_
      refine (if_pos rfl).mpr ?_
      refine W_seq ?_
      refine W_region_l ?_
      refine WL_stepM rfl (R_mv) ?_
      refine WL_stepM rfl (R_mv) ?_
      (refine WL_call rfl (R_call rfl Try.call16 rfl) (Mem.store_yes (xs := zs) (ys := av) 0 (H.get (.there (.there (.there (.there (.there (.there (.there (.there .here))))))))) (H.get (.there (.there (.there (.there (.there (.there (.there (.there (.there .here)))))))))) hzl (by omega) (RdS.blk (c := av.map U) (off := 0) (m := 128) (cap := 128) (H.get .here) (by rw [List.drop_zero, List.take_of_length_le (by rw [List.length_map]; omega)]) (by rw [List.length_map]; omega) (by omega)) (by omega)) ?_; rintro _ w96 ⟨rfl, H1⟩; rw [put0 (by omega)] at H1; replace H := H.seq H1 (okSeq_set (.there (.there (.there (.there (.there (.there (.there (.there (.there .here))))))))) okSeq_nil); clear H1)
      refine WL_nil ?_
      refine W_seq ?_
      refine W_region_l ?_
      refine WL_stepM rfl (R_mv) ?_
      (refine WL_call rfl (R_call rfl Try.call17 rfl) (add_ret (xs := av) (H.get (.there .here)) (H.get (.there (.there (.there (.there (.there (.there (.there (.there .here))))))))) hasl (by decide) (lo := 0) (n := 128) (by decide) (by decide) (by decide)) ?_; rintro _ w101 ⟨a, ca, sp2, rfl, ha, H1⟩; have hsz := H.size; replace H := H.seq H1 (okSeq_set (.there .here) (okSeq_new ha okSeq_nil)); clear H1; replace ha := Nat.le_trans hsz ha; clear hsz)
      refine WL_stepM rfl (R_mv) ?_
      refine WL_step rfl (R_extract rfl rfl) ?_
      refine WL_step rfl (R_extract rfl rfl) ?_
      refine WL_stepM rfl (R_as) ?_
      refine WL_stepM rfl (R_as) ?_
      refine WL_nil ?_
      refine W_seq ?_
      refine W_region_l ?_
      refine WL_stepM rfl (R_mv) ?_
      refine WL_stepM rfl (R_mv) ?_
      refine WL_step rfl (R_buildL (places := [(0, 1), (1, 1), (2, 1), (3, 1), (4, 2)]) (vs := (cp 0 (7 : Nat) 0 128 0 0).c) Try.underlying38 Try.typeInfo38 rfl rfl (by kernel_rfl) rfl rfl rfl) ?_
      (refine WL_call rfl (R_call rfl Try.call18 rfl) (put_yes (j := 0) (i := 0) (r := 7) (o := 0) (lo := 0) (n := 128) (re := 0) (rn := 0) (Sp.from H (PB := [(p0, b0), (p1, b1)]) (ts := [t0, t0]) bs cap sp (inv2 t0_len t0_g t0_len t0_g) (fun _ hp => .tail _ (.tail _ (.tail _ (List.mem_append_left _ hp))))) rfl rfl (by decide) (by decide) (by decide) t0_at new_free (fun _ _ h => absurd h (Nat.not_lt_zero _))) ?_; rintro _ w113 ⟨rfl, H1⟩; rw [hta] at H1; replace H := H.seq H1 (okSeq_set (.there (.there (.there (.there (.there (.there .here)))))) okSeq_nil); clear H1)
      refine WL_stepM rfl (R_mv) ?_
      refine WL_step rfl (R_extract rfl rfl) ?_
      refine WL_step rfl (R_extract rfl rfl) ?_
      refine WL_stepM rfl (R_as) ?_
      refine WL_stepM rfl (R_as) ?_
      refine WL_nil ?_
      refine W_seq ?_
      refine W_region_l ?_
      refine WL_stepM rfl (R_mv) ?_
      refine WL_step rfl (R_bits (r := (L : Int)) rfl rfl (by simp) ((and_mask_i64 6 64 (by decide) rfl (by decide)).trans hL)) ?_
      refine WL_stepM rfl (R_as) ?_
      refine WL_nil ?_
      refine W_seq ?_
      refine W_region_l ?_
      refine WL_stepM rfl (R_mv) ?_
      refine WL_step rfl (R_bits (r := (N : Int)) rfl rfl (by simp) ((and_mask_i64 6 64 (by decide) rfl (by decide)).trans hN)) ?_
      refine WL_stepM rfl (R_as) ?_
      refine WL_nil ?_
      refine W_seq ?_
      refine W_region_l ?_
      refine WL_stepM rfl (R_mv) ?_
      refine WL_stepM rfl (R_mv) ?_
      refine WL_stepM rfl (R_mv) ?_
      refine WL_stepM rfl (R_mv) ?_
      (refine WL_call rfl (R_call rfl Try.call19 rfl) (grant_yes (j := 0) (i := 0) (k := 1) (i2 := 0) (l1 := L) (n1 := N) (gv := 3) (z := 4) (Sp.from H (PB := [(p0, b0), (p1, b1)]) (ts := [ta, t0]) bs cap sp (inv2 hal hag t0_len t0_g) (fun _ hp => .tail _ (.tail _ (.tail _ (List.mem_append_left _ hp))))) rfl rfl ha0 rfl rfl t0_at new_free (fun _ _ h => absurd h (Nat.not_lt_zero _)) (by decide) (by decide) (by decide) (by decide) (by decide) (by omega) (by omega)) ?_; rintro _ w138 ⟨rfl, H1⟩; rw [htb] at H1; replace H := H.seq H1 (okSeq_set (.there (.there (.there (.there (.there (.there (.there (.there .here)))))))) okSeq_nil); clear H1)
      refine WL_stepM rfl (R_mv) ?_
      refine WL_step rfl (R_extract rfl rfl) ?_
      refine WL_step rfl (R_extract rfl rfl) ?_
      refine WL_stepM rfl (R_as) ?_
      refine WL_stepM rfl (R_as) ?_
      refine WL_nil ?_
      refine W_seq ?_
      refine W_seq ?_
      refine W_region_l ?_
      refine WL_stepM rfl (R_mv) ?_
      refine WL_step rfl (R_ne_f rfl rfl (by omega)) ?_
      refine WL_nil ?_
      refine W_cond_f rfl ?_
      refine W_skip ?_
      refine W_seq ?_
      refine W_region_l ?_
      refine WL_stepM rfl (R_mv) ?_
      refine WL_step rfl (R_ge_f rfl rfl (by omega)) ?_
      refine WL_stepM rfl (R_mv) ?_
      refine WL_guard_f rfl rfl (by decide) ?_
      refine WL_guard_f rfl rfl (by decide) ?_
      refine WL_guard_f rfl rfl (by decide) ?_
      refine WL_stepM rfl (R_pk_f rfl) ?_
      refine WL_stepM rfl (R_mv) ?_
      refine WL_guard_f rfl rfl (by decide) ?_
      refine WL_guard_f rfl rfl (by decide) ?_
      refine WL_guard_f rfl rfl (by decide) ?_
      refine WL_guard_f rfl rfl (by decide) ?_
      refine WL_guard_f rfl rfl (by decide) ?_
      refine WL_guard_f rfl rfl (by decide) ?_
      refine WL_stepM rfl (R_pk_f rfl) ?_
      refine WL_stepM rfl (R_as) ?_
      refine WL_nil ?_
      refine W_seq ?_
      refine W_seq ?_
      refine W_region_l ?_
      refine WL_stepM rfl (R_mv) ?_
      refine WL_stepM rfl (R_mv) ?_
      refine WL_stepM rfl (R_mv) ?_
      refine WL_stepM rfl (R_mv) ?_
      (refine WL_call rfl (R_call rfl Try.call20 rfl) (write_noU (e := 1) (hl.monoN H (by repeat' first | exact kNil | apply kCons | apply kApp | assumption | exact OwnS.keys (by assumption))) (by omega) (place_arg (j := 1) (i := 0) (z := 2) (at_ := at_) (k := ys.length) (H.get (.there (.there .here))) (Sp.from H (PB := [(p0, b0), (p1, b1)]) (ts := [ta, tb]) bs cap sp (inv2 hal hag hbl hbg) (fun _ hp => .tail _ (.tail _ (.tail _ (List.mem_append_left _ hp))))) rfl rfl hb0 (by decide) (by decide) (by omega) (by omega) (by omega)) (by decide)) ?_; rintro _ w179 ⟨rfl, H1⟩; replace H := H.seq0 H1; clear H1; obtain ⟨us, hus, hul⟩ : ∃ us : List UInt8, us = av ∧ us.length = 128 := ⟨_, rfl, hasl⟩; replace H : Hp w [(a, blk ([I 0, I 128] ++ sp2) 98), (al, blk (av.map U) 5), (rr, blk [ptr m 0, ptr s 0, sl a 0 1 ca] 95), (s, blk [sl bs 0 2 cap] 90), (bs, blk (ptrs [(p0, b0), (p1, b1)] ++ sp) 91), (p0, blk [sl b0 0 32 32] 135), (b0, blk (rows plc ta) 137), (p1, blk [sl b1 0 32 32] 135), (b1, blk (rows plc tb) 137), (m, blk [sl mb 0 128 128] 87), (mb, blk (us.map U) 5)] w179 := by rw [← hus]; rw [← hus] at H; exact H)
      refine WL_stepM rfl (R_as) ?_
      refine WL_nil ?_
      refine W_seq ?_
      refine W_region_l ?_
      refine WL_stepM rfl (R_mv) ?_
      refine WL_step rfl (R_eq_f rfl rfl (by omega)) ?_
      refine WL_stepM rfl (R_mv) ?_
      refine WL_step rfl (R_ne_bool_f Try.underlying4 rfl rfl (by decide)) ?_
      refine WL_stepM rfl (R_mv) ?_
      refine WL_guard_t rfl rfl ?_
      refine WL_stepM rfl (R_mv) ?_
      refine WL_guard_t rfl rfl ?_
      refine WL_step rfl (R_not_f rfl) ?_
      refine WL_guard_t rfl rfl ?_
      refine WL_stepM rfl (R_mv) ?_
      refine WL_guard_t rfl rfl ?_
      refine WL_stepM rfl (R_mv) ?_
      refine WL_guard_t rfl rfl ?_
      refine WL_step rfl (R_ne_f rfl rfl (by omega)) ?_
      refine WL_guard_t rfl rfl ?_
      refine WL_stepM rfl (R_pk_t rfl) ?_
      refine WL_stepM rfl (R_pk_f rfl) ?_
      refine WL_nil ?_
      refine W_cond_f rfl ?_
      refine W_skip ?_
      refine W_seq ?_
      refine W_region_l ?_
      refine WL_stepM rfl (R_mv) ?_
      (refine WL_call rfl (R_call rfl Try.call21 rfl) (Mem.load_yes (xs := us) 0 128 (H.get (.there (.there (.there (.there (.there (.there (.there (.there (.there .here)))))))))) (H.get (.there (.there (.there (.there (.there (.there (.there (.there (.there (.there .here))))))))))) hul (by omega) (by omega)) ?_; rintro _ w208 ⟨_, M, rfl, hO, H1⟩; rw [List.drop_zero, List.take_of_length_le (by omega)] at hO; have h208 := H.seqO hO H1; clear H H1 hO; obtain ⟨hO, H⟩ := h208; obtain ⟨ub, uc, usp, rfl, hub, rfl, husp, huc⟩ := OwnS.pos hO (by omega); replace H : Hp w [(ub, blk (us.map U ++ usp) 5), (a, blk ([I 0, I 128] ++ sp2) 98), (al, blk (av.map U) 5), (rr, blk [ptr m 0, ptr s 0, sl a 0 1 ca] 95), (s, blk [sl bs 0 2 cap] 90), (bs, blk (ptrs [(p0, b0), (p1, b1)] ++ sp) 91), (p0, blk [sl b0 0 32 32] 135), (b0, blk (rows plc ta) 137), (p1, blk [sl b1 0 32 32] 135), (b1, blk (rows plc tb) 137), (m, blk [sl mb 0 128 128] 87), (mb, blk (us.map U) 5)] w208 := H)
      refine WL_stepM rfl (R_mv) ?_
      refine WL_step rfl (R_extract rfl rfl) ?_
      refine WL_step rfl (R_extract rfl rfl) ?_
      refine WL_stepM rfl (R_as) ?_
      refine WL_stepM rfl (R_as) ?_
      refine WL_nil ?_
      refine W_seq ?_
      refine W_seq ?_
      refine W_region_l ?_
      refine WL_stepM rfl (R_mv) ?_
      refine WL_step rfl (R_ne_f rfl rfl (by omega)) ?_
      refine WL_stepM rfl (R_mv) ?_
      refine WL_guard_t rfl rfl ?_
      refine WL_stepM rfl (R_mv) ?_
      refine WL_guard_t rfl rfl ?_
      refine WL_step rfl (R_len_slice Try.underlying22 rfl) ?_
      refine WL_guard_t rfl rfl ?_
      refine WL_step rfl (R_ne_f rfl rfl (by omega)) ?_
      refine WL_stepM rfl (R_pk_f rfl) ?_
      refine WL_nil ?_
      refine W_cond_f rfl ?_
      refine W_skip ?_
      refine W_seq ?_
      refine W_seq ?_
      refine W_region_l ?_
      refine WL_stepM rfl (R_as) ?_
      refine WL_nil ?_
      refine W_block ?_
      refine W_loopS [(8, 8), (24, 25), (149, 188)] (fun (i : Nat) E w' => i ≤ 128 ∧ E 24 = I i ∧ Hp w [(ub, blk (us.map U ++ usp) 5), (a, blk ([I 0, I 128] ++ sp2) 98), (al, blk (av.map U) 5), (rr, blk [ptr m 0, ptr s 0, sl a 0 1 ca] 95), (s, blk [sl bs 0 2 cap] 90), (bs, blk (ptrs [(p0, b0), (p1, b1)] ++ sp) 91), (p0, blk [sl b0 0 32 32] 135), (b0, blk (rows plc ta) 137), (p1, blk [sl b1 0 32 32] 135), (b1, blk (rows plc tb) 137), (m, blk [sl mb 0 128 128] 87), (mb, blk (us.map U) 5)] w') (fun i => 128 - i) 0 ?e2 ?r2
      · exact ⟨by omega, rfl, H⟩
      · (clear H; rintro i E w1 ⟨hi, h0, H⟩; refine W_kn h0 ?_)
        refine W_seq ?_
        refine W_seq ?_
        refine W_region_l ?_
        refine WL_stepM rfl (R_mv) ?_
        refine WL_step rfl (R_lt rfl rfl) ?_
        refine WL_nil ?_
        refine W_if rfl (fun h245 => ?_) (fun h245 => ?_)
        · refine W_skip ?_
          refine W_seq ?_
          refine W_block ?_
          refine W_seq ?_
          ((obtain ⟨x, hx⟩ : ∃ x, us[i]? = some x := ⟨_, List.getElem?_eq_getElem (by omega)⟩; obtain ⟨y, hyy⟩ : ∃ y, av[i]? = some y := ⟨_, List.getElem?_eq_getElem (by omega)⟩)) <;> refine W_region_l ?_
          refine WL_stepM rfl (R_mv) ?_
          refine WL_stepM rfl (R_mv) ?_
          refine WL_step rfl (R_indexAddr (off' := i) Try.underlying22 Try.sizeOf5 rfl rfl (by omega) (by omega) (by omega)) ?_
          refine WL_step rfl (R_load (v := U y) Try.isAgg5 rfl (H.get (.there (.there .here))) (by rw [List.getElem?_map, hyy]; rfl)) ?_
          refine WL_stepM rfl (R_as) ?_
          refine WL_nil ?_
          refine W_seq ?_
          refine W_seq ?_
          refine W_region_l ?_
          refine WL_stepM rfl (R_mv) ?_
          refine WL_stepM rfl (R_mv) ?_
          refine WL_guard_f rfl rfl (by decide) ?_
          refine WL_guard_f rfl rfl (by decide) ?_
          refine WL_guard_f rfl rfl (by decide) ?_
          refine WL_guard_f rfl rfl (by decide) ?_
          refine WL_guard_f rfl rfl (by decide) ?_
          refine WL_stepM rfl (R_pk_f rfl) ?_
          refine WL_stepM rfl (R_mv) ?_
          refine WL_guard_f rfl rfl (by decide) ?_
          refine WL_guard_f rfl rfl (by decide) ?_
          refine WL_guard_f rfl rfl (by decide) ?_
          refine WL_guard_f rfl rfl (by decide) ?_
          refine WL_guard_f rfl rfl (by decide) ?_
          refine WL_guard_f rfl rfl (by decide) ?_
          refine WL_guard_f rfl rfl (by decide) ?_
          refine WL_guard_f rfl rfl (by decide) ?_
          refine WL_stepM rfl (R_pk_f rfl) ?_
          refine WL_nil ?_
          refine W_cond_f rfl ?_
          refine W_skip ?_
          refine W_seq ?_
          refine W_region_l ?_
          refine WL_stepM rfl (R_mv) ?_
          refine WL_stepM rfl (R_mv) ?_
          refine WL_step rfl (R_indexAddr (off' := i) Try.underlying22 Try.sizeOf5 rfl rfl (by omega) (by omega) (by omega)) ?_
          refine WL_step rfl (R_load (v := U x) Try.isAgg5 rfl (H.get .here) (by rw [List.getElem?_append_left (by rw [List.length_map]; omega), List.getElem?_map, hx]; rfl)) ?_
          refine WL_stepM rfl (R_mv) ?_
          (obtain rfl : x = y := (by rw [hus, hyy] at hx; exact (Option.some.inj hx).symm); refine WL_step rfl (R_ne_f rfl rfl rfl) ?_)
          refine WL_nil ?_
          refine W_cond_f rfl ?_
          refine W_skip ?_
          refine W_region_l ?_
          refine WL_stepM rfl (R_mv) ?_
          refine WL_step rfl (R_add rfl rfl (w_i64 (by omega))) ?_
          refine WL_stepM rfl (R_as) ?_
          refine WL_nil ?_
          exact ⟨(same_mov rfl (same_updo rfl (same_mov rfl (same_updo rfl (same_mov rfl (same_updo rfl (same_updo rfl (same_mov rfl (same_mov rfl (same_mov rfl (same_updo rfl (same_updo rfl (same_updo rfl (same_updo rfl (same_updo rfl (same_updo rfl (same_updo rfl (same_updo rfl (same_mov rfl (same_mov rfl (same_updo rfl (same_updo rfl (same_updo rfl (same_updo rfl (same_updo rfl (same_mov rfl (same_mov rfl (same_mov rfl (same_updo rfl (same_updo rfl (same_mov rfl (same_mov rfl (same_know rfl (same_updo rfl (same_mov rfl same_ovr))))))))))))))))))))))))))))))))))), i + 1, by omega, by omega, rfl, H⟩
        · refine W_exit ?_
          refine (if_pos rfl).mpr ?_
          refine W_seq ?_
          refine W_region_l ?_
          refine WL_stepM rfl (R_mv) ?_
          refine WL_stepM rfl (R_mv) ?_
          refine WL_stepM rfl (R_mv) ?_
          (refine WL_call rfl (R_call rfl Try.call22 rfl) (read_yes (xs := us) (p := L) (k := N) (place_to (j := 1) (i := 0) (z := 1) (k := N) (at_ := 0) (lo := 0 + (L : Int)) (rlo := 0) (rn := 128) (by omega) (H.get (.there (.there (.there .here)))) (H.get (.there .here)) (Sp.from H (PB := [(p0, b0), (p1, b1)]) (ts := [ta, tb]) bs cap sp (inv2 hal hag hbl hbg) (fun _ hp => .tail _ (.tail _ (.tail _ (.tail _ (List.mem_append_left _ hp)))))) rfl rfl hb0 (by decide) (by decide) (by omega) (by omega) (by decide) (by decide) (by omega) (by omega) (by omega)) (H.get (.there (.there (.there .here)))) (H.get (.there (.there (.there (.there (.there (.there (.there (.there (.there (.there .here))))))))))) (H.get (.there (.there (.there (.there (.there (.there (.there (.there (.there (.there (.there .here)))))))))))) hul (by decide) (by omega)) ?_; rintro _ w305 ⟨u2, M2, rfl, hO2, H1⟩; have h305 := H.seqO hO2 H1; clear H H1 hO2; obtain ⟨hO2, H⟩ := h305; obtain ⟨qs, hqs, hql⟩ : ∃ qs, qs = (us.drop L).take N ∧ qs.length = N := ⟨_, rfl, by rw [List.length_take, List.length_drop]; omega⟩; rw [← hqs] at hO2; obtain ⟨a2, c2, rfl⟩ := hO2.form)
          refine WL_stepM rfl (R_mv) ?_
          refine WL_step rfl (R_extract rfl rfl) ?_
          refine WL_step rfl (R_extract rfl rfl) ?_
          refine WL_stepM rfl (R_as) ?_
          refine WL_stepM rfl (R_as) ?_
          refine WL_nil ?_
          refine W_seq ?_
          refine W_region_l ?_
          refine WL_stepM rfl (R_mv) ?_
          refine WL_stepM rfl (R_mv) ?_
          refine WL_stepM rfl (R_mv) ?_
          refine WL_step rfl (R_add rfl rfl (w_i64 (by omega))) ?_
          (have _g := hO2; refine WL_call rfl (R_call rfl Try.call22 rfl) (read_no (e := 1) (place_arg (j := 1) (i := 0) (z := 1) (k := (N : Int) + 1) (at_ := 0) (H.get (.app _ (.there (.there (.there .here))))) (Sp.from H (PB := [(p0, b0), (p1, b1)]) (ts := [ta, tb]) bs cap sp (inv2 hal hag hbl hbg) (fun _ hp => List.mem_append_right _ (.tail _ (.tail _ (.tail _ (.tail _ (List.mem_append_left _ hp))))))) rfl rfl hb0 (by decide) (by decide) (by omega) (by omega) (by omega)) (by decide)) ?_; rintro _ w318 ⟨rfl, H1⟩; replace H := H.seq0 H1; clear H1)
          refine WL_stepM rfl (R_mv) ?_
          refine WL_step rfl (R_extract rfl rfl) ?_
          refine WL_step rfl (R_extract rfl rfl) ?_
          refine WL_stepM rfl (R_as) ?_
          refine WL_stepM rfl (R_as) ?_
          refine WL_nil ?_
          refine W_seq ?_
          (refine W_drawH (fun _ => false) (by kernel_rfl) H ?_; clear H; intro w326 H)
          refine WA_takeM 0 rfl rfl rfl (by kernel_rfl) (by kernel_rfl) H (fun _ hC => R_mv) ?_
          refine WA_take 1 rfl rfl rfl (by kernel_rfl) (by kernel_rfl) H (fun _ hC => R_eq_t rfl rfl (by omega)) ?_
          refine WA_takeM 2 rfl rfl rfl (by kernel_rfl) (by kernel_rfl) H (fun _ hC => R_mv) ?_
          refine WA_takeGM 3 rfl rfl rfl rfl (by kernel_rfl) (by kernel_rfl) H (fun _ hC => R_mv) ?_
          refine WA_takeG 4 rfl rfl rfl rfl (by kernel_rfl) (by kernel_rfl) H (fun _ hC => R_conv_bs (xs := qs) Try.underlying22 Try.underlying5 Try.underlying9 rfl (RdS.own hO2 (fun q hq => hC.held q (by simp [hq])))) ?_
          refine WA_takeGM 5 rfl rfl rfl rfl (by kernel_rfl) (by kernel_rfl) H (fun _ hC => R_mv) ?_
          refine WA_takeGM 6 rfl rfl rfl rfl (by kernel_rfl) (by kernel_rfl) H (fun _ hC => R_mv) ?_
          refine WA_takeGM 7 rfl rfl rfl rfl (by kernel_rfl) (by kernel_rfl) H (fun _ hC => R_mv) ?_
          refine WA_takeGM 8 rfl rfl rfl rfl (by kernel_rfl) (by kernel_rfl) H (fun _ hC => R_mv) ?_
          refine WA_takeG 9 rfl rfl rfl rfl (by kernel_rfl) (by kernel_rfl) H (fun _ hC => R_add rfl rfl (w_i64 (by omega))) ?_
          refine WA_takeG 10 rfl rfl rfl rfl (by kernel_rfl) (by kernel_rfl) H (fun _ hC => R_slice (off' := L) (i := (L : Int)) (j := (L : Int) + N) Try.underlying22 Try.sizeOf5 rfl (.some rfl) (.some rfl) (by omega) (by omega) (by omega) (by omega) (by omega) (by omega)) ?_
          refine WA_takeG 11 rfl rfl rfl rfl (by kernel_rfl) (by kernel_rfl) H (fun _ hC => R_conv_bs (xs := qs) Try.underlying22 Try.underlying5 Try.underlying9 rfl (RdS.blk (c := us.map U ++ usp) (off := L) (m := ((L : Int) + N - L).toNat) (cap := ((uc : Int) - L).toNat) (hC.get (.app _ .here)) (by rw [show ((L : Int) + N - L).toNat = N from by omega, List.drop_append_of_le_length (by rw [List.length_map]; omega), List.take_append_of_le_length (by rw [List.length_drop, List.length_map]; omega), ← List.map_drop, ← List.map_take, hqs]) (by rw [List.length_append, List.length_map]; omega) (by omega))) ?_
          refine WA_takeG 12 rfl rfl rfl rfl (by kernel_rfl) (by kernel_rfl) H (fun _ hC => R_eq_S_t rfl rfl rfl) ?_
          refine WA_takeM 13 rfl rfl rfl (by kernel_rfl) (by kernel_rfl) H (fun _ hC => R_pk_t rfl) ?_
          refine WA_takeM 14 rfl rfl rfl (by kernel_rfl) (by kernel_rfl) H (fun _ hC => R_mv) ?_
          refine WA_takeGM 15 rfl rfl rfl rfl (by kernel_rfl) (by kernel_rfl) H (fun _ hC => R_mv) ?_
          refine WA_takeG 16 rfl rfl rfl rfl (by kernel_rfl) (by kernel_rfl) H (fun _ hC => R_eq_t rfl rfl (by omega)) ?_
          refine WA_takeM 17 rfl rfl rfl (by kernel_rfl) (by kernel_rfl) H (fun _ hC => R_pk_t rfl) ?_
          refine WA_takeM 18 rfl rfl rfl (by kernel_rfl) (by kernel_rfl) H (fun _ hC => R_mv) ?_
          refine WA_one (i := 19) (by kernel_rfl) ?_
          (refine WI_call rfl (.inr ⟨_, _, rfl, rfl⟩) (R_call rfl Try.call15 rfl) (by exact awake_ret _) (by first | exact fun _ _ hR _ => H.seq0 hR.2 | exact fun _ _ hR h => Bool.noConfusion h | exact fun _ _ hR _ => (H.seq0 hR.2).none (by repeat' first | exact kNil | apply kCons | apply kApp | assumption | exact OwnS.keys (by assumption)) | exact fun _ _ hR _ => (H.seq0 hR.2).dropN (by repeat' first | exact kNil | apply kCons | apply kApp | assumption | exact OwnS.keys (by assumption))) ?_; rintro _ w347 ⟨rfl, H1⟩; replace H := H.seq0 H1; clear H1)
          refine WA_takeM 20 rfl rfl rfl (by kernel_rfl) (by kernel_rfl) H (fun _ hC => R_pk_t rfl) ?_
          refine WA_takeM 21 rfl rfl rfl (by kernel_rfl) (by kernel_rfl) H (fun _ hC => R_as) ?_
          refine WA_done (by kernel_rfl) ?_
          refine W_ret ?_
          exact ⟨_, rfl, rfl, H.none (by repeat' first | exact kNil | apply kCons | apply kApp | assumption | exact OwnS.keys (by assumption))⟩

theorem only_o2 {w : World} {ys : List UInt8} {l : Value} {lo n at_ : Int} (hl : RdS w l (ys.map U)) (hy : ys.length ≤ 200) (hV : 0 ≤ at_ ∧ n % 64 < at_) :
    Ret Try.prog 3 #[I lo, I n, I at_, l] w fun v w' => v = .bool true ∧ Hp w [] w' := by
  refine Ret_of_W (args := [_, _, _, _]) Try.func3 rfl Try.ntmps3 Try.results3 (by simp) ?_
  have H := Hp.refl w
  obtain ⟨ao, ca0, rfl⟩ := hl.form
  simp only [List.length_map] at hl ⊢
  obtain ⟨L, hL, hL2⟩ : ∃ L : Nat, lo % 64 = (L : Int) ∧ L < 64 := ⟨(lo % 64).toNat, by omega, by omega⟩
  obtain ⟨N, hN, hN2⟩ : ∃ N : Nat, n % 64 = (N : Int) ∧ N < 64 := ⟨(n % 64).toNat, by omega, by omega⟩
  rw [hN] at hV
  obtain ⟨ta, hta, hal, hag, ha0⟩ := tset t0_len t0_g (i := 0) (by decide) ⟨cp 0 (7 : Nat) 0 128 0 0, newPl.g, true⟩ (by decide)
  obtain ⟨tb, htb, hbl, hbg, hb0⟩ := tset t0_len t0_g (i := 0) (by decide) ⟨cp 0 3 (0 + (L : Int)) (N : Int) (0 : Nat) (0 + 256 * newPl.g : Nat), newPl.g, true⟩ (show newPl.g ≤ 1000001 by decide)
  obtain ⟨zs, hzs, hzl⟩ : ∃ zs : List UInt8, zs = List.replicate 128 0 ∧ zs.length = 128 := ⟨_, rfl, by simp⟩
  refine W_seq ?_
  refine W_region_l ?_
  refine WL_stepM rfl (R_as) ?_
  refine WL_nil ?_
  refine W_seq ?_
  refine W_region_l ?_
  (refine WL_call rfl (R_call rfl Try.call12 rfl) (Mem.new_ret 2 _) ?_; rintro _ w7 ⟨m, mb, rfl, H1, hm, hmb⟩; rw [show Mem.szOf 2 = 128 from rfl, ← Mem.zmap, ← hzs] at H1; replace H := H.seqN H1 (kCons hm (kCons hmb kNil)); replace H : Hp w [(m, blk [sl mb 0 128 128] 87), (mb, blk (zs.map U) 5)] w7 := H; clear H1)
  (refine WL_call rfl (R_call rfl Try.call13 rfl) (Caps.new_ret (E := 2) (by decide) (by decide) _) ?_; rintro _ w8 ⟨s, bs, cap, sp, PB, rfl, hPl, hs, hbs, hPB, H1⟩; obtain ⟨p0, b0, p1, b1, rfl⟩ := two hPl; have hsz := H.size; replace H := H.seqN H1 (spB_keys hs hbs hPB); clear H1; obtain ⟨hp0, hb0'⟩ := hPB (p0, b0) (.head _); obtain ⟨hp1, hb1'⟩ := hPB (p1, b1) (.tail _ (.head _)); replace hs := Nat.le_trans hsz hs; replace hbs := Nat.le_trans hsz hbs; replace hp0 : w.heap.size ≤ p0 := Nat.le_trans hsz hp0; replace hb0' : w.heap.size ≤ b0 := Nat.le_trans hsz hb0'; replace hp1 : w.heap.size ≤ p1 := Nat.le_trans hsz hp1; replace hb1' : w.heap.size ≤ b1 := Nat.le_trans hsz hb1'; clear hPB hPl hsz; replace H : Hp w [(s, blk [sl bs 0 2 cap] 90), (bs, blk (ptrs [(p0, b0), (p1, b1)] ++ sp) 91), (p0, blk [sl b0 0 32 32] 135), (b0, blk (rows plc t0) 137), (p1, blk [sl b1 0 32 32] 135), (b1, blk (rows plc t0) 137), (m, blk [sl mb 0 128 128] 87), (mb, blk (zs.map U) 5)] w8 := H)
  refine WL_stepM rfl (R_as) ?_
  refine WL_stepM rfl (R_as) ?_
  refine WL_nil ?_
  refine W_seq ?_
  refine W_region_l ?_
  refine WL_stepM rfl (R_mv) ?_
  refine WL_stepM rfl (R_mv) ?_
  (refine WL_call rfl (R_call rfl Try.call14 rfl) (new_ret m s _) ?_; rintro _ w16 ⟨rr, rfl, hrr, H1⟩; have hsz := H.size; replace H := H.seqN H1 (kCons hrr kNil); clear H1; replace hrr := Nat.le_trans hsz hrr; clear hsz; replace H : Hp w [(rr, blk [ptr m 0, ptr s 0, nilS] 95), (s, blk [sl bs 0 2 cap] 90), (bs, blk (ptrs [(p0, b0), (p1, b1)] ++ sp) 91), (p0, blk [sl b0 0 32 32] 135), (b0, blk (rows plc t0) 137), (p1, blk [sl b1 0 32 32] 135), (b1, blk (rows plc t0) 137), (m, blk [sl mb 0 128 128] 87), (mb, blk (zs.map U) 5)] w16 := H)
  refine WL_stepM rfl (R_as) ?_
  refine WL_nil ?_
  refine W_seq ?_
  refine W_seq ?_
  refine W_region_l ?_
  refine WL_stepM rfl (R_mv) ?_
  refine WL_step rfl (R_eq_ptr_nil Try.underlying23 rfl rfl) ?_
  refine WL_stepM rfl (R_mv) ?_
  refine WL_guard_t rfl rfl ?_
  refine WL_stepM rfl (R_mv) ?_
  refine WL_guard_t rfl rfl ?_
  refine WL_step rfl (R_eq_ptr_nil Try.underlying25 rfl rfl) ?_
  refine WL_stepM rfl (R_pk_f rfl) ?_
  refine WL_stepM rfl (R_mv) ?_
  refine WL_guard_t rfl rfl ?_
  refine WL_stepM rfl (R_mv) ?_
  refine WL_guard_t rfl rfl ?_
  refine WL_step rfl (R_eq_ptr_nil Try.underlying27 rfl rfl) ?_
  refine WL_stepM rfl (R_pk_f rfl) ?_
  refine WL_stepM rfl (R_mv) ?_
  refine WL_guard_t rfl rfl ?_
  refine WL_stepM rfl (R_mv) ?_
  refine WL_guard_t rfl rfl ?_
  refine WL_step rfl (R_len_slice Try.underlying22 rfl) ?_
  refine WL_guard_t rfl rfl ?_
  refine WL_step rfl (R_gt_f rfl rfl (by omega)) ?_
  refine WL_stepM rfl (R_pk_f rfl) ?_
  refine WL_nil ?_
  refine W_cond_f rfl ?_
  refine W_skip ?_
  refine W_seq ?_
  refine W_region_l ?_
  (refine WL_effn rfl (E_makeSlice H Try.underlying22 Try.sizeOf5 Try.typeInfo5 Try.zeroValue5 rfl rfl rfl (by omega) (by omega) (by omega) (by simp only [Try.t5]; omega)) ?_; clear H; intro al w49 hall H; replace H : Hp w [(al, blk (zs.map U) 5), (rr, blk [ptr m 0, ptr s 0, nilS] 95), (s, blk [sl bs 0 2 cap] 90), (bs, blk (ptrs [(p0, b0), (p1, b1)] ++ sp) 91), (p0, blk [sl b0 0 32 32] 135), (b0, blk (rows plc t0) 137), (p1, blk [sl b1 0 32 32] 135), (b1, blk (rows plc t0) 137), (m, blk [sl mb 0 128 128] 87), (mb, blk (zs.map U) 5)] w49 := by rw [hzs, Mem.zmap]; rw [hzs, Mem.zmap] at H; exact H)
  refine WL_stepM rfl (R_as) ?_
  refine WL_nil ?_
  refine W_seq ?_
  refine W_seq ?_
  refine W_region_l ?_
  refine WL_stepM rfl (R_mv) ?_
  refine WL_step rfl (R_len_slice Try.underlying22 rfl) ?_
  refine WL_stepM rfl (R_mv) ?_
  refine WL_nil ?_
  refine W_block ?_
  refine W_loopS [(13, 13), (66, 75)] (fun (i : Nat) E w' => ∃ av : List UInt8, i ≤ 128 ∧ av.length = 128 ∧ E 66 = I i ∧ Hp w [(al, blk (av.map U) 5), (rr, blk [ptr m 0, ptr s 0, nilS] 95), (s, blk [sl bs 0 2 cap] 90), (bs, blk (ptrs [(p0, b0), (p1, b1)] ++ sp) 91), (p0, blk [sl b0 0 32 32] 135), (b0, blk (rows plc t0) 137), (p1, blk [sl b1 0 32 32] 135), (b1, blk (rows plc t0) 137), (m, blk [sl mb 0 128 128] 87), (mb, blk (zs.map U) 5)] w') (fun i => 128 - i) 0 ?e0 ?r0
  · exact ⟨zs, by omega, hzl, rfl, H⟩
  · (clear H; rintro i E w1 ⟨av, hi, hasl, h0, H⟩; refine W_kn h0 ?_)
    refine W_seq ?_
    refine W_region_l ?_
    refine WL_step rfl (R_lt rfl rfl) ?_
    refine WL_nil ?_
    refine W_seq ?_
    refine W_if rfl (fun h67 => ?_) (fun h67 => ?_)
    · refine W_skip ?_
      refine W_seq ?_
      refine W_block ?_
      refine W_seq ?_
      refine W_region_l ?_
      refine WL_stepM rfl (R_mv) ?_
      refine WL_stepM rfl (R_as) ?_
      refine WL_nil ?_
      refine W_region_l ?_
      refine WL_stepM rfl (R_mv) ?_
      refine WL_stepM rfl (R_mv) ?_
      refine WL_stepM rfl (R_mv) ?_
      refine WL_step rfl (R_add rfl rfl (w_i64 (by omega))) ?_
      refine WL_step rfl (R_conv_int (r := ((bt ((i : Int) + 1)).toNat : Int)) Try.underlying3 Try.underlying5 rfl (bt_wrap ((i : Int) + 1))) ?_
      refine WL_step rfl (R_indexAddr (off' := i) Try.underlying22 Try.sizeOf5 rfl rfl (by omega) (by omega) (by omega)) ?_
      (refine WL_effu rfl (E_store (v := U (bt ((i : Int) + 1))) H Try.sizeOf5 rfl rfl rfl .here (by rw [List.length_map, hasl]; omega)) ?_; clear H; intro w83 H; rw [← List.map_set] at H)
      refine WL_nil ?_
      refine W_region_l ?_
      refine WL_step rfl (R_add rfl rfl (w_i64 (by omega))) ?_
      refine WL_stepM rfl (R_mv) ?_
      refine WL_nil ?_
      exact ⟨(same_mov rfl (same_updo rfl (same_updn (same_updo rfl (same_updo rfl (same_updo rfl (same_mov rfl (same_mov rfl (same_mov rfl (same_mov rfl (same_mov rfl (same_know rfl (same_updo rfl same_ovr))))))))))))), i + 1, by omega, av.set i (bt ((i : Int) + 1)), by omega, by rw [List.length_set]; exact hasl, rfl, H⟩
    · refine W_exit ?_
      refine (if_pos rfl).mpr ?_
      refine W_seq ?_
      refine W_region_l ?_
      refine WL_stepM rfl (R_mv) ?_
      refine WL_stepM rfl (R_mv) ?_
      (refine WL_call rfl (R_call rfl Try.call16 rfl) (Mem.store_yes (xs := zs) (ys := av) 0 (H.get (.there (.there (.there (.there (.there (.there (.there (.there .here))))))))) (H.get (.there (.there (.there (.there (.there (.there (.there (.there (.there .here)))))))))) hzl (by omega) (RdS.blk (c := av.map U) (off := 0) (m := 128) (cap := 128) (H.get .here) (by rw [List.drop_zero, List.take_of_length_le (by rw [List.length_map]; omega)]) (by rw [List.length_map]; omega) (by omega)) (by omega)) ?_; rintro _ w96 ⟨rfl, H1⟩; rw [put0 (by omega)] at H1; replace H := H.seq H1 (okSeq_set (.there (.there (.there (.there (.there (.there (.there (.there (.there .here))))))))) okSeq_nil); clear H1)
      refine WL_nil ?_
      refine W_seq ?_
      refine W_region_l ?_
      refine WL_stepM rfl (R_mv) ?_
      (refine WL_call rfl (R_call rfl Try.call17 rfl) (add_ret (xs := av) (H.get (.there .here)) (H.get (.there (.there (.there (.there (.there (.there (.there (.there .here))))))))) hasl (by decide) (lo := 0) (n := 128) (by decide) (by decide) (by decide)) ?_; rintro _ w101 ⟨a, ca, sp2, rfl, ha, H1⟩; have hsz := H.size; replace H := H.seq H1 (okSeq_set (.there .here) (okSeq_new ha okSeq_nil)); clear H1; replace ha := Nat.le_trans hsz ha; clear hsz)
      refine WL_stepM rfl (R_mv) ?_
      refine WL_step rfl (R_extract rfl rfl) ?_
      refine WL_step rfl (R_extract rfl rfl) ?_
      refine WL_stepM rfl (R_as) ?_
      refine WL_stepM rfl (R_as) ?_
      refine WL_nil ?_
      refine W_seq ?_
      refine W_region_l ?_
      refine WL_stepM rfl (R_mv) ?_
      refine WL_stepM rfl (R_mv) ?_
      refine WL_step rfl (R_buildL (places := [(0, 1), (1, 1), (2, 1), (3, 1), (4, 2)]) (vs := (cp 0 (7 : Nat) 0 128 0 0).c) Try.underlying38 Try.typeInfo38 rfl rfl (by kernel_rfl) rfl rfl rfl) ?_
      (refine WL_call rfl (R_call rfl Try.call18 rfl) (put_yes (j := 0) (i := 0) (r := 7) (o := 0) (lo := 0) (n := 128) (re := 0) (rn := 0) (Sp.from H (PB := [(p0, b0), (p1, b1)]) (ts := [t0, t0]) bs cap sp (inv2 t0_len t0_g t0_len t0_g) (fun _ hp => .tail _ (.tail _ (.tail _ (List.mem_append_left _ hp))))) rfl rfl (by decide) (by decide) (by decide) t0_at new_free (fun _ _ h => absurd h (Nat.not_lt_zero _))) ?_; rintro _ w113 ⟨rfl, H1⟩; rw [hta] at H1; replace H := H.seq H1 (okSeq_set (.there (.there (.there (.there (.there (.there .here)))))) okSeq_nil); clear H1)
      refine WL_stepM rfl (R_mv) ?_
      refine WL_step rfl (R_extract rfl rfl) ?_
      refine WL_step rfl (R_extract rfl rfl) ?_
      refine WL_stepM rfl (R_as) ?_
      refine WL_stepM rfl (R_as) ?_
      refine WL_nil ?_
      refine W_seq ?_
      refine W_region_l ?_
      refine WL_stepM rfl (R_mv) ?_
      refine WL_step rfl (R_bits (r := (L : Int)) rfl rfl (by simp) ((and_mask_i64 6 64 (by decide) rfl (by decide)).trans hL)) ?_
      refine WL_stepM rfl (R_as) ?_
      refine WL_nil ?_
      refine W_seq ?_
      refine W_region_l ?_
      refine WL_stepM rfl (R_mv) ?_
      refine WL_step rfl (R_bits (r := (N : Int)) rfl rfl (by simp) ((and_mask_i64 6 64 (by decide) rfl (by decide)).trans hN)) ?_
      refine WL_stepM rfl (R_as) ?_
      refine WL_nil ?_
      refine W_seq ?_
      refine W_region_l ?_
      refine WL_stepM rfl (R_mv) ?_
      refine WL_stepM rfl (R_mv) ?_
      refine WL_stepM rfl (R_mv) ?_
      refine WL_stepM rfl (R_mv) ?_
      (refine WL_call rfl (R_call rfl Try.call19 rfl) (grant_yes (j := 0) (i := 0) (k := 1) (i2 := 0) (l1 := L) (n1 := N) (gv := 3) (z := 4) (Sp.from H (PB := [(p0, b0), (p1, b1)]) (ts := [ta, t0]) bs cap sp (inv2 hal hag t0_len t0_g) (fun _ hp => .tail _ (.tail _ (.tail _ (List.mem_append_left _ hp))))) rfl rfl ha0 rfl rfl t0_at new_free (fun _ _ h => absurd h (Nat.not_lt_zero _)) (by decide) (by decide) (by decide) (by decide) (by decide) (by omega) (by omega)) ?_; rintro _ w138 ⟨rfl, H1⟩; rw [htb] at H1; replace H := H.seq H1 (okSeq_set (.there (.there (.there (.there (.there (.there (.there (.there .here)))))))) okSeq_nil); clear H1)
      refine WL_stepM rfl (R_mv) ?_
      refine WL_step rfl (R_extract rfl rfl) ?_
      refine WL_step rfl (R_extract rfl rfl) ?_
      refine WL_stepM rfl (R_as) ?_
      refine WL_stepM rfl (R_as) ?_
      refine WL_nil ?_
      refine W_seq ?_
      refine W_seq ?_
      refine W_region_l ?_
      refine WL_stepM rfl (R_mv) ?_
      refine WL_step rfl (R_ne_f rfl rfl (by omega)) ?_
      refine WL_nil ?_
      refine W_cond_f rfl ?_
      refine W_skip ?_
      refine W_seq ?_
      refine W_region_l ?_
      refine WL_stepM rfl (R_mv) ?_
      refine WL_step rfl (R_ge_t rfl rfl (by omega)) ?_
      refine WL_stepM rfl (R_mv) ?_
      refine WL_guard_t rfl rfl ?_
      refine WL_stepM rfl (R_mv) ?_
      refine WL_guard_t rfl rfl ?_
      refine WL_stepM rfl (R_mv) ?_
      refine WL_guard_t rfl rfl ?_
      refine WL_step rfl (R_le_f rfl rfl (by omega)) ?_
      refine WL_stepM rfl (R_pk_t rfl) ?_
      refine WL_stepM rfl (R_mv) ?_
      refine WL_guard_f rfl rfl (by decide) ?_
      refine WL_guard_f rfl rfl (by decide) ?_
      refine WL_guard_f rfl rfl (by decide) ?_
      refine WL_guard_f rfl rfl (by decide) ?_
      refine WL_guard_f rfl rfl (by decide) ?_
      refine WL_guard_f rfl rfl (by decide) ?_
      refine WL_stepM rfl (R_pk_f rfl) ?_
      refine WL_stepM rfl (R_as) ?_
      refine WL_nil ?_
      refine W_seq ?_
      refine W_seq ?_
      refine W_region_l ?_
      refine WL_stepM rfl (R_mv) ?_
      refine WL_stepM rfl (R_mv) ?_
      refine WL_stepM rfl (R_mv) ?_
      refine WL_stepM rfl (R_mv) ?_
      (refine WL_call rfl (R_call rfl Try.call20 rfl) (write_noU (e := 1) (hl.monoN H (by repeat' first | exact kNil | apply kCons | apply kApp | assumption | exact OwnS.keys (by assumption))) (by omega) (place_arg (j := 1) (i := 0) (z := 2) (at_ := at_) (k := ys.length) (H.get (.there (.there .here))) (Sp.from H (PB := [(p0, b0), (p1, b1)]) (ts := [ta, tb]) bs cap sp (inv2 hal hag hbl hbg) (fun _ hp => .tail _ (.tail _ (.tail _ (List.mem_append_left _ hp))))) rfl rfl hb0 (by decide) (by decide) (by omega) (by omega) (by omega)) (by decide)) ?_; rintro _ w182 ⟨rfl, H1⟩; replace H := H.seq0 H1; clear H1; obtain ⟨us, hus, hul⟩ : ∃ us : List UInt8, us = av ∧ us.length = 128 := ⟨_, rfl, hasl⟩; replace H : Hp w [(a, blk ([I 0, I 128] ++ sp2) 98), (al, blk (av.map U) 5), (rr, blk [ptr m 0, ptr s 0, sl a 0 1 ca] 95), (s, blk [sl bs 0 2 cap] 90), (bs, blk (ptrs [(p0, b0), (p1, b1)] ++ sp) 91), (p0, blk [sl b0 0 32 32] 135), (b0, blk (rows plc ta) 137), (p1, blk [sl b1 0 32 32] 135), (b1, blk (rows plc tb) 137), (m, blk [sl mb 0 128 128] 87), (mb, blk (us.map U) 5)] w182 := by rw [← hus]; rw [← hus] at H; exact H)
      refine WL_stepM rfl (R_as) ?_
      refine WL_nil ?_
      refine W_seq ?_
      refine W_region_l ?_
      refine WL_stepM rfl (R_mv) ?_
      refine WL_step rfl (R_eq_f rfl rfl (by omega)) ?_
      refine WL_stepM rfl (R_mv) ?_
      refine WL_step rfl (R_ne_bool_f Try.underlying4 rfl rfl (by decide)) ?_
      refine WL_stepM rfl (R_mv) ?_
      refine WL_guard_t rfl rfl ?_
      refine WL_stepM rfl (R_mv) ?_
      refine WL_guard_t rfl rfl ?_
      refine WL_step rfl (R_not_f rfl) ?_
      refine WL_guard_t rfl rfl ?_
      refine WL_stepM rfl (R_mv) ?_
      refine WL_guard_t rfl rfl ?_
      refine WL_stepM rfl (R_mv) ?_
      refine WL_guard_t rfl rfl ?_
      refine WL_step rfl (R_ne_f rfl rfl (by omega)) ?_
      refine WL_guard_t rfl rfl ?_
      refine WL_stepM rfl (R_pk_t rfl) ?_
      refine WL_stepM rfl (R_pk_f rfl) ?_
      refine WL_nil ?_
      refine W_cond_f rfl ?_
      refine W_skip ?_
      refine W_seq ?_
      refine W_region_l ?_
      refine WL_stepM rfl (R_mv) ?_
      (refine WL_call rfl (R_call rfl Try.call21 rfl) (Mem.load_yes (xs := us) 0 128 (H.get (.there (.there (.there (.there (.there (.there (.there (.there (.there .here)))))))))) (H.get (.there (.there (.there (.there (.there (.there (.there (.there (.there (.there .here))))))))))) hul (by omega) (by omega)) ?_; rintro _ w211 ⟨_, M, rfl, hO, H1⟩; rw [List.drop_zero, List.take_of_length_le (by omega)] at hO; have h211 := H.seqO hO H1; clear H H1 hO; obtain ⟨hO, H⟩ := h211; obtain ⟨ub, uc, usp, rfl, hub, rfl, husp, huc⟩ := OwnS.pos hO (by omega); replace H : Hp w [(ub, blk (us.map U ++ usp) 5), (a, blk ([I 0, I 128] ++ sp2) 98), (al, blk (av.map U) 5), (rr, blk [ptr m 0, ptr s 0, sl a 0 1 ca] 95), (s, blk [sl bs 0 2 cap] 90), (bs, blk (ptrs [(p0, b0), (p1, b1)] ++ sp) 91), (p0, blk [sl b0 0 32 32] 135), (b0, blk (rows plc ta) 137), (p1, blk [sl b1 0 32 32] 135), (b1, blk (rows plc tb) 137), (m, blk [sl mb 0 128 128] 87), (mb, blk (us.map U) 5)] w211 := H)
      refine WL_stepM rfl (R_mv) ?_
      refine WL_step rfl (R_extract rfl rfl) ?_
      refine WL_step rfl (R_extract rfl rfl) ?_
      refine WL_stepM rfl (R_as) ?_
      refine WL_stepM rfl (R_as) ?_
      refine WL_nil ?_
      refine W_seq ?_
      refine W_seq ?_
      refine W_region_l ?_
      refine WL_stepM rfl (R_mv) ?_
      refine WL_step rfl (R_ne_f rfl rfl (by omega)) ?_
      refine WL_stepM rfl (R_mv) ?_
      refine WL_guard_t rfl rfl ?_
      refine WL_stepM rfl (R_mv) ?_
      refine WL_guard_t rfl rfl ?_
      refine WL_step rfl (R_len_slice Try.underlying22 rfl) ?_
      refine WL_guard_t rfl rfl ?_
      refine WL_step rfl (R_ne_f rfl rfl (by omega)) ?_
      refine WL_stepM rfl (R_pk_f rfl) ?_
      refine WL_nil ?_
      refine W_cond_f rfl ?_
      refine W_skip ?_
      refine W_seq ?_
      refine W_seq ?_
      refine W_region_l ?_
      refine WL_stepM rfl (R_as) ?_
      refine WL_nil ?_
      refine W_block ?_
      refine W_loopS [(8, 8), (24, 25), (149, 188)] (fun (i : Nat) E w' => i ≤ 128 ∧ E 24 = I i ∧ Hp w [(ub, blk (us.map U ++ usp) 5), (a, blk ([I 0, I 128] ++ sp2) 98), (al, blk (av.map U) 5), (rr, blk [ptr m 0, ptr s 0, sl a 0 1 ca] 95), (s, blk [sl bs 0 2 cap] 90), (bs, blk (ptrs [(p0, b0), (p1, b1)] ++ sp) 91), (p0, blk [sl b0 0 32 32] 135), (b0, blk (rows plc ta) 137), (p1, blk [sl b1 0 32 32] 135), (b1, blk (rows plc tb) 137), (m, blk [sl mb 0 128 128] 87), (mb, blk (us.map U) 5)] w') (fun i => 128 - i) 0 ?e2 ?r2
      · exact ⟨by omega, rfl, H⟩
      · (clear H; rintro i E w1 ⟨hi, h0, H⟩; refine W_kn h0 ?_)
        refine W_seq ?_
        refine W_seq ?_
        refine W_region_l ?_
        refine WL_stepM rfl (R_mv) ?_
        refine WL_step rfl (R_lt rfl rfl) ?_
        refine WL_nil ?_
        refine W_if rfl (fun h248 => ?_) (fun h248 => ?_)
        · refine W_skip ?_
          refine W_seq ?_
          refine W_block ?_
          refine W_seq ?_
          ((obtain ⟨x, hx⟩ : ∃ x, us[i]? = some x := ⟨_, List.getElem?_eq_getElem (by omega)⟩; obtain ⟨y, hyy⟩ : ∃ y, av[i]? = some y := ⟨_, List.getElem?_eq_getElem (by omega)⟩)) <;> refine W_region_l ?_
          refine WL_stepM rfl (R_mv) ?_
          refine WL_stepM rfl (R_mv) ?_
          refine WL_step rfl (R_indexAddr (off' := i) Try.underlying22 Try.sizeOf5 rfl rfl (by omega) (by omega) (by omega)) ?_
          refine WL_step rfl (R_load (v := U y) Try.isAgg5 rfl (H.get (.there (.there .here))) (by rw [List.getElem?_map, hyy]; rfl)) ?_
          refine WL_stepM rfl (R_as) ?_
          refine WL_nil ?_
          refine W_seq ?_
          refine W_seq ?_
          refine W_region_l ?_
          refine WL_stepM rfl (R_mv) ?_
          refine WL_stepM rfl (R_mv) ?_
          refine WL_guard_f rfl rfl (by decide) ?_
          refine WL_guard_f rfl rfl (by decide) ?_
          refine WL_guard_f rfl rfl (by decide) ?_
          refine WL_guard_f rfl rfl (by decide) ?_
          refine WL_guard_f rfl rfl (by decide) ?_
          refine WL_stepM rfl (R_pk_f rfl) ?_
          refine WL_stepM rfl (R_mv) ?_
          refine WL_guard_f rfl rfl (by decide) ?_
          refine WL_guard_f rfl rfl (by decide) ?_
          refine WL_guard_f rfl rfl (by decide) ?_
          refine WL_guard_f rfl rfl (by decide) ?_
          refine WL_guard_f rfl rfl (by decide) ?_
          refine WL_guard_f rfl rfl (by decide) ?_
          refine WL_guard_f rfl rfl (by decide) ?_
          refine WL_guard_f rfl rfl (by decide) ?_
          refine WL_stepM rfl (R_pk_f rfl) ?_
          refine WL_nil ?_
          refine W_cond_f rfl ?_
          refine W_skip ?_
          refine W_seq ?_
          refine W_region_l ?_
          refine WL_stepM rfl (R_mv) ?_
          refine WL_stepM rfl (R_mv) ?_
          refine WL_step rfl (R_indexAddr (off' := i) Try.underlying22 Try.sizeOf5 rfl rfl (by omega) (by omega) (by omega)) ?_
          refine WL_step rfl (R_load (v := U x) Try.isAgg5 rfl (H.get .here) (by rw [List.getElem?_append_left (by rw [List.length_map]; omega), List.getElem?_map, hx]; rfl)) ?_
          refine WL_stepM rfl (R_mv) ?_
          (obtain rfl : x = y := (by rw [hus, hyy] at hx; exact (Option.some.inj hx).symm); refine WL_step rfl (R_ne_f rfl rfl rfl) ?_)
          refine WL_nil ?_
          refine W_cond_f rfl ?_
          refine W_skip ?_
          refine W_region_l ?_
          refine WL_stepM rfl (R_mv) ?_
          refine WL_step rfl (R_add rfl rfl (w_i64 (by omega))) ?_
          refine WL_stepM rfl (R_as) ?_
          refine WL_nil ?_
          exact ⟨(same_mov rfl (same_updo rfl (same_mov rfl (same_updo rfl (same_mov rfl (same_updo rfl (same_updo rfl (same_mov rfl (same_mov rfl (same_mov rfl (same_updo rfl (same_updo rfl (same_updo rfl (same_updo rfl (same_updo rfl (same_updo rfl (same_updo rfl (same_updo rfl (same_mov rfl (same_mov rfl (same_updo rfl (same_updo rfl (same_updo rfl (same_updo rfl (same_updo rfl (same_mov rfl (same_mov rfl (same_mov rfl (same_updo rfl (same_updo rfl (same_mov rfl (same_mov rfl (same_know rfl (same_updo rfl (same_mov rfl same_ovr))))))))))))))))))))))))))))))))))), i + 1, by omega, by omega, rfl, H⟩
        · refine W_exit ?_
          refine (if_pos rfl).mpr ?_
          refine W_seq ?_
          refine W_region_l ?_
          refine WL_stepM rfl (R_mv) ?_
          refine WL_stepM rfl (R_mv) ?_
          refine WL_stepM rfl (R_mv) ?_
          (refine WL_call rfl (R_call rfl Try.call22 rfl) (read_yes (xs := us) (p := L) (k := N) (place_to (j := 1) (i := 0) (z := 1) (k := N) (at_ := 0) (lo := 0 + (L : Int)) (rlo := 0) (rn := 128) (by omega) (H.get (.there (.there (.there .here)))) (H.get (.there .here)) (Sp.from H (PB := [(p0, b0), (p1, b1)]) (ts := [ta, tb]) bs cap sp (inv2 hal hag hbl hbg) (fun _ hp => .tail _ (.tail _ (.tail _ (.tail _ (List.mem_append_left _ hp)))))) rfl rfl hb0 (by decide) (by decide) (by omega) (by omega) (by decide) (by decide) (by omega) (by omega) (by omega)) (H.get (.there (.there (.there .here)))) (H.get (.there (.there (.there (.there (.there (.there (.there (.there (.there (.there .here))))))))))) (H.get (.there (.there (.there (.there (.there (.there (.there (.there (.there (.there (.there .here)))))))))))) hul (by decide) (by omega)) ?_; rintro _ w308 ⟨u2, M2, rfl, hO2, H1⟩; have h308 := H.seqO hO2 H1; clear H H1 hO2; obtain ⟨hO2, H⟩ := h308; obtain ⟨qs, hqs, hql⟩ : ∃ qs, qs = (us.drop L).take N ∧ qs.length = N := ⟨_, rfl, by rw [List.length_take, List.length_drop]; omega⟩; rw [← hqs] at hO2; obtain ⟨a2, c2, rfl⟩ := hO2.form)
          refine WL_stepM rfl (R_mv) ?_
          refine WL_step rfl (R_extract rfl rfl) ?_
          refine WL_step rfl (R_extract rfl rfl) ?_
          refine WL_stepM rfl (R_as) ?_
          refine WL_stepM rfl (R_as) ?_
          refine WL_nil ?_
          refine W_seq ?_
          refine W_region_l ?_
          refine WL_stepM rfl (R_mv) ?_
          refine WL_stepM rfl (R_mv) ?_
          refine WL_stepM rfl (R_mv) ?_
          refine WL_step rfl (R_add rfl rfl (w_i64 (by omega))) ?_
          (have _g := hO2; refine WL_call rfl (R_call rfl Try.call22 rfl) (read_no (e := 1) (place_arg (j := 1) (i := 0) (z := 1) (k := (N : Int) + 1) (at_ := 0) (H.get (.app _ (.there (.there (.there .here))))) (Sp.from H (PB := [(p0, b0), (p1, b1)]) (ts := [ta, tb]) bs cap sp (inv2 hal hag hbl hbg) (fun _ hp => List.mem_append_right _ (.tail _ (.tail _ (.tail _ (.tail _ (List.mem_append_left _ hp))))))) rfl rfl hb0 (by decide) (by decide) (by omega) (by omega) (by omega)) (by decide)) ?_; rintro _ w321 ⟨rfl, H1⟩; replace H := H.seq0 H1; clear H1)
          refine WL_stepM rfl (R_mv) ?_
          refine WL_step rfl (R_extract rfl rfl) ?_
          refine WL_step rfl (R_extract rfl rfl) ?_
          refine WL_stepM rfl (R_as) ?_
          refine WL_stepM rfl (R_as) ?_
          refine WL_nil ?_
          refine W_seq ?_
          (refine W_drawH (fun _ => false) (by kernel_rfl) H ?_; clear H; intro w329 H)
          refine WA_takeM 0 rfl rfl rfl (by kernel_rfl) (by kernel_rfl) H (fun _ hC => R_mv) ?_
          refine WA_take 1 rfl rfl rfl (by kernel_rfl) (by kernel_rfl) H (fun _ hC => R_eq_t rfl rfl (by omega)) ?_
          refine WA_takeM 2 rfl rfl rfl (by kernel_rfl) (by kernel_rfl) H (fun _ hC => R_mv) ?_
          refine WA_takeGM 3 rfl rfl rfl rfl (by kernel_rfl) (by kernel_rfl) H (fun _ hC => R_mv) ?_
          refine WA_takeG 4 rfl rfl rfl rfl (by kernel_rfl) (by kernel_rfl) H (fun _ hC => R_conv_bs (xs := qs) Try.underlying22 Try.underlying5 Try.underlying9 rfl (RdS.own hO2 (fun q hq => hC.held q (by simp [hq])))) ?_
          refine WA_takeGM 5 rfl rfl rfl rfl (by kernel_rfl) (by kernel_rfl) H (fun _ hC => R_mv) ?_
          refine WA_takeGM 6 rfl rfl rfl rfl (by kernel_rfl) (by kernel_rfl) H (fun _ hC => R_mv) ?_
          refine WA_takeGM 7 rfl rfl rfl rfl (by kernel_rfl) (by kernel_rfl) H (fun _ hC => R_mv) ?_
          refine WA_takeGM 8 rfl rfl rfl rfl (by kernel_rfl) (by kernel_rfl) H (fun _ hC => R_mv) ?_
          refine WA_takeG 9 rfl rfl rfl rfl (by kernel_rfl) (by kernel_rfl) H (fun _ hC => R_add rfl rfl (w_i64 (by omega))) ?_
          refine WA_takeG 10 rfl rfl rfl rfl (by kernel_rfl) (by kernel_rfl) H (fun _ hC => R_slice (off' := L) (i := (L : Int)) (j := (L : Int) + N) Try.underlying22 Try.sizeOf5 rfl (.some rfl) (.some rfl) (by omega) (by omega) (by omega) (by omega) (by omega) (by omega)) ?_
          refine WA_takeG 11 rfl rfl rfl rfl (by kernel_rfl) (by kernel_rfl) H (fun _ hC => R_conv_bs (xs := qs) Try.underlying22 Try.underlying5 Try.underlying9 rfl (RdS.blk (c := us.map U ++ usp) (off := L) (m := ((L : Int) + N - L).toNat) (cap := ((uc : Int) - L).toNat) (hC.get (.app _ .here)) (by rw [show ((L : Int) + N - L).toNat = N from by omega, List.drop_append_of_le_length (by rw [List.length_map]; omega), List.take_append_of_le_length (by rw [List.length_drop, List.length_map]; omega), ← List.map_drop, ← List.map_take, hqs]) (by rw [List.length_append, List.length_map]; omega) (by omega))) ?_
          refine WA_takeG 12 rfl rfl rfl rfl (by kernel_rfl) (by kernel_rfl) H (fun _ hC => R_eq_S_t rfl rfl rfl) ?_
          refine WA_takeM 13 rfl rfl rfl (by kernel_rfl) (by kernel_rfl) H (fun _ hC => R_pk_t rfl) ?_
          refine WA_takeM 14 rfl rfl rfl (by kernel_rfl) (by kernel_rfl) H (fun _ hC => R_mv) ?_
          refine WA_takeGM 15 rfl rfl rfl rfl (by kernel_rfl) (by kernel_rfl) H (fun _ hC => R_mv) ?_
          refine WA_takeG 16 rfl rfl rfl rfl (by kernel_rfl) (by kernel_rfl) H (fun _ hC => R_eq_t rfl rfl (by omega)) ?_
          refine WA_takeM 17 rfl rfl rfl (by kernel_rfl) (by kernel_rfl) H (fun _ hC => R_pk_t rfl) ?_
          refine WA_takeM 18 rfl rfl rfl (by kernel_rfl) (by kernel_rfl) H (fun _ hC => R_mv) ?_
          refine WA_one (i := 19) (by kernel_rfl) ?_
          (refine WI_call rfl (.inr ⟨_, _, rfl, rfl⟩) (R_call rfl Try.call15 rfl) (by exact awake_ret _) (by first | exact fun _ _ hR _ => H.seq0 hR.2 | exact fun _ _ hR h => Bool.noConfusion h | exact fun _ _ hR _ => (H.seq0 hR.2).none (by repeat' first | exact kNil | apply kCons | apply kApp | assumption | exact OwnS.keys (by assumption)) | exact fun _ _ hR _ => (H.seq0 hR.2).dropN (by repeat' first | exact kNil | apply kCons | apply kApp | assumption | exact OwnS.keys (by assumption))) ?_; rintro _ w350 ⟨rfl, H1⟩; replace H := H.seq0 H1; clear H1)
          refine WA_takeM 20 rfl rfl rfl (by kernel_rfl) (by kernel_rfl) H (fun _ hC => R_pk_t rfl) ?_
          refine WA_takeM 21 rfl rfl rfl (by kernel_rfl) (by kernel_rfl) H (fun _ hC => R_as) ?_
          refine WA_done (by kernel_rfl) ?_
          refine W_ret ?_
          exact ⟨_, rfl, rfl, H.none (by repeat' first | exact kNil | apply kCons | apply kApp | assumption | exact OwnS.keys (by assumption))⟩

theorem only_o3 {w : World} {ys : List UInt8} {l : Value} {lo n at_ : Int} (hl : RdS w l (ys.map U)) (hy : ys.length ≤ 200) (hV : 0 ≤ at_ ∧ at_ ≤ n % 64 ∧ n % 64 - at_ < (ys.length : Int)) :
    Ret Try.prog 3 #[I lo, I n, I at_, l] w fun v w' => v = .bool true ∧ Hp w [] w' := by
  refine Ret_of_W (args := [_, _, _, _]) Try.func3 rfl Try.ntmps3 Try.results3 (by simp) ?_
  have H := Hp.refl w
  obtain ⟨ao, ca0, rfl⟩ := hl.form
  simp only [List.length_map] at hl ⊢
  obtain ⟨L, hL, hL2⟩ : ∃ L : Nat, lo % 64 = (L : Int) ∧ L < 64 := ⟨(lo % 64).toNat, by omega, by omega⟩
  obtain ⟨N, hN, hN2⟩ : ∃ N : Nat, n % 64 = (N : Int) ∧ N < 64 := ⟨(n % 64).toNat, by omega, by omega⟩
  rw [hN] at hV
  obtain ⟨ta, hta, hal, hag, ha0⟩ := tset t0_len t0_g (i := 0) (by decide) ⟨cp 0 (7 : Nat) 0 128 0 0, newPl.g, true⟩ (by decide)
  obtain ⟨tb, htb, hbl, hbg, hb0⟩ := tset t0_len t0_g (i := 0) (by decide) ⟨cp 0 3 (0 + (L : Int)) (N : Int) (0 : Nat) (0 + 256 * newPl.g : Nat), newPl.g, true⟩ (show newPl.g ≤ 1000001 by decide)
  obtain ⟨zs, hzs, hzl⟩ : ∃ zs : List UInt8, zs = List.replicate 128 0 ∧ zs.length = 128 := ⟨_, rfl, by simp⟩
  refine W_seq ?_
  refine W_region_l ?_
  refine WL_stepM rfl (R_as) ?_
  refine WL_nil ?_
  refine W_seq ?_
  refine W_region_l ?_
  (refine WL_call rfl (R_call rfl Try.call12 rfl) (Mem.new_ret 2 _) ?_; rintro _ w7 ⟨m, mb, rfl, H1, hm, hmb⟩; rw [show Mem.szOf 2 = 128 from rfl, ← Mem.zmap, ← hzs] at H1; replace H := H.seqN H1 (kCons hm (kCons hmb kNil)); replace H : Hp w [(m, blk [sl mb 0 128 128] 87), (mb, blk (zs.map U) 5)] w7 := H; clear H1)
  (refine WL_call rfl (R_call rfl Try.call13 rfl) (Caps.new_ret (E := 2) (by decide) (by decide) _) ?_; rintro _ w8 ⟨s, bs, cap, sp, PB, rfl, hPl, hs, hbs, hPB, H1⟩; obtain ⟨p0, b0, p1, b1, rfl⟩ := two hPl; have hsz := H.size; replace H := H.seqN H1 (spB_keys hs hbs hPB); clear H1; obtain ⟨hp0, hb0'⟩ := hPB (p0, b0) (.head _); obtain ⟨hp1, hb1'⟩ := hPB (p1, b1) (.tail _ (.head _)); replace hs := Nat.le_trans hsz hs; replace hbs := Nat.le_trans hsz hbs; replace hp0 : w.heap.size ≤ p0 := Nat.le_trans hsz hp0; replace hb0' : w.heap.size ≤ b0 := Nat.le_trans hsz hb0'; replace hp1 : w.heap.size ≤ p1 := Nat.le_trans hsz hp1; replace hb1' : w.heap.size ≤ b1 := Nat.le_trans hsz hb1'; clear hPB hPl hsz; replace H : Hp w [(s, blk [sl bs 0 2 cap] 90), (bs, blk (ptrs [(p0, b0), (p1, b1)] ++ sp) 91), (p0, blk [sl b0 0 32 32] 135), (b0, blk (rows plc t0) 137), (p1, blk [sl b1 0 32 32] 135), (b1, blk (rows plc t0) 137), (m, blk [sl mb 0 128 128] 87), (mb, blk (zs.map U) 5)] w8 := H)
  refine WL_stepM rfl (R_as) ?_
  refine WL_stepM rfl (R_as) ?_
  refine WL_nil ?_
  refine W_seq ?_
  refine W_region_l ?_
  refine WL_stepM rfl (R_mv) ?_
  refine WL_stepM rfl (R_mv) ?_
  (refine WL_call rfl (R_call rfl Try.call14 rfl) (new_ret m s _) ?_; rintro _ w16 ⟨rr, rfl, hrr, H1⟩; have hsz := H.size; replace H := H.seqN H1 (kCons hrr kNil); clear H1; replace hrr := Nat.le_trans hsz hrr; clear hsz; replace H : Hp w [(rr, blk [ptr m 0, ptr s 0, nilS] 95), (s, blk [sl bs 0 2 cap] 90), (bs, blk (ptrs [(p0, b0), (p1, b1)] ++ sp) 91), (p0, blk [sl b0 0 32 32] 135), (b0, blk (rows plc t0) 137), (p1, blk [sl b1 0 32 32] 135), (b1, blk (rows plc t0) 137), (m, blk [sl mb 0 128 128] 87), (mb, blk (zs.map U) 5)] w16 := H)
  refine WL_stepM rfl (R_as) ?_
  refine WL_nil ?_
  refine W_seq ?_
  refine W_seq ?_
  refine W_region_l ?_
  refine WL_stepM rfl (R_mv) ?_
  refine WL_step rfl (R_eq_ptr_nil Try.underlying23 rfl rfl) ?_
  refine WL_stepM rfl (R_mv) ?_
  refine WL_guard_t rfl rfl ?_
  refine WL_stepM rfl (R_mv) ?_
  refine WL_guard_t rfl rfl ?_
  refine WL_step rfl (R_eq_ptr_nil Try.underlying25 rfl rfl) ?_
  refine WL_stepM rfl (R_pk_f rfl) ?_
  refine WL_stepM rfl (R_mv) ?_
  refine WL_guard_t rfl rfl ?_
  refine WL_stepM rfl (R_mv) ?_
  refine WL_guard_t rfl rfl ?_
  refine WL_step rfl (R_eq_ptr_nil Try.underlying27 rfl rfl) ?_
  refine WL_stepM rfl (R_pk_f rfl) ?_
  refine WL_stepM rfl (R_mv) ?_
  refine WL_guard_t rfl rfl ?_
  refine WL_stepM rfl (R_mv) ?_
  refine WL_guard_t rfl rfl ?_
  refine WL_step rfl (R_len_slice Try.underlying22 rfl) ?_
  refine WL_guard_t rfl rfl ?_
  refine WL_step rfl (R_gt_f rfl rfl (by omega)) ?_
  refine WL_stepM rfl (R_pk_f rfl) ?_
  refine WL_nil ?_
  refine W_cond_f rfl ?_
  refine W_skip ?_
  refine W_seq ?_
  refine W_region_l ?_
  (refine WL_effn rfl (E_makeSlice H Try.underlying22 Try.sizeOf5 Try.typeInfo5 Try.zeroValue5 rfl rfl rfl (by omega) (by omega) (by omega) (by simp only [Try.t5]; omega)) ?_; clear H; intro al w49 hall H; replace H : Hp w [(al, blk (zs.map U) 5), (rr, blk [ptr m 0, ptr s 0, nilS] 95), (s, blk [sl bs 0 2 cap] 90), (bs, blk (ptrs [(p0, b0), (p1, b1)] ++ sp) 91), (p0, blk [sl b0 0 32 32] 135), (b0, blk (rows plc t0) 137), (p1, blk [sl b1 0 32 32] 135), (b1, blk (rows plc t0) 137), (m, blk [sl mb 0 128 128] 87), (mb, blk (zs.map U) 5)] w49 := by rw [hzs, Mem.zmap]; rw [hzs, Mem.zmap] at H; exact H)
  refine WL_stepM rfl (R_as) ?_
  refine WL_nil ?_
  refine W_seq ?_
  refine W_seq ?_
  refine W_region_l ?_
  refine WL_stepM rfl (R_mv) ?_
  refine WL_step rfl (R_len_slice Try.underlying22 rfl) ?_
  refine WL_stepM rfl (R_mv) ?_
  refine WL_nil ?_
  refine W_block ?_
  refine W_loopS [(13, 13), (66, 75)] (fun (i : Nat) E w' => ∃ av : List UInt8, i ≤ 128 ∧ av.length = 128 ∧ E 66 = I i ∧ Hp w [(al, blk (av.map U) 5), (rr, blk [ptr m 0, ptr s 0, nilS] 95), (s, blk [sl bs 0 2 cap] 90), (bs, blk (ptrs [(p0, b0), (p1, b1)] ++ sp) 91), (p0, blk [sl b0 0 32 32] 135), (b0, blk (rows plc t0) 137), (p1, blk [sl b1 0 32 32] 135), (b1, blk (rows plc t0) 137), (m, blk [sl mb 0 128 128] 87), (mb, blk (zs.map U) 5)] w') (fun i => 128 - i) 0 ?e0 ?r0
  · exact ⟨zs, by omega, hzl, rfl, H⟩
  · (clear H; rintro i E w1 ⟨av, hi, hasl, h0, H⟩; refine W_kn h0 ?_)
    refine W_seq ?_
    refine W_region_l ?_
    refine WL_step rfl (R_lt rfl rfl) ?_
    refine WL_nil ?_
    refine W_seq ?_
    refine W_if rfl (fun h67 => ?_) (fun h67 => ?_)
    · refine W_skip ?_
      refine W_seq ?_
      refine W_block ?_
      refine W_seq ?_
      refine W_region_l ?_
      refine WL_stepM rfl (R_mv) ?_
      refine WL_stepM rfl (R_as) ?_
      refine WL_nil ?_
      refine W_region_l ?_
      refine WL_stepM rfl (R_mv) ?_
      refine WL_stepM rfl (R_mv) ?_
      refine WL_stepM rfl (R_mv) ?_
      refine WL_step rfl (R_add rfl rfl (w_i64 (by omega))) ?_
      refine WL_step rfl (R_conv_int (r := ((bt ((i : Int) + 1)).toNat : Int)) Try.underlying3 Try.underlying5 rfl (bt_wrap ((i : Int) + 1))) ?_
      refine WL_step rfl (R_indexAddr (off' := i) Try.underlying22 Try.sizeOf5 rfl rfl (by omega) (by omega) (by omega)) ?_
      (refine WL_effu rfl (E_store (v := U (bt ((i : Int) + 1))) H Try.sizeOf5 rfl rfl rfl .here (by rw [List.length_map, hasl]; omega)) ?_; clear H; intro w83 H; rw [← List.map_set] at H)
      refine WL_nil ?_
      refine W_region_l ?_
      refine WL_step rfl (R_add rfl rfl (w_i64 (by omega))) ?_
      refine WL_stepM rfl (R_mv) ?_
      refine WL_nil ?_
      exact ⟨(same_mov rfl (same_updo rfl (same_updn (same_updo rfl (same_updo rfl (same_updo rfl (same_mov rfl (same_mov rfl (same_mov rfl (same_mov rfl (same_mov rfl (same_know rfl (same_updo rfl same_ovr))))))))))))), i + 1, by omega, av.set i (bt ((i : Int) + 1)), by omega, by rw [List.length_set]; exact hasl, rfl, H⟩
    · refine W_exit ?_
      refine (if_pos rfl).mpr ?_
      refine W_seq ?_
      refine W_region_l ?_
      refine WL_stepM rfl (R_mv) ?_
      refine WL_stepM rfl (R_mv) ?_
      (refine WL_call rfl (R_call rfl Try.call16 rfl) (Mem.store_yes (xs := zs) (ys := av) 0 (H.get (.there (.there (.there (.there (.there (.there (.there (.there .here))))))))) (H.get (.there (.there (.there (.there (.there (.there (.there (.there (.there .here)))))))))) hzl (by omega) (RdS.blk (c := av.map U) (off := 0) (m := 128) (cap := 128) (H.get .here) (by rw [List.drop_zero, List.take_of_length_le (by rw [List.length_map]; omega)]) (by rw [List.length_map]; omega) (by omega)) (by omega)) ?_; rintro _ w96 ⟨rfl, H1⟩; rw [put0 (by omega)] at H1; replace H := H.seq H1 (okSeq_set (.there (.there (.there (.there (.there (.there (.there (.there (.there .here))))))))) okSeq_nil); clear H1)
      refine WL_nil ?_
      refine W_seq ?_
      refine W_region_l ?_
      refine WL_stepM rfl (R_mv) ?_
      (refine WL_call rfl (R_call rfl Try.call17 rfl) (add_ret (xs := av) (H.get (.there .here)) (H.get (.there (.there (.there (.there (.there (.there (.there (.there .here))))))))) hasl (by decide) (lo := 0) (n := 128) (by decide) (by decide) (by decide)) ?_; rintro _ w101 ⟨a, ca, sp2, rfl, ha, H1⟩; have hsz := H.size; replace H := H.seq H1 (okSeq_set (.there .here) (okSeq_new ha okSeq_nil)); clear H1; replace ha := Nat.le_trans hsz ha; clear hsz)
      refine WL_stepM rfl (R_mv) ?_
      refine WL_step rfl (R_extract rfl rfl) ?_
      refine WL_step rfl (R_extract rfl rfl) ?_
      refine WL_stepM rfl (R_as) ?_
      refine WL_stepM rfl (R_as) ?_
      refine WL_nil ?_
      refine W_seq ?_
      refine W_region_l ?_
      refine WL_stepM rfl (R_mv) ?_
      refine WL_stepM rfl (R_mv) ?_
      refine WL_step rfl (R_buildL (places := [(0, 1), (1, 1), (2, 1), (3, 1), (4, 2)]) (vs := (cp 0 (7 : Nat) 0 128 0 0).c) Try.underlying38 Try.typeInfo38 rfl rfl (by kernel_rfl) rfl rfl rfl) ?_
      (refine WL_call rfl (R_call rfl Try.call18 rfl) (put_yes (j := 0) (i := 0) (r := 7) (o := 0) (lo := 0) (n := 128) (re := 0) (rn := 0) (Sp.from H (PB := [(p0, b0), (p1, b1)]) (ts := [t0, t0]) bs cap sp (inv2 t0_len t0_g t0_len t0_g) (fun _ hp => .tail _ (.tail _ (.tail _ (List.mem_append_left _ hp))))) rfl rfl (by decide) (by decide) (by decide) t0_at new_free (fun _ _ h => absurd h (Nat.not_lt_zero _))) ?_; rintro _ w113 ⟨rfl, H1⟩; rw [hta] at H1; replace H := H.seq H1 (okSeq_set (.there (.there (.there (.there (.there (.there .here)))))) okSeq_nil); clear H1)
      refine WL_stepM rfl (R_mv) ?_
      refine WL_step rfl (R_extract rfl rfl) ?_
      refine WL_step rfl (R_extract rfl rfl) ?_
      refine WL_stepM rfl (R_as) ?_
      refine WL_stepM rfl (R_as) ?_
      refine WL_nil ?_
      refine W_seq ?_
      refine W_region_l ?_
      refine WL_stepM rfl (R_mv) ?_
      refine WL_step rfl (R_bits (r := (L : Int)) rfl rfl (by simp) ((and_mask_i64 6 64 (by decide) rfl (by decide)).trans hL)) ?_
      refine WL_stepM rfl (R_as) ?_
      refine WL_nil ?_
      refine W_seq ?_
      refine W_region_l ?_
      refine WL_stepM rfl (R_mv) ?_
      refine WL_step rfl (R_bits (r := (N : Int)) rfl rfl (by simp) ((and_mask_i64 6 64 (by decide) rfl (by decide)).trans hN)) ?_
      refine WL_stepM rfl (R_as) ?_
      refine WL_nil ?_
      refine W_seq ?_
      refine W_region_l ?_
      refine WL_stepM rfl (R_mv) ?_
      refine WL_stepM rfl (R_mv) ?_
      refine WL_stepM rfl (R_mv) ?_
      refine WL_stepM rfl (R_mv) ?_
      (refine WL_call rfl (R_call rfl Try.call19 rfl) (grant_yes (j := 0) (i := 0) (k := 1) (i2 := 0) (l1 := L) (n1 := N) (gv := 3) (z := 4) (Sp.from H (PB := [(p0, b0), (p1, b1)]) (ts := [ta, t0]) bs cap sp (inv2 hal hag t0_len t0_g) (fun _ hp => .tail _ (.tail _ (.tail _ (List.mem_append_left _ hp))))) rfl rfl ha0 rfl rfl t0_at new_free (fun _ _ h => absurd h (Nat.not_lt_zero _)) (by decide) (by decide) (by decide) (by decide) (by decide) (by omega) (by omega)) ?_; rintro _ w138 ⟨rfl, H1⟩; rw [htb] at H1; replace H := H.seq H1 (okSeq_set (.there (.there (.there (.there (.there (.there (.there (.there .here)))))))) okSeq_nil); clear H1)
      refine WL_stepM rfl (R_mv) ?_
      refine WL_step rfl (R_extract rfl rfl) ?_
      refine WL_step rfl (R_extract rfl rfl) ?_
      refine WL_stepM rfl (R_as) ?_
      refine WL_stepM rfl (R_as) ?_
      refine WL_nil ?_
      refine W_seq ?_
      refine W_seq ?_
      refine W_region_l ?_
      refine WL_stepM rfl (R_mv) ?_
      refine WL_step rfl (R_ne_f rfl rfl (by omega)) ?_
      refine WL_nil ?_
      refine W_cond_f rfl ?_
      refine W_skip ?_
      refine W_seq ?_
      refine W_region_l ?_
      refine WL_stepM rfl (R_mv) ?_
      refine WL_step rfl (R_ge_t rfl rfl (by omega)) ?_
      refine WL_stepM rfl (R_mv) ?_
      refine WL_guard_t rfl rfl ?_
      refine WL_stepM rfl (R_mv) ?_
      refine WL_guard_t rfl rfl ?_
      refine WL_stepM rfl (R_mv) ?_
      refine WL_guard_t rfl rfl ?_
      refine WL_step rfl (R_le_t rfl rfl (by omega)) ?_
      refine WL_stepM rfl (R_pk_t rfl) ?_
      refine WL_stepM rfl (R_mv) ?_
      refine WL_guard_t rfl rfl ?_
      refine WL_stepM rfl (R_mv) ?_
      refine WL_guard_t rfl rfl ?_
      refine WL_step rfl (R_len_slice Try.underlying22 rfl) ?_
      refine WL_guard_t rfl rfl ?_
      refine WL_stepM rfl (R_mv) ?_
      refine WL_guard_t rfl rfl ?_
      refine WL_stepM rfl (R_mv) ?_
      refine WL_guard_t rfl rfl ?_
      refine WL_step rfl (R_sub rfl rfl (w_i64 (by omega))) ?_
      refine WL_guard_t rfl rfl ?_
      refine WL_step rfl (R_le_f rfl rfl (by omega)) ?_
      refine WL_stepM rfl (R_pk_t rfl) ?_
      refine WL_stepM rfl (R_as) ?_
      refine WL_nil ?_
      refine W_seq ?_
      refine W_seq ?_
      refine W_region_l ?_
      refine WL_stepM rfl (R_mv) ?_
      refine WL_stepM rfl (R_mv) ?_
      refine WL_stepM rfl (R_mv) ?_
      refine WL_stepM rfl (R_mv) ?_
      (refine WL_call rfl (R_call rfl Try.call20 rfl) (write_noU (e := 1) (hl.monoN H (by repeat' first | exact kNil | apply kCons | apply kApp | assumption | exact OwnS.keys (by assumption))) (by omega) (place_arg (j := 1) (i := 0) (z := 2) (at_ := at_) (k := ys.length) (H.get (.there (.there .here))) (Sp.from H (PB := [(p0, b0), (p1, b1)]) (ts := [ta, tb]) bs cap sp (inv2 hal hag hbl hbg) (fun _ hp => .tail _ (.tail _ (.tail _ (List.mem_append_left _ hp))))) rfl rfl hb0 (by decide) (by decide) (by omega) (by omega) (by omega)) (by decide)) ?_; rintro _ w188 ⟨rfl, H1⟩; replace H := H.seq0 H1; clear H1; obtain ⟨us, hus, hul⟩ : ∃ us : List UInt8, us = av ∧ us.length = 128 := ⟨_, rfl, hasl⟩; replace H : Hp w [(a, blk ([I 0, I 128] ++ sp2) 98), (al, blk (av.map U) 5), (rr, blk [ptr m 0, ptr s 0, sl a 0 1 ca] 95), (s, blk [sl bs 0 2 cap] 90), (bs, blk (ptrs [(p0, b0), (p1, b1)] ++ sp) 91), (p0, blk [sl b0 0 32 32] 135), (b0, blk (rows plc ta) 137), (p1, blk [sl b1 0 32 32] 135), (b1, blk (rows plc tb) 137), (m, blk [sl mb 0 128 128] 87), (mb, blk (us.map U) 5)] w188 := by rw [← hus]; rw [← hus] at H; exact H)
      refine WL_stepM rfl (R_as) ?_
      refine WL_nil ?_
      refine W_seq ?_
      refine W_region_l ?_
      refine WL_stepM rfl (R_mv) ?_
      refine WL_step rfl (R_eq_f rfl rfl (by omega)) ?_
      refine WL_stepM rfl (R_mv) ?_
      refine WL_step rfl (R_ne_bool_f Try.underlying4 rfl rfl (by decide)) ?_
      refine WL_stepM rfl (R_mv) ?_
      refine WL_guard_t rfl rfl ?_
      refine WL_stepM rfl (R_mv) ?_
      refine WL_guard_t rfl rfl ?_
      refine WL_step rfl (R_not_f rfl) ?_
      refine WL_guard_t rfl rfl ?_
      refine WL_stepM rfl (R_mv) ?_
      refine WL_guard_t rfl rfl ?_
      refine WL_stepM rfl (R_mv) ?_
      refine WL_guard_t rfl rfl ?_
      refine WL_step rfl (R_ne_f rfl rfl (by omega)) ?_
      refine WL_guard_t rfl rfl ?_
      refine WL_stepM rfl (R_pk_t rfl) ?_
      refine WL_stepM rfl (R_pk_f rfl) ?_
      refine WL_nil ?_
      refine W_cond_f rfl ?_
      refine W_skip ?_
      refine W_seq ?_
      refine W_region_l ?_
      refine WL_stepM rfl (R_mv) ?_
      (refine WL_call rfl (R_call rfl Try.call21 rfl) (Mem.load_yes (xs := us) 0 128 (H.get (.there (.there (.there (.there (.there (.there (.there (.there (.there .here)))))))))) (H.get (.there (.there (.there (.there (.there (.there (.there (.there (.there (.there .here))))))))))) hul (by omega) (by omega)) ?_; rintro _ w217 ⟨_, M, rfl, hO, H1⟩; rw [List.drop_zero, List.take_of_length_le (by omega)] at hO; have h217 := H.seqO hO H1; clear H H1 hO; obtain ⟨hO, H⟩ := h217; obtain ⟨ub, uc, usp, rfl, hub, rfl, husp, huc⟩ := OwnS.pos hO (by omega); replace H : Hp w [(ub, blk (us.map U ++ usp) 5), (a, blk ([I 0, I 128] ++ sp2) 98), (al, blk (av.map U) 5), (rr, blk [ptr m 0, ptr s 0, sl a 0 1 ca] 95), (s, blk [sl bs 0 2 cap] 90), (bs, blk (ptrs [(p0, b0), (p1, b1)] ++ sp) 91), (p0, blk [sl b0 0 32 32] 135), (b0, blk (rows plc ta) 137), (p1, blk [sl b1 0 32 32] 135), (b1, blk (rows plc tb) 137), (m, blk [sl mb 0 128 128] 87), (mb, blk (us.map U) 5)] w217 := H)
      refine WL_stepM rfl (R_mv) ?_
      refine WL_step rfl (R_extract rfl rfl) ?_
      refine WL_step rfl (R_extract rfl rfl) ?_
      refine WL_stepM rfl (R_as) ?_
      refine WL_stepM rfl (R_as) ?_
      refine WL_nil ?_
      refine W_seq ?_
      refine W_seq ?_
      refine W_region_l ?_
      refine WL_stepM rfl (R_mv) ?_
      refine WL_step rfl (R_ne_f rfl rfl (by omega)) ?_
      refine WL_stepM rfl (R_mv) ?_
      refine WL_guard_t rfl rfl ?_
      refine WL_stepM rfl (R_mv) ?_
      refine WL_guard_t rfl rfl ?_
      refine WL_step rfl (R_len_slice Try.underlying22 rfl) ?_
      refine WL_guard_t rfl rfl ?_
      refine WL_step rfl (R_ne_f rfl rfl (by omega)) ?_
      refine WL_stepM rfl (R_pk_f rfl) ?_
      refine WL_nil ?_
      refine W_cond_f rfl ?_
      refine W_skip ?_
      refine W_seq ?_
      refine W_seq ?_
      refine W_region_l ?_
      refine WL_stepM rfl (R_as) ?_
      refine WL_nil ?_
      refine W_block ?_
      refine W_loopS [(8, 8), (24, 25), (149, 188)] (fun (i : Nat) E w' => i ≤ 128 ∧ E 24 = I i ∧ Hp w [(ub, blk (us.map U ++ usp) 5), (a, blk ([I 0, I 128] ++ sp2) 98), (al, blk (av.map U) 5), (rr, blk [ptr m 0, ptr s 0, sl a 0 1 ca] 95), (s, blk [sl bs 0 2 cap] 90), (bs, blk (ptrs [(p0, b0), (p1, b1)] ++ sp) 91), (p0, blk [sl b0 0 32 32] 135), (b0, blk (rows plc ta) 137), (p1, blk [sl b1 0 32 32] 135), (b1, blk (rows plc tb) 137), (m, blk [sl mb 0 128 128] 87), (mb, blk (us.map U) 5)] w') (fun i => 128 - i) 0 ?e2 ?r2
      · exact ⟨by omega, rfl, H⟩
      · (clear H; rintro i E w1 ⟨hi, h0, H⟩; refine W_kn h0 ?_)
        refine W_seq ?_
        refine W_seq ?_
        refine W_region_l ?_
        refine WL_stepM rfl (R_mv) ?_
        refine WL_step rfl (R_lt rfl rfl) ?_
        refine WL_nil ?_
        refine W_if rfl (fun h254 => ?_) (fun h254 => ?_)
        · refine W_skip ?_
          refine W_seq ?_
          refine W_block ?_
          refine W_seq ?_
          ((obtain ⟨x, hx⟩ : ∃ x, us[i]? = some x := ⟨_, List.getElem?_eq_getElem (by omega)⟩; obtain ⟨y, hyy⟩ : ∃ y, av[i]? = some y := ⟨_, List.getElem?_eq_getElem (by omega)⟩)) <;> refine W_region_l ?_
          refine WL_stepM rfl (R_mv) ?_
          refine WL_stepM rfl (R_mv) ?_
          refine WL_step rfl (R_indexAddr (off' := i) Try.underlying22 Try.sizeOf5 rfl rfl (by omega) (by omega) (by omega)) ?_
          refine WL_step rfl (R_load (v := U y) Try.isAgg5 rfl (H.get (.there (.there .here))) (by rw [List.getElem?_map, hyy]; rfl)) ?_
          refine WL_stepM rfl (R_as) ?_
          refine WL_nil ?_
          refine W_seq ?_
          refine W_seq ?_
          refine W_region_l ?_
          refine WL_stepM rfl (R_mv) ?_
          refine WL_stepM rfl (R_mv) ?_
          refine WL_guard_f rfl rfl (by decide) ?_
          refine WL_guard_f rfl rfl (by decide) ?_
          refine WL_guard_f rfl rfl (by decide) ?_
          refine WL_guard_f rfl rfl (by decide) ?_
          refine WL_guard_f rfl rfl (by decide) ?_
          refine WL_stepM rfl (R_pk_f rfl) ?_
          refine WL_stepM rfl (R_mv) ?_
          refine WL_guard_f rfl rfl (by decide) ?_
          refine WL_guard_f rfl rfl (by decide) ?_
          refine WL_guard_f rfl rfl (by decide) ?_
          refine WL_guard_f rfl rfl (by decide) ?_
          refine WL_guard_f rfl rfl (by decide) ?_
          refine WL_guard_f rfl rfl (by decide) ?_
          refine WL_guard_f rfl rfl (by decide) ?_
          refine WL_guard_f rfl rfl (by decide) ?_
          refine WL_stepM rfl (R_pk_f rfl) ?_
          refine WL_nil ?_
          refine W_cond_f rfl ?_
          refine W_skip ?_
          refine W_seq ?_
          refine W_region_l ?_
          refine WL_stepM rfl (R_mv) ?_
          refine WL_stepM rfl (R_mv) ?_
          refine WL_step rfl (R_indexAddr (off' := i) Try.underlying22 Try.sizeOf5 rfl rfl (by omega) (by omega) (by omega)) ?_
          refine WL_step rfl (R_load (v := U x) Try.isAgg5 rfl (H.get .here) (by rw [List.getElem?_append_left (by rw [List.length_map]; omega), List.getElem?_map, hx]; rfl)) ?_
          refine WL_stepM rfl (R_mv) ?_
          (obtain rfl : x = y := (by rw [hus, hyy] at hx; exact (Option.some.inj hx).symm); refine WL_step rfl (R_ne_f rfl rfl rfl) ?_)
          refine WL_nil ?_
          refine W_cond_f rfl ?_
          refine W_skip ?_
          refine W_region_l ?_
          refine WL_stepM rfl (R_mv) ?_
          refine WL_step rfl (R_add rfl rfl (w_i64 (by omega))) ?_
          refine WL_stepM rfl (R_as) ?_
          refine WL_nil ?_
          exact ⟨(same_mov rfl (same_updo rfl (same_mov rfl (same_updo rfl (same_mov rfl (same_updo rfl (same_updo rfl (same_mov rfl (same_mov rfl (same_mov rfl (same_updo rfl (same_updo rfl (same_updo rfl (same_updo rfl (same_updo rfl (same_updo rfl (same_updo rfl (same_updo rfl (same_mov rfl (same_mov rfl (same_updo rfl (same_updo rfl (same_updo rfl (same_updo rfl (same_updo rfl (same_mov rfl (same_mov rfl (same_mov rfl (same_updo rfl (same_updo rfl (same_mov rfl (same_mov rfl (same_know rfl (same_updo rfl (same_mov rfl same_ovr))))))))))))))))))))))))))))))))))), i + 1, by omega, by omega, rfl, H⟩
        · refine W_exit ?_
          refine (if_pos rfl).mpr ?_
          refine W_seq ?_
          refine W_region_l ?_
          refine WL_stepM rfl (R_mv) ?_
          refine WL_stepM rfl (R_mv) ?_
          refine WL_stepM rfl (R_mv) ?_
          (refine WL_call rfl (R_call rfl Try.call22 rfl) (read_yes (xs := us) (p := L) (k := N) (place_to (j := 1) (i := 0) (z := 1) (k := N) (at_ := 0) (lo := 0 + (L : Int)) (rlo := 0) (rn := 128) (by omega) (H.get (.there (.there (.there .here)))) (H.get (.there .here)) (Sp.from H (PB := [(p0, b0), (p1, b1)]) (ts := [ta, tb]) bs cap sp (inv2 hal hag hbl hbg) (fun _ hp => .tail _ (.tail _ (.tail _ (.tail _ (List.mem_append_left _ hp)))))) rfl rfl hb0 (by decide) (by decide) (by omega) (by omega) (by decide) (by decide) (by omega) (by omega) (by omega)) (H.get (.there (.there (.there .here)))) (H.get (.there (.there (.there (.there (.there (.there (.there (.there (.there (.there .here))))))))))) (H.get (.there (.there (.there (.there (.there (.there (.there (.there (.there (.there (.there .here)))))))))))) hul (by decide) (by omega)) ?_; rintro _ w314 ⟨u2, M2, rfl, hO2, H1⟩; have h314 := H.seqO hO2 H1; clear H H1 hO2; obtain ⟨hO2, H⟩ := h314; obtain ⟨qs, hqs, hql⟩ : ∃ qs, qs = (us.drop L).take N ∧ qs.length = N := ⟨_, rfl, by rw [List.length_take, List.length_drop]; omega⟩; rw [← hqs] at hO2; obtain ⟨a2, c2, rfl⟩ := hO2.form)
          refine WL_stepM rfl (R_mv) ?_
          refine WL_step rfl (R_extract rfl rfl) ?_
          refine WL_step rfl (R_extract rfl rfl) ?_
          refine WL_stepM rfl (R_as) ?_
          refine WL_stepM rfl (R_as) ?_
          refine WL_nil ?_
          refine W_seq ?_
          refine W_region_l ?_
          refine WL_stepM rfl (R_mv) ?_
          refine WL_stepM rfl (R_mv) ?_
          refine WL_stepM rfl (R_mv) ?_
          refine WL_step rfl (R_add rfl rfl (w_i64 (by omega))) ?_
          (have _g := hO2; refine WL_call rfl (R_call rfl Try.call22 rfl) (read_no (e := 1) (place_arg (j := 1) (i := 0) (z := 1) (k := (N : Int) + 1) (at_ := 0) (H.get (.app _ (.there (.there (.there .here))))) (Sp.from H (PB := [(p0, b0), (p1, b1)]) (ts := [ta, tb]) bs cap sp (inv2 hal hag hbl hbg) (fun _ hp => List.mem_append_right _ (.tail _ (.tail _ (.tail _ (.tail _ (List.mem_append_left _ hp))))))) rfl rfl hb0 (by decide) (by decide) (by omega) (by omega) (by omega)) (by decide)) ?_; rintro _ w327 ⟨rfl, H1⟩; replace H := H.seq0 H1; clear H1)
          refine WL_stepM rfl (R_mv) ?_
          refine WL_step rfl (R_extract rfl rfl) ?_
          refine WL_step rfl (R_extract rfl rfl) ?_
          refine WL_stepM rfl (R_as) ?_
          refine WL_stepM rfl (R_as) ?_
          refine WL_nil ?_
          refine W_seq ?_
          (refine W_drawH (fun _ => false) (by kernel_rfl) H ?_; clear H; intro w335 H)
          refine WA_takeM 0 rfl rfl rfl (by kernel_rfl) (by kernel_rfl) H (fun _ hC => R_mv) ?_
          refine WA_take 1 rfl rfl rfl (by kernel_rfl) (by kernel_rfl) H (fun _ hC => R_eq_t rfl rfl (by omega)) ?_
          refine WA_takeM 2 rfl rfl rfl (by kernel_rfl) (by kernel_rfl) H (fun _ hC => R_mv) ?_
          refine WA_takeGM 3 rfl rfl rfl rfl (by kernel_rfl) (by kernel_rfl) H (fun _ hC => R_mv) ?_
          refine WA_takeG 4 rfl rfl rfl rfl (by kernel_rfl) (by kernel_rfl) H (fun _ hC => R_conv_bs (xs := qs) Try.underlying22 Try.underlying5 Try.underlying9 rfl (RdS.own hO2 (fun q hq => hC.held q (by simp [hq])))) ?_
          refine WA_takeGM 5 rfl rfl rfl rfl (by kernel_rfl) (by kernel_rfl) H (fun _ hC => R_mv) ?_
          refine WA_takeGM 6 rfl rfl rfl rfl (by kernel_rfl) (by kernel_rfl) H (fun _ hC => R_mv) ?_
          refine WA_takeGM 7 rfl rfl rfl rfl (by kernel_rfl) (by kernel_rfl) H (fun _ hC => R_mv) ?_
          refine WA_takeGM 8 rfl rfl rfl rfl (by kernel_rfl) (by kernel_rfl) H (fun _ hC => R_mv) ?_
          refine WA_takeG 9 rfl rfl rfl rfl (by kernel_rfl) (by kernel_rfl) H (fun _ hC => R_add rfl rfl (w_i64 (by omega))) ?_
          refine WA_takeG 10 rfl rfl rfl rfl (by kernel_rfl) (by kernel_rfl) H (fun _ hC => R_slice (off' := L) (i := (L : Int)) (j := (L : Int) + N) Try.underlying22 Try.sizeOf5 rfl (.some rfl) (.some rfl) (by omega) (by omega) (by omega) (by omega) (by omega) (by omega)) ?_
          refine WA_takeG 11 rfl rfl rfl rfl (by kernel_rfl) (by kernel_rfl) H (fun _ hC => R_conv_bs (xs := qs) Try.underlying22 Try.underlying5 Try.underlying9 rfl (RdS.blk (c := us.map U ++ usp) (off := L) (m := ((L : Int) + N - L).toNat) (cap := ((uc : Int) - L).toNat) (hC.get (.app _ .here)) (by rw [show ((L : Int) + N - L).toNat = N from by omega, List.drop_append_of_le_length (by rw [List.length_map]; omega), List.take_append_of_le_length (by rw [List.length_drop, List.length_map]; omega), ← List.map_drop, ← List.map_take, hqs]) (by rw [List.length_append, List.length_map]; omega) (by omega))) ?_
          refine WA_takeG 12 rfl rfl rfl rfl (by kernel_rfl) (by kernel_rfl) H (fun _ hC => R_eq_S_t rfl rfl rfl) ?_
          refine WA_takeM 13 rfl rfl rfl (by kernel_rfl) (by kernel_rfl) H (fun _ hC => R_pk_t rfl) ?_
          refine WA_takeM 14 rfl rfl rfl (by kernel_rfl) (by kernel_rfl) H (fun _ hC => R_mv) ?_
          refine WA_takeGM 15 rfl rfl rfl rfl (by kernel_rfl) (by kernel_rfl) H (fun _ hC => R_mv) ?_
          refine WA_takeG 16 rfl rfl rfl rfl (by kernel_rfl) (by kernel_rfl) H (fun _ hC => R_eq_t rfl rfl (by omega)) ?_
          refine WA_takeM 17 rfl rfl rfl (by kernel_rfl) (by kernel_rfl) H (fun _ hC => R_pk_t rfl) ?_
          refine WA_takeM 18 rfl rfl rfl (by kernel_rfl) (by kernel_rfl) H (fun _ hC => R_mv) ?_
          refine WA_one (i := 19) (by kernel_rfl) ?_
          (refine WI_call rfl (.inr ⟨_, _, rfl, rfl⟩) (R_call rfl Try.call15 rfl) (by exact awake_ret _) (by first | exact fun _ _ hR _ => H.seq0 hR.2 | exact fun _ _ hR h => Bool.noConfusion h | exact fun _ _ hR _ => (H.seq0 hR.2).none (by repeat' first | exact kNil | apply kCons | apply kApp | assumption | exact OwnS.keys (by assumption)) | exact fun _ _ hR _ => (H.seq0 hR.2).dropN (by repeat' first | exact kNil | apply kCons | apply kApp | assumption | exact OwnS.keys (by assumption))) ?_; rintro _ w356 ⟨rfl, H1⟩; replace H := H.seq0 H1; clear H1)
          refine WA_takeM 20 rfl rfl rfl (by kernel_rfl) (by kernel_rfl) H (fun _ hC => R_pk_t rfl) ?_
          refine WA_takeM 21 rfl rfl rfl (by kernel_rfl) (by kernel_rfl) H (fun _ hC => R_as) ?_
          refine WA_done (by kernel_rfl) ?_
          refine W_ret ?_
          exact ⟨_, rfl, rfl, H.none (by repeat' first | exact kNil | apply kCons | apply kApp | assumption | exact OwnS.keys (by assumption))⟩

theorem only_big {w : World} {ys : List UInt8} {l : Value} {lo n at_ : Int} (hl : RdS w l (ys.map U)) (hy : 200 < ys.length) (hb : ys.length ≤ 9223372036854775807) :
    Ret Try.prog 3 #[I lo, I n, I at_, l] w fun v w' => v = .bool true ∧ Hp w [] w' := by
  refine Ret_of_W (args := [_, _, _, _]) Try.func3 rfl Try.ntmps3 Try.results3 (by simp) ?_
  have H := Hp.refl w
  obtain ⟨ao, ca0, rfl⟩ := hl.form
  simp only [List.length_map] at hl ⊢
  refine W_seq ?_
  refine W_region_l ?_
  refine WL_stepM rfl (R_as) ?_
  refine WL_nil ?_
  refine W_seq ?_
  refine W_region_l ?_
  (refine WL_call rfl (R_call rfl Try.call12 rfl) (Mem.new_ret 2 _) ?_; rintro _ w7 ⟨m, mb, rfl, H1, hm, hmb⟩; replace H := H.seqD H1 (kCons hm (kCons hmb kNil)); clear H1)
  (refine WL_call rfl (R_call rfl Try.call13 rfl) (Caps.new_ret (E := 2) (by decide) (by decide) _) ?_; rintro _ w8 ⟨s, bs, cap, sp, PB, rfl, hPl, hs, hbs, hPB, H1⟩; replace H := H.seqD H1 (spB_keys hs hbs hPB); clear H1 hPB)
  refine WL_stepM rfl (R_as) ?_
  refine WL_stepM rfl (R_as) ?_
  refine WL_nil ?_
  refine W_seq ?_
  refine W_region_l ?_
  refine WL_stepM rfl (R_mv) ?_
  refine WL_stepM rfl (R_mv) ?_
  (refine WL_call rfl (R_call rfl Try.call14 rfl) (new_ret m s _) ?_; rintro _ w16 ⟨rr, rfl, hrr, H1⟩; replace H := H.seqD H1 (kCons hrr kNil); clear H1)
  refine WL_stepM rfl (R_as) ?_
  refine WL_nil ?_
  refine W_seq ?_
  refine W_seq ?_
  refine W_region_l ?_
  refine WL_stepM rfl (R_mv) ?_
  refine WL_step rfl (R_eq_ptr_nil Try.underlying23 rfl rfl) ?_
  refine WL_stepM rfl (R_mv) ?_
  refine WL_guard_t rfl rfl ?_
  refine WL_stepM rfl (R_mv) ?_
  refine WL_guard_t rfl rfl ?_
  refine WL_step rfl (R_eq_ptr_nil Try.underlying25 rfl rfl) ?_
  refine WL_stepM rfl (R_pk_f rfl) ?_
  refine WL_stepM rfl (R_mv) ?_
  refine WL_guard_t rfl rfl ?_
  refine WL_stepM rfl (R_mv) ?_
  refine WL_guard_t rfl rfl ?_
  refine WL_step rfl (R_eq_ptr_nil Try.underlying27 rfl rfl) ?_
  refine WL_stepM rfl (R_pk_f rfl) ?_
  refine WL_stepM rfl (R_mv) ?_
  refine WL_guard_t rfl rfl ?_
  refine WL_stepM rfl (R_mv) ?_
  refine WL_guard_t rfl rfl ?_
  refine WL_step rfl (R_len_slice Try.underlying22 rfl) ?_
  refine WL_guard_t rfl rfl ?_
  refine WL_step rfl (R_gt_t rfl rfl (by omega)) ?_
  refine WL_stepM rfl (R_pk_f rfl) ?_
  refine WL_nil ?_
  refine W_cond_t rfl ?_
  refine W_seq ?_
  refine W_region_l ?_
  refine WL_stepM rfl (R_mv) ?_
  refine WL_step rfl (R_ne_ptr_nil Try.underlying23 rfl rfl) ?_
  refine WL_stepM rfl (R_mv) ?_
  refine WL_guard_t rfl rfl ?_
  refine WL_stepM rfl (R_mv) ?_
  refine WL_guard_t rfl rfl ?_
  refine WL_step rfl (R_ne_ptr_nil Try.underlying25 rfl rfl) ?_
  refine WL_stepM rfl (R_pk_t rfl) ?_
  refine WL_stepM rfl (R_mv) ?_
  refine WL_guard_t rfl rfl ?_
  refine WL_stepM rfl (R_mv) ?_
  refine WL_guard_t rfl rfl ?_
  refine WL_step rfl (R_ne_ptr_nil Try.underlying27 rfl rfl) ?_
  refine WL_stepM rfl (R_pk_t rfl) ?_
  refine WL_stepM rfl (R_mv) ?_
  refine WL_guard_t rfl rfl ?_
  (refine WL_call rfl (R_call rfl Try.call15 rfl) (awake_ret _) ?_; rintro _ w64 ⟨rfl, H1⟩; replace H := H.seq0 H1; clear H1)
  refine WL_stepM rfl (R_pk_t rfl) ?_
  refine WL_stepM rfl (R_as) ?_
  refine WL_nil ?_
  refine W_ret ?_
  exact ⟨_, rfl, rfl, H⟩

theorem only_ret {w : World} {ys : List UInt8} {l : Value} (lo n at_ : Int) (hl : RdS w l (ys.map U)) (hb : ys.length ≤ 9223372036854775807) :
    Ret Try.prog 3 #[I lo, I n, I at_, l] w fun v w' => v = .bool true ∧ Hp w [] w' := by
  by_cases hy : ys.length ≤ 200
  · by_cases h1 : at_ < 0
    · exact only_o1 hl hy h1
    · by_cases h2 : n % 64 < at_
      · exact only_o2 hl hy ⟨by omega, h2⟩
      · by_cases h3 : (ys.length : Int) ≤ n % 64 - at_
        · exact only_in hl hy ⟨by omega, by omega, h3⟩
        · exact only_o3 hl hy ⟨by omega, by omega, by omega⟩
  · exact only_big hl (by omega) hb
end Go.Proofs.Ythonajikgljgmaa.Reg

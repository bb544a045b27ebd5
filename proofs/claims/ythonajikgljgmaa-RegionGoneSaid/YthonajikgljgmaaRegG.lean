/-
  The law RegionGone.
-/
import Derived.Test.YthonajikgljgmaaRevB
import Derived.Test.YthonajikgljgmaaRegE
namespace Go.Proofs.Ythonajikgljgmaa.Reg
open Go Go.Proofs Go.Proofs.Ythonajikgljgmaa.Fx Go.Proofs.Ythonajikgljgmaa.TabC Go.Proofs.Ythonajikgljgmaa.Caps
set_option maxRecDepth 100000
set_option linter.unusedVariables false
set_option linter.unusedSimpArgs false
set_option maxHeartbeats 8000000

theorem gone_0 {w : World} {ys : List UInt8} {l : Value} {at_ : Int} (hl : RdS w l (ys.map U)) (hy : ys.length ≤ 60) (hV : at_ % 4 = 0) :
    Ret Try.prog 5 #[l, I at_] w fun v w' => v = .bool true ∧ Hp w [] w' := by
  refine Ret_of_W (args := [_, _]) Try.func5 rfl Try.ntmps5 Try.results5 (by simp) ?_
  have H := Hp.refl w
  obtain ⟨ao, ca0, rfl⟩ := hl.form
  simp only [List.length_map] at hl ⊢
  obtain ⟨ta, hta, hal, hag, ha0⟩ := tset t0_len t0_g (i := 0) (by decide) ⟨cp 0 (7 : Nat) 0 60 0 0, newPl.g, true⟩ (show newPl.g ≤ 1000001 by decide)
  have hna : namesFrom 0 ta = [((0 + 256 * newPl.g : Nat) : Int)] := by rw [← hta]; rfl
  obtain ⟨tb, htb, hbl, hbg, hb0⟩ := tset t0_len t0_g (i := 0) (by decide) ⟨cp 0 7 (0 + 0) 60 (0 : Nat) (0 + 256 * newPl.g : Nat), newPl.g, true⟩ (show newPl.g ≤ 1000001 by decide)
  have hnb : namesFrom 0 tb = [((0 + 256 * newPl.g : Nat) : Int)] := by rw [← htb]; rfl
  obtain ⟨tc, htc, hcl, hcg, hc0⟩ := tset t0_len t0_g (i := 0) (by decide) ⟨cp 0 7 ((0 + 0) + 0) 60 (1 : Nat) (0 + 256 * newPl.g : Nat), newPl.g, true⟩ (show newPl.g ≤ 1000001 by decide)
  have hnc : namesFrom 0 tc = [((0 + 256 * newPl.g : Nat) : Int)] := by rw [← htc]; rfl
  obtain ⟨td, htd, hdl, hdg, hd0⟩ := tset t0_len t0_g (i := 0) (by decide) ⟨cp 0 7 (((0 + 0) + 0) + 0) 60 (2 : Nat) (0 + 256 * newPl.g : Nat), newPl.g, true⟩ (show newPl.g ≤ 1000001 by decide)
  have hnd : namesFrom 0 td = [((0 + 256 * newPl.g : Nat) : Int)] := by rw [← htd]; rfl
  obtain ⟨zs, hzs, hzl⟩ : ∃ zs : List UInt8, zs = List.replicate 128 0 ∧ zs.length = 128 := ⟨_, rfl, by simp⟩
  obtain ⟨us, hus, hul⟩ : ∃ us : List UInt8, us = Mem.put zs ys 3 ∧ us.length = 128 := ⟨_, rfl, by rw [Mem.put_length (by omega)]; exact hzl⟩
  have hgy : (us.drop 3).take ys.length = ys := by rw [hus]; exact put_back (by omega)
  refine W_seq ?_
  refine W_region_l ?_
  refine WL_stepM rfl (R_as) ?_
  refine WL_nil ?_
  refine W_seq ?_
  refine W_region_l ?_
  (refine WL_call rfl (R_call rfl Try.call12 rfl) (Mem.new_ret 2 _) ?_; rintro _ w7 ⟨m, mb, rfl, H1, hm, hmb⟩; rw [show Mem.szOf 2 = 128 from rfl, ← Mem.zmap, ← hzs] at H1; replace H := H.seqN H1 (kCons hm (kCons hmb kNil)); replace H : Hp w [(m, blk [sl mb 0 128 128] 87), (mb, blk (zs.map U) 5)] w7 := H; clear H1)
  (refine WL_call rfl (R_call rfl Try.call13 rfl) (Caps.new_ret (E := 4) (by decide) (by decide) _) ?_; rintro _ w8 ⟨s, bs, cap, sp, PB, rfl, hPl, hs, hbs, hPB, H1⟩; obtain ⟨p0, b0, p1, b1, p2, b2, p3, b3, rfl⟩ := four hPl; have hsz := H.size; replace H := H.seqN H1 (spB_keys hs hbs hPB); clear H1; obtain ⟨hp0, hb0'⟩ := hPB (p0, b0) (.head _); obtain ⟨hp1, hb1'⟩ := hPB (p1, b1) (.tail _ (.head _)); obtain ⟨hp2, hb2'⟩ := hPB (p2, b2) (.tail _ (.tail _ (.head _))); obtain ⟨hp3, hb3'⟩ := hPB (p3, b3) (.tail _ (.tail _ (.tail _ (.head _)))); replace hs := Nat.le_trans hsz hs; replace hbs := Nat.le_trans hsz hbs; replace hp0 : w.heap.size ≤ p0 := Nat.le_trans hsz hp0; replace hb0' : w.heap.size ≤ b0 := Nat.le_trans hsz hb0'; replace hp1 : w.heap.size ≤ p1 := Nat.le_trans hsz hp1; replace hb1' : w.heap.size ≤ b1 := Nat.le_trans hsz hb1'; replace hp2 : w.heap.size ≤ p2 := Nat.le_trans hsz hp2; replace hb2' : w.heap.size ≤ b2 := Nat.le_trans hsz hb2'; replace hp3 : w.heap.size ≤ p3 := Nat.le_trans hsz hp3; replace hb3' : w.heap.size ≤ b3 := Nat.le_trans hsz hb3'; clear hPB hPl hsz; replace H : Hp w [(s, blk [sl bs 0 4 cap] 90), (bs, blk (ptrs [(p0, b0), (p1, b1), (p2, b2), (p3, b3)] ++ sp) 91), (p0, blk [sl b0 0 32 32] 135), (b0, blk (rows plc t0) 137), (p1, blk [sl b1 0 32 32] 135), (b1, blk (rows plc t0) 137), (p2, blk [sl b2 0 32 32] 135), (b2, blk (rows plc t0) 137), (p3, blk [sl b3 0 32 32] 135), (b3, blk (rows plc t0) 137), (m, blk [sl mb 0 128 128] 87), (mb, blk (zs.map U) 5)] w8 := H)
  refine WL_stepM rfl (R_as) ?_
  refine WL_stepM rfl (R_as) ?_
  refine WL_nil ?_
  refine W_seq ?_
  refine W_region_l ?_
  refine WL_stepM rfl (R_mv) ?_
  refine WL_stepM rfl (R_mv) ?_
  (refine WL_call rfl (R_call rfl Try.call14 rfl) (new_ret m s _) ?_; rintro _ w16 ⟨rr, rfl, hrr, H1⟩; have hsz := H.size; replace H := H.seqN H1 (kCons hrr kNil); clear H1; replace hrr := Nat.le_trans hsz hrr; clear hsz; replace H : Hp w ((rr, blk [ptr m 0, ptr s 0, nilS] 95) :: [(s, blk [sl bs 0 4 cap] 90), (bs, blk (ptrs [(p0, b0), (p1, b1), (p2, b2), (p3, b3)] ++ sp) 91), (p0, blk [sl b0 0 32 32] 135), (b0, blk (rows plc t0) 137), (p1, blk [sl b1 0 32 32] 135), (b1, blk (rows plc t0) 137), (p2, blk [sl b2 0 32 32] 135), (b2, blk (rows plc t0) 137), (p3, blk [sl b3 0 32 32] 135), (b3, blk (rows plc t0) 137), (m, blk [sl mb 0 128 128] 87), (mb, blk (zs.map U) 5)]) w16 := H)
  refine WL_stepM rfl (R_as) ?_
  refine WL_nil ?_
  refine W_seq ?_
  refine W_seq ?_
  refine W_region_l ?_
  refine WL_stepM rfl (R_mv) ?_
  refine WL_step rfl (R_eq_ptr_nil Try.underlying23 rfl rfl) ?_
  refine WL_stepM rfl (R_mv) ?_
  refine WL_guard_t rfl rfl ?_
  refine WL_stepM rfl (R_mv) ?_
  refine WL_guard_t rfl rfl ?_
  refine WL_step rfl (R_eq_ptr_nil Try.underlying25 rfl rfl) ?_
  refine WL_stepM rfl (R_pk_f rfl) ?_
  refine WL_stepM rfl (R_mv) ?_
  refine WL_guard_t rfl rfl ?_
  refine WL_stepM rfl (R_mv) ?_
  refine WL_guard_t rfl rfl ?_
  refine WL_step rfl (R_eq_ptr_nil Try.underlying27 rfl rfl) ?_
  refine WL_stepM rfl (R_pk_f rfl) ?_
  refine WL_stepM rfl (R_mv) ?_
  refine WL_guard_t rfl rfl ?_
  refine WL_stepM rfl (R_mv) ?_
  refine WL_guard_t rfl rfl ?_
  refine WL_step rfl (R_len_slice Try.underlying22 rfl) ?_
  refine WL_guard_t rfl rfl ?_
  refine WL_step rfl (R_gt_f rfl rfl (by omega)) ?_
  refine WL_stepM rfl (R_pk_f rfl) ?_
  refine WL_nil ?_
  refine W_cond_f rfl ?_
  refine W_skip ?_
  refine W_seq ?_
  refine W_region_l ?_
  refine WL_stepM rfl (R_mv) ?_
  (refine WL_call rfl (R_call rfl Try.call17 rfl) (add_ret (xs := zs) (H.get .here) (H.get (.there (.there (.there (.there (.there (.there (.there (.there (.there (.there (.there .here)))))))))))) hzl (by decide) (lo := 3) (n := 60) (by decide) (by decide) (by decide)) ?_; rintro _ w50 ⟨a, ca, sp2, rfl, ha, H1⟩; have hsz := H.size; replace H := H.seq H1 (okSeq_set .here (okSeq_new ha okSeq_nil)); clear H1; replace ha := Nat.le_trans hsz ha; clear hsz)
  refine WL_stepM rfl (R_mv) ?_
  refine WL_step rfl (R_extract rfl rfl) ?_
  refine WL_step rfl (R_extract rfl rfl) ?_
  refine WL_stepM rfl (R_as) ?_
  refine WL_stepM rfl (R_as) ?_
  refine WL_nil ?_
  refine W_seq ?_
  refine W_region_l ?_
  (refine WL_effn rfl (E_alloc (vs := [I 0, I 0, I 0, I 0]) H Try.zeroValue47 rfl) ?_; clear H; intro nmb w59 hnmb H; replace H : Hp w ((s, blk [sl bs 0 4 cap] 90) :: (bs, blk (ptrs [(p0, b0), (p1, b1), (p2, b2), (p3, b3)] ++ sp) 91) :: (p0, blk [sl b0 0 32 32] 135) :: (b0, blk (rows plc t0) 137) :: (p1, blk [sl b1 0 32 32] 135) :: (b1, blk (rows plc t0) 137) :: (p2, blk [sl b2 0 32 32] 135) :: (b2, blk (rows plc t0) 137) :: (p3, blk [sl b3 0 32 32] 135) :: (b3, blk (rows plc t0) 137) :: [(m, blk [sl mb 0 128 128] 87), (mb, blk (zs.map U) 5), (nmb, blk [I 0, I 0, I 0, I 0] 47), (a, blk ([I 3, I 60] ++ sp2) 98), (rr, blk [ptr m 0, ptr s 0, sl a 0 1 ca] 95)]) w59 := H.perm (List.perm_append_comm (l₁ := [_, _, _]) (l₂ := [(s, blk [sl bs 0 4 cap] 90), (bs, blk (ptrs [(p0, b0), (p1, b1), (p2, b2), (p3, b3)] ++ sp) 91), (p0, blk [sl b0 0 32 32] 135), (b0, blk (rows plc t0) 137), (p1, blk [sl b1 0 32 32] 135), (b1, blk (rows plc t0) 137), (p2, blk [sl b2 0 32 32] 135), (b2, blk (rows plc t0) 137), (p3, blk [sl b3 0 32 32] 135), (b3, blk (rows plc t0) 137), (m, blk [sl mb 0 128 128] 87), (mb, blk (zs.map U) 5)])))
  refine WL_nil ?_
  refine W_seq ?_
  refine W_region_l ?_
  refine WL_stepM rfl (R_mv) ?_
  refine WL_stepM rfl (R_mv) ?_
  refine WL_step rfl (R_buildL (places := [(0, 1), (1, 1), (2, 1), (3, 1), (4, 2)]) (vs := (cp 0 (7 : Nat) 0 60 0 0).c) Try.underlying38 Try.typeInfo38 rfl rfl (by kernel_rfl) rfl rfl rfl) ?_
  (refine WL_call rfl (R_call rfl Try.call18 rfl) (put_yes (j := 0) (i := 0) (r := 7) (o := 0) (lo := 0) (n := 60) (re := 0) (rn := 0) (Sp.from H (PB := [(p0, b0), (p1, b1), (p2, b2), (p3, b3)]) (ts := [t0, t0, t0, t0]) bs cap sp (inv4 t0_len t0_g t0_len t0_g t0_len t0_g t0_len t0_g) (fun _ hp => List.mem_append_left _ hp)) rfl rfl (by decide) (by decide) (by decide) t0_at new_free (fun _ _ h => absurd h (Nat.not_lt_zero _))) ?_; rintro _ w66 ⟨rfl, H1⟩; rw [hta] at H1; replace H := H.seq H1 (okSeq_set (.there (.there (.there .here))) okSeq_nil); clear H1)
  refine WL_stepM rfl (R_mv) ?_
  refine WL_step rfl (R_extract rfl rfl) ?_
  refine WL_step rfl (R_extract rfl rfl) ?_
  refine WL_step rfl (R_indexAddrA (off' := 0) Try.underlying47 Try.sizeOf3 rfl rfl (by omega) (by omega) rfl) ?_
  (refine WL_effu rfl (E_store (v := I (0 + 256 * newPl.g : Nat)) H Try.sizeOf3 rfl rfl rfl (.there (.there (.there (.there (.there (.there (.there (.there (.there (.there (.there (.there .here)))))))))))) (by simp)) ?_; clear H; intro w71 H; replace H : Hp w ((s, blk [sl bs 0 4 cap] 90) :: (bs, blk (ptrs [(p0, b0), (p1, b1), (p2, b2), (p3, b3)] ++ sp) 91) :: (p0, blk [sl b0 0 32 32] 135) :: (b0, blk (rows plc ta) 137) :: (p1, blk [sl b1 0 32 32] 135) :: (b1, blk (rows plc t0) 137) :: (p2, blk [sl b2 0 32 32] 135) :: (b2, blk (rows plc t0) 137) :: (p3, blk [sl b3 0 32 32] 135) :: (b3, blk (rows plc t0) 137) :: [(m, blk [sl mb 0 128 128] 87), (mb, blk (zs.map U) 5), (nmb, blk [I (0 + 256 * newPl.g : Nat), I 0, I 0, I 0] 47), (a, blk ([I 3, I 60] ++ sp2) 98), (rr, blk [ptr m 0, ptr s 0, sl a 0 1 ca] 95)]) w71 := H)
  refine WL_nil ?_
  refine W_seq ?_
  refine W_seq ?_
  refine W_region_l ?_
  refine WL_stepM rfl (R_as) ?_
  refine WL_nil ?_
  refine W_block ?_
  refine W_rounds 3 ?_
  refine W_seq ?_
  refine W_seq ?_
  refine W_region_l ?_
  refine WL_stepM rfl (R_mv) ?_
  refine WL_step rfl (R_lt_t rfl rfl (by omega)) ?_
  refine WL_nil ?_
  refine W_cond_t rfl ?_
  refine W_skip ?_
  refine W_seq ?_
  refine W_block ?_
  refine W_seq ?_
  refine W_region_l ?_
  refine WL_stepM rfl (R_mv) ?_
  refine WL_stepM rfl (R_mv) ?_
  refine WL_step rfl (R_sub (r := 0) rfl rfl (by decide)) ?_
  refine WL_stepM rfl (R_mv) ?_
  refine WL_step rfl (R_sub (r := 0) rfl rfl (by decide)) ?_
  refine WL_step rfl (R_indexAddrA (off' := 0) Try.underlying47 Try.sizeOf3 rfl rfl (by omega) (by omega) rfl) ?_
  refine WL_step rfl (R_load (v := I (0 + 256 * newPl.g : Nat)) Try.isAgg3 rfl (H.get (.there (.there (.there (.there (.there (.there (.there (.there (.there (.there (.there (.there .here))))))))))))) rfl) ?_
  refine WL_stepM rfl (R_mv) ?_
  (refine WL_call rfl (R_call rfl Try.call19 rfl) (grant_yes (j := 0) (i := 0) (k := 1) (i2 := 0) (g0 := newPl.g) (a := newPl) (l1 := 0) (n1 := 60) (gv := 7) (z := 4) (Sp.from H (PB := [(p0, b0), (p1, b1), (p2, b2), (p3, b3)]) (ts := [ta, t0, t0, t0]) bs cap sp (inv4 hal hag t0_len t0_g t0_len t0_g t0_len t0_g) (fun _ hp => List.mem_append_left _ hp)) rfl rfl ha0 rfl rfl t0_at new_free (fun _ _ h => absurd h (Nat.not_lt_zero _)) (by decide) (by decide) (by decide) (by decide) (by decide) (by decide) (by decide)) ?_; rintro _ w99 ⟨rfl, H1⟩; rw [htb] at H1; replace H := H.seq H1 (okSeq_set (.there (.there (.there (.there (.there .here))))) okSeq_nil); clear H1)
  refine WL_stepM rfl (R_mv) ?_
  refine WL_step rfl (R_extract rfl rfl) ?_
  refine WL_step rfl (R_extract rfl rfl) ?_
  refine WL_stepM rfl (R_as) ?_
  refine WL_stepM rfl (R_as) ?_
  refine WL_nil ?_
  refine W_seq ?_
  refine W_seq ?_
  refine W_region_l ?_
  refine WL_stepM rfl (R_mv) ?_
  refine WL_step rfl (R_ne_f rfl rfl (by omega)) ?_
  refine WL_nil ?_
  refine W_cond_f rfl ?_
  refine W_skip ?_
  refine W_region_l ?_
  refine WL_stepM rfl (R_mv) ?_
  refine WL_stepM rfl (R_mv) ?_
  refine WL_step rfl (R_indexAddrA (off' := 1) Try.underlying47 Try.sizeOf3 rfl rfl (by omega) (by omega) rfl) ?_
  (refine WL_effu rfl (E_store (v := I (0 + 256 * newPl.g : Nat)) H Try.sizeOf3 rfl rfl rfl (.there (.there (.there (.there (.there (.there (.there (.there (.there (.there (.there (.there .here)))))))))))) (by simp)) ?_; clear H; intro w118 H; replace H : Hp w ((s, blk [sl bs 0 4 cap] 90) :: (bs, blk (ptrs [(p0, b0), (p1, b1), (p2, b2), (p3, b3)] ++ sp) 91) :: (p0, blk [sl b0 0 32 32] 135) :: (b0, blk (rows plc ta) 137) :: (p1, blk [sl b1 0 32 32] 135) :: (b1, blk (rows plc tb) 137) :: (p2, blk [sl b2 0 32 32] 135) :: (b2, blk (rows plc t0) 137) :: (p3, blk [sl b3 0 32 32] 135) :: (b3, blk (rows plc t0) 137) :: [(m, blk [sl mb 0 128 128] 87), (mb, blk (zs.map U) 5), (nmb, blk [I (0 + 256 * newPl.g : Nat), I (0 + 256 * newPl.g : Nat), I 0, I 0] 47), (a, blk ([I 3, I 60] ++ sp2) 98), (rr, blk [ptr m 0, ptr s 0, sl a 0 1 ca] 95)]) w118 := H)
  refine WL_nil ?_
  refine W_region_l ?_
  refine WL_stepM rfl (R_mv) ?_
  refine WL_step rfl (R_add (r := 2) rfl rfl (by decide)) ?_
  refine WL_stepM rfl (R_as) ?_
  refine WL_nil ?_
  refine Rn_succ ?_
  refine W_seq ?_
  refine W_seq ?_
  refine W_region_l ?_
  refine WL_stepM rfl (R_mv) ?_
  refine WL_step rfl (R_lt_t rfl rfl (by omega)) ?_
  refine WL_nil ?_
  refine W_cond_t rfl ?_
  refine W_skip ?_
  refine W_seq ?_
  refine W_block ?_
  refine W_seq ?_
  refine W_region_l ?_
  refine WL_stepM rfl (R_mv) ?_
  refine WL_stepM rfl (R_mv) ?_
  refine WL_step rfl (R_sub (r := 1) rfl rfl (by decide)) ?_
  refine WL_stepM rfl (R_mv) ?_
  refine WL_step rfl (R_sub (r := 1) rfl rfl (by decide)) ?_
  refine WL_step rfl (R_indexAddrA (off' := 1) Try.underlying47 Try.sizeOf3 rfl rfl (by omega) (by omega) rfl) ?_
  refine WL_step rfl (R_load (v := I (0 + 256 * newPl.g : Nat)) Try.isAgg3 rfl (H.get (.there (.there (.there (.there (.there (.there (.there (.there (.there (.there (.there (.there .here))))))))))))) rfl) ?_
  refine WL_stepM rfl (R_mv) ?_
  (refine WL_call rfl (R_call rfl Try.call19 rfl) (grant_yes (j := 1) (i := 0) (k := 2) (i2 := 0) (g0 := newPl.g) (a := newPl) (l1 := 0) (n1 := 60) (gv := 7) (z := 4) (Sp.from H (PB := [(p0, b0), (p1, b1), (p2, b2), (p3, b3)]) (ts := [ta, tb, t0, t0]) bs cap sp (inv4 hal hag hbl hbg t0_len t0_g t0_len t0_g) (fun _ hp => List.mem_append_left _ hp)) rfl rfl hb0 rfl rfl t0_at new_free (fun _ _ h => absurd h (Nat.not_lt_zero _)) (by decide) (by decide) (by decide) (by decide) (by decide) (by decide) (by decide)) ?_; rintro _ w146 ⟨rfl, H1⟩; rw [htc] at H1; replace H := H.seq H1 (okSeq_set (.there (.there (.there (.there (.there (.there (.there .here))))))) okSeq_nil); clear H1)
  refine WL_stepM rfl (R_mv) ?_
  refine WL_step rfl (R_extract rfl rfl) ?_
  refine WL_step rfl (R_extract rfl rfl) ?_
  refine WL_stepM rfl (R_as) ?_
  refine WL_stepM rfl (R_as) ?_
  refine WL_nil ?_
  refine W_seq ?_
  refine W_seq ?_
  refine W_region_l ?_
  refine WL_stepM rfl (R_mv) ?_
  refine WL_step rfl (R_ne_f rfl rfl (by omega)) ?_
  refine WL_nil ?_
  refine W_cond_f rfl ?_
  refine W_skip ?_
  refine W_region_l ?_
  refine WL_stepM rfl (R_mv) ?_
  refine WL_stepM rfl (R_mv) ?_
  refine WL_step rfl (R_indexAddrA (off' := 2) Try.underlying47 Try.sizeOf3 rfl rfl (by omega) (by omega) rfl) ?_
  (refine WL_effu rfl (E_store (v := I (0 + 256 * newPl.g : Nat)) H Try.sizeOf3 rfl rfl rfl (.there (.there (.there (.there (.there (.there (.there (.there (.there (.there (.there (.there .here)))))))))))) (by simp)) ?_; clear H; intro w165 H; replace H : Hp w ((s, blk [sl bs 0 4 cap] 90) :: (bs, blk (ptrs [(p0, b0), (p1, b1), (p2, b2), (p3, b3)] ++ sp) 91) :: (p0, blk [sl b0 0 32 32] 135) :: (b0, blk (rows plc ta) 137) :: (p1, blk [sl b1 0 32 32] 135) :: (b1, blk (rows plc tb) 137) :: (p2, blk [sl b2 0 32 32] 135) :: (b2, blk (rows plc tc) 137) :: (p3, blk [sl b3 0 32 32] 135) :: (b3, blk (rows plc t0) 137) :: [(m, blk [sl mb 0 128 128] 87), (mb, blk (zs.map U) 5), (nmb, blk [I (0 + 256 * newPl.g : Nat), I (0 + 256 * newPl.g : Nat), I (0 + 256 * newPl.g : Nat), I 0] 47), (a, blk ([I 3, I 60] ++ sp2) 98), (rr, blk [ptr m 0, ptr s 0, sl a 0 1 ca] 95)]) w165 := H)
  refine WL_nil ?_
  refine W_region_l ?_
  refine WL_stepM rfl (R_mv) ?_
  refine WL_step rfl (R_add (r := 3) rfl rfl (by decide)) ?_
  refine WL_stepM rfl (R_as) ?_
  refine WL_nil ?_
  refine Rn_succ ?_
  refine W_seq ?_
  refine W_seq ?_
  refine W_region_l ?_
  refine WL_stepM rfl (R_mv) ?_
  refine WL_step rfl (R_lt_t rfl rfl (by omega)) ?_
  refine WL_nil ?_
  refine W_cond_t rfl ?_
  refine W_skip ?_
  refine W_seq ?_
  refine W_block ?_
  refine W_seq ?_
  refine W_region_l ?_
  refine WL_stepM rfl (R_mv) ?_
  refine WL_stepM rfl (R_mv) ?_
  refine WL_step rfl (R_sub (r := 2) rfl rfl (by decide)) ?_
  refine WL_stepM rfl (R_mv) ?_
  refine WL_step rfl (R_sub (r := 2) rfl rfl (by decide)) ?_
  refine WL_step rfl (R_indexAddrA (off' := 2) Try.underlying47 Try.sizeOf3 rfl rfl (by omega) (by omega) rfl) ?_
  refine WL_step rfl (R_load (v := I (0 + 256 * newPl.g : Nat)) Try.isAgg3 rfl (H.get (.there (.there (.there (.there (.there (.there (.there (.there (.there (.there (.there (.there .here))))))))))))) rfl) ?_
  refine WL_stepM rfl (R_mv) ?_
  (refine WL_call rfl (R_call rfl Try.call19 rfl) (grant_yes (j := 2) (i := 0) (k := 3) (i2 := 0) (g0 := newPl.g) (a := newPl) (l1 := 0) (n1 := 60) (gv := 7) (z := 4) (Sp.from H (PB := [(p0, b0), (p1, b1), (p2, b2), (p3, b3)]) (ts := [ta, tb, tc, t0]) bs cap sp (inv4 hal hag hbl hbg hcl hcg t0_len t0_g) (fun _ hp => List.mem_append_left _ hp)) rfl rfl hc0 rfl rfl t0_at new_free (fun _ _ h => absurd h (Nat.not_lt_zero _)) (by decide) (by decide) (by decide) (by decide) (by decide) (by decide) (by decide)) ?_; rintro _ w193 ⟨rfl, H1⟩; rw [htd] at H1; replace H := H.seq H1 (okSeq_set (.there (.there (.there (.there (.there (.there (.there (.there (.there .here))))))))) okSeq_nil); clear H1)
  refine WL_stepM rfl (R_mv) ?_
  refine WL_step rfl (R_extract rfl rfl) ?_
  refine WL_step rfl (R_extract rfl rfl) ?_
  refine WL_stepM rfl (R_as) ?_
  refine WL_stepM rfl (R_as) ?_
  refine WL_nil ?_
  refine W_seq ?_
  refine W_seq ?_
  refine W_region_l ?_
  refine WL_stepM rfl (R_mv) ?_
  refine WL_step rfl (R_ne_f rfl rfl (by omega)) ?_
  refine WL_nil ?_
  refine W_cond_f rfl ?_
  refine W_skip ?_
  refine W_region_l ?_
  refine WL_stepM rfl (R_mv) ?_
  refine WL_stepM rfl (R_mv) ?_
  refine WL_step rfl (R_indexAddrA (off' := 3) Try.underlying47 Try.sizeOf3 rfl rfl (by omega) (by omega) rfl) ?_
  (refine WL_effu rfl (E_store (v := I (0 + 256 * newPl.g : Nat)) H Try.sizeOf3 rfl rfl rfl (.there (.there (.there (.there (.there (.there (.there (.there (.there (.there (.there (.there .here)))))))))))) (by simp)) ?_; clear H; intro w212 H; replace H : Hp w ((s, blk [sl bs 0 4 cap] 90) :: (bs, blk (ptrs [(p0, b0), (p1, b1), (p2, b2), (p3, b3)] ++ sp) 91) :: (p0, blk [sl b0 0 32 32] 135) :: (b0, blk (rows plc ta) 137) :: (p1, blk [sl b1 0 32 32] 135) :: (b1, blk (rows plc tb) 137) :: (p2, blk [sl b2 0 32 32] 135) :: (b2, blk (rows plc tc) 137) :: (p3, blk [sl b3 0 32 32] 135) :: (b3, blk (rows plc td) 137) :: [(m, blk [sl mb 0 128 128] 87), (mb, blk (zs.map U) 5), (nmb, blk [I (0 + 256 * newPl.g : Nat), I (0 + 256 * newPl.g : Nat), I (0 + 256 * newPl.g : Nat), I (0 + 256 * newPl.g : Nat)] 47), (a, blk ([I 3, I 60] ++ sp2) 98), (rr, blk [ptr m 0, ptr s 0, sl a 0 1 ca] 95)]) w212 := H)
  refine WL_nil ?_
  refine W_region_l ?_
  refine WL_stepM rfl (R_mv) ?_
  refine WL_step rfl (R_add (r := 4) rfl rfl (by decide)) ?_
  refine WL_stepM rfl (R_as) ?_
  refine WL_nil ?_
  refine Rn_succ ?_
  refine W_seq ?_
  refine W_seq ?_
  refine W_region_l ?_
  refine WL_stepM rfl (R_mv) ?_
  refine WL_step rfl (R_lt_f rfl rfl (by omega)) ?_
  refine WL_nil ?_
  refine W_cond_f rfl ?_
  refine W_exit ?_
  refine (if_pos rfl).mpr ?_
  refine W_seq ?_
  refine W_seq ?_
  refine W_region_l ?_
  refine WL_stepM rfl (R_mv) ?_
  refine WL_step rfl (R_indexAddrA (off' := 3) Try.underlying47 Try.sizeOf3 rfl rfl (by omega) (by omega) rfl) ?_
  refine WL_step rfl (R_load (v := I (0 + 256 * newPl.g : Nat)) Try.isAgg3 rfl (H.get (.there (.there (.there (.there (.there (.there (.there (.there (.there (.there (.there (.there .here))))))))))))) rfl) ?_
  refine WL_stepM rfl (R_mv) ?_
  (refine WL_call rfl (R_call rfl Try.call20 rfl) (write_yes (xs := zs) (ys := ys) (p := 3) (hl.monoN H (by repeat' first | exact kNil | apply kCons | apply kApp | assumption | exact OwnS.keys (by assumption))) (place_to (j := 3) (i := 0) (z := 2) (k := ys.length) (at_ := 0) (lo := (((0 + 0) + 0) + 0)) (rlo := 3) (rn := 60) (p := 3) rfl (H.get (.there (.there (.there (.there (.there (.there (.there (.there (.there (.there (.there (.there (.there (.there .here))))))))))))))) (H.get (.there (.there (.there (.there (.there (.there (.there (.there (.there (.there (.there (.there (.there .here)))))))))))))) (Sp.from H (PB := [(p0, b0), (p1, b1), (p2, b2), (p3, b3)]) (ts := [ta, tb, tc, td]) bs cap sp (inv4 hal hag hbl hbg hcl hcg hdl hdg) (fun _ hp => List.mem_append_left _ hp)) rfl rfl hd0 (by decide) (by decide) (by decide) (by decide) (by decide) (by decide) (by decide) (by omega) (by omega)) (H.get (.there (.there (.there (.there (.there (.there (.there (.there (.there (.there (.there (.there (.there (.there .here))))))))))))))) (H.get (.there (.there (.there (.there (.there (.there (.there (.there (.there (.there .here))))))))))) (H.get (.there (.there (.there (.there (.there (.there (.there (.there (.there (.there (.there .here)))))))))))) hzl (by decide) (by omega)) ?_; rintro _ w236 ⟨rfl, H1⟩; rw [← hus] at H1; replace H := H.seq H1 (okSeq_set (.there (.there (.there (.there (.there (.there (.there (.there (.there (.there (.there .here))))))))))) okSeq_nil); clear H1)
  refine WL_step rfl (R_ne_f rfl rfl (by omega)) ?_
  refine WL_nil ?_
  refine W_cond_f rfl ?_
  refine W_skip ?_
  refine W_seq ?_
  refine W_region_l ?_
  refine WL_stepM rfl (R_mv) ?_
  refine WL_step rfl (R_bits (r := 0) rfl rfl (by simp) ((and_mask_i64 2 4 (by decide) rfl (by decide)).trans hV)) ?_
  refine WL_stepM rfl (R_as) ?_
  refine WL_nil ?_
  refine W_seq ?_
  refine W_region_l ?_
  refine WL_stepM rfl (R_mv) ?_
  refine WL_stepM rfl (R_mv) ?_
  refine WL_stepM rfl (R_mv) ?_
  refine WL_step rfl (R_indexAddrA (off' := 0) Try.underlying47 Try.sizeOf3 rfl rfl (by omega) (by omega) rfl) ?_
  refine WL_step rfl (R_load (v := I (0 + 256 * newPl.g : Nat)) Try.isAgg3 rfl (H.get (.there (.there (.there (.there (.there (.there (.there (.there (.there (.there (.there (.there .here))))))))))))) rfl) ?_
  (refine WL_call rfl (R_call rfl Try.call24 rfl) (revoke_4_0 H hal hag hbl hbg hcl hcg hdl hdg hna hnb hnc hnd ha0 hb0 hc0 hd0) ?_; clear H; rintro _ w254 ⟨rfl, H⟩)
  refine WL_stepM rfl (R_mv) ?_
  refine WL_step rfl (R_extract rfl rfl) ?_
  refine WL_step rfl (R_extract rfl rfl) ?_
  refine WL_stepM rfl (R_as) ?_
  refine WL_stepM rfl (R_as) ?_
  refine WL_nil ?_
  refine W_seq ?_
  refine W_seq ?_
  refine W_region_l ?_
  refine WL_stepM rfl (R_mv) ?_
  refine WL_stepM rfl (R_mv) ?_
  refine WL_step rfl (R_sub (r := 4) rfl rfl (by decide)) ?_
  refine WL_step rfl (R_ne_f rfl rfl (by omega)) ?_
  refine WL_stepM rfl (R_mv) ?_
  refine WL_guard_t rfl rfl ?_
  refine WL_stepM rfl (R_mv) ?_
  refine WL_guard_t rfl rfl ?_
  refine WL_step rfl (R_ne_f rfl rfl (by omega)) ?_
  refine WL_stepM rfl (R_pk_f rfl) ?_
  refine WL_nil ?_
  refine W_cond_f rfl ?_
  refine W_skip ?_
  refine W_seq ?_
  refine W_seq ?_
  refine W_region_l ?_
  refine WL_stepM rfl (R_as) ?_
  refine WL_nil ?_
  refine W_block ?_
  refine W_rounds 4 ?_
  refine W_seq ?_
  refine W_seq ?_
  refine W_region_l ?_
  refine WL_stepM rfl (R_mv) ?_
  refine WL_step rfl (R_lt_t rfl rfl (by omega)) ?_
  refine WL_nil ?_
  refine W_cond_t rfl ?_
  refine W_skip ?_
  refine W_seq ?_
  refine W_block ?_
  refine W_seq ?_
  refine W_region_l ?_
  refine WL_stepM rfl (R_mv) ?_
  refine WL_stepM rfl (R_mv) ?_
  refine WL_stepM rfl (R_mv) ?_
  refine WL_step rfl (R_indexAddrA (off' := 0) Try.underlying47 Try.sizeOf3 rfl rfl (by omega) (by omega) rfl) ?_
  refine WL_step rfl (R_load (v := I (0 + 256 * newPl.g : Nat)) Try.isAgg3 rfl (H.get (.there (.there (.there (.there (.there (.there (.there (.there (.there (.there (.there (.there .here))))))))))))) rfl) ?_
  refine WL_stepM rfl (R_mv) ?_
  refine WL_step rfl (R_len_slice Try.underlying22 rfl) ?_
  (refine WL_call rfl (R_call rfl Try.call22 rfl) (read_no (e := 2) (place_cap (j := 0) (H.get (.there (.there (.there (.there (.there (.there (.there (.there (.there (.there (.there (.there (.there (.there .here))))))))))))))) (Sp.from H (PB := [(p0, b0), (p1, b1), (p2, b2), (p3, b3)]) (ts := [(ta.set 0 ⟨zk, newPl.g + 1, false⟩), (tb.set 0 ⟨zk, newPl.g + 1, false⟩), (tc.set 0 ⟨zk, newPl.g + 1, false⟩), (td.set 0 ⟨zk, newPl.g + 1, false⟩)]) bs cap sp (inv4 (set_len hal) (set_g hag (show newPl.g + 1 ≤ 1000001 by decide)) (set_len hbl) (set_g hbg (show newPl.g + 1 ≤ 1000001 by decide)) (set_len hcl) (set_g hcg (show newPl.g + 1 ≤ 1000001 by decide)) (set_len hdl) (set_g hdg (show newPl.g + 1 ≤ 1000001 by decide))) (fun _ hp => List.mem_append_left _ hp)) rfl rfl (fun i a h hu => by rw [← hta] at h; exact drop_all rfl i a h hu _)) (by decide)) ?_; rintro _ w302 ⟨rfl, H1⟩; replace H := H.seq0 H1; clear H1)
  refine WL_stepM rfl (R_mv) ?_
  refine WL_step rfl (R_extract rfl rfl) ?_
  refine WL_step rfl (R_extract rfl rfl) ?_
  refine WL_stepM rfl (R_as) ?_
  refine WL_stepM rfl (R_as) ?_
  refine WL_nil ?_
  refine W_seq ?_
  refine W_seq ?_
  refine W_region_l ?_
  refine WL_stepM rfl (R_mv) ?_
  refine WL_stepM rfl (R_mv) ?_
  refine WL_step rfl (R_ge_t rfl rfl (by omega)) ?_
  refine WL_stepM rfl (R_mv) ?_
  refine WL_guard_t rfl rfl ?_
  refine WL_stepM rfl (R_mv) ?_
  refine WL_guard_t rfl rfl ?_
  refine WL_step rfl (R_ne_f rfl rfl (by omega)) ?_
  refine WL_guard_t rfl rfl ?_
  refine WL_stepM rfl (R_mv) ?_
  refine WL_guard_t rfl rfl ?_
  refine WL_stepM rfl (R_mv) ?_
  refine WL_guard_t rfl rfl ?_
  refine WL_step rfl (R_len_slice Try.underlying22 rfl) ?_
  refine WL_guard_t rfl rfl ?_
  refine WL_step rfl (R_ne_f rfl rfl (by omega)) ?_
  refine WL_guard_t rfl rfl ?_
  refine WL_stepM rfl (R_pk_f rfl) ?_
  refine WL_guard_t rfl rfl ?_
  refine WL_stepM rfl (R_mv) ?_
  refine WL_guard_t rfl rfl ?_
  refine WL_stepM rfl (R_mv) ?_
  refine WL_guard_t rfl rfl ?_
  refine WL_stepM rfl (R_mv) ?_
  refine WL_guard_t rfl rfl ?_
  refine WL_stepM rfl (R_mv) ?_
  refine WL_guard_t rfl rfl ?_
  refine WL_step rfl (R_indexAddrA (off' := 0) Try.underlying47 Try.sizeOf3 rfl rfl (by omega) (by omega) rfl) ?_
  refine WL_guard_t rfl rfl ?_
  refine WL_step rfl (R_load (v := I (0 + 256 * newPl.g : Nat)) Try.isAgg3 rfl (H.get (.there (.there (.there (.there (.there (.there (.there (.there (.there (.there (.there (.there .here))))))))))))) rfl) ?_
  refine WL_guard_t rfl rfl ?_
  (refine WL_effn rfl (E_buildOnes (vs := [(.int _ _)]) H Try.underlying22 Try.sizeOf5 Try.zeroValue5 rfl rfl (by decide) rfl rfl (by simp [Value.oneCell'])) ?_; clear H; intro b343 w343 hb343 H)
  refine WL_guard_t rfl rfl ?_
  (refine WL_call rfl (R_call rfl Try.call20 rfl) (write_noU (e := 2) (ys := [1]) (RdS.blk (c := [U 1]) (off := 0) (m := 1) (cap := 1) (H.get .here) (by rfl) (by decide) (by decide)) (by decide) (place_cap (j := 0) (k := (1 : Nat)) (H.get (.there (.there (.there (.there (.there (.there (.there (.there (.there (.there (.there (.there (.there (.there (.there .here)))))))))))))))) (Sp.from H (PB := [(p0, b0), (p1, b1), (p2, b2), (p3, b3)]) (ts := [(ta.set 0 ⟨zk, newPl.g + 1, false⟩), (tb.set 0 ⟨zk, newPl.g + 1, false⟩), (tc.set 0 ⟨zk, newPl.g + 1, false⟩), (td.set 0 ⟨zk, newPl.g + 1, false⟩)]) bs cap sp (inv4 (set_len hal) (set_g hag (show newPl.g + 1 ≤ 1000001 by decide)) (set_len hbl) (set_g hbg (show newPl.g + 1 ≤ 1000001 by decide)) (set_len hcl) (set_g hcg (show newPl.g + 1 ≤ 1000001 by decide)) (set_len hdl) (set_g hdg (show newPl.g + 1 ≤ 1000001 by decide))) (fun _ hp => .tail _ (List.mem_append_left _ hp))) rfl rfl (fun i a h hu => by rw [← hta] at h; exact drop_all rfl i a h hu _)) (by decide)) ?_; rintro _ w345 ⟨rfl, H1⟩; replace H := H.seq0 H1; clear H1; replace H := H.pop (by assumption))
  refine WL_guard_t rfl rfl ?_
  refine WL_step rfl (R_ne_f rfl rfl (by omega)) ?_
  refine WL_guard_t rfl rfl ?_
  refine WL_stepM rfl (R_pk_f rfl) ?_
  refine WL_stepM rfl (R_pk_t rfl) ?_
  refine WL_nil ?_
  refine W_cond_f rfl ?_
  refine W_skip ?_
  refine W_seq ?_
  refine W_region_l ?_
  refine WL_stepM rfl (R_mv) ?_
  refine WL_stepM rfl (R_mv) ?_
  refine WL_step rfl (R_lt_f rfl rfl (by omega)) ?_
  refine WL_stepM rfl (R_mv) ?_
  refine WL_guard_f rfl rfl (by decide) ?_
  refine WL_guard_f rfl rfl (by decide) ?_
  refine WL_guard_f rfl rfl (by decide) ?_
  refine WL_guard_n rfl rfl ?_
  refine WL_guard_n rfl rfl ?_
  refine WL_guard_n rfl rfl ?_
  refine WL_guard_n rfl rfl ?_
  refine WL_guard_n rfl rfl ?_
  refine WL_guard_f rfl rfl (by decide) ?_
  refine WL_stepM rfl (R_pk_f rfl) ?_
  refine WL_nil ?_
  refine W_cond_f rfl ?_
  refine W_skip ?_
  (skip) <;> refine W_region_l ?_
  refine WL_stepM rfl (R_mv) ?_
  refine WL_step rfl (R_add (r := 1) rfl rfl (by decide)) ?_
  refine WL_stepM rfl (R_as) ?_
  refine WL_nil ?_
  refine Rn_succ ?_
  refine W_seq ?_
  refine W_seq ?_
  refine W_region_l ?_
  refine WL_stepM rfl (R_mv) ?_
  refine WL_step rfl (R_lt_t rfl rfl (by omega)) ?_
  refine WL_nil ?_
  refine W_cond_t rfl ?_
  refine W_skip ?_
  refine W_seq ?_
  refine W_block ?_
  refine W_seq ?_
  refine W_region_l ?_
  refine WL_stepM rfl (R_mv) ?_
  refine WL_stepM rfl (R_mv) ?_
  refine WL_stepM rfl (R_mv) ?_
  refine WL_step rfl (R_indexAddrA (off' := 1) Try.underlying47 Try.sizeOf3 rfl rfl (by omega) (by omega) rfl) ?_
  refine WL_step rfl (R_load (v := I (0 + 256 * newPl.g : Nat)) Try.isAgg3 rfl (H.get (.there (.there (.there (.there (.there (.there (.there (.there (.there (.there (.there (.there .here))))))))))))) rfl) ?_
  refine WL_stepM rfl (R_mv) ?_
  refine WL_step rfl (R_len_slice Try.underlying22 rfl) ?_
  (refine WL_call rfl (R_call rfl Try.call22 rfl) (read_no (e := 2) (place_cap (j := 1) (H.get (.there (.there (.there (.there (.there (.there (.there (.there (.there (.there (.there (.there (.there (.there .here))))))))))))))) (Sp.from H (PB := [(p0, b0), (p1, b1), (p2, b2), (p3, b3)]) (ts := [(ta.set 0 ⟨zk, newPl.g + 1, false⟩), (tb.set 0 ⟨zk, newPl.g + 1, false⟩), (tc.set 0 ⟨zk, newPl.g + 1, false⟩), (td.set 0 ⟨zk, newPl.g + 1, false⟩)]) bs cap sp (inv4 (set_len hal) (set_g hag (show newPl.g + 1 ≤ 1000001 by decide)) (set_len hbl) (set_g hbg (show newPl.g + 1 ≤ 1000001 by decide)) (set_len hcl) (set_g hcg (show newPl.g + 1 ≤ 1000001 by decide)) (set_len hdl) (set_g hdg (show newPl.g + 1 ≤ 1000001 by decide))) (fun _ hp => List.mem_append_left _ hp)) rfl rfl (fun i a h hu => by rw [← htb] at h; exact drop_all rfl i a h hu _)) (by decide)) ?_; rintro _ w398 ⟨rfl, H1⟩; replace H := H.seq0 H1; clear H1)
  refine WL_stepM rfl (R_mv) ?_
  refine WL_step rfl (R_extract rfl rfl) ?_
  refine WL_step rfl (R_extract rfl rfl) ?_
  refine WL_stepM rfl (R_as) ?_
  refine WL_stepM rfl (R_as) ?_
  refine WL_nil ?_
  refine W_seq ?_
  refine W_seq ?_
  refine W_region_l ?_
  refine WL_stepM rfl (R_mv) ?_
  refine WL_stepM rfl (R_mv) ?_
  refine WL_step rfl (R_ge_t rfl rfl (by omega)) ?_
  refine WL_stepM rfl (R_mv) ?_
  refine WL_guard_t rfl rfl ?_
  refine WL_stepM rfl (R_mv) ?_
  refine WL_guard_t rfl rfl ?_
  refine WL_step rfl (R_ne_f rfl rfl (by omega)) ?_
  refine WL_guard_t rfl rfl ?_
  refine WL_stepM rfl (R_mv) ?_
  refine WL_guard_t rfl rfl ?_
  refine WL_stepM rfl (R_mv) ?_
  refine WL_guard_t rfl rfl ?_
  refine WL_step rfl (R_len_slice Try.underlying22 rfl) ?_
  refine WL_guard_t rfl rfl ?_
  refine WL_step rfl (R_ne_f rfl rfl (by omega)) ?_
  refine WL_guard_t rfl rfl ?_
  refine WL_stepM rfl (R_pk_f rfl) ?_
  refine WL_guard_t rfl rfl ?_
  refine WL_stepM rfl (R_mv) ?_
  refine WL_guard_t rfl rfl ?_
  refine WL_stepM rfl (R_mv) ?_
  refine WL_guard_t rfl rfl ?_
  refine WL_stepM rfl (R_mv) ?_
  refine WL_guard_t rfl rfl ?_
  refine WL_stepM rfl (R_mv) ?_
  refine WL_guard_t rfl rfl ?_
  refine WL_step rfl (R_indexAddrA (off' := 1) Try.underlying47 Try.sizeOf3 rfl rfl (by omega) (by omega) rfl) ?_
  refine WL_guard_t rfl rfl ?_
  refine WL_step rfl (R_load (v := I (0 + 256 * newPl.g : Nat)) Try.isAgg3 rfl (H.get (.there (.there (.there (.there (.there (.there (.there (.there (.there (.there (.there (.there .here))))))))))))) rfl) ?_
  refine WL_guard_t rfl rfl ?_
  (refine WL_effn rfl (E_buildOnes (vs := [(.int _ _)]) H Try.underlying22 Try.sizeOf5 Try.zeroValue5 rfl rfl (by decide) rfl rfl (by simp [Value.oneCell'])) ?_; clear H; intro b439 w439 hb439 H)
  refine WL_guard_t rfl rfl ?_
  (refine WL_call rfl (R_call rfl Try.call20 rfl) (write_noU (e := 2) (ys := [1]) (RdS.blk (c := [U 1]) (off := 0) (m := 1) (cap := 1) (H.get .here) (by rfl) (by decide) (by decide)) (by decide) (place_cap (j := 1) (k := (1 : Nat)) (H.get (.there (.there (.there (.there (.there (.there (.there (.there (.there (.there (.there (.there (.there (.there (.there .here)))))))))))))))) (Sp.from H (PB := [(p0, b0), (p1, b1), (p2, b2), (p3, b3)]) (ts := [(ta.set 0 ⟨zk, newPl.g + 1, false⟩), (tb.set 0 ⟨zk, newPl.g + 1, false⟩), (tc.set 0 ⟨zk, newPl.g + 1, false⟩), (td.set 0 ⟨zk, newPl.g + 1, false⟩)]) bs cap sp (inv4 (set_len hal) (set_g hag (show newPl.g + 1 ≤ 1000001 by decide)) (set_len hbl) (set_g hbg (show newPl.g + 1 ≤ 1000001 by decide)) (set_len hcl) (set_g hcg (show newPl.g + 1 ≤ 1000001 by decide)) (set_len hdl) (set_g hdg (show newPl.g + 1 ≤ 1000001 by decide))) (fun _ hp => .tail _ (List.mem_append_left _ hp))) rfl rfl (fun i a h hu => by rw [← htb] at h; exact drop_all rfl i a h hu _)) (by decide)) ?_; rintro _ w441 ⟨rfl, H1⟩; replace H := H.seq0 H1; clear H1; replace H := H.pop (by assumption))
  refine WL_guard_t rfl rfl ?_
  refine WL_step rfl (R_ne_f rfl rfl (by omega)) ?_
  refine WL_guard_t rfl rfl ?_
  refine WL_stepM rfl (R_pk_f rfl) ?_
  refine WL_stepM rfl (R_pk_t rfl) ?_
  refine WL_nil ?_
  refine W_cond_f rfl ?_
  refine W_skip ?_
  refine W_seq ?_
  refine W_region_l ?_
  refine WL_stepM rfl (R_mv) ?_
  refine WL_stepM rfl (R_mv) ?_
  refine WL_step rfl (R_lt_f rfl rfl (by omega)) ?_
  refine WL_stepM rfl (R_mv) ?_
  refine WL_guard_f rfl rfl (by decide) ?_
  refine WL_guard_f rfl rfl (by decide) ?_
  refine WL_guard_f rfl rfl (by decide) ?_
  refine WL_guard_n rfl rfl ?_
  refine WL_guard_n rfl rfl ?_
  refine WL_guard_n rfl rfl ?_
  refine WL_guard_n rfl rfl ?_
  refine WL_guard_n rfl rfl ?_
  refine WL_guard_f rfl rfl (by decide) ?_
  refine WL_stepM rfl (R_pk_f rfl) ?_
  refine WL_nil ?_
  refine W_cond_f rfl ?_
  refine W_skip ?_
  (skip) <;> refine W_region_l ?_
  refine WL_stepM rfl (R_mv) ?_
  refine WL_step rfl (R_add (r := 2) rfl rfl (by decide)) ?_
  refine WL_stepM rfl (R_as) ?_
  refine WL_nil ?_
  refine Rn_succ ?_
  refine W_seq ?_
  refine W_seq ?_
  refine W_region_l ?_
  refine WL_stepM rfl (R_mv) ?_
  refine WL_step rfl (R_lt_t rfl rfl (by omega)) ?_
  refine WL_nil ?_
  refine W_cond_t rfl ?_
  refine W_skip ?_
  refine W_seq ?_
  refine W_block ?_
  refine W_seq ?_
  refine W_region_l ?_
  refine WL_stepM rfl (R_mv) ?_
  refine WL_stepM rfl (R_mv) ?_
  refine WL_stepM rfl (R_mv) ?_
  refine WL_step rfl (R_indexAddrA (off' := 2) Try.underlying47 Try.sizeOf3 rfl rfl (by omega) (by omega) rfl) ?_
  refine WL_step rfl (R_load (v := I (0 + 256 * newPl.g : Nat)) Try.isAgg3 rfl (H.get (.there (.there (.there (.there (.there (.there (.there (.there (.there (.there (.there (.there .here))))))))))))) rfl) ?_
  refine WL_stepM rfl (R_mv) ?_
  refine WL_step rfl (R_len_slice Try.underlying22 rfl) ?_
  (refine WL_call rfl (R_call rfl Try.call22 rfl) (read_no (e := 2) (place_cap (j := 2) (H.get (.there (.there (.there (.there (.there (.there (.there (.there (.there (.there (.there (.there (.there (.there .here))))))))))))))) (Sp.from H (PB := [(p0, b0), (p1, b1), (p2, b2), (p3, b3)]) (ts := [(ta.set 0 ⟨zk, newPl.g + 1, false⟩), (tb.set 0 ⟨zk, newPl.g + 1, false⟩), (tc.set 0 ⟨zk, newPl.g + 1, false⟩), (td.set 0 ⟨zk, newPl.g + 1, false⟩)]) bs cap sp (inv4 (set_len hal) (set_g hag (show newPl.g + 1 ≤ 1000001 by decide)) (set_len hbl) (set_g hbg (show newPl.g + 1 ≤ 1000001 by decide)) (set_len hcl) (set_g hcg (show newPl.g + 1 ≤ 1000001 by decide)) (set_len hdl) (set_g hdg (show newPl.g + 1 ≤ 1000001 by decide))) (fun _ hp => List.mem_append_left _ hp)) rfl rfl (fun i a h hu => by rw [← htc] at h; exact drop_all rfl i a h hu _)) (by decide)) ?_; rintro _ w494 ⟨rfl, H1⟩; replace H := H.seq0 H1; clear H1)
  refine WL_stepM rfl (R_mv) ?_
  refine WL_step rfl (R_extract rfl rfl) ?_
  refine WL_step rfl (R_extract rfl rfl) ?_
  refine WL_stepM rfl (R_as) ?_
  refine WL_stepM rfl (R_as) ?_
  refine WL_nil ?_
  refine W_seq ?_
  refine W_seq ?_
  refine W_region_l ?_
  refine WL_stepM rfl (R_mv) ?_
  refine WL_stepM rfl (R_mv) ?_
  refine WL_step rfl (R_ge_t rfl rfl (by omega)) ?_
  refine WL_stepM rfl (R_mv) ?_
  refine WL_guard_t rfl rfl ?_
  refine WL_stepM rfl (R_mv) ?_
  refine WL_guard_t rfl rfl ?_
  refine WL_step rfl (R_ne_f rfl rfl (by omega)) ?_
  refine WL_guard_t rfl rfl ?_
  refine WL_stepM rfl (R_mv) ?_
  refine WL_guard_t rfl rfl ?_
  refine WL_stepM rfl (R_mv) ?_
  refine WL_guard_t rfl rfl ?_
  refine WL_step rfl (R_len_slice Try.underlying22 rfl) ?_
  refine WL_guard_t rfl rfl ?_
  refine WL_step rfl (R_ne_f rfl rfl (by omega)) ?_
  refine WL_guard_t rfl rfl ?_
  refine WL_stepM rfl (R_pk_f rfl) ?_
  refine WL_guard_t rfl rfl ?_
  refine WL_stepM rfl (R_mv) ?_
  refine WL_guard_t rfl rfl ?_
  refine WL_stepM rfl (R_mv) ?_
  refine WL_guard_t rfl rfl ?_
  refine WL_stepM rfl (R_mv) ?_
  refine WL_guard_t rfl rfl ?_
  refine WL_stepM rfl (R_mv) ?_
  refine WL_guard_t rfl rfl ?_
  refine WL_step rfl (R_indexAddrA (off' := 2) Try.underlying47 Try.sizeOf3 rfl rfl (by omega) (by omega) rfl) ?_
  refine WL_guard_t rfl rfl ?_
  refine WL_step rfl (R_load (v := I (0 + 256 * newPl.g : Nat)) Try.isAgg3 rfl (H.get (.there (.there (.there (.there (.there (.there (.there (.there (.there (.there (.there (.there .here))))))))))))) rfl) ?_
  refine WL_guard_t rfl rfl ?_
  (refine WL_effn rfl (E_buildOnes (vs := [(.int _ _)]) H Try.underlying22 Try.sizeOf5 Try.zeroValue5 rfl rfl (by decide) rfl rfl (by simp [Value.oneCell'])) ?_; clear H; intro b535 w535 hb535 H)
  refine WL_guard_t rfl rfl ?_
  (refine WL_call rfl (R_call rfl Try.call20 rfl) (write_noU (e := 2) (ys := [1]) (RdS.blk (c := [U 1]) (off := 0) (m := 1) (cap := 1) (H.get .here) (by rfl) (by decide) (by decide)) (by decide) (place_cap (j := 2) (k := (1 : Nat)) (H.get (.there (.there (.there (.there (.there (.there (.there (.there (.there (.there (.there (.there (.there (.there (.there .here)))))))))))))))) (Sp.from H (PB := [(p0, b0), (p1, b1), (p2, b2), (p3, b3)]) (ts := [(ta.set 0 ⟨zk, newPl.g + 1, false⟩), (tb.set 0 ⟨zk, newPl.g + 1, false⟩), (tc.set 0 ⟨zk, newPl.g + 1, false⟩), (td.set 0 ⟨zk, newPl.g + 1, false⟩)]) bs cap sp (inv4 (set_len hal) (set_g hag (show newPl.g + 1 ≤ 1000001 by decide)) (set_len hbl) (set_g hbg (show newPl.g + 1 ≤ 1000001 by decide)) (set_len hcl) (set_g hcg (show newPl.g + 1 ≤ 1000001 by decide)) (set_len hdl) (set_g hdg (show newPl.g + 1 ≤ 1000001 by decide))) (fun _ hp => .tail _ (List.mem_append_left _ hp))) rfl rfl (fun i a h hu => by rw [← htc] at h; exact drop_all rfl i a h hu _)) (by decide)) ?_; rintro _ w537 ⟨rfl, H1⟩; replace H := H.seq0 H1; clear H1; replace H := H.pop (by assumption))
  refine WL_guard_t rfl rfl ?_
  refine WL_step rfl (R_ne_f rfl rfl (by omega)) ?_
  refine WL_guard_t rfl rfl ?_
  refine WL_stepM rfl (R_pk_f rfl) ?_
  refine WL_stepM rfl (R_pk_t rfl) ?_
  refine WL_nil ?_
  refine W_cond_f rfl ?_
  refine W_skip ?_
  refine W_seq ?_
  refine W_region_l ?_
  refine WL_stepM rfl (R_mv) ?_
  refine WL_stepM rfl (R_mv) ?_
  refine WL_step rfl (R_lt_f rfl rfl (by omega)) ?_
  refine WL_stepM rfl (R_mv) ?_
  refine WL_guard_f rfl rfl (by decide) ?_
  refine WL_guard_f rfl rfl (by decide) ?_
  refine WL_guard_f rfl rfl (by decide) ?_
  refine WL_guard_n rfl rfl ?_
  refine WL_guard_n rfl rfl ?_
  refine WL_guard_n rfl rfl ?_
  refine WL_guard_n rfl rfl ?_
  refine WL_guard_n rfl rfl ?_
  refine WL_guard_f rfl rfl (by decide) ?_
  refine WL_stepM rfl (R_pk_f rfl) ?_
  refine WL_nil ?_
  refine W_cond_f rfl ?_
  refine W_skip ?_
  (skip) <;> refine W_region_l ?_
  refine WL_stepM rfl (R_mv) ?_
  refine WL_step rfl (R_add (r := 3) rfl rfl (by decide)) ?_
  refine WL_stepM rfl (R_as) ?_
  refine WL_nil ?_
  refine Rn_succ ?_
  refine W_seq ?_
  refine W_seq ?_
  refine W_region_l ?_
  refine WL_stepM rfl (R_mv) ?_
  refine WL_step rfl (R_lt_t rfl rfl (by omega)) ?_
  refine WL_nil ?_
  refine W_cond_t rfl ?_
  refine W_skip ?_
  refine W_seq ?_
  refine W_block ?_
  refine W_seq ?_
  refine W_region_l ?_
  refine WL_stepM rfl (R_mv) ?_
  refine WL_stepM rfl (R_mv) ?_
  refine WL_stepM rfl (R_mv) ?_
  refine WL_step rfl (R_indexAddrA (off' := 3) Try.underlying47 Try.sizeOf3 rfl rfl (by omega) (by omega) rfl) ?_
  refine WL_step rfl (R_load (v := I (0 + 256 * newPl.g : Nat)) Try.isAgg3 rfl (H.get (.there (.there (.there (.there (.there (.there (.there (.there (.there (.there (.there (.there .here))))))))))))) rfl) ?_
  refine WL_stepM rfl (R_mv) ?_
  refine WL_step rfl (R_len_slice Try.underlying22 rfl) ?_
  (refine WL_call rfl (R_call rfl Try.call22 rfl) (read_no (e := 2) (place_cap (j := 3) (H.get (.there (.there (.there (.there (.there (.there (.there (.there (.there (.there (.there (.there (.there (.there .here))))))))))))))) (Sp.from H (PB := [(p0, b0), (p1, b1), (p2, b2), (p3, b3)]) (ts := [(ta.set 0 ⟨zk, newPl.g + 1, false⟩), (tb.set 0 ⟨zk, newPl.g + 1, false⟩), (tc.set 0 ⟨zk, newPl.g + 1, false⟩), (td.set 0 ⟨zk, newPl.g + 1, false⟩)]) bs cap sp (inv4 (set_len hal) (set_g hag (show newPl.g + 1 ≤ 1000001 by decide)) (set_len hbl) (set_g hbg (show newPl.g + 1 ≤ 1000001 by decide)) (set_len hcl) (set_g hcg (show newPl.g + 1 ≤ 1000001 by decide)) (set_len hdl) (set_g hdg (show newPl.g + 1 ≤ 1000001 by decide))) (fun _ hp => List.mem_append_left _ hp)) rfl rfl (fun i a h hu => by rw [← htd] at h; exact drop_all rfl i a h hu _)) (by decide)) ?_; rintro _ w590 ⟨rfl, H1⟩; replace H := H.seq0 H1; clear H1)
  refine WL_stepM rfl (R_mv) ?_
  refine WL_step rfl (R_extract rfl rfl) ?_
  refine WL_step rfl (R_extract rfl rfl) ?_
  refine WL_stepM rfl (R_as) ?_
  refine WL_stepM rfl (R_as) ?_
  refine WL_nil ?_
  refine W_seq ?_
  refine W_seq ?_
  refine W_region_l ?_
  refine WL_stepM rfl (R_mv) ?_
  refine WL_stepM rfl (R_mv) ?_
  refine WL_step rfl (R_ge_t rfl rfl (by omega)) ?_
  refine WL_stepM rfl (R_mv) ?_
  refine WL_guard_t rfl rfl ?_
  refine WL_stepM rfl (R_mv) ?_
  refine WL_guard_t rfl rfl ?_
  refine WL_step rfl (R_ne_f rfl rfl (by omega)) ?_
  refine WL_guard_t rfl rfl ?_
  refine WL_stepM rfl (R_mv) ?_
  refine WL_guard_t rfl rfl ?_
  refine WL_stepM rfl (R_mv) ?_
  refine WL_guard_t rfl rfl ?_
  refine WL_step rfl (R_len_slice Try.underlying22 rfl) ?_
  refine WL_guard_t rfl rfl ?_
  refine WL_step rfl (R_ne_f rfl rfl (by omega)) ?_
  refine WL_guard_t rfl rfl ?_
  refine WL_stepM rfl (R_pk_f rfl) ?_
  refine WL_guard_t rfl rfl ?_
  refine WL_stepM rfl (R_mv) ?_
  refine WL_guard_t rfl rfl ?_
  refine WL_stepM rfl (R_mv) ?_
  refine WL_guard_t rfl rfl ?_
  refine WL_stepM rfl (R_mv) ?_
  refine WL_guard_t rfl rfl ?_
  refine WL_stepM rfl (R_mv) ?_
  refine WL_guard_t rfl rfl ?_
  refine WL_step rfl (R_indexAddrA (off' := 3) Try.underlying47 Try.sizeOf3 rfl rfl (by omega) (by omega) rfl) ?_
  refine WL_guard_t rfl rfl ?_
  refine WL_step rfl (R_load (v := I (0 + 256 * newPl.g : Nat)) Try.isAgg3 rfl (H.get (.there (.there (.there (.there (.there (.there (.there (.there (.there (.there (.there (.there .here))))))))))))) rfl) ?_
  refine WL_guard_t rfl rfl ?_
  (refine WL_effn rfl (E_buildOnes (vs := [(.int _ _)]) H Try.underlying22 Try.sizeOf5 Try.zeroValue5 rfl rfl (by decide) rfl rfl (by simp [Value.oneCell'])) ?_; clear H; intro b631 w631 hb631 H)
  refine WL_guard_t rfl rfl ?_
  (refine WL_call rfl (R_call rfl Try.call20 rfl) (write_noU (e := 2) (ys := [1]) (RdS.blk (c := [U 1]) (off := 0) (m := 1) (cap := 1) (H.get .here) (by rfl) (by decide) (by decide)) (by decide) (place_cap (j := 3) (k := (1 : Nat)) (H.get (.there (.there (.there (.there (.there (.there (.there (.there (.there (.there (.there (.there (.there (.there (.there .here)))))))))))))))) (Sp.from H (PB := [(p0, b0), (p1, b1), (p2, b2), (p3, b3)]) (ts := [(ta.set 0 ⟨zk, newPl.g + 1, false⟩), (tb.set 0 ⟨zk, newPl.g + 1, false⟩), (tc.set 0 ⟨zk, newPl.g + 1, false⟩), (td.set 0 ⟨zk, newPl.g + 1, false⟩)]) bs cap sp (inv4 (set_len hal) (set_g hag (show newPl.g + 1 ≤ 1000001 by decide)) (set_len hbl) (set_g hbg (show newPl.g + 1 ≤ 1000001 by decide)) (set_len hcl) (set_g hcg (show newPl.g + 1 ≤ 1000001 by decide)) (set_len hdl) (set_g hdg (show newPl.g + 1 ≤ 1000001 by decide))) (fun _ hp => .tail _ (List.mem_append_left _ hp))) rfl rfl (fun i a h hu => by rw [← htd] at h; exact drop_all rfl i a h hu _)) (by decide)) ?_; rintro _ w633 ⟨rfl, H1⟩; replace H := H.seq0 H1; clear H1; replace H := H.pop (by assumption))
  refine WL_guard_t rfl rfl ?_
  refine WL_step rfl (R_ne_f rfl rfl (by omega)) ?_
  refine WL_guard_t rfl rfl ?_
  refine WL_stepM rfl (R_pk_f rfl) ?_
  refine WL_stepM rfl (R_pk_t rfl) ?_
  refine WL_nil ?_
  refine W_cond_f rfl ?_
  refine W_skip ?_
  refine W_seq ?_
  refine W_region_l ?_
  refine WL_stepM rfl (R_mv) ?_
  refine WL_stepM rfl (R_mv) ?_
  refine WL_step rfl (R_lt_f rfl rfl (by omega)) ?_
  refine WL_stepM rfl (R_mv) ?_
  refine WL_guard_f rfl rfl (by decide) ?_
  refine WL_guard_f rfl rfl (by decide) ?_
  refine WL_guard_f rfl rfl (by decide) ?_
  refine WL_guard_n rfl rfl ?_
  refine WL_guard_n rfl rfl ?_
  refine WL_guard_n rfl rfl ?_
  refine WL_guard_n rfl rfl ?_
  refine WL_guard_n rfl rfl ?_
  refine WL_guard_f rfl rfl (by decide) ?_
  refine WL_stepM rfl (R_pk_f rfl) ?_
  refine WL_nil ?_
  refine W_cond_f rfl ?_
  refine W_skip ?_
  (skip) <;> refine W_region_l ?_
  refine WL_stepM rfl (R_mv) ?_
  refine WL_step rfl (R_add (r := 4) rfl rfl (by decide)) ?_
  refine WL_stepM rfl (R_as) ?_
  refine WL_nil ?_
  refine Rn_succ ?_
  refine W_seq ?_
  refine W_seq ?_
  refine W_region_l ?_
  refine WL_stepM rfl (R_mv) ?_
  refine WL_step rfl (R_lt_f rfl rfl (by omega)) ?_
  refine WL_nil ?_
  refine W_cond_f rfl ?_
  refine W_exit ?_
  refine (if_pos rfl).mpr ?_
  refine W_seq ?_
  refine W_region_l ?_
  refine WL_stepM rfl (R_mv) ?_
  refine WL_stepM rfl (R_mv) ?_
  refine WL_step rfl (R_len_slice Try.underlying22 rfl) ?_
  (refine WL_call rfl (R_call rfl Try.call21 rfl) (Mem.load_yes (xs := us) 3 ys.length (H.get (.there (.there (.there (.there (.there (.there (.there (.there (.there (.there .here))))))))))) (H.get (.there (.there (.there (.there (.there (.there (.there (.there (.there (.there (.there .here)))))))))))) hul (by omega) (by omega)) ?_; rintro _ w681 ⟨u3, M3, rfl, hO3, H1⟩; rw [hgy] at hO3; have h681 := H.seqO hO3 H1; clear H H1 hO3; obtain ⟨hO3, H⟩ := h681; obtain ⟨a3, c3, rfl⟩ := hO3.form)
  refine WL_stepM rfl (R_mv) ?_
  refine WL_step rfl (R_extract rfl rfl) ?_
  refine WL_step rfl (R_extract rfl rfl) ?_
  refine WL_stepM rfl (R_as) ?_
  refine WL_stepM rfl (R_as) ?_
  refine WL_nil ?_
  refine W_seq ?_
  refine W_region_l ?_
  refine WL_stepM rfl (R_mv) ?_
  refine WL_step rfl (R_eq_t rfl rfl (by omega)) ?_
  refine WL_stepM rfl (R_mv) ?_
  refine WL_guard_t rfl rfl ?_
  refine WL_stepM rfl (R_mv) ?_
  refine WL_guard_t rfl rfl ?_
  refine WL_step rfl (R_conv_bs (xs := ys) Try.underlying22 Try.underlying5 Try.underlying9 rfl (RdS.own hO3 (fun q hq => H.held q (by simp [hq])))) ?_
  refine WL_guard_t rfl rfl ?_
  refine WL_stepM rfl (R_mv) ?_
  refine WL_guard_t rfl rfl ?_
  refine WL_step rfl (R_conv_bs (xs := ys) Try.underlying22 Try.underlying5 Try.underlying9 rfl (hl.monoN H (by repeat' first | exact kNil | apply kCons | apply kApp | assumption | exact OwnS.keys (by assumption)))) ?_
  refine WL_guard_t rfl rfl ?_
  refine WL_step rfl (R_eq_S_t (xs := ys) (ys := ys) rfl rfl rfl) ?_
  refine WL_stepM rfl (R_pk_t rfl) ?_
  refine WL_stepM rfl (R_mv) ?_
  refine WL_guard_t rfl rfl ?_
  (refine WL_call rfl (R_call rfl Try.call15 rfl) (awake_ret _) ?_; rintro _ w706 ⟨rfl, H1⟩; replace H := H.seq0 H1; clear H1)
  refine WL_stepM rfl (R_pk_t rfl) ?_
  refine WL_stepM rfl (R_as) ?_
  refine WL_nil ?_
  refine W_ret ?_
  exact ⟨_, rfl, rfl, H.none (by repeat' first | exact kNil | apply kCons | apply kApp | assumption | exact OwnS.keys (by assumption))⟩

theorem gone_1 {w : World} {ys : List UInt8} {l : Value} {at_ : Int} (hl : RdS w l (ys.map U)) (hy : ys.length ≤ 60) (hV : at_ % 4 = 1) :
    Ret Try.prog 5 #[l, I at_] w fun v w' => v = .bool true ∧ Hp w [] w' := by
  refine Ret_of_W (args := [_, _]) Try.func5 rfl Try.ntmps5 Try.results5 (by simp) ?_
  have H := Hp.refl w
  obtain ⟨ao, ca0, rfl⟩ := hl.form
  simp only [List.length_map] at hl ⊢
  obtain ⟨ta, hta, hal, hag, ha0⟩ := tset t0_len t0_g (i := 0) (by decide) ⟨cp 0 (7 : Nat) 0 60 0 0, newPl.g, true⟩ (show newPl.g ≤ 1000001 by decide)
  have hna : namesFrom 0 ta = [((0 + 256 * newPl.g : Nat) : Int)] := by rw [← hta]; rfl
  obtain ⟨tb, htb, hbl, hbg, hb0⟩ := tset t0_len t0_g (i := 0) (by decide) ⟨cp 0 7 (0 + 0) 60 (0 : Nat) (0 + 256 * newPl.g : Nat), newPl.g, true⟩ (show newPl.g ≤ 1000001 by decide)
  have hnb : namesFrom 0 tb = [((0 + 256 * newPl.g : Nat) : Int)] := by rw [← htb]; rfl
  obtain ⟨tc, htc, hcl, hcg, hc0⟩ := tset t0_len t0_g (i := 0) (by decide) ⟨cp 0 7 ((0 + 0) + 0) 60 (1 : Nat) (0 + 256 * newPl.g : Nat), newPl.g, true⟩ (show newPl.g ≤ 1000001 by decide)
  have hnc : namesFrom 0 tc = [((0 + 256 * newPl.g : Nat) : Int)] := by rw [← htc]; rfl
  obtain ⟨td, htd, hdl, hdg, hd0⟩ := tset t0_len t0_g (i := 0) (by decide) ⟨cp 0 7 (((0 + 0) + 0) + 0) 60 (2 : Nat) (0 + 256 * newPl.g : Nat), newPl.g, true⟩ (show newPl.g ≤ 1000001 by decide)
  have hnd : namesFrom 0 td = [((0 + 256 * newPl.g : Nat) : Int)] := by rw [← htd]; rfl
  obtain ⟨zs, hzs, hzl⟩ : ∃ zs : List UInt8, zs = List.replicate 128 0 ∧ zs.length = 128 := ⟨_, rfl, by simp⟩
  obtain ⟨us, hus, hul⟩ : ∃ us : List UInt8, us = Mem.put zs ys 3 ∧ us.length = 128 := ⟨_, rfl, by rw [Mem.put_length (by omega)]; exact hzl⟩
  have hgy : (us.drop 3).take ys.length = ys := by rw [hus]; exact put_back (by omega)
  refine W_seq ?_
  refine W_region_l ?_
  refine WL_stepM rfl (R_as) ?_
  refine WL_nil ?_
  refine W_seq ?_
  refine W_region_l ?_
  (refine WL_call rfl (R_call rfl Try.call12 rfl) (Mem.new_ret 2 _) ?_; rintro _ w7 ⟨m, mb, rfl, H1, hm, hmb⟩; rw [show Mem.szOf 2 = 128 from rfl, ← Mem.zmap, ← hzs] at H1; replace H := H.seqN H1 (kCons hm (kCons hmb kNil)); replace H : Hp w [(m, blk [sl mb 0 128 128] 87), (mb, blk (zs.map U) 5)] w7 := H; clear H1)
  (refine WL_call rfl (R_call rfl Try.call13 rfl) (Caps.new_ret (E := 4) (by decide) (by decide) _) ?_; rintro _ w8 ⟨s, bs, cap, sp, PB, rfl, hPl, hs, hbs, hPB, H1⟩; obtain ⟨p0, b0, p1, b1, p2, b2, p3, b3, rfl⟩ := four hPl; have hsz := H.size; replace H := H.seqN H1 (spB_keys hs hbs hPB); clear H1; obtain ⟨hp0, hb0'⟩ := hPB (p0, b0) (.head _); obtain ⟨hp1, hb1'⟩ := hPB (p1, b1) (.tail _ (.head _)); obtain ⟨hp2, hb2'⟩ := hPB (p2, b2) (.tail _ (.tail _ (.head _))); obtain ⟨hp3, hb3'⟩ := hPB (p3, b3) (.tail _ (.tail _ (.tail _ (.head _)))); replace hs := Nat.le_trans hsz hs; replace hbs := Nat.le_trans hsz hbs; replace hp0 : w.heap.size ≤ p0 := Nat.le_trans hsz hp0; replace hb0' : w.heap.size ≤ b0 := Nat.le_trans hsz hb0'; replace hp1 : w.heap.size ≤ p1 := Nat.le_trans hsz hp1; replace hb1' : w.heap.size ≤ b1 := Nat.le_trans hsz hb1'; replace hp2 : w.heap.size ≤ p2 := Nat.le_trans hsz hp2; replace hb2' : w.heap.size ≤ b2 := Nat.le_trans hsz hb2'; replace hp3 : w.heap.size ≤ p3 := Nat.le_trans hsz hp3; replace hb3' : w.heap.size ≤ b3 := Nat.le_trans hsz hb3'; clear hPB hPl hsz; replace H : Hp w [(s, blk [sl bs 0 4 cap] 90), (bs, blk (ptrs [(p0, b0), (p1, b1), (p2, b2), (p3, b3)] ++ sp) 91), (p0, blk [sl b0 0 32 32] 135), (b0, blk (rows plc t0) 137), (p1, blk [sl b1 0 32 32] 135), (b1, blk (rows plc t0) 137), (p2, blk [sl b2 0 32 32] 135), (b2, blk (rows plc t0) 137), (p3, blk [sl b3 0 32 32] 135), (b3, blk (rows plc t0) 137), (m, blk [sl mb 0 128 128] 87), (mb, blk (zs.map U) 5)] w8 := H)
  refine WL_stepM rfl (R_as) ?_
  refine WL_stepM rfl (R_as) ?_
  refine WL_nil ?_
  refine W_seq ?_
  refine W_region_l ?_
  refine WL_stepM rfl (R_mv) ?_
  refine WL_stepM rfl (R_mv) ?_
  (refine WL_call rfl (R_call rfl Try.call14 rfl) (new_ret m s _) ?_; rintro _ w16 ⟨rr, rfl, hrr, H1⟩; have hsz := H.size; replace H := H.seqN H1 (kCons hrr kNil); clear H1; replace hrr := Nat.le_trans hsz hrr; clear hsz; replace H : Hp w ((rr, blk [ptr m 0, ptr s 0, nilS] 95) :: [(s, blk [sl bs 0 4 cap] 90), (bs, blk (ptrs [(p0, b0), (p1, b1), (p2, b2), (p3, b3)] ++ sp) 91), (p0, blk [sl b0 0 32 32] 135), (b0, blk (rows plc t0) 137), (p1, blk [sl b1 0 32 32] 135), (b1, blk (rows plc t0) 137), (p2, blk [sl b2 0 32 32] 135), (b2, blk (rows plc t0) 137), (p3, blk [sl b3 0 32 32] 135), (b3, blk (rows plc t0) 137), (m, blk [sl mb 0 128 128] 87), (mb, blk (zs.map U) 5)]) w16 := H)
  refine WL_stepM rfl (R_as) ?_
  refine WL_nil ?_
  refine W_seq ?_
  refine W_seq ?_
  refine W_region_l ?_
  refine WL_stepM rfl (R_mv) ?_
  refine WL_step rfl (R_eq_ptr_nil Try.underlying23 rfl rfl) ?_
  refine WL_stepM rfl (R_mv) ?_
  refine WL_guard_t rfl rfl ?_
  refine WL_stepM rfl (R_mv) ?_
  refine WL_guard_t rfl rfl ?_
  refine WL_step rfl (R_eq_ptr_nil Try.underlying25 rfl rfl) ?_
  refine WL_stepM rfl (R_pk_f rfl) ?_
  refine WL_stepM rfl (R_mv) ?_
  refine WL_guard_t rfl rfl ?_
  refine WL_stepM rfl (R_mv) ?_
  refine WL_guard_t rfl rfl ?_
  refine WL_step rfl (R_eq_ptr_nil Try.underlying27 rfl rfl) ?_
  refine WL_stepM rfl (R_pk_f rfl) ?_
  refine WL_stepM rfl (R_mv) ?_
  refine WL_guard_t rfl rfl ?_
  refine WL_stepM rfl (R_mv) ?_
  refine WL_guard_t rfl rfl ?_
  refine WL_step rfl (R_len_slice Try.underlying22 rfl) ?_
  refine WL_guard_t rfl rfl ?_
  refine WL_step rfl (R_gt_f rfl rfl (by omega)) ?_
  refine WL_stepM rfl (R_pk_f rfl) ?_
  refine WL_nil ?_
  refine W_cond_f rfl ?_
  refine W_skip ?_
  refine W_seq ?_
  refine W_region_l ?_
  refine WL_stepM rfl (R_mv) ?_
  (refine WL_call rfl (R_call rfl Try.call17 rfl) (add_ret (xs := zs) (H.get .here) (H.get (.there (.there (.there (.there (.there (.there (.there (.there (.there (.there (.there .here)))))))))))) hzl (by decide) (lo := 3) (n := 60) (by decide) (by decide) (by decide)) ?_; rintro _ w50 ⟨a, ca, sp2, rfl, ha, H1⟩; have hsz := H.size; replace H := H.seq H1 (okSeq_set .here (okSeq_new ha okSeq_nil)); clear H1; replace ha := Nat.le_trans hsz ha; clear hsz)
  refine WL_stepM rfl (R_mv) ?_
  refine WL_step rfl (R_extract rfl rfl) ?_
  refine WL_step rfl (R_extract rfl rfl) ?_
  refine WL_stepM rfl (R_as) ?_
  refine WL_stepM rfl (R_as) ?_
  refine WL_nil ?_
  refine W_seq ?_
  refine W_region_l ?_
  (refine WL_effn rfl (E_alloc (vs := [I 0, I 0, I 0, I 0]) H Try.zeroValue47 rfl) ?_; clear H; intro nmb w59 hnmb H; replace H : Hp w ((s, blk [sl bs 0 4 cap] 90) :: (bs, blk (ptrs [(p0, b0), (p1, b1), (p2, b2), (p3, b3)] ++ sp) 91) :: (p0, blk [sl b0 0 32 32] 135) :: (b0, blk (rows plc t0) 137) :: (p1, blk [sl b1 0 32 32] 135) :: (b1, blk (rows plc t0) 137) :: (p2, blk [sl b2 0 32 32] 135) :: (b2, blk (rows plc t0) 137) :: (p3, blk [sl b3 0 32 32] 135) :: (b3, blk (rows plc t0) 137) :: [(m, blk [sl mb 0 128 128] 87), (mb, blk (zs.map U) 5), (nmb, blk [I 0, I 0, I 0, I 0] 47), (a, blk ([I 3, I 60] ++ sp2) 98), (rr, blk [ptr m 0, ptr s 0, sl a 0 1 ca] 95)]) w59 := H.perm (List.perm_append_comm (l₁ := [_, _, _]) (l₂ := [(s, blk [sl bs 0 4 cap] 90), (bs, blk (ptrs [(p0, b0), (p1, b1), (p2, b2), (p3, b3)] ++ sp) 91), (p0, blk [sl b0 0 32 32] 135), (b0, blk (rows plc t0) 137), (p1, blk [sl b1 0 32 32] 135), (b1, blk (rows plc t0) 137), (p2, blk [sl b2 0 32 32] 135), (b2, blk (rows plc t0) 137), (p3, blk [sl b3 0 32 32] 135), (b3, blk (rows plc t0) 137), (m, blk [sl mb 0 128 128] 87), (mb, blk (zs.map U) 5)])))
  refine WL_nil ?_
  refine W_seq ?_
  refine W_region_l ?_
  refine WL_stepM rfl (R_mv) ?_
  refine WL_stepM rfl (R_mv) ?_
  refine WL_step rfl (R_buildL (places := [(0, 1), (1, 1), (2, 1), (3, 1), (4, 2)]) (vs := (cp 0 (7 : Nat) 0 60 0 0).c) Try.underlying38 Try.typeInfo38 rfl rfl (by kernel_rfl) rfl rfl rfl) ?_
  (refine WL_call rfl (R_call rfl Try.call18 rfl) (put_yes (j := 0) (i := 0) (r := 7) (o := 0) (lo := 0) (n := 60) (re := 0) (rn := 0) (Sp.from H (PB := [(p0, b0), (p1, b1), (p2, b2), (p3, b3)]) (ts := [t0, t0, t0, t0]) bs cap sp (inv4 t0_len t0_g t0_len t0_g t0_len t0_g t0_len t0_g) (fun _ hp => List.mem_append_left _ hp)) rfl rfl (by decide) (by decide) (by decide) t0_at new_free (fun _ _ h => absurd h (Nat.not_lt_zero _))) ?_; rintro _ w66 ⟨rfl, H1⟩; rw [hta] at H1; replace H := H.seq H1 (okSeq_set (.there (.there (.there .here))) okSeq_nil); clear H1)
  refine WL_stepM rfl (R_mv) ?_
  refine WL_step rfl (R_extract rfl rfl) ?_
  refine WL_step rfl (R_extract rfl rfl) ?_
  refine WL_step rfl (R_indexAddrA (off' := 0) Try.underlying47 Try.sizeOf3 rfl rfl (by omega) (by omega) rfl) ?_
  (refine WL_effu rfl (E_store (v := I (0 + 256 * newPl.g : Nat)) H Try.sizeOf3 rfl rfl rfl (.there (.there (.there (.there (.there (.there (.there (.there (.there (.there (.there (.there .here)))))))))))) (by simp)) ?_; clear H; intro w71 H; replace H : Hp w ((s, blk [sl bs 0 4 cap] 90) :: (bs, blk (ptrs [(p0, b0), (p1, b1), (p2, b2), (p3, b3)] ++ sp) 91) :: (p0, blk [sl b0 0 32 32] 135) :: (b0, blk (rows plc ta) 137) :: (p1, blk [sl b1 0 32 32] 135) :: (b1, blk (rows plc t0) 137) :: (p2, blk [sl b2 0 32 32] 135) :: (b2, blk (rows plc t0) 137) :: (p3, blk [sl b3 0 32 32] 135) :: (b3, blk (rows plc t0) 137) :: [(m, blk [sl mb 0 128 128] 87), (mb, blk (zs.map U) 5), (nmb, blk [I (0 + 256 * newPl.g : Nat), I 0, I 0, I 0] 47), (a, blk ([I 3, I 60] ++ sp2) 98), (rr, blk [ptr m 0, ptr s 0, sl a 0 1 ca] 95)]) w71 := H)
  refine WL_nil ?_
  refine W_seq ?_
  refine W_seq ?_
  refine W_region_l ?_
  refine WL_stepM rfl (R_as) ?_
  refine WL_nil ?_
  refine W_block ?_
  refine W_rounds 3 ?_
  refine W_seq ?_
  refine W_seq ?_
  refine W_region_l ?_
  refine WL_stepM rfl (R_mv) ?_
  refine WL_step rfl (R_lt_t rfl rfl (by omega)) ?_
  refine WL_nil ?_
  refine W_cond_t rfl ?_
  refine W_skip ?_
  refine W_seq ?_
  refine W_block ?_
  refine W_seq ?_
  refine W_region_l ?_
  refine WL_stepM rfl (R_mv) ?_
  refine WL_stepM rfl (R_mv) ?_
  refine WL_step rfl (R_sub (r := 0) rfl rfl (by decide)) ?_
  refine WL_stepM rfl (R_mv) ?_
  refine WL_step rfl (R_sub (r := 0) rfl rfl (by decide)) ?_
  refine WL_step rfl (R_indexAddrA (off' := 0) Try.underlying47 Try.sizeOf3 rfl rfl (by omega) (by omega) rfl) ?_
  refine WL_step rfl (R_load (v := I (0 + 256 * newPl.g : Nat)) Try.isAgg3 rfl (H.get (.there (.there (.there (.there (.there (.there (.there (.there (.there (.there (.there (.there .here))))))))))))) rfl) ?_
  refine WL_stepM rfl (R_mv) ?_
  (refine WL_call rfl (R_call rfl Try.call19 rfl) (grant_yes (j := 0) (i := 0) (k := 1) (i2 := 0) (g0 := newPl.g) (a := newPl) (l1 := 0) (n1 := 60) (gv := 7) (z := 4) (Sp.from H (PB := [(p0, b0), (p1, b1), (p2, b2), (p3, b3)]) (ts := [ta, t0, t0, t0]) bs cap sp (inv4 hal hag t0_len t0_g t0_len t0_g t0_len t0_g) (fun _ hp => List.mem_append_left _ hp)) rfl rfl ha0 rfl rfl t0_at new_free (fun _ _ h => absurd h (Nat.not_lt_zero _)) (by decide) (by decide) (by decide) (by decide) (by decide) (by decide) (by decide)) ?_; rintro _ w99 ⟨rfl, H1⟩; rw [htb] at H1; replace H := H.seq H1 (okSeq_set (.there (.there (.there (.there (.there .here))))) okSeq_nil); clear H1)
  refine WL_stepM rfl (R_mv) ?_
  refine WL_step rfl (R_extract rfl rfl) ?_
  refine WL_step rfl (R_extract rfl rfl) ?_
  refine WL_stepM rfl (R_as) ?_
  refine WL_stepM rfl (R_as) ?_
  refine WL_nil ?_
  refine W_seq ?_
  refine W_seq ?_
  refine W_region_l ?_
  refine WL_stepM rfl (R_mv) ?_
  refine WL_step rfl (R_ne_f rfl rfl (by omega)) ?_
  refine WL_nil ?_
  refine W_cond_f rfl ?_
  refine W_skip ?_
  refine W_region_l ?_
  refine WL_stepM rfl (R_mv) ?_
  refine WL_stepM rfl (R_mv) ?_
  refine WL_step rfl (R_indexAddrA (off' := 1) Try.underlying47 Try.sizeOf3 rfl rfl (by omega) (by omega) rfl) ?_
  (refine WL_effu rfl (E_store (v := I (0 + 256 * newPl.g : Nat)) H Try.sizeOf3 rfl rfl rfl (.there (.there (.there (.there (.there (.there (.there (.there (.there (.there (.there (.there .here)))))))))))) (by simp)) ?_; clear H; intro w118 H; replace H : Hp w ((s, blk [sl bs 0 4 cap] 90) :: (bs, blk (ptrs [(p0, b0), (p1, b1), (p2, b2), (p3, b3)] ++ sp) 91) :: (p0, blk [sl b0 0 32 32] 135) :: (b0, blk (rows plc ta) 137) :: (p1, blk [sl b1 0 32 32] 135) :: (b1, blk (rows plc tb) 137) :: (p2, blk [sl b2 0 32 32] 135) :: (b2, blk (rows plc t0) 137) :: (p3, blk [sl b3 0 32 32] 135) :: (b3, blk (rows plc t0) 137) :: [(m, blk [sl mb 0 128 128] 87), (mb, blk (zs.map U) 5), (nmb, blk [I (0 + 256 * newPl.g : Nat), I (0 + 256 * newPl.g : Nat), I 0, I 0] 47), (a, blk ([I 3, I 60] ++ sp2) 98), (rr, blk [ptr m 0, ptr s 0, sl a 0 1 ca] 95)]) w118 := H)
  refine WL_nil ?_
  refine W_region_l ?_
  refine WL_stepM rfl (R_mv) ?_
  refine WL_step rfl (R_add (r := 2) rfl rfl (by decide)) ?_
  refine WL_stepM rfl (R_as) ?_
  refine WL_nil ?_
  refine Rn_succ ?_
  refine W_seq ?_
  refine W_seq ?_
  refine W_region_l ?_
  refine WL_stepM rfl (R_mv) ?_
  refine WL_step rfl (R_lt_t rfl rfl (by omega)) ?_
  refine WL_nil ?_
  refine W_cond_t rfl ?_
  refine W_skip ?_
  refine W_seq ?_
  refine W_block ?_
  refine W_seq ?_
  refine W_region_l ?_
  refine WL_stepM rfl (R_mv) ?_
  refine WL_stepM rfl (R_mv) ?_
  refine WL_step rfl (R_sub (r := 1) rfl rfl (by decide)) ?_
  refine WL_stepM rfl (R_mv) ?_
  refine WL_step rfl (R_sub (r := 1) rfl rfl (by decide)) ?_
  refine WL_step rfl (R_indexAddrA (off' := 1) Try.underlying47 Try.sizeOf3 rfl rfl (by omega) (by omega) rfl) ?_
  refine WL_step rfl (R_load (v := I (0 + 256 * newPl.g : Nat)) Try.isAgg3 rfl (H.get (.there (.there (.there (.there (.there (.there (.there (.there (.there (.there (.there (.there .here))))))))))))) rfl) ?_
  refine WL_stepM rfl (R_mv) ?_
  (refine WL_call rfl (R_call rfl Try.call19 rfl) (grant_yes (j := 1) (i := 0) (k := 2) (i2 := 0) (g0 := newPl.g) (a := newPl) (l1 := 0) (n1 := 60) (gv := 7) (z := 4) (Sp.from H (PB := [(p0, b0), (p1, b1), (p2, b2), (p3, b3)]) (ts := [ta, tb, t0, t0]) bs cap sp (inv4 hal hag hbl hbg t0_len t0_g t0_len t0_g) (fun _ hp => List.mem_append_left _ hp)) rfl rfl hb0 rfl rfl t0_at new_free (fun _ _ h => absurd h (Nat.not_lt_zero _)) (by decide) (by decide) (by decide) (by decide) (by decide) (by decide) (by decide)) ?_; rintro _ w146 ⟨rfl, H1⟩; rw [htc] at H1; replace H := H.seq H1 (okSeq_set (.there (.there (.there (.there (.there (.there (.there .here))))))) okSeq_nil); clear H1)
  refine WL_stepM rfl (R_mv) ?_
  refine WL_step rfl (R_extract rfl rfl) ?_
  refine WL_step rfl (R_extract rfl rfl) ?_
  refine WL_stepM rfl (R_as) ?_
  refine WL_stepM rfl (R_as) ?_
  refine WL_nil ?_
  refine W_seq ?_
  refine W_seq ?_
  refine W_region_l ?_
  refine WL_stepM rfl (R_mv) ?_
  refine WL_step rfl (R_ne_f rfl rfl (by omega)) ?_
  refine WL_nil ?_
  refine W_cond_f rfl ?_
  refine W_skip ?_
  refine W_region_l ?_
  refine WL_stepM rfl (R_mv) ?_
  refine WL_stepM rfl (R_mv) ?_
  refine WL_step rfl (R_indexAddrA (off' := 2) Try.underlying47 Try.sizeOf3 rfl rfl (by omega) (by omega) rfl) ?_
  (refine WL_effu rfl (E_store (v := I (0 + 256 * newPl.g : Nat)) H Try.sizeOf3 rfl rfl rfl (.there (.there (.there (.there (.there (.there (.there (.there (.there (.there (.there (.there .here)))))))))))) (by simp)) ?_; clear H; intro w165 H; replace H : Hp w ((s, blk [sl bs 0 4 cap] 90) :: (bs, blk (ptrs [(p0, b0), (p1, b1), (p2, b2), (p3, b3)] ++ sp) 91) :: (p0, blk [sl b0 0 32 32] 135) :: (b0, blk (rows plc ta) 137) :: (p1, blk [sl b1 0 32 32] 135) :: (b1, blk (rows plc tb) 137) :: (p2, blk [sl b2 0 32 32] 135) :: (b2, blk (rows plc tc) 137) :: (p3, blk [sl b3 0 32 32] 135) :: (b3, blk (rows plc t0) 137) :: [(m, blk [sl mb 0 128 128] 87), (mb, blk (zs.map U) 5), (nmb, blk [I (0 + 256 * newPl.g : Nat), I (0 + 256 * newPl.g : Nat), I (0 + 256 * newPl.g : Nat), I 0] 47), (a, blk ([I 3, I 60] ++ sp2) 98), (rr, blk [ptr m 0, ptr s 0, sl a 0 1 ca] 95)]) w165 := H)
  refine WL_nil ?_
  refine W_region_l ?_
  refine WL_stepM rfl (R_mv) ?_
  refine WL_step rfl (R_add (r := 3) rfl rfl (by decide)) ?_
  refine WL_stepM rfl (R_as) ?_
  refine WL_nil ?_
  refine Rn_succ ?_
  refine W_seq ?_
  refine W_seq ?_
  refine W_region_l ?_
  refine WL_stepM rfl (R_mv) ?_
  refine WL_step rfl (R_lt_t rfl rfl (by omega)) ?_
  refine WL_nil ?_
  refine W_cond_t rfl ?_
  refine W_skip ?_
  refine W_seq ?_
  refine W_block ?_
  refine W_seq ?_
  refine W_region_l ?_
  refine WL_stepM rfl (R_mv) ?_
  refine WL_stepM rfl (R_mv) ?_
  refine WL_step rfl (R_sub (r := 2) rfl rfl (by decide)) ?_
  refine WL_stepM rfl (R_mv) ?_
  refine WL_step rfl (R_sub (r := 2) rfl rfl (by decide)) ?_
  refine WL_step rfl (R_indexAddrA (off' := 2) Try.underlying47 Try.sizeOf3 rfl rfl (by omega) (by omega) rfl) ?_
  refine WL_step rfl (R_load (v := I (0 + 256 * newPl.g : Nat)) Try.isAgg3 rfl (H.get (.there (.there (.there (.there (.there (.there (.there (.there (.there (.there (.there (.there .here))))))))))))) rfl) ?_
  refine WL_stepM rfl (R_mv) ?_
  (refine WL_call rfl (R_call rfl Try.call19 rfl) (grant_yes (j := 2) (i := 0) (k := 3) (i2 := 0) (g0 := newPl.g) (a := newPl) (l1 := 0) (n1 := 60) (gv := 7) (z := 4) (Sp.from H (PB := [(p0, b0), (p1, b1), (p2, b2), (p3, b3)]) (ts := [ta, tb, tc, t0]) bs cap sp (inv4 hal hag hbl hbg hcl hcg t0_len t0_g) (fun _ hp => List.mem_append_left _ hp)) rfl rfl hc0 rfl rfl t0_at new_free (fun _ _ h => absurd h (Nat.not_lt_zero _)) (by decide) (by decide) (by decide) (by decide) (by decide) (by decide) (by decide)) ?_; rintro _ w193 ⟨rfl, H1⟩; rw [htd] at H1; replace H := H.seq H1 (okSeq_set (.there (.there (.there (.there (.there (.there (.there (.there (.there .here))))))))) okSeq_nil); clear H1)
  refine WL_stepM rfl (R_mv) ?_
  refine WL_step rfl (R_extract rfl rfl) ?_
  refine WL_step rfl (R_extract rfl rfl) ?_
  refine WL_stepM rfl (R_as) ?_
  refine WL_stepM rfl (R_as) ?_
  refine WL_nil ?_
  refine W_seq ?_
  refine W_seq ?_
  refine W_region_l ?_
  refine WL_stepM rfl (R_mv) ?_
  refine WL_step rfl (R_ne_f rfl rfl (by omega)) ?_
  refine WL_nil ?_
  refine W_cond_f rfl ?_
  refine W_skip ?_
  refine W_region_l ?_
  refine WL_stepM rfl (R_mv) ?_
  refine WL_stepM rfl (R_mv) ?_
  refine WL_step rfl (R_indexAddrA (off' := 3) Try.underlying47 Try.sizeOf3 rfl rfl (by omega) (by omega) rfl) ?_
  (refine WL_effu rfl (E_store (v := I (0 + 256 * newPl.g : Nat)) H Try.sizeOf3 rfl rfl rfl (.there (.there (.there (.there (.there (.there (.there (.there (.there (.there (.there (.there .here)))))))))))) (by simp)) ?_; clear H; intro w212 H; replace H : Hp w ((s, blk [sl bs 0 4 cap] 90) :: (bs, blk (ptrs [(p0, b0), (p1, b1), (p2, b2), (p3, b3)] ++ sp) 91) :: (p0, blk [sl b0 0 32 32] 135) :: (b0, blk (rows plc ta) 137) :: (p1, blk [sl b1 0 32 32] 135) :: (b1, blk (rows plc tb) 137) :: (p2, blk [sl b2 0 32 32] 135) :: (b2, blk (rows plc tc) 137) :: (p3, blk [sl b3 0 32 32] 135) :: (b3, blk (rows plc td) 137) :: [(m, blk [sl mb 0 128 128] 87), (mb, blk (zs.map U) 5), (nmb, blk [I (0 + 256 * newPl.g : Nat), I (0 + 256 * newPl.g : Nat), I (0 + 256 * newPl.g : Nat), I (0 + 256 * newPl.g : Nat)] 47), (a, blk ([I 3, I 60] ++ sp2) 98), (rr, blk [ptr m 0, ptr s 0, sl a 0 1 ca] 95)]) w212 := H)
  refine WL_nil ?_
  refine W_region_l ?_
  refine WL_stepM rfl (R_mv) ?_
  refine WL_step rfl (R_add (r := 4) rfl rfl (by decide)) ?_
  refine WL_stepM rfl (R_as) ?_
  refine WL_nil ?_
  refine Rn_succ ?_
  refine W_seq ?_
  refine W_seq ?_
  refine W_region_l ?_
  refine WL_stepM rfl (R_mv) ?_
  refine WL_step rfl (R_lt_f rfl rfl (by omega)) ?_
  refine WL_nil ?_
  refine W_cond_f rfl ?_
  refine W_exit ?_
  refine (if_pos rfl).mpr ?_
  refine W_seq ?_
  refine W_seq ?_
  refine W_region_l ?_
  refine WL_stepM rfl (R_mv) ?_
  refine WL_step rfl (R_indexAddrA (off' := 3) Try.underlying47 Try.sizeOf3 rfl rfl (by omega) (by omega) rfl) ?_
  refine WL_step rfl (R_load (v := I (0 + 256 * newPl.g : Nat)) Try.isAgg3 rfl (H.get (.there (.there (.there (.there (.there (.there (.there (.there (.there (.there (.there (.there .here))))))))))))) rfl) ?_
  refine WL_stepM rfl (R_mv) ?_
  (refine WL_call rfl (R_call rfl Try.call20 rfl) (write_yes (xs := zs) (ys := ys) (p := 3) (hl.monoN H (by repeat' first | exact kNil | apply kCons | apply kApp | assumption | exact OwnS.keys (by assumption))) (place_to (j := 3) (i := 0) (z := 2) (k := ys.length) (at_ := 0) (lo := (((0 + 0) + 0) + 0)) (rlo := 3) (rn := 60) (p := 3) rfl (H.get (.there (.there (.there (.there (.there (.there (.there (.there (.there (.there (.there (.there (.there (.there .here))))))))))))))) (H.get (.there (.there (.there (.there (.there (.there (.there (.there (.there (.there (.there (.there (.there .here)))))))))))))) (Sp.from H (PB := [(p0, b0), (p1, b1), (p2, b2), (p3, b3)]) (ts := [ta, tb, tc, td]) bs cap sp (inv4 hal hag hbl hbg hcl hcg hdl hdg) (fun _ hp => List.mem_append_left _ hp)) rfl rfl hd0 (by decide) (by decide) (by decide) (by decide) (by decide) (by decide) (by decide) (by omega) (by omega)) (H.get (.there (.there (.there (.there (.there (.there (.there (.there (.there (.there (.there (.there (.there (.there .here))))))))))))))) (H.get (.there (.there (.there (.there (.there (.there (.there (.there (.there (.there .here))))))))))) (H.get (.there (.there (.there (.there (.there (.there (.there (.there (.there (.there (.there .here)))))))))))) hzl (by decide) (by omega)) ?_; rintro _ w236 ⟨rfl, H1⟩; rw [← hus] at H1; replace H := H.seq H1 (okSeq_set (.there (.there (.there (.there (.there (.there (.there (.there (.there (.there (.there .here))))))))))) okSeq_nil); clear H1)
  refine WL_step rfl (R_ne_f rfl rfl (by omega)) ?_
  refine WL_nil ?_
  refine W_cond_f rfl ?_
  refine W_skip ?_
  refine W_seq ?_
  refine W_region_l ?_
  refine WL_stepM rfl (R_mv) ?_
  refine WL_step rfl (R_bits (r := 1) rfl rfl (by simp) ((and_mask_i64 2 4 (by decide) rfl (by decide)).trans hV)) ?_
  refine WL_stepM rfl (R_as) ?_
  refine WL_nil ?_
  refine W_seq ?_
  refine W_region_l ?_
  refine WL_stepM rfl (R_mv) ?_
  refine WL_stepM rfl (R_mv) ?_
  refine WL_stepM rfl (R_mv) ?_
  refine WL_step rfl (R_indexAddrA (off' := 1) Try.underlying47 Try.sizeOf3 rfl rfl (by omega) (by omega) rfl) ?_
  refine WL_step rfl (R_load (v := I (0 + 256 * newPl.g : Nat)) Try.isAgg3 rfl (H.get (.there (.there (.there (.there (.there (.there (.there (.there (.there (.there (.there (.there .here))))))))))))) rfl) ?_
  (refine WL_call rfl (R_call rfl Try.call24 rfl) (revoke_4_1 H hal hag hbl hbg hcl hcg hdl hdg hna hnb hnc hnd ha0 hb0 hc0 hd0) ?_; clear H; rintro _ w254 ⟨rfl, H⟩)
  refine WL_stepM rfl (R_mv) ?_
  refine WL_step rfl (R_extract rfl rfl) ?_
  refine WL_step rfl (R_extract rfl rfl) ?_
  refine WL_stepM rfl (R_as) ?_
  refine WL_stepM rfl (R_as) ?_
  refine WL_nil ?_
  refine W_seq ?_
  refine W_seq ?_
  refine W_region_l ?_
  refine WL_stepM rfl (R_mv) ?_
  refine WL_stepM rfl (R_mv) ?_
  refine WL_step rfl (R_sub (r := 3) rfl rfl (by decide)) ?_
  refine WL_step rfl (R_ne_f rfl rfl (by omega)) ?_
  refine WL_stepM rfl (R_mv) ?_
  refine WL_guard_t rfl rfl ?_
  refine WL_stepM rfl (R_mv) ?_
  refine WL_guard_t rfl rfl ?_
  refine WL_step rfl (R_ne_f rfl rfl (by omega)) ?_
  refine WL_stepM rfl (R_pk_f rfl) ?_
  refine WL_nil ?_
  refine W_cond_f rfl ?_
  refine W_skip ?_
  refine W_seq ?_
  refine W_seq ?_
  refine W_region_l ?_
  refine WL_stepM rfl (R_as) ?_
  refine WL_nil ?_
  refine W_block ?_
  refine W_rounds 4 ?_
  refine W_seq ?_
  refine W_seq ?_
  refine W_region_l ?_
  refine WL_stepM rfl (R_mv) ?_
  refine WL_step rfl (R_lt_t rfl rfl (by omega)) ?_
  refine WL_nil ?_
  refine W_cond_t rfl ?_
  refine W_skip ?_
  refine W_seq ?_
  refine W_block ?_
  refine W_seq ?_
  refine W_region_l ?_
  refine WL_stepM rfl (R_mv) ?_
  refine WL_stepM rfl (R_mv) ?_
  refine WL_stepM rfl (R_mv) ?_
  refine WL_step rfl (R_indexAddrA (off' := 0) Try.underlying47 Try.sizeOf3 rfl rfl (by omega) (by omega) rfl) ?_
  refine WL_step rfl (R_load (v := I (0 + 256 * newPl.g : Nat)) Try.isAgg3 rfl (H.get (.there (.there (.there (.there (.there (.there (.there (.there (.there (.there (.there (.there .here))))))))))))) rfl) ?_
  refine WL_stepM rfl (R_mv) ?_
  refine WL_step rfl (R_len_slice Try.underlying22 rfl) ?_
  (refine WL_call rfl (R_call rfl Try.call22 rfl) (read_yes (xs := us) (p := 3) (k := ys.length) (place_to (j := 0) (i := 0) (z := 1) (k := ys.length) (at_ := 0) (lo := 0) (rlo := 3) (rn := 60) (p := 3) rfl (H.get (.there (.there (.there (.there (.there (.there (.there (.there (.there (.there (.there (.there (.there (.there .here))))))))))))))) (H.get (.there (.there (.there (.there (.there (.there (.there (.there (.there (.there (.there (.there (.there .here)))))))))))))) (Sp.from H (PB := [(p0, b0), (p1, b1), (p2, b2), (p3, b3)]) (ts := [ta, (tb.set 0 ⟨zk, newPl.g + 1, false⟩), (tc.set 0 ⟨zk, newPl.g + 1, false⟩), (td.set 0 ⟨zk, newPl.g + 1, false⟩)]) bs cap sp (inv4 hal hag (set_len hbl) (set_g hbg (show newPl.g + 1 ≤ 1000001 by decide)) (set_len hcl) (set_g hcg (show newPl.g + 1 ≤ 1000001 by decide)) (set_len hdl) (set_g hdg (show newPl.g + 1 ≤ 1000001 by decide))) (fun _ hp => List.mem_append_left _ hp)) rfl rfl ha0 (by decide) (by decide) (by decide) (by decide) (by decide) (by decide) (by decide) (by omega) (by omega)) (H.get (.there (.there (.there (.there (.there (.there (.there (.there (.there (.there (.there (.there (.there (.there .here))))))))))))))) (H.get (.there (.there (.there (.there (.there (.there (.there (.there (.there (.there .here))))))))))) (H.get (.there (.there (.there (.there (.there (.there (.there (.there (.there (.there (.there .here)))))))))))) hul (by decide) (by omega)) ?_; rintro _ w302 ⟨u2, M2, rfl, hO2, H1⟩; rw [hgy] at hO2; have h302 := H.seqO hO2 H1; clear H H1 hO2; obtain ⟨hO2, H⟩ := h302; obtain ⟨a2, c2, rfl⟩ := hO2.form)
  refine WL_stepM rfl (R_mv) ?_
  refine WL_step rfl (R_extract rfl rfl) ?_
  refine WL_step rfl (R_extract rfl rfl) ?_
  refine WL_stepM rfl (R_as) ?_
  refine WL_stepM rfl (R_as) ?_
  refine WL_nil ?_
  refine W_seq ?_
  refine W_seq ?_
  refine W_region_l ?_
  refine WL_stepM rfl (R_mv) ?_
  refine WL_stepM rfl (R_mv) ?_
  refine WL_step rfl (R_ge_f rfl rfl (by omega)) ?_
  refine WL_stepM rfl (R_mv) ?_
  refine WL_guard_f rfl rfl (by decide) ?_
  refine WL_guard_f rfl rfl (by decide) ?_
  refine WL_guard_f rfl rfl (by decide) ?_
  refine WL_guard_n rfl rfl ?_
  refine WL_guard_n rfl rfl ?_
  refine WL_guard_n rfl rfl ?_
  refine WL_guard_f rfl rfl (by decide) ?_
  refine WL_guard_f rfl rfl (by decide) ?_
  refine WL_guard_n rfl rfl ?_
  refine WL_guard_n rfl rfl ?_
  refine WL_guard_n rfl rfl ?_
  refine WL_guard_n rfl rfl ?_
  refine WL_guard_n rfl rfl ?_
  refine WL_guard_n rfl rfl ?_
  refine WL_guard_n rfl rfl ?_
  refine WL_guard_n rfl rfl ?_
  refine WL_guard_f rfl rfl (by decide) ?_
  refine WL_stepM rfl (R_pk_f rfl) ?_
  refine WL_nil ?_
  refine W_cond_f rfl ?_
  refine W_skip ?_
  refine W_seq ?_
  refine W_region_l ?_
  refine WL_stepM rfl (R_mv) ?_
  refine WL_stepM rfl (R_mv) ?_
  refine WL_step rfl (R_lt_t rfl rfl (by omega)) ?_
  refine WL_stepM rfl (R_mv) ?_
  refine WL_guard_t rfl rfl ?_
  refine WL_stepM rfl (R_mv) ?_
  refine WL_guard_t rfl rfl ?_
  refine WL_step rfl (R_ne_f rfl rfl (by omega)) ?_
  refine WL_guard_t rfl rfl ?_
  refine WL_stepM rfl (R_mv) ?_
  refine WL_guard_t rfl rfl ?_
  refine WL_stepM rfl (R_mv) ?_
  refine WL_guard_t rfl rfl ?_
  refine WL_step rfl (R_conv_bs (xs := ys) Try.underlying22 Try.underlying5 Try.underlying9 rfl (RdS.own hO2 (fun q hq => H.held q (by simp [hq])))) ?_
  refine WL_guard_t rfl rfl ?_
  refine WL_stepM rfl (R_mv) ?_
  refine WL_guard_t rfl rfl ?_
  refine WL_step rfl (R_conv_bs (xs := ys) Try.underlying22 Try.underlying5 Try.underlying9 rfl (hl.monoN H (by repeat' first | exact kNil | apply kCons | apply kApp | assumption | exact OwnS.keys (by assumption)))) ?_
  refine WL_guard_t rfl rfl ?_
  refine WL_step rfl (R_ne_S_f (xs := ys) (ys := ys) rfl rfl rfl) ?_
  refine WL_guard_t rfl rfl ?_
  refine WL_stepM rfl (R_pk_f rfl) ?_
  refine WL_stepM rfl (R_pk_t rfl) ?_
  refine WL_nil ?_
  refine W_cond_f rfl ?_
  refine W_skip ?_
  ((replace H := Hp.dropN (M := M2) H hO2.keys; clear hO2)) <;> refine W_region_l ?_
  refine WL_stepM rfl (R_mv) ?_
  refine WL_step rfl (R_add (r := 1) rfl rfl (by decide)) ?_
  refine WL_stepM rfl (R_as) ?_
  refine WL_nil ?_
  refine Rn_succ ?_
  refine W_seq ?_
  refine W_seq ?_
  refine W_region_l ?_
  refine WL_stepM rfl (R_mv) ?_
  refine WL_step rfl (R_lt_t rfl rfl (by omega)) ?_
  refine WL_nil ?_
  refine W_cond_t rfl ?_
  refine W_skip ?_
  refine W_seq ?_
  refine W_block ?_
  refine W_seq ?_
  refine W_region_l ?_
  refine WL_stepM rfl (R_mv) ?_
  refine WL_stepM rfl (R_mv) ?_
  refine WL_stepM rfl (R_mv) ?_
  refine WL_step rfl (R_indexAddrA (off' := 1) Try.underlying47 Try.sizeOf3 rfl rfl (by omega) (by omega) rfl) ?_
  refine WL_step rfl (R_load (v := I (0 + 256 * newPl.g : Nat)) Try.isAgg3 rfl (H.get (.there (.there (.there (.there (.there (.there (.there (.there (.there (.there (.there (.there .here))))))))))))) rfl) ?_
  refine WL_stepM rfl (R_mv) ?_
  refine WL_step rfl (R_len_slice Try.underlying22 rfl) ?_
  (refine WL_call rfl (R_call rfl Try.call22 rfl) (read_no (e := 2) (place_cap (j := 1) (H.get (.there (.there (.there (.there (.there (.there (.there (.there (.there (.there (.there (.there (.there (.there .here))))))))))))))) (Sp.from H (PB := [(p0, b0), (p1, b1), (p2, b2), (p3, b3)]) (ts := [ta, (tb.set 0 ⟨zk, newPl.g + 1, false⟩), (tc.set 0 ⟨zk, newPl.g + 1, false⟩), (td.set 0 ⟨zk, newPl.g + 1, false⟩)]) bs cap sp (inv4 hal hag (set_len hbl) (set_g hbg (show newPl.g + 1 ≤ 1000001 by decide)) (set_len hcl) (set_g hcg (show newPl.g + 1 ≤ 1000001 by decide)) (set_len hdl) (set_g hdg (show newPl.g + 1 ≤ 1000001 by decide))) (fun _ hp => List.mem_append_left _ hp)) rfl rfl (fun i a h hu => by rw [← htb] at h; exact drop_all rfl i a h hu _)) (by decide)) ?_; rintro _ w390 ⟨rfl, H1⟩; replace H := H.seq0 H1; clear H1)
  refine WL_stepM rfl (R_mv) ?_
  refine WL_step rfl (R_extract rfl rfl) ?_
  refine WL_step rfl (R_extract rfl rfl) ?_
  refine WL_stepM rfl (R_as) ?_
  refine WL_stepM rfl (R_as) ?_
  refine WL_nil ?_
  refine W_seq ?_
  refine W_seq ?_
  refine W_region_l ?_
  refine WL_stepM rfl (R_mv) ?_
  refine WL_stepM rfl (R_mv) ?_
  refine WL_step rfl (R_ge_t rfl rfl (by omega)) ?_
  refine WL_stepM rfl (R_mv) ?_
  refine WL_guard_t rfl rfl ?_
  refine WL_stepM rfl (R_mv) ?_
  refine WL_guard_t rfl rfl ?_
  refine WL_step rfl (R_ne_f rfl rfl (by omega)) ?_
  refine WL_guard_t rfl rfl ?_
  refine WL_stepM rfl (R_mv) ?_
  refine WL_guard_t rfl rfl ?_
  refine WL_stepM rfl (R_mv) ?_
  refine WL_guard_t rfl rfl ?_
  refine WL_step rfl (R_len_slice Try.underlying22 rfl) ?_
  refine WL_guard_t rfl rfl ?_
  refine WL_step rfl (R_ne_f rfl rfl (by omega)) ?_
  refine WL_guard_t rfl rfl ?_
  refine WL_stepM rfl (R_pk_f rfl) ?_
  refine WL_guard_t rfl rfl ?_
  refine WL_stepM rfl (R_mv) ?_
  refine WL_guard_t rfl rfl ?_
  refine WL_stepM rfl (R_mv) ?_
  refine WL_guard_t rfl rfl ?_
  refine WL_stepM rfl (R_mv) ?_
  refine WL_guard_t rfl rfl ?_
  refine WL_stepM rfl (R_mv) ?_
  refine WL_guard_t rfl rfl ?_
  refine WL_step rfl (R_indexAddrA (off' := 1) Try.underlying47 Try.sizeOf3 rfl rfl (by omega) (by omega) rfl) ?_
  refine WL_guard_t rfl rfl ?_
  refine WL_step rfl (R_load (v := I (0 + 256 * newPl.g : Nat)) Try.isAgg3 rfl (H.get (.there (.there (.there (.there (.there (.there (.there (.there (.there (.there (.there (.there .here))))))))))))) rfl) ?_
  refine WL_guard_t rfl rfl ?_
  (refine WL_effn rfl (E_buildOnes (vs := [(.int _ _)]) H Try.underlying22 Try.sizeOf5 Try.zeroValue5 rfl rfl (by decide) rfl rfl (by simp [Value.oneCell'])) ?_; clear H; intro b431 w431 hb431 H)
  refine WL_guard_t rfl rfl ?_
  (refine WL_call rfl (R_call rfl Try.call20 rfl) (write_noU (e := 2) (ys := [1]) (RdS.blk (c := [U 1]) (off := 0) (m := 1) (cap := 1) (H.get .here) (by rfl) (by decide) (by decide)) (by decide) (place_cap (j := 1) (k := (1 : Nat)) (H.get (.there (.there (.there (.there (.there (.there (.there (.there (.there (.there (.there (.there (.there (.there (.there .here)))))))))))))))) (Sp.from H (PB := [(p0, b0), (p1, b1), (p2, b2), (p3, b3)]) (ts := [ta, (tb.set 0 ⟨zk, newPl.g + 1, false⟩), (tc.set 0 ⟨zk, newPl.g + 1, false⟩), (td.set 0 ⟨zk, newPl.g + 1, false⟩)]) bs cap sp (inv4 hal hag (set_len hbl) (set_g hbg (show newPl.g + 1 ≤ 1000001 by decide)) (set_len hcl) (set_g hcg (show newPl.g + 1 ≤ 1000001 by decide)) (set_len hdl) (set_g hdg (show newPl.g + 1 ≤ 1000001 by decide))) (fun _ hp => .tail _ (List.mem_append_left _ hp))) rfl rfl (fun i a h hu => by rw [← htb] at h; exact drop_all rfl i a h hu _)) (by decide)) ?_; rintro _ w433 ⟨rfl, H1⟩; replace H := H.seq0 H1; clear H1; replace H := H.pop (by assumption))
  refine WL_guard_t rfl rfl ?_
  refine WL_step rfl (R_ne_f rfl rfl (by omega)) ?_
  refine WL_guard_t rfl rfl ?_
  refine WL_stepM rfl (R_pk_f rfl) ?_
  refine WL_stepM rfl (R_pk_t rfl) ?_
  refine WL_nil ?_
  refine W_cond_f rfl ?_
  refine W_skip ?_
  refine W_seq ?_
  refine W_region_l ?_
  refine WL_stepM rfl (R_mv) ?_
  refine WL_stepM rfl (R_mv) ?_
  refine WL_step rfl (R_lt_f rfl rfl (by omega)) ?_
  refine WL_stepM rfl (R_mv) ?_
  refine WL_guard_f rfl rfl (by decide) ?_
  refine WL_guard_f rfl rfl (by decide) ?_
  refine WL_guard_f rfl rfl (by decide) ?_
  refine WL_guard_n rfl rfl ?_
  refine WL_guard_n rfl rfl ?_
  refine WL_guard_n rfl rfl ?_
  refine WL_guard_n rfl rfl ?_
  refine WL_guard_n rfl rfl ?_
  refine WL_guard_f rfl rfl (by decide) ?_
  refine WL_stepM rfl (R_pk_f rfl) ?_
  refine WL_nil ?_
  refine W_cond_f rfl ?_
  refine W_skip ?_
  (skip) <;> refine W_region_l ?_
  refine WL_stepM rfl (R_mv) ?_
  refine WL_step rfl (R_add (r := 2) rfl rfl (by decide)) ?_
  refine WL_stepM rfl (R_as) ?_
  refine WL_nil ?_
  refine Rn_succ ?_
  refine W_seq ?_
  refine W_seq ?_
  refine W_region_l ?_
  refine WL_stepM rfl (R_mv) ?_
  refine WL_step rfl (R_lt_t rfl rfl (by omega)) ?_
  refine WL_nil ?_
  refine W_cond_t rfl ?_
  refine W_skip ?_
  refine W_seq ?_
  refine W_block ?_
  refine W_seq ?_
  refine W_region_l ?_
  refine WL_stepM rfl (R_mv) ?_
  refine WL_stepM rfl (R_mv) ?_
  refine WL_stepM rfl (R_mv) ?_
  refine WL_step rfl (R_indexAddrA (off' := 2) Try.underlying47 Try.sizeOf3 rfl rfl (by omega) (by omega) rfl) ?_
  refine WL_step rfl (R_load (v := I (0 + 256 * newPl.g : Nat)) Try.isAgg3 rfl (H.get (.there (.there (.there (.there (.there (.there (.there (.there (.there (.there (.there (.there .here))))))))))))) rfl) ?_
  refine WL_stepM rfl (R_mv) ?_
  refine WL_step rfl (R_len_slice Try.underlying22 rfl) ?_
  (refine WL_call rfl (R_call rfl Try.call22 rfl) (read_no (e := 2) (place_cap (j := 2) (H.get (.there (.there (.there (.there (.there (.there (.there (.there (.there (.there (.there (.there (.there (.there .here))))))))))))))) (Sp.from H (PB := [(p0, b0), (p1, b1), (p2, b2), (p3, b3)]) (ts := [ta, (tb.set 0 ⟨zk, newPl.g + 1, false⟩), (tc.set 0 ⟨zk, newPl.g + 1, false⟩), (td.set 0 ⟨zk, newPl.g + 1, false⟩)]) bs cap sp (inv4 hal hag (set_len hbl) (set_g hbg (show newPl.g + 1 ≤ 1000001 by decide)) (set_len hcl) (set_g hcg (show newPl.g + 1 ≤ 1000001 by decide)) (set_len hdl) (set_g hdg (show newPl.g + 1 ≤ 1000001 by decide))) (fun _ hp => List.mem_append_left _ hp)) rfl rfl (fun i a h hu => by rw [← htc] at h; exact drop_all rfl i a h hu _)) (by decide)) ?_; rintro _ w486 ⟨rfl, H1⟩; replace H := H.seq0 H1; clear H1)
  refine WL_stepM rfl (R_mv) ?_
  refine WL_step rfl (R_extract rfl rfl) ?_
  refine WL_step rfl (R_extract rfl rfl) ?_
  refine WL_stepM rfl (R_as) ?_
  refine WL_stepM rfl (R_as) ?_
  refine WL_nil ?_
  refine W_seq ?_
  refine W_seq ?_
  refine W_region_l ?_
  refine WL_stepM rfl (R_mv) ?_
  refine WL_stepM rfl (R_mv) ?_
  refine WL_step rfl (R_ge_t rfl rfl (by omega)) ?_
  refine WL_stepM rfl (R_mv) ?_
  refine WL_guard_t rfl rfl ?_
  refine WL_stepM rfl (R_mv) ?_
  refine WL_guard_t rfl rfl ?_
  refine WL_step rfl (R_ne_f rfl rfl (by omega)) ?_
  refine WL_guard_t rfl rfl ?_
  refine WL_stepM rfl (R_mv) ?_
  refine WL_guard_t rfl rfl ?_
  refine WL_stepM rfl (R_mv) ?_
  refine WL_guard_t rfl rfl ?_
  refine WL_step rfl (R_len_slice Try.underlying22 rfl) ?_
  refine WL_guard_t rfl rfl ?_
  refine WL_step rfl (R_ne_f rfl rfl (by omega)) ?_
  refine WL_guard_t rfl rfl ?_
  refine WL_stepM rfl (R_pk_f rfl) ?_
  refine WL_guard_t rfl rfl ?_
  refine WL_stepM rfl (R_mv) ?_
  refine WL_guard_t rfl rfl ?_
  refine WL_stepM rfl (R_mv) ?_
  refine WL_guard_t rfl rfl ?_
  refine WL_stepM rfl (R_mv) ?_
  refine WL_guard_t rfl rfl ?_
  refine WL_stepM rfl (R_mv) ?_
  refine WL_guard_t rfl rfl ?_
  refine WL_step rfl (R_indexAddrA (off' := 2) Try.underlying47 Try.sizeOf3 rfl rfl (by omega) (by omega) rfl) ?_
  refine WL_guard_t rfl rfl ?_
  refine WL_step rfl (R_load (v := I (0 + 256 * newPl.g : Nat)) Try.isAgg3 rfl (H.get (.there (.there (.there (.there (.there (.there (.there (.there (.there (.there (.there (.there .here))))))))))))) rfl) ?_
  refine WL_guard_t rfl rfl ?_
  (refine WL_effn rfl (E_buildOnes (vs := [(.int _ _)]) H Try.underlying22 Try.sizeOf5 Try.zeroValue5 rfl rfl (by decide) rfl rfl (by simp [Value.oneCell'])) ?_; clear H; intro b527 w527 hb527 H)
  refine WL_guard_t rfl rfl ?_
  (refine WL_call rfl (R_call rfl Try.call20 rfl) (write_noU (e := 2) (ys := [1]) (RdS.blk (c := [U 1]) (off := 0) (m := 1) (cap := 1) (H.get .here) (by rfl) (by decide) (by decide)) (by decide) (place_cap (j := 2) (k := (1 : Nat)) (H.get (.there (.there (.there (.there (.there (.there (.there (.there (.there (.there (.there (.there (.there (.there (.there .here)))))))))))))))) (Sp.from H (PB := [(p0, b0), (p1, b1), (p2, b2), (p3, b3)]) (ts := [ta, (tb.set 0 ⟨zk, newPl.g + 1, false⟩), (tc.set 0 ⟨zk, newPl.g + 1, false⟩), (td.set 0 ⟨zk, newPl.g + 1, false⟩)]) bs cap sp (inv4 hal hag (set_len hbl) (set_g hbg (show newPl.g + 1 ≤ 1000001 by decide)) (set_len hcl) (set_g hcg (show newPl.g + 1 ≤ 1000001 by decide)) (set_len hdl) (set_g hdg (show newPl.g + 1 ≤ 1000001 by decide))) (fun _ hp => .tail _ (List.mem_append_left _ hp))) rfl rfl (fun i a h hu => by rw [← htc] at h; exact drop_all rfl i a h hu _)) (by decide)) ?_; rintro _ w529 ⟨rfl, H1⟩; replace H := H.seq0 H1; clear H1; replace H := H.pop (by assumption))
  refine WL_guard_t rfl rfl ?_
  refine WL_step rfl (R_ne_f rfl rfl (by omega)) ?_
  refine WL_guard_t rfl rfl ?_
  refine WL_stepM rfl (R_pk_f rfl) ?_
  refine WL_stepM rfl (R_pk_t rfl) ?_
  refine WL_nil ?_
  refine W_cond_f rfl ?_
  refine W_skip ?_
  refine W_seq ?_
  refine W_region_l ?_
  refine WL_stepM rfl (R_mv) ?_
  refine WL_stepM rfl (R_mv) ?_
  refine WL_step rfl (R_lt_f rfl rfl (by omega)) ?_
  refine WL_stepM rfl (R_mv) ?_
  refine WL_guard_f rfl rfl (by decide) ?_
  refine WL_guard_f rfl rfl (by decide) ?_
  refine WL_guard_f rfl rfl (by decide) ?_
  refine WL_guard_n rfl rfl ?_
  refine WL_guard_n rfl rfl ?_
  refine WL_guard_n rfl rfl ?_
  refine WL_guard_n rfl rfl ?_
  refine WL_guard_n rfl rfl ?_
  refine WL_guard_f rfl rfl (by decide) ?_
  refine WL_stepM rfl (R_pk_f rfl) ?_
  refine WL_nil ?_
  refine W_cond_f rfl ?_
  refine W_skip ?_
  (skip) <;> refine W_region_l ?_
  refine WL_stepM rfl (R_mv) ?_
  refine WL_step rfl (R_add (r := 3) rfl rfl (by decide)) ?_
  refine WL_stepM rfl (R_as) ?_
  refine WL_nil ?_
  refine Rn_succ ?_
  refine W_seq ?_
  refine W_seq ?_
  refine W_region_l ?_
  refine WL_stepM rfl (R_mv) ?_
  refine WL_step rfl (R_lt_t rfl rfl (by omega)) ?_
  refine WL_nil ?_
  refine W_cond_t rfl ?_
  refine W_skip ?_
  refine W_seq ?_
  refine W_block ?_
  refine W_seq ?_
  refine W_region_l ?_
  refine WL_stepM rfl (R_mv) ?_
  refine WL_stepM rfl (R_mv) ?_
  refine WL_stepM rfl (R_mv) ?_
  refine WL_step rfl (R_indexAddrA (off' := 3) Try.underlying47 Try.sizeOf3 rfl rfl (by omega) (by omega) rfl) ?_
  refine WL_step rfl (R_load (v := I (0 + 256 * newPl.g : Nat)) Try.isAgg3 rfl (H.get (.there (.there (.there (.there (.there (.there (.there (.there (.there (.there (.there (.there .here))))))))))))) rfl) ?_
  refine WL_stepM rfl (R_mv) ?_
  refine WL_step rfl (R_len_slice Try.underlying22 rfl) ?_
  (refine WL_call rfl (R_call rfl Try.call22 rfl) (read_no (e := 2) (place_cap (j := 3) (H.get (.there (.there (.there (.there (.there (.there (.there (.there (.there (.there (.there (.there (.there (.there .here))))))))))))))) (Sp.from H (PB := [(p0, b0), (p1, b1), (p2, b2), (p3, b3)]) (ts := [ta, (tb.set 0 ⟨zk, newPl.g + 1, false⟩), (tc.set 0 ⟨zk, newPl.g + 1, false⟩), (td.set 0 ⟨zk, newPl.g + 1, false⟩)]) bs cap sp (inv4 hal hag (set_len hbl) (set_g hbg (show newPl.g + 1 ≤ 1000001 by decide)) (set_len hcl) (set_g hcg (show newPl.g + 1 ≤ 1000001 by decide)) (set_len hdl) (set_g hdg (show newPl.g + 1 ≤ 1000001 by decide))) (fun _ hp => List.mem_append_left _ hp)) rfl rfl (fun i a h hu => by rw [← htd] at h; exact drop_all rfl i a h hu _)) (by decide)) ?_; rintro _ w582 ⟨rfl, H1⟩; replace H := H.seq0 H1; clear H1)
  refine WL_stepM rfl (R_mv) ?_
  refine WL_step rfl (R_extract rfl rfl) ?_
  refine WL_step rfl (R_extract rfl rfl) ?_
  refine WL_stepM rfl (R_as) ?_
  refine WL_stepM rfl (R_as) ?_
  refine WL_nil ?_
  refine W_seq ?_
  refine W_seq ?_
  refine W_region_l ?_
  refine WL_stepM rfl (R_mv) ?_
  refine WL_stepM rfl (R_mv) ?_
  refine WL_step rfl (R_ge_t rfl rfl (by omega)) ?_
  refine WL_stepM rfl (R_mv) ?_
  refine WL_guard_t rfl rfl ?_
  refine WL_stepM rfl (R_mv) ?_
  refine WL_guard_t rfl rfl ?_
  refine WL_step rfl (R_ne_f rfl rfl (by omega)) ?_
  refine WL_guard_t rfl rfl ?_
  refine WL_stepM rfl (R_mv) ?_
  refine WL_guard_t rfl rfl ?_
  refine WL_stepM rfl (R_mv) ?_
  refine WL_guard_t rfl rfl ?_
  refine WL_step rfl (R_len_slice Try.underlying22 rfl) ?_
  refine WL_guard_t rfl rfl ?_
  refine WL_step rfl (R_ne_f rfl rfl (by omega)) ?_
  refine WL_guard_t rfl rfl ?_
  refine WL_stepM rfl (R_pk_f rfl) ?_
  refine WL_guard_t rfl rfl ?_
  refine WL_stepM rfl (R_mv) ?_
  refine WL_guard_t rfl rfl ?_
  refine WL_stepM rfl (R_mv) ?_
  refine WL_guard_t rfl rfl ?_
  refine WL_stepM rfl (R_mv) ?_
  refine WL_guard_t rfl rfl ?_
  refine WL_stepM rfl (R_mv) ?_
  refine WL_guard_t rfl rfl ?_
  refine WL_step rfl (R_indexAddrA (off' := 3) Try.underlying47 Try.sizeOf3 rfl rfl (by omega) (by omega) rfl) ?_
  refine WL_guard_t rfl rfl ?_
  refine WL_step rfl (R_load (v := I (0 + 256 * newPl.g : Nat)) Try.isAgg3 rfl (H.get (.there (.there (.there (.there (.there (.there (.there (.there (.there (.there (.there (.there .here))))))))))))) rfl) ?_
  refine WL_guard_t rfl rfl ?_
  (refine WL_effn rfl (E_buildOnes (vs := [(.int _ _)]) H Try.underlying22 Try.sizeOf5 Try.zeroValue5 rfl rfl (by decide) rfl rfl (by simp [Value.oneCell'])) ?_; clear H; intro b623 w623 hb623 H)
  refine WL_guard_t rfl rfl ?_
  (refine WL_call rfl (R_call rfl Try.call20 rfl) (write_noU (e := 2) (ys := [1]) (RdS.blk (c := [U 1]) (off := 0) (m := 1) (cap := 1) (H.get .here) (by rfl) (by decide) (by decide)) (by decide) (place_cap (j := 3) (k := (1 : Nat)) (H.get (.there (.there (.there (.there (.there (.there (.there (.there (.there (.there (.there (.there (.there (.there (.there .here)))))))))))))))) (Sp.from H (PB := [(p0, b0), (p1, b1), (p2, b2), (p3, b3)]) (ts := [ta, (tb.set 0 ⟨zk, newPl.g + 1, false⟩), (tc.set 0 ⟨zk, newPl.g + 1, false⟩), (td.set 0 ⟨zk, newPl.g + 1, false⟩)]) bs cap sp (inv4 hal hag (set_len hbl) (set_g hbg (show newPl.g + 1 ≤ 1000001 by decide)) (set_len hcl) (set_g hcg (show newPl.g + 1 ≤ 1000001 by decide)) (set_len hdl) (set_g hdg (show newPl.g + 1 ≤ 1000001 by decide))) (fun _ hp => .tail _ (List.mem_append_left _ hp))) rfl rfl (fun i a h hu => by rw [← htd] at h; exact drop_all rfl i a h hu _)) (by decide)) ?_; rintro _ w625 ⟨rfl, H1⟩; replace H := H.seq0 H1; clear H1; replace H := H.pop (by assumption))
  refine WL_guard_t rfl rfl ?_
  refine WL_step rfl (R_ne_f rfl rfl (by omega)) ?_
  refine WL_guard_t rfl rfl ?_
  refine WL_stepM rfl (R_pk_f rfl) ?_
  refine WL_stepM rfl (R_pk_t rfl) ?_
  refine WL_nil ?_
  refine W_cond_f rfl ?_
  refine W_skip ?_
  refine W_seq ?_
  refine W_region_l ?_
  refine WL_stepM rfl (R_mv) ?_
  refine WL_stepM rfl (R_mv) ?_
  refine WL_step rfl (R_lt_f rfl rfl (by omega)) ?_
  refine WL_stepM rfl (R_mv) ?_
  refine WL_guard_f rfl rfl (by decide) ?_
  refine WL_guard_f rfl rfl (by decide) ?_
  refine WL_guard_f rfl rfl (by decide) ?_
  refine WL_guard_n rfl rfl ?_
  refine WL_guard_n rfl rfl ?_
  refine WL_guard_n rfl rfl ?_
  refine WL_guard_n rfl rfl ?_
  refine WL_guard_n rfl rfl ?_
  refine WL_guard_f rfl rfl (by decide) ?_
  refine WL_stepM rfl (R_pk_f rfl) ?_
  refine WL_nil ?_
  refine W_cond_f rfl ?_
  refine W_skip ?_
  (skip) <;> refine W_region_l ?_
  refine WL_stepM rfl (R_mv) ?_
  refine WL_step rfl (R_add (r := 4) rfl rfl (by decide)) ?_
  refine WL_stepM rfl (R_as) ?_
  refine WL_nil ?_
  refine Rn_succ ?_
  refine W_seq ?_
  refine W_seq ?_
  refine W_region_l ?_
  refine WL_stepM rfl (R_mv) ?_
  refine WL_step rfl (R_lt_f rfl rfl (by omega)) ?_
  refine WL_nil ?_
  refine W_cond_f rfl ?_
  refine W_exit ?_
  refine (if_pos rfl).mpr ?_
  refine W_seq ?_
  refine W_region_l ?_
  refine WL_stepM rfl (R_mv) ?_
  refine WL_stepM rfl (R_mv) ?_
  refine WL_step rfl (R_len_slice Try.underlying22 rfl) ?_
  (refine WL_call rfl (R_call rfl Try.call21 rfl) (Mem.load_yes (xs := us) 3 ys.length (H.get (.there (.there (.there (.there (.there (.there (.there (.there (.there (.there .here))))))))))) (H.get (.there (.there (.there (.there (.there (.there (.there (.there (.there (.there (.there .here)))))))))))) hul (by omega) (by omega)) ?_; rintro _ w673 ⟨u3, M3, rfl, hO3, H1⟩; rw [hgy] at hO3; have h673 := H.seqO hO3 H1; clear H H1 hO3; obtain ⟨hO3, H⟩ := h673; obtain ⟨a3, c3, rfl⟩ := hO3.form)
  refine WL_stepM rfl (R_mv) ?_
  refine WL_step rfl (R_extract rfl rfl) ?_
  refine WL_step rfl (R_extract rfl rfl) ?_
  refine WL_stepM rfl (R_as) ?_
  refine WL_stepM rfl (R_as) ?_
  refine WL_nil ?_
  refine W_seq ?_
  refine W_region_l ?_
  refine WL_stepM rfl (R_mv) ?_
  refine WL_step rfl (R_eq_t rfl rfl (by omega)) ?_
  refine WL_stepM rfl (R_mv) ?_
  refine WL_guard_t rfl rfl ?_
  refine WL_stepM rfl (R_mv) ?_
  refine WL_guard_t rfl rfl ?_
  refine WL_step rfl (R_conv_bs (xs := ys) Try.underlying22 Try.underlying5 Try.underlying9 rfl (RdS.own hO3 (fun q hq => H.held q (by simp [hq])))) ?_
  refine WL_guard_t rfl rfl ?_
  refine WL_stepM rfl (R_mv) ?_
  refine WL_guard_t rfl rfl ?_
  refine WL_step rfl (R_conv_bs (xs := ys) Try.underlying22 Try.underlying5 Try.underlying9 rfl (hl.monoN H (by repeat' first | exact kNil | apply kCons | apply kApp | assumption | exact OwnS.keys (by assumption)))) ?_
  refine WL_guard_t rfl rfl ?_
  refine WL_step rfl (R_eq_S_t (xs := ys) (ys := ys) rfl rfl rfl) ?_
  refine WL_stepM rfl (R_pk_t rfl) ?_
  refine WL_stepM rfl (R_mv) ?_
  refine WL_guard_t rfl rfl ?_
  (refine WL_call rfl (R_call rfl Try.call15 rfl) (awake_ret _) ?_; rintro _ w698 ⟨rfl, H1⟩; replace H := H.seq0 H1; clear H1)
  refine WL_stepM rfl (R_pk_t rfl) ?_
  refine WL_stepM rfl (R_as) ?_
  refine WL_nil ?_
  refine W_ret ?_
  exact ⟨_, rfl, rfl, H.none (by repeat' first | exact kNil | apply kCons | apply kApp | assumption | exact OwnS.keys (by assumption))⟩

theorem gone_2 {w : World} {ys : List UInt8} {l : Value} {at_ : Int} (hl : RdS w l (ys.map U)) (hy : ys.length ≤ 60) (hV : at_ % 4 = 2) :
    Ret Try.prog 5 #[l, I at_] w fun v w' => v = .bool true ∧ Hp w [] w' := by
  refine Ret_of_W (args := [_, _]) Try.func5 rfl Try.ntmps5 Try.results5 (by simp) ?_
  have H := Hp.refl w
  obtain ⟨ao, ca0, rfl⟩ := hl.form
  simp only [List.length_map] at hl ⊢
  obtain ⟨ta, hta, hal, hag, ha0⟩ := tset t0_len t0_g (i := 0) (by decide) ⟨cp 0 (7 : Nat) 0 60 0 0, newPl.g, true⟩ (show newPl.g ≤ 1000001 by decide)
  have hna : namesFrom 0 ta = [((0 + 256 * newPl.g : Nat) : Int)] := by rw [← hta]; rfl
  obtain ⟨tb, htb, hbl, hbg, hb0⟩ := tset t0_len t0_g (i := 0) (by decide) ⟨cp 0 7 (0 + 0) 60 (0 : Nat) (0 + 256 * newPl.g : Nat), newPl.g, true⟩ (show newPl.g ≤ 1000001 by decide)
  have hnb : namesFrom 0 tb = [((0 + 256 * newPl.g : Nat) : Int)] := by rw [← htb]; rfl
  obtain ⟨tc, htc, hcl, hcg, hc0⟩ := tset t0_len t0_g (i := 0) (by decide) ⟨cp 0 7 ((0 + 0) + 0) 60 (1 : Nat) (0 + 256 * newPl.g : Nat), newPl.g, true⟩ (show newPl.g ≤ 1000001 by decide)
  have hnc : namesFrom 0 tc = [((0 + 256 * newPl.g : Nat) : Int)] := by rw [← htc]; rfl
  obtain ⟨td, htd, hdl, hdg, hd0⟩ := tset t0_len t0_g (i := 0) (by decide) ⟨cp 0 7 (((0 + 0) + 0) + 0) 60 (2 : Nat) (0 + 256 * newPl.g : Nat), newPl.g, true⟩ (show newPl.g ≤ 1000001 by decide)
  have hnd : namesFrom 0 td = [((0 + 256 * newPl.g : Nat) : Int)] := by rw [← htd]; rfl
  obtain ⟨zs, hzs, hzl⟩ : ∃ zs : List UInt8, zs = List.replicate 128 0 ∧ zs.length = 128 := ⟨_, rfl, by simp⟩
  obtain ⟨us, hus, hul⟩ : ∃ us : List UInt8, us = Mem.put zs ys 3 ∧ us.length = 128 := ⟨_, rfl, by rw [Mem.put_length (by omega)]; exact hzl⟩
  have hgy : (us.drop 3).take ys.length = ys := by rw [hus]; exact put_back (by omega)
  refine W_seq ?_
  refine W_region_l ?_
  refine WL_stepM rfl (R_as) ?_
  refine WL_nil ?_
  refine W_seq ?_
  refine W_region_l ?_
  (refine WL_call rfl (R_call rfl Try.call12 rfl) (Mem.new_ret 2 _) ?_; rintro _ w7 ⟨m, mb, rfl, H1, hm, hmb⟩; rw [show Mem.szOf 2 = 128 from rfl, ← Mem.zmap, ← hzs] at H1; replace H := H.seqN H1 (kCons hm (kCons hmb kNil)); replace H : Hp w [(m, blk [sl mb 0 128 128] 87), (mb, blk (zs.map U) 5)] w7 := H; clear H1)
  (refine WL_call rfl (R_call rfl Try.call13 rfl) (Caps.new_ret (E := 4) (by decide) (by decide) _) ?_; rintro _ w8 ⟨s, bs, cap, sp, PB, rfl, hPl, hs, hbs, hPB, H1⟩; obtain ⟨p0, b0, p1, b1, p2, b2, p3, b3, rfl⟩ := four hPl; have hsz := H.size; replace H := H.seqN H1 (spB_keys hs hbs hPB); clear H1; obtain ⟨hp0, hb0'⟩ := hPB (p0, b0) (.head _); obtain ⟨hp1, hb1'⟩ := hPB (p1, b1) (.tail _ (.head _)); obtain ⟨hp2, hb2'⟩ := hPB (p2, b2) (.tail _ (.tail _ (.head _))); obtain ⟨hp3, hb3'⟩ := hPB (p3, b3) (.tail _ (.tail _ (.tail _ (.head _)))); replace hs := Nat.le_trans hsz hs; replace hbs := Nat.le_trans hsz hbs; replace hp0 : w.heap.size ≤ p0 := Nat.le_trans hsz hp0; replace hb0' : w.heap.size ≤ b0 := Nat.le_trans hsz hb0'; replace hp1 : w.heap.size ≤ p1 := Nat.le_trans hsz hp1; replace hb1' : w.heap.size ≤ b1 := Nat.le_trans hsz hb1'; replace hp2 : w.heap.size ≤ p2 := Nat.le_trans hsz hp2; replace hb2' : w.heap.size ≤ b2 := Nat.le_trans hsz hb2'; replace hp3 : w.heap.size ≤ p3 := Nat.le_trans hsz hp3; replace hb3' : w.heap.size ≤ b3 := Nat.le_trans hsz hb3'; clear hPB hPl hsz; replace H : Hp w [(s, blk [sl bs 0 4 cap] 90), (bs, blk (ptrs [(p0, b0), (p1, b1), (p2, b2), (p3, b3)] ++ sp) 91), (p0, blk [sl b0 0 32 32] 135), (b0, blk (rows plc t0) 137), (p1, blk [sl b1 0 32 32] 135), (b1, blk (rows plc t0) 137), (p2, blk [sl b2 0 32 32] 135), (b2, blk (rows plc t0) 137), (p3, blk [sl b3 0 32 32] 135), (b3, blk (rows plc t0) 137), (m, blk [sl mb 0 128 128] 87), (mb, blk (zs.map U) 5)] w8 := H)
  refine WL_stepM rfl (R_as) ?_
  refine WL_stepM rfl (R_as) ?_
  refine WL_nil ?_
  refine W_seq ?_
  refine W_region_l ?_
  refine WL_stepM rfl (R_mv) ?_
  refine WL_stepM rfl (R_mv) ?_
  (refine WL_call rfl (R_call rfl Try.call14 rfl) (new_ret m s _) ?_; rintro _ w16 ⟨rr, rfl, hrr, H1⟩; have hsz := H.size; replace H := H.seqN H1 (kCons hrr kNil); clear H1; replace hrr := Nat.le_trans hsz hrr; clear hsz; replace H : Hp w ((rr, blk [ptr m 0, ptr s 0, nilS] 95) :: [(s, blk [sl bs 0 4 cap] 90), (bs, blk (ptrs [(p0, b0), (p1, b1), (p2, b2), (p3, b3)] ++ sp) 91), (p0, blk [sl b0 0 32 32] 135), (b0, blk (rows plc t0) 137), (p1, blk [sl b1 0 32 32] 135), (b1, blk (rows plc t0) 137), (p2, blk [sl b2 0 32 32] 135), (b2, blk (rows plc t0) 137), (p3, blk [sl b3 0 32 32] 135), (b3, blk (rows plc t0) 137), (m, blk [sl mb 0 128 128] 87), (mb, blk (zs.map U) 5)]) w16 := H)
  refine WL_stepM rfl (R_as) ?_
  refine WL_nil ?_
  refine W_seq ?_
  refine W_seq ?_
  refine W_region_l ?_
  refine WL_stepM rfl (R_mv) ?_
  refine WL_step rfl (R_eq_ptr_nil Try.underlying23 rfl rfl) ?_
  refine WL_stepM rfl (R_mv) ?_
  refine WL_guard_t rfl rfl ?_
  refine WL_stepM rfl (R_mv) ?_
  refine WL_guard_t rfl rfl ?_
  refine WL_step rfl (R_eq_ptr_nil Try.underlying25 rfl rfl) ?_
  refine WL_stepM rfl (R_pk_f rfl) ?_
  refine WL_stepM rfl (R_mv) ?_
  refine WL_guard_t rfl rfl ?_
  refine WL_stepM rfl (R_mv) ?_
  refine WL_guard_t rfl rfl ?_
  refine WL_step rfl (R_eq_ptr_nil Try.underlying27 rfl rfl) ?_
  refine WL_stepM rfl (R_pk_f rfl) ?_
  refine WL_stepM rfl (R_mv) ?_
  refine WL_guard_t rfl rfl ?_
  refine WL_stepM rfl (R_mv) ?_
  refine WL_guard_t rfl rfl ?_
  refine WL_step rfl (R_len_slice Try.underlying22 rfl) ?_
  refine WL_guard_t rfl rfl ?_
  refine WL_step rfl (R_gt_f rfl rfl (by omega)) ?_
  refine WL_stepM rfl (R_pk_f rfl) ?_
  refine WL_nil ?_
  refine W_cond_f rfl ?_
  refine W_skip ?_
  refine W_seq ?_
  refine W_region_l ?_
  refine WL_stepM rfl (R_mv) ?_
  (refine WL_call rfl (R_call rfl Try.call17 rfl) (add_ret (xs := zs) (H.get .here) (H.get (.there (.there (.there (.there (.there (.there (.there (.there (.there (.there (.there .here)))))))))))) hzl (by decide) (lo := 3) (n := 60) (by decide) (by decide) (by decide)) ?_; rintro _ w50 ⟨a, ca, sp2, rfl, ha, H1⟩; have hsz := H.size; replace H := H.seq H1 (okSeq_set .here (okSeq_new ha okSeq_nil)); clear H1; replace ha := Nat.le_trans hsz ha; clear hsz)
  refine WL_stepM rfl (R_mv) ?_
  refine WL_step rfl (R_extract rfl rfl) ?_
  refine WL_step rfl (R_extract rfl rfl) ?_
  refine WL_stepM rfl (R_as) ?_
  refine WL_stepM rfl (R_as) ?_
  refine WL_nil ?_
  refine W_seq ?_
  refine W_region_l ?_
  (refine WL_effn rfl (E_alloc (vs := [I 0, I 0, I 0, I 0]) H Try.zeroValue47 rfl) ?_; clear H; intro nmb w59 hnmb H; replace H : Hp w ((s, blk [sl bs 0 4 cap] 90) :: (bs, blk (ptrs [(p0, b0), (p1, b1), (p2, b2), (p3, b3)] ++ sp) 91) :: (p0, blk [sl b0 0 32 32] 135) :: (b0, blk (rows plc t0) 137) :: (p1, blk [sl b1 0 32 32] 135) :: (b1, blk (rows plc t0) 137) :: (p2, blk [sl b2 0 32 32] 135) :: (b2, blk (rows plc t0) 137) :: (p3, blk [sl b3 0 32 32] 135) :: (b3, blk (rows plc t0) 137) :: [(m, blk [sl mb 0 128 128] 87), (mb, blk (zs.map U) 5), (nmb, blk [I 0, I 0, I 0, I 0] 47), (a, blk ([I 3, I 60] ++ sp2) 98), (rr, blk [ptr m 0, ptr s 0, sl a 0 1 ca] 95)]) w59 := H.perm (List.perm_append_comm (l₁ := [_, _, _]) (l₂ := [(s, blk [sl bs 0 4 cap] 90), (bs, blk (ptrs [(p0, b0), (p1, b1), (p2, b2), (p3, b3)] ++ sp) 91), (p0, blk [sl b0 0 32 32] 135), (b0, blk (rows plc t0) 137), (p1, blk [sl b1 0 32 32] 135), (b1, blk (rows plc t0) 137), (p2, blk [sl b2 0 32 32] 135), (b2, blk (rows plc t0) 137), (p3, blk [sl b3 0 32 32] 135), (b3, blk (rows plc t0) 137), (m, blk [sl mb 0 128 128] 87), (mb, blk (zs.map U) 5)])))
  refine WL_nil ?_
  refine W_seq ?_
  refine W_region_l ?_
  refine WL_stepM rfl (R_mv) ?_
  refine WL_stepM rfl (R_mv) ?_
  refine WL_step rfl (R_buildL (places := [(0, 1), (1, 1), (2, 1), (3, 1), (4, 2)]) (vs := (cp 0 (7 : Nat) 0 60 0 0).c) Try.underlying38 Try.typeInfo38 rfl rfl (by kernel_rfl) rfl rfl rfl) ?_
  (refine WL_call rfl (R_call rfl Try.call18 rfl) (put_yes (j := 0) (i := 0) (r := 7) (o := 0) (lo := 0) (n := 60) (re := 0) (rn := 0) (Sp.from H (PB := [(p0, b0), (p1, b1), (p2, b2), (p3, b3)]) (ts := [t0, t0, t0, t0]) bs cap sp (inv4 t0_len t0_g t0_len t0_g t0_len t0_g t0_len t0_g) (fun _ hp => List.mem_append_left _ hp)) rfl rfl (by decide) (by decide) (by decide) t0_at new_free (fun _ _ h => absurd h (Nat.not_lt_zero _))) ?_; rintro _ w66 ⟨rfl, H1⟩; rw [hta] at H1; replace H := H.seq H1 (okSeq_set (.there (.there (.there .here))) okSeq_nil); clear H1)
  refine WL_stepM rfl (R_mv) ?_
  refine WL_step rfl (R_extract rfl rfl) ?_
  refine WL_step rfl (R_extract rfl rfl) ?_
  refine WL_step rfl (R_indexAddrA (off' := 0) Try.underlying47 Try.sizeOf3 rfl rfl (by omega) (by omega) rfl) ?_
  (refine WL_effu rfl (E_store (v := I (0 + 256 * newPl.g : Nat)) H Try.sizeOf3 rfl rfl rfl (.there (.there (.there (.there (.there (.there (.there (.there (.there (.there (.there (.there .here)))))))))))) (by simp)) ?_; clear H; intro w71 H; replace H : Hp w ((s, blk [sl bs 0 4 cap] 90) :: (bs, blk (ptrs [(p0, b0), (p1, b1), (p2, b2), (p3, b3)] ++ sp) 91) :: (p0, blk [sl b0 0 32 32] 135) :: (b0, blk (rows plc ta) 137) :: (p1, blk [sl b1 0 32 32] 135) :: (b1, blk (rows plc t0) 137) :: (p2, blk [sl b2 0 32 32] 135) :: (b2, blk (rows plc t0) 137) :: (p3, blk [sl b3 0 32 32] 135) :: (b3, blk (rows plc t0) 137) :: [(m, blk [sl mb 0 128 128] 87), (mb, blk (zs.map U) 5), (nmb, blk [I (0 + 256 * newPl.g : Nat), I 0, I 0, I 0] 47), (a, blk ([I 3, I 60] ++ sp2) 98), (rr, blk [ptr m 0, ptr s 0, sl a 0 1 ca] 95)]) w71 := H)
  refine WL_nil ?_
  refine W_seq ?_
  refine W_seq ?_
  refine W_region_l ?_
  refine WL_stepM rfl (R_as) ?_
  refine WL_nil ?_
  refine W_block ?_
  refine W_rounds 3 ?_
  refine W_seq ?_
  refine W_seq ?_
  refine W_region_l ?_
  refine WL_stepM rfl (R_mv) ?_
  refine WL_step rfl (R_lt_t rfl rfl (by omega)) ?_
  refine WL_nil ?_
  refine W_cond_t rfl ?_
  refine W_skip ?_
  refine W_seq ?_
  refine W_block ?_
  refine W_seq ?_
  refine W_region_l ?_
  refine WL_stepM rfl (R_mv) ?_
  refine WL_stepM rfl (R_mv) ?_
  refine WL_step rfl (R_sub (r := 0) rfl rfl (by decide)) ?_
  refine WL_stepM rfl (R_mv) ?_
  refine WL_step rfl (R_sub (r := 0) rfl rfl (by decide)) ?_
  refine WL_step rfl (R_indexAddrA (off' := 0) Try.underlying47 Try.sizeOf3 rfl rfl (by omega) (by omega) rfl) ?_
  refine WL_step rfl (R_load (v := I (0 + 256 * newPl.g : Nat)) Try.isAgg3 rfl (H.get (.there (.there (.there (.there (.there (.there (.there (.there (.there (.there (.there (.there .here))))))))))))) rfl) ?_
  refine WL_stepM rfl (R_mv) ?_
  (refine WL_call rfl (R_call rfl Try.call19 rfl) (grant_yes (j := 0) (i := 0) (k := 1) (i2 := 0) (g0 := newPl.g) (a := newPl) (l1 := 0) (n1 := 60) (gv := 7) (z := 4) (Sp.from H (PB := [(p0, b0), (p1, b1), (p2, b2), (p3, b3)]) (ts := [ta, t0, t0, t0]) bs cap sp (inv4 hal hag t0_len t0_g t0_len t0_g t0_len t0_g) (fun _ hp => List.mem_append_left _ hp)) rfl rfl ha0 rfl rfl t0_at new_free (fun _ _ h => absurd h (Nat.not_lt_zero _)) (by decide) (by decide) (by decide) (by decide) (by decide) (by decide) (by decide)) ?_; rintro _ w99 ⟨rfl, H1⟩; rw [htb] at H1; replace H := H.seq H1 (okSeq_set (.there (.there (.there (.there (.there .here))))) okSeq_nil); clear H1)
  refine WL_stepM rfl (R_mv) ?_
  refine WL_step rfl (R_extract rfl rfl) ?_
  refine WL_step rfl (R_extract rfl rfl) ?_
  refine WL_stepM rfl (R_as) ?_
  refine WL_stepM rfl (R_as) ?_
  refine WL_nil ?_
  refine W_seq ?_
  refine W_seq ?_
  refine W_region_l ?_
  refine WL_stepM rfl (R_mv) ?_
  refine WL_step rfl (R_ne_f rfl rfl (by omega)) ?_
  refine WL_nil ?_
  refine W_cond_f rfl ?_
  refine W_skip ?_
  refine W_region_l ?_
  refine WL_stepM rfl (R_mv) ?_
  refine WL_stepM rfl (R_mv) ?_
  refine WL_step rfl (R_indexAddrA (off' := 1) Try.underlying47 Try.sizeOf3 rfl rfl (by omega) (by omega) rfl) ?_
  (refine WL_effu rfl (E_store (v := I (0 + 256 * newPl.g : Nat)) H Try.sizeOf3 rfl rfl rfl (.there (.there (.there (.there (.there (.there (.there (.there (.there (.there (.there (.there .here)))))))))))) (by simp)) ?_; clear H; intro w118 H; replace H : Hp w ((s, blk [sl bs 0 4 cap] 90) :: (bs, blk (ptrs [(p0, b0), (p1, b1), (p2, b2), (p3, b3)] ++ sp) 91) :: (p0, blk [sl b0 0 32 32] 135) :: (b0, blk (rows plc ta) 137) :: (p1, blk [sl b1 0 32 32] 135) :: (b1, blk (rows plc tb) 137) :: (p2, blk [sl b2 0 32 32] 135) :: (b2, blk (rows plc t0) 137) :: (p3, blk [sl b3 0 32 32] 135) :: (b3, blk (rows plc t0) 137) :: [(m, blk [sl mb 0 128 128] 87), (mb, blk (zs.map U) 5), (nmb, blk [I (0 + 256 * newPl.g : Nat), I (0 + 256 * newPl.g : Nat), I 0, I 0] 47), (a, blk ([I 3, I 60] ++ sp2) 98), (rr, blk [ptr m 0, ptr s 0, sl a 0 1 ca] 95)]) w118 := H)
  refine WL_nil ?_
  refine W_region_l ?_
  refine WL_stepM rfl (R_mv) ?_
  refine WL_step rfl (R_add (r := 2) rfl rfl (by decide)) ?_
  refine WL_stepM rfl (R_as) ?_
  refine WL_nil ?_
  refine Rn_succ ?_
  refine W_seq ?_
  refine W_seq ?_
  refine W_region_l ?_
  refine WL_stepM rfl (R_mv) ?_
  refine WL_step rfl (R_lt_t rfl rfl (by omega)) ?_
  refine WL_nil ?_
  refine W_cond_t rfl ?_
  refine W_skip ?_
  refine W_seq ?_
  refine W_block ?_
  refine W_seq ?_
  refine W_region_l ?_
  refine WL_stepM rfl (R_mv) ?_
  refine WL_stepM rfl (R_mv) ?_
  refine WL_step rfl (R_sub (r := 1) rfl rfl (by decide)) ?_
  refine WL_stepM rfl (R_mv) ?_
  refine WL_step rfl (R_sub (r := 1) rfl rfl (by decide)) ?_
  refine WL_step rfl (R_indexAddrA (off' := 1) Try.underlying47 Try.sizeOf3 rfl rfl (by omega) (by omega) rfl) ?_
  refine WL_step rfl (R_load (v := I (0 + 256 * newPl.g : Nat)) Try.isAgg3 rfl (H.get (.there (.there (.there (.there (.there (.there (.there (.there (.there (.there (.there (.there .here))))))))))))) rfl) ?_
  refine WL_stepM rfl (R_mv) ?_
  (refine WL_call rfl (R_call rfl Try.call19 rfl) (grant_yes (j := 1) (i := 0) (k := 2) (i2 := 0) (g0 := newPl.g) (a := newPl) (l1 := 0) (n1 := 60) (gv := 7) (z := 4) (Sp.from H (PB := [(p0, b0), (p1, b1), (p2, b2), (p3, b3)]) (ts := [ta, tb, t0, t0]) bs cap sp (inv4 hal hag hbl hbg t0_len t0_g t0_len t0_g) (fun _ hp => List.mem_append_left _ hp)) rfl rfl hb0 rfl rfl t0_at new_free (fun _ _ h => absurd h (Nat.not_lt_zero _)) (by decide) (by decide) (by decide) (by decide) (by decide) (by decide) (by decide)) ?_; rintro _ w146 ⟨rfl, H1⟩; rw [htc] at H1; replace H := H.seq H1 (okSeq_set (.there (.there (.there (.there (.there (.there (.there .here))))))) okSeq_nil); clear H1)
  refine WL_stepM rfl (R_mv) ?_
  refine WL_step rfl (R_extract rfl rfl) ?_
  refine WL_step rfl (R_extract rfl rfl) ?_
  refine WL_stepM rfl (R_as) ?_
  refine WL_stepM rfl (R_as) ?_
  refine WL_nil ?_
  refine W_seq ?_
  refine W_seq ?_
  refine W_region_l ?_
  refine WL_stepM rfl (R_mv) ?_
  refine WL_step rfl (R_ne_f rfl rfl (by omega)) ?_
  refine WL_nil ?_
  refine W_cond_f rfl ?_
  refine W_skip ?_
  refine W_region_l ?_
  refine WL_stepM rfl (R_mv) ?_
  refine WL_stepM rfl (R_mv) ?_
  refine WL_step rfl (R_indexAddrA (off' := 2) Try.underlying47 Try.sizeOf3 rfl rfl (by omega) (by omega) rfl) ?_
  (refine WL_effu rfl (E_store (v := I (0 + 256 * newPl.g : Nat)) H Try.sizeOf3 rfl rfl rfl (.there (.there (.there (.there (.there (.there (.there (.there (.there (.there (.there (.there .here)))))))))))) (by simp)) ?_; clear H; intro w165 H; replace H : Hp w ((s, blk [sl bs 0 4 cap] 90) :: (bs, blk (ptrs [(p0, b0), (p1, b1), (p2, b2), (p3, b3)] ++ sp) 91) :: (p0, blk [sl b0 0 32 32] 135) :: (b0, blk (rows plc ta) 137) :: (p1, blk [sl b1 0 32 32] 135) :: (b1, blk (rows plc tb) 137) :: (p2, blk [sl b2 0 32 32] 135) :: (b2, blk (rows plc tc) 137) :: (p3, blk [sl b3 0 32 32] 135) :: (b3, blk (rows plc t0) 137) :: [(m, blk [sl mb 0 128 128] 87), (mb, blk (zs.map U) 5), (nmb, blk [I (0 + 256 * newPl.g : Nat), I (0 + 256 * newPl.g : Nat), I (0 + 256 * newPl.g : Nat), I 0] 47), (a, blk ([I 3, I 60] ++ sp2) 98), (rr, blk [ptr m 0, ptr s 0, sl a 0 1 ca] 95)]) w165 := H)
  refine WL_nil ?_
  refine W_region_l ?_
  refine WL_stepM rfl (R_mv) ?_
  refine WL_step rfl (R_add (r := 3) rfl rfl (by decide)) ?_
  refine WL_stepM rfl (R_as) ?_
  refine WL_nil ?_
  refine Rn_succ ?_
  refine W_seq ?_
  refine W_seq ?_
  refine W_region_l ?_
  refine WL_stepM rfl (R_mv) ?_
  refine WL_step rfl (R_lt_t rfl rfl (by omega)) ?_
  refine WL_nil ?_
  refine W_cond_t rfl ?_
  refine W_skip ?_
  refine W_seq ?_
  refine W_block ?_
  refine W_seq ?_
  refine W_region_l ?_
  refine WL_stepM rfl (R_mv) ?_
  refine WL_stepM rfl (R_mv) ?_
  refine WL_step rfl (R_sub (r := 2) rfl rfl (by decide)) ?_
  refine WL_stepM rfl (R_mv) ?_
  refine WL_step rfl (R_sub (r := 2) rfl rfl (by decide)) ?_
  refine WL_step rfl (R_indexAddrA (off' := 2) Try.underlying47 Try.sizeOf3 rfl rfl (by omega) (by omega) rfl) ?_
  refine WL_step rfl (R_load (v := I (0 + 256 * newPl.g : Nat)) Try.isAgg3 rfl (H.get (.there (.there (.there (.there (.there (.there (.there (.there (.there (.there (.there (.there .here))))))))))))) rfl) ?_
  refine WL_stepM rfl (R_mv) ?_
  (refine WL_call rfl (R_call rfl Try.call19 rfl) (grant_yes (j := 2) (i := 0) (k := 3) (i2 := 0) (g0 := newPl.g) (a := newPl) (l1 := 0) (n1 := 60) (gv := 7) (z := 4) (Sp.from H (PB := [(p0, b0), (p1, b1), (p2, b2), (p3, b3)]) (ts := [ta, tb, tc, t0]) bs cap sp (inv4 hal hag hbl hbg hcl hcg t0_len t0_g) (fun _ hp => List.mem_append_left _ hp)) rfl rfl hc0 rfl rfl t0_at new_free (fun _ _ h => absurd h (Nat.not_lt_zero _)) (by decide) (by decide) (by decide) (by decide) (by decide) (by decide) (by decide)) ?_; rintro _ w193 ⟨rfl, H1⟩; rw [htd] at H1; replace H := H.seq H1 (okSeq_set (.there (.there (.there (.there (.there (.there (.there (.there (.there .here))))))))) okSeq_nil); clear H1)
  refine WL_stepM rfl (R_mv) ?_
  refine WL_step rfl (R_extract rfl rfl) ?_
  refine WL_step rfl (R_extract rfl rfl) ?_
  refine WL_stepM rfl (R_as) ?_
  refine WL_stepM rfl (R_as) ?_
  refine WL_nil ?_
  refine W_seq ?_
  refine W_seq ?_
  refine W_region_l ?_
  refine WL_stepM rfl (R_mv) ?_
  refine WL_step rfl (R_ne_f rfl rfl (by omega)) ?_
  refine WL_nil ?_
  refine W_cond_f rfl ?_
  refine W_skip ?_
  refine W_region_l ?_
  refine WL_stepM rfl (R_mv) ?_
  refine WL_stepM rfl (R_mv) ?_
  refine WL_step rfl (R_indexAddrA (off' := 3) Try.underlying47 Try.sizeOf3 rfl rfl (by omega) (by omega) rfl) ?_
  (refine WL_effu rfl (E_store (v := I (0 + 256 * newPl.g : Nat)) H Try.sizeOf3 rfl rfl rfl (.there (.there (.there (.there (.there (.there (.there (.there (.there (.there (.there (.there .here)))))))))))) (by simp)) ?_; clear H; intro w212 H; replace H : Hp w ((s, blk [sl bs 0 4 cap] 90) :: (bs, blk (ptrs [(p0, b0), (p1, b1), (p2, b2), (p3, b3)] ++ sp) 91) :: (p0, blk [sl b0 0 32 32] 135) :: (b0, blk (rows plc ta) 137) :: (p1, blk [sl b1 0 32 32] 135) :: (b1, blk (rows plc tb) 137) :: (p2, blk [sl b2 0 32 32] 135) :: (b2, blk (rows plc tc) 137) :: (p3, blk [sl b3 0 32 32] 135) :: (b3, blk (rows plc td) 137) :: [(m, blk [sl mb 0 128 128] 87), (mb, blk (zs.map U) 5), (nmb, blk [I (0 + 256 * newPl.g : Nat), I (0 + 256 * newPl.g : Nat), I (0 + 256 * newPl.g : Nat), I (0 + 256 * newPl.g : Nat)] 47), (a, blk ([I 3, I 60] ++ sp2) 98), (rr, blk [ptr m 0, ptr s 0, sl a 0 1 ca] 95)]) w212 := H)
  refine WL_nil ?_
  refine W_region_l ?_
  refine WL_stepM rfl (R_mv) ?_
  refine WL_step rfl (R_add (r := 4) rfl rfl (by decide)) ?_
  refine WL_stepM rfl (R_as) ?_
  refine WL_nil ?_
  refine Rn_succ ?_
  refine W_seq ?_
  refine W_seq ?_
  refine W_region_l ?_
  refine WL_stepM rfl (R_mv) ?_
  refine WL_step rfl (R_lt_f rfl rfl (by omega)) ?_
  refine WL_nil ?_
  refine W_cond_f rfl ?_
  refine W_exit ?_
  refine (if_pos rfl).mpr ?_
  refine W_seq ?_
  refine W_seq ?_
  refine W_region_l ?_
  refine WL_stepM rfl (R_mv) ?_
  refine WL_step rfl (R_indexAddrA (off' := 3) Try.underlying47 Try.sizeOf3 rfl rfl (by omega) (by omega) rfl) ?_
  refine WL_step rfl (R_load (v := I (0 + 256 * newPl.g : Nat)) Try.isAgg3 rfl (H.get (.there (.there (.there (.there (.there (.there (.there (.there (.there (.there (.there (.there .here))))))))))))) rfl) ?_
  refine WL_stepM rfl (R_mv) ?_
  (refine WL_call rfl (R_call rfl Try.call20 rfl) (write_yes (xs := zs) (ys := ys) (p := 3) (hl.monoN H (by repeat' first | exact kNil | apply kCons | apply kApp | assumption | exact OwnS.keys (by assumption))) (place_to (j := 3) (i := 0) (z := 2) (k := ys.length) (at_ := 0) (lo := (((0 + 0) + 0) + 0)) (rlo := 3) (rn := 60) (p := 3) rfl (H.get (.there (.there (.there (.there (.there (.there (.there (.there (.there (.there (.there (.there (.there (.there .here))))))))))))))) (H.get (.there (.there (.there (.there (.there (.there (.there (.there (.there (.there (.there (.there (.there .here)))))))))))))) (Sp.from H (PB := [(p0, b0), (p1, b1), (p2, b2), (p3, b3)]) (ts := [ta, tb, tc, td]) bs cap sp (inv4 hal hag hbl hbg hcl hcg hdl hdg) (fun _ hp => List.mem_append_left _ hp)) rfl rfl hd0 (by decide) (by decide) (by decide) (by decide) (by decide) (by decide) (by decide) (by omega) (by omega)) (H.get (.there (.there (.there (.there (.there (.there (.there (.there (.there (.there (.there (.there (.there (.there .here))))))))))))))) (H.get (.there (.there (.there (.there (.there (.there (.there (.there (.there (.there .here))))))))))) (H.get (.there (.there (.there (.there (.there (.there (.there (.there (.there (.there (.there .here)))))))))))) hzl (by decide) (by omega)) ?_; rintro _ w236 ⟨rfl, H1⟩; rw [← hus] at H1; replace H := H.seq H1 (okSeq_set (.there (.there (.there (.there (.there (.there (.there (.there (.there (.there (.there .here))))))))))) okSeq_nil); clear H1)
  refine WL_step rfl (R_ne_f rfl rfl (by omega)) ?_
  refine WL_nil ?_
  refine W_cond_f rfl ?_
  refine W_skip ?_
  refine W_seq ?_
  refine W_region_l ?_
  refine WL_stepM rfl (R_mv) ?_
  refine WL_step rfl (R_bits (r := 2) rfl rfl (by simp) ((and_mask_i64 2 4 (by decide) rfl (by decide)).trans hV)) ?_
  refine WL_stepM rfl (R_as) ?_
  refine WL_nil ?_
  refine W_seq ?_
  refine W_region_l ?_
  refine WL_stepM rfl (R_mv) ?_
  refine WL_stepM rfl (R_mv) ?_
  refine WL_stepM rfl (R_mv) ?_
  refine WL_step rfl (R_indexAddrA (off' := 2) Try.underlying47 Try.sizeOf3 rfl rfl (by omega) (by omega) rfl) ?_
  refine WL_step rfl (R_load (v := I (0 + 256 * newPl.g : Nat)) Try.isAgg3 rfl (H.get (.there (.there (.there (.there (.there (.there (.there (.there (.there (.there (.there (.there .here))))))))))))) rfl) ?_
  (refine WL_call rfl (R_call rfl Try.call24 rfl) (revoke_4_2 H hal hag hbl hbg hcl hcg hdl hdg hna hnb hnc hnd ha0 hb0 hc0 hd0) ?_; clear H; rintro _ w254 ⟨rfl, H⟩)
  refine WL_stepM rfl (R_mv) ?_
  refine WL_step rfl (R_extract rfl rfl) ?_
  refine WL_step rfl (R_extract rfl rfl) ?_
  refine WL_stepM rfl (R_as) ?_
  refine WL_stepM rfl (R_as) ?_
  refine WL_nil ?_
  refine W_seq ?_
  refine W_seq ?_
  refine W_region_l ?_
  refine WL_stepM rfl (R_mv) ?_
  refine WL_stepM rfl (R_mv) ?_
  refine WL_step rfl (R_sub (r := 2) rfl rfl (by decide)) ?_
  refine WL_step rfl (R_ne_f rfl rfl (by omega)) ?_
  refine WL_stepM rfl (R_mv) ?_
  refine WL_guard_t rfl rfl ?_
  refine WL_stepM rfl (R_mv) ?_
  refine WL_guard_t rfl rfl ?_
  refine WL_step rfl (R_ne_f rfl rfl (by omega)) ?_
  refine WL_stepM rfl (R_pk_f rfl) ?_
  refine WL_nil ?_
  refine W_cond_f rfl ?_
  refine W_skip ?_
  refine W_seq ?_
  refine W_seq ?_
  refine W_region_l ?_
  refine WL_stepM rfl (R_as) ?_
  refine WL_nil ?_
  refine W_block ?_
  refine W_rounds 4 ?_
  refine W_seq ?_
  refine W_seq ?_
  refine W_region_l ?_
  refine WL_stepM rfl (R_mv) ?_
  refine WL_step rfl (R_lt_t rfl rfl (by omega)) ?_
  refine WL_nil ?_
  refine W_cond_t rfl ?_
  refine W_skip ?_
  refine W_seq ?_
  refine W_block ?_
  refine W_seq ?_
  refine W_region_l ?_
  refine WL_stepM rfl (R_mv) ?_
  refine WL_stepM rfl (R_mv) ?_
  refine WL_stepM rfl (R_mv) ?_
  refine WL_step rfl (R_indexAddrA (off' := 0) Try.underlying47 Try.sizeOf3 rfl rfl (by omega) (by omega) rfl) ?_
  refine WL_step rfl (R_load (v := I (0 + 256 * newPl.g : Nat)) Try.isAgg3 rfl (H.get (.there (.there (.there (.there (.there (.there (.there (.there (.there (.there (.there (.there .here))))))))))))) rfl) ?_
  refine WL_stepM rfl (R_mv) ?_
  refine WL_step rfl (R_len_slice Try.underlying22 rfl) ?_
  (refine WL_call rfl (R_call rfl Try.call22 rfl) (read_yes (xs := us) (p := 3) (k := ys.length) (place_to (j := 0) (i := 0) (z := 1) (k := ys.length) (at_ := 0) (lo := 0) (rlo := 3) (rn := 60) (p := 3) rfl (H.get (.there (.there (.there (.there (.there (.there (.there (.there (.there (.there (.there (.there (.there (.there .here))))))))))))))) (H.get (.there (.there (.there (.there (.there (.there (.there (.there (.there (.there (.there (.there (.there .here)))))))))))))) (Sp.from H (PB := [(p0, b0), (p1, b1), (p2, b2), (p3, b3)]) (ts := [ta, tb, (tc.set 0 ⟨zk, newPl.g + 1, false⟩), (td.set 0 ⟨zk, newPl.g + 1, false⟩)]) bs cap sp (inv4 hal hag hbl hbg (set_len hcl) (set_g hcg (show newPl.g + 1 ≤ 1000001 by decide)) (set_len hdl) (set_g hdg (show newPl.g + 1 ≤ 1000001 by decide))) (fun _ hp => List.mem_append_left _ hp)) rfl rfl ha0 (by decide) (by decide) (by decide) (by decide) (by decide) (by decide) (by decide) (by omega) (by omega)) (H.get (.there (.there (.there (.there (.there (.there (.there (.there (.there (.there (.there (.there (.there (.there .here))))))))))))))) (H.get (.there (.there (.there (.there (.there (.there (.there (.there (.there (.there .here))))))))))) (H.get (.there (.there (.there (.there (.there (.there (.there (.there (.there (.there (.there .here)))))))))))) hul (by decide) (by omega)) ?_; rintro _ w302 ⟨u2, M2, rfl, hO2, H1⟩; rw [hgy] at hO2; have h302 := H.seqO hO2 H1; clear H H1 hO2; obtain ⟨hO2, H⟩ := h302; obtain ⟨a2, c2, rfl⟩ := hO2.form)
  refine WL_stepM rfl (R_mv) ?_
  refine WL_step rfl (R_extract rfl rfl) ?_
  refine WL_step rfl (R_extract rfl rfl) ?_
  refine WL_stepM rfl (R_as) ?_
  refine WL_stepM rfl (R_as) ?_
  refine WL_nil ?_
  refine W_seq ?_
  refine W_seq ?_
  refine W_region_l ?_
  refine WL_stepM rfl (R_mv) ?_
  refine WL_stepM rfl (R_mv) ?_
  refine WL_step rfl (R_ge_f rfl rfl (by omega)) ?_
  refine WL_stepM rfl (R_mv) ?_
  refine WL_guard_f rfl rfl (by decide) ?_
  refine WL_guard_f rfl rfl (by decide) ?_
  refine WL_guard_f rfl rfl (by decide) ?_
  refine WL_guard_n rfl rfl ?_
  refine WL_guard_n rfl rfl ?_
  refine WL_guard_n rfl rfl ?_
  refine WL_guard_f rfl rfl (by decide) ?_
  refine WL_guard_f rfl rfl (by decide) ?_
  refine WL_guard_n rfl rfl ?_
  refine WL_guard_n rfl rfl ?_
  refine WL_guard_n rfl rfl ?_
  refine WL_guard_n rfl rfl ?_
  refine WL_guard_n rfl rfl ?_
  refine WL_guard_n rfl rfl ?_
  refine WL_guard_n rfl rfl ?_
  refine WL_guard_n rfl rfl ?_
  refine WL_guard_f rfl rfl (by decide) ?_
  refine WL_stepM rfl (R_pk_f rfl) ?_
  refine WL_nil ?_
  refine W_cond_f rfl ?_
  refine W_skip ?_
  refine W_seq ?_
  refine W_region_l ?_
  refine WL_stepM rfl (R_mv) ?_
  refine WL_stepM rfl (R_mv) ?_
  refine WL_step rfl (R_lt_t rfl rfl (by omega)) ?_
  refine WL_stepM rfl (R_mv) ?_
  refine WL_guard_t rfl rfl ?_
  refine WL_stepM rfl (R_mv) ?_
  refine WL_guard_t rfl rfl ?_
  refine WL_step rfl (R_ne_f rfl rfl (by omega)) ?_
  refine WL_guard_t rfl rfl ?_
  refine WL_stepM rfl (R_mv) ?_
  refine WL_guard_t rfl rfl ?_
  refine WL_stepM rfl (R_mv) ?_
  refine WL_guard_t rfl rfl ?_
  refine WL_step rfl (R_conv_bs (xs := ys) Try.underlying22 Try.underlying5 Try.underlying9 rfl (RdS.own hO2 (fun q hq => H.held q (by simp [hq])))) ?_
  refine WL_guard_t rfl rfl ?_
  refine WL_stepM rfl (R_mv) ?_
  refine WL_guard_t rfl rfl ?_
  refine WL_step rfl (R_conv_bs (xs := ys) Try.underlying22 Try.underlying5 Try.underlying9 rfl (hl.monoN H (by repeat' first | exact kNil | apply kCons | apply kApp | assumption | exact OwnS.keys (by assumption)))) ?_
  refine WL_guard_t rfl rfl ?_
  refine WL_step rfl (R_ne_S_f (xs := ys) (ys := ys) rfl rfl rfl) ?_
  refine WL_guard_t rfl rfl ?_
  refine WL_stepM rfl (R_pk_f rfl) ?_
  refine WL_stepM rfl (R_pk_t rfl) ?_
  refine WL_nil ?_
  refine W_cond_f rfl ?_
  refine W_skip ?_
  ((replace H := Hp.dropN (M := M2) H hO2.keys; clear hO2)) <;> refine W_region_l ?_
  refine WL_stepM rfl (R_mv) ?_
  refine WL_step rfl (R_add (r := 1) rfl rfl (by decide)) ?_
  refine WL_stepM rfl (R_as) ?_
  refine WL_nil ?_
  refine Rn_succ ?_
  refine W_seq ?_
  refine W_seq ?_
  refine W_region_l ?_
  refine WL_stepM rfl (R_mv) ?_
  refine WL_step rfl (R_lt_t rfl rfl (by omega)) ?_
  refine WL_nil ?_
  refine W_cond_t rfl ?_
  refine W_skip ?_
  refine W_seq ?_
  refine W_block ?_
  refine W_seq ?_
  refine W_region_l ?_
  refine WL_stepM rfl (R_mv) ?_
  refine WL_stepM rfl (R_mv) ?_
  refine WL_stepM rfl (R_mv) ?_
  refine WL_step rfl (R_indexAddrA (off' := 1) Try.underlying47 Try.sizeOf3 rfl rfl (by omega) (by omega) rfl) ?_
  refine WL_step rfl (R_load (v := I (0 + 256 * newPl.g : Nat)) Try.isAgg3 rfl (H.get (.there (.there (.there (.there (.there (.there (.there (.there (.there (.there (.there (.there .here))))))))))))) rfl) ?_
  refine WL_stepM rfl (R_mv) ?_
  refine WL_step rfl (R_len_slice Try.underlying22 rfl) ?_
  (refine WL_call rfl (R_call rfl Try.call22 rfl) (read_yes (xs := us) (p := 3) (k := ys.length) (place_to (j := 1) (i := 0) (z := 1) (k := ys.length) (at_ := 0) (lo := (0 + 0)) (rlo := 3) (rn := 60) (p := 3) rfl (H.get (.there (.there (.there (.there (.there (.there (.there (.there (.there (.there (.there (.there (.there (.there .here))))))))))))))) (H.get (.there (.there (.there (.there (.there (.there (.there (.there (.there (.there (.there (.there (.there .here)))))))))))))) (Sp.from H (PB := [(p0, b0), (p1, b1), (p2, b2), (p3, b3)]) (ts := [ta, tb, (tc.set 0 ⟨zk, newPl.g + 1, false⟩), (td.set 0 ⟨zk, newPl.g + 1, false⟩)]) bs cap sp (inv4 hal hag hbl hbg (set_len hcl) (set_g hcg (show newPl.g + 1 ≤ 1000001 by decide)) (set_len hdl) (set_g hdg (show newPl.g + 1 ≤ 1000001 by decide))) (fun _ hp => List.mem_append_left _ hp)) rfl rfl hb0 (by decide) (by decide) (by decide) (by decide) (by decide) (by decide) (by decide) (by omega) (by omega)) (H.get (.there (.there (.there (.there (.there (.there (.there (.there (.there (.there (.there (.there (.there (.there .here))))))))))))))) (H.get (.there (.there (.there (.there (.there (.there (.there (.there (.there (.there .here))))))))))) (H.get (.there (.there (.there (.there (.there (.there (.there (.there (.there (.there (.there .here)))))))))))) hul (by decide) (by omega)) ?_; rintro _ w390 ⟨u2, M2, rfl, hO2, H1⟩; rw [hgy] at hO2; have h390 := H.seqO hO2 H1; clear H H1 hO2; obtain ⟨hO2, H⟩ := h390; obtain ⟨a2, c2, rfl⟩ := hO2.form)
  refine WL_stepM rfl (R_mv) ?_
  refine WL_step rfl (R_extract rfl rfl) ?_
  refine WL_step rfl (R_extract rfl rfl) ?_
  refine WL_stepM rfl (R_as) ?_
  refine WL_stepM rfl (R_as) ?_
  refine WL_nil ?_
  refine W_seq ?_
  refine W_seq ?_
  refine W_region_l ?_
  refine WL_stepM rfl (R_mv) ?_
  refine WL_stepM rfl (R_mv) ?_
  refine WL_step rfl (R_ge_f rfl rfl (by omega)) ?_
  refine WL_stepM rfl (R_mv) ?_
  refine WL_guard_f rfl rfl (by decide) ?_
  refine WL_guard_f rfl rfl (by decide) ?_
  refine WL_guard_f rfl rfl (by decide) ?_
  refine WL_guard_n rfl rfl ?_
  refine WL_guard_n rfl rfl ?_
  refine WL_guard_n rfl rfl ?_
  refine WL_guard_f rfl rfl (by decide) ?_
  refine WL_guard_f rfl rfl (by decide) ?_
  refine WL_guard_n rfl rfl ?_
  refine WL_guard_n rfl rfl ?_
  refine WL_guard_n rfl rfl ?_
  refine WL_guard_n rfl rfl ?_
  refine WL_guard_n rfl rfl ?_
  refine WL_guard_n rfl rfl ?_
  refine WL_guard_n rfl rfl ?_
  refine WL_guard_n rfl rfl ?_
  refine WL_guard_f rfl rfl (by decide) ?_
  refine WL_stepM rfl (R_pk_f rfl) ?_
  refine WL_nil ?_
  refine W_cond_f rfl ?_
  refine W_skip ?_
  refine W_seq ?_
  refine W_region_l ?_
  refine WL_stepM rfl (R_mv) ?_
  refine WL_stepM rfl (R_mv) ?_
  refine WL_step rfl (R_lt_t rfl rfl (by omega)) ?_
  refine WL_stepM rfl (R_mv) ?_
  refine WL_guard_t rfl rfl ?_
  refine WL_stepM rfl (R_mv) ?_
  refine WL_guard_t rfl rfl ?_
  refine WL_step rfl (R_ne_f rfl rfl (by omega)) ?_
  refine WL_guard_t rfl rfl ?_
  refine WL_stepM rfl (R_mv) ?_
  refine WL_guard_t rfl rfl ?_
  refine WL_stepM rfl (R_mv) ?_
  refine WL_guard_t rfl rfl ?_
  refine WL_step rfl (R_conv_bs (xs := ys) Try.underlying22 Try.underlying5 Try.underlying9 rfl (RdS.own hO2 (fun q hq => H.held q (by simp [hq])))) ?_
  refine WL_guard_t rfl rfl ?_
  refine WL_stepM rfl (R_mv) ?_
  refine WL_guard_t rfl rfl ?_
  refine WL_step rfl (R_conv_bs (xs := ys) Try.underlying22 Try.underlying5 Try.underlying9 rfl (hl.monoN H (by repeat' first | exact kNil | apply kCons | apply kApp | assumption | exact OwnS.keys (by assumption)))) ?_
  refine WL_guard_t rfl rfl ?_
  refine WL_step rfl (R_ne_S_f (xs := ys) (ys := ys) rfl rfl rfl) ?_
  refine WL_guard_t rfl rfl ?_
  refine WL_stepM rfl (R_pk_f rfl) ?_
  refine WL_stepM rfl (R_pk_t rfl) ?_
  refine WL_nil ?_
  refine W_cond_f rfl ?_
  refine W_skip ?_
  ((replace H := Hp.dropN (M := M2) H hO2.keys; clear hO2)) <;> refine W_region_l ?_
  refine WL_stepM rfl (R_mv) ?_
  refine WL_step rfl (R_add (r := 2) rfl rfl (by decide)) ?_
  refine WL_stepM rfl (R_as) ?_
  refine WL_nil ?_
  refine Rn_succ ?_
  refine W_seq ?_
  refine W_seq ?_
  refine W_region_l ?_
  refine WL_stepM rfl (R_mv) ?_
  refine WL_step rfl (R_lt_t rfl rfl (by omega)) ?_
  refine WL_nil ?_
  refine W_cond_t rfl ?_
  refine W_skip ?_
  refine W_seq ?_
  refine W_block ?_
  refine W_seq ?_
  refine W_region_l ?_
  refine WL_stepM rfl (R_mv) ?_
  refine WL_stepM rfl (R_mv) ?_
  refine WL_stepM rfl (R_mv) ?_
  refine WL_step rfl (R_indexAddrA (off' := 2) Try.underlying47 Try.sizeOf3 rfl rfl (by omega) (by omega) rfl) ?_
  refine WL_step rfl (R_load (v := I (0 + 256 * newPl.g : Nat)) Try.isAgg3 rfl (H.get (.there (.there (.there (.there (.there (.there (.there (.there (.there (.there (.there (.there .here))))))))))))) rfl) ?_
  refine WL_stepM rfl (R_mv) ?_
  refine WL_step rfl (R_len_slice Try.underlying22 rfl) ?_
  (refine WL_call rfl (R_call rfl Try.call22 rfl) (read_no (e := 2) (place_cap (j := 2) (H.get (.there (.there (.there (.there (.there (.there (.there (.there (.there (.there (.there (.there (.there (.there .here))))))))))))))) (Sp.from H (PB := [(p0, b0), (p1, b1), (p2, b2), (p3, b3)]) (ts := [ta, tb, (tc.set 0 ⟨zk, newPl.g + 1, false⟩), (td.set 0 ⟨zk, newPl.g + 1, false⟩)]) bs cap sp (inv4 hal hag hbl hbg (set_len hcl) (set_g hcg (show newPl.g + 1 ≤ 1000001 by decide)) (set_len hdl) (set_g hdg (show newPl.g + 1 ≤ 1000001 by decide))) (fun _ hp => List.mem_append_left _ hp)) rfl rfl (fun i a h hu => by rw [← htc] at h; exact drop_all rfl i a h hu _)) (by decide)) ?_; rintro _ w478 ⟨rfl, H1⟩; replace H := H.seq0 H1; clear H1)
  refine WL_stepM rfl (R_mv) ?_
  refine WL_step rfl (R_extract rfl rfl) ?_
  refine WL_step rfl (R_extract rfl rfl) ?_
  refine WL_stepM rfl (R_as) ?_
  refine WL_stepM rfl (R_as) ?_
  refine WL_nil ?_
  refine W_seq ?_
  refine W_seq ?_
  refine W_region_l ?_
  refine WL_stepM rfl (R_mv) ?_
  refine WL_stepM rfl (R_mv) ?_
  refine WL_step rfl (R_ge_t rfl rfl (by omega)) ?_
  refine WL_stepM rfl (R_mv) ?_
  refine WL_guard_t rfl rfl ?_
  refine WL_stepM rfl (R_mv) ?_
  refine WL_guard_t rfl rfl ?_
  refine WL_step rfl (R_ne_f rfl rfl (by omega)) ?_
  refine WL_guard_t rfl rfl ?_
  refine WL_stepM rfl (R_mv) ?_
  refine WL_guard_t rfl rfl ?_
  refine WL_stepM rfl (R_mv) ?_
  refine WL_guard_t rfl rfl ?_
  refine WL_step rfl (R_len_slice Try.underlying22 rfl) ?_
  refine WL_guard_t rfl rfl ?_
  refine WL_step rfl (R_ne_f rfl rfl (by omega)) ?_
  refine WL_guard_t rfl rfl ?_
  refine WL_stepM rfl (R_pk_f rfl) ?_
  refine WL_guard_t rfl rfl ?_
  refine WL_stepM rfl (R_mv) ?_
  refine WL_guard_t rfl rfl ?_
  refine WL_stepM rfl (R_mv) ?_
  refine WL_guard_t rfl rfl ?_
  refine WL_stepM rfl (R_mv) ?_
  refine WL_guard_t rfl rfl ?_
  refine WL_stepM rfl (R_mv) ?_
  refine WL_guard_t rfl rfl ?_
  refine WL_step rfl (R_indexAddrA (off' := 2) Try.underlying47 Try.sizeOf3 rfl rfl (by omega) (by omega) rfl) ?_
  refine WL_guard_t rfl rfl ?_
  refine WL_step rfl (R_load (v := I (0 + 256 * newPl.g : Nat)) Try.isAgg3 rfl (H.get (.there (.there (.there (.there (.there (.there (.there (.there (.there (.there (.there (.there .here))))))))))))) rfl) ?_
  refine WL_guard_t rfl rfl ?_
  (refine WL_effn rfl (E_buildOnes (vs := [(.int _ _)]) H Try.underlying22 Try.sizeOf5 Try.zeroValue5 rfl rfl (by decide) rfl rfl (by simp [Value.oneCell'])) ?_; clear H; intro b519 w519 hb519 H)
  refine WL_guard_t rfl rfl ?_
  (refine WL_call rfl (R_call rfl Try.call20 rfl) (write_noU (e := 2) (ys := [1]) (RdS.blk (c := [U 1]) (off := 0) (m := 1) (cap := 1) (H.get .here) (by rfl) (by decide) (by decide)) (by decide) (place_cap (j := 2) (k := (1 : Nat)) (H.get (.there (.there (.there (.there (.there (.there (.there (.there (.there (.there (.there (.there (.there (.there (.there .here)))))))))))))))) (Sp.from H (PB := [(p0, b0), (p1, b1), (p2, b2), (p3, b3)]) (ts := [ta, tb, (tc.set 0 ⟨zk, newPl.g + 1, false⟩), (td.set 0 ⟨zk, newPl.g + 1, false⟩)]) bs cap sp (inv4 hal hag hbl hbg (set_len hcl) (set_g hcg (show newPl.g + 1 ≤ 1000001 by decide)) (set_len hdl) (set_g hdg (show newPl.g + 1 ≤ 1000001 by decide))) (fun _ hp => .tail _ (List.mem_append_left _ hp))) rfl rfl (fun i a h hu => by rw [← htc] at h; exact drop_all rfl i a h hu _)) (by decide)) ?_; rintro _ w521 ⟨rfl, H1⟩; replace H := H.seq0 H1; clear H1; replace H := H.pop (by assumption))
  refine WL_guard_t rfl rfl ?_
  refine WL_step rfl (R_ne_f rfl rfl (by omega)) ?_
  refine WL_guard_t rfl rfl ?_
  refine WL_stepM rfl (R_pk_f rfl) ?_
  refine WL_stepM rfl (R_pk_t rfl) ?_
  refine WL_nil ?_
  refine W_cond_f rfl ?_
  refine W_skip ?_
  refine W_seq ?_
  refine W_region_l ?_
  refine WL_stepM rfl (R_mv) ?_
  refine WL_stepM rfl (R_mv) ?_
  refine WL_step rfl (R_lt_f rfl rfl (by omega)) ?_
  refine WL_stepM rfl (R_mv) ?_
  refine WL_guard_f rfl rfl (by decide) ?_
  refine WL_guard_f rfl rfl (by decide) ?_
  refine WL_guard_f rfl rfl (by decide) ?_
  refine WL_guard_n rfl rfl ?_
  refine WL_guard_n rfl rfl ?_
  refine WL_guard_n rfl rfl ?_
  refine WL_guard_n rfl rfl ?_
  refine WL_guard_n rfl rfl ?_
  refine WL_guard_f rfl rfl (by decide) ?_
  refine WL_stepM rfl (R_pk_f rfl) ?_
  refine WL_nil ?_
  refine W_cond_f rfl ?_
  refine W_skip ?_
  (skip) <;> refine W_region_l ?_
  refine WL_stepM rfl (R_mv) ?_
  refine WL_step rfl (R_add (r := 3) rfl rfl (by decide)) ?_
  refine WL_stepM rfl (R_as) ?_
  refine WL_nil ?_
  refine Rn_succ ?_
  refine W_seq ?_
  refine W_seq ?_
  refine W_region_l ?_
  refine WL_stepM rfl (R_mv) ?_
  refine WL_step rfl (R_lt_t rfl rfl (by omega)) ?_
  refine WL_nil ?_
  refine W_cond_t rfl ?_
  refine W_skip ?_
  refine W_seq ?_
  refine W_block ?_
  refine W_seq ?_
  refine W_region_l ?_
  refine WL_stepM rfl (R_mv) ?_
  refine WL_stepM rfl (R_mv) ?_
  refine WL_stepM rfl (R_mv) ?_
  refine WL_step rfl (R_indexAddrA (off' := 3) Try.underlying47 Try.sizeOf3 rfl rfl (by omega) (by omega) rfl) ?_
  refine WL_step rfl (R_load (v := I (0 + 256 * newPl.g : Nat)) Try.isAgg3 rfl (H.get (.there (.there (.there (.there (.there (.there (.there (.there (.there (.there (.there (.there .here))))))))))))) rfl) ?_
  refine WL_stepM rfl (R_mv) ?_
  refine WL_step rfl (R_len_slice Try.underlying22 rfl) ?_
  (refine WL_call rfl (R_call rfl Try.call22 rfl) (read_no (e := 2) (place_cap (j := 3) (H.get (.there (.there (.there (.there (.there (.there (.there (.there (.there (.there (.there (.there (.there (.there .here))))))))))))))) (Sp.from H (PB := [(p0, b0), (p1, b1), (p2, b2), (p3, b3)]) (ts := [ta, tb, (tc.set 0 ⟨zk, newPl.g + 1, false⟩), (td.set 0 ⟨zk, newPl.g + 1, false⟩)]) bs cap sp (inv4 hal hag hbl hbg (set_len hcl) (set_g hcg (show newPl.g + 1 ≤ 1000001 by decide)) (set_len hdl) (set_g hdg (show newPl.g + 1 ≤ 1000001 by decide))) (fun _ hp => List.mem_append_left _ hp)) rfl rfl (fun i a h hu => by rw [← htd] at h; exact drop_all rfl i a h hu _)) (by decide)) ?_; rintro _ w574 ⟨rfl, H1⟩; replace H := H.seq0 H1; clear H1)
  refine WL_stepM rfl (R_mv) ?_
  refine WL_step rfl (R_extract rfl rfl) ?_
  refine WL_step rfl (R_extract rfl rfl) ?_
  refine WL_stepM rfl (R_as) ?_
  refine WL_stepM rfl (R_as) ?_
  refine WL_nil ?_
  refine W_seq ?_
  refine W_seq ?_
  refine W_region_l ?_
  refine WL_stepM rfl (R_mv) ?_
  refine WL_stepM rfl (R_mv) ?_
  refine WL_step rfl (R_ge_t rfl rfl (by omega)) ?_
  refine WL_stepM rfl (R_mv) ?_
  refine WL_guard_t rfl rfl ?_
  refine WL_stepM rfl (R_mv) ?_
  refine WL_guard_t rfl rfl ?_
  refine WL_step rfl (R_ne_f rfl rfl (by omega)) ?_
  refine WL_guard_t rfl rfl ?_
  refine WL_stepM rfl (R_mv) ?_
  refine WL_guard_t rfl rfl ?_
  refine WL_stepM rfl (R_mv) ?_
  refine WL_guard_t rfl rfl ?_
  refine WL_step rfl (R_len_slice Try.underlying22 rfl) ?_
  refine WL_guard_t rfl rfl ?_
  refine WL_step rfl (R_ne_f rfl rfl (by omega)) ?_
  refine WL_guard_t rfl rfl ?_
  refine WL_stepM rfl (R_pk_f rfl) ?_
  refine WL_guard_t rfl rfl ?_
  refine WL_stepM rfl (R_mv) ?_
  refine WL_guard_t rfl rfl ?_
  refine WL_stepM rfl (R_mv) ?_
  refine WL_guard_t rfl rfl ?_
  refine WL_stepM rfl (R_mv) ?_
  refine WL_guard_t rfl rfl ?_
  refine WL_stepM rfl (R_mv) ?_
  refine WL_guard_t rfl rfl ?_
  refine WL_step rfl (R_indexAddrA (off' := 3) Try.underlying47 Try.sizeOf3 rfl rfl (by omega) (by omega) rfl) ?_
  refine WL_guard_t rfl rfl ?_
  refine WL_step rfl (R_load (v := I (0 + 256 * newPl.g : Nat)) Try.isAgg3 rfl (H.get (.there (.there (.there (.there (.there (.there (.there (.there (.there (.there (.there (.there .here))))))))))))) rfl) ?_
  refine WL_guard_t rfl rfl ?_
  (refine WL_effn rfl (E_buildOnes (vs := [(.int _ _)]) H Try.underlying22 Try.sizeOf5 Try.zeroValue5 rfl rfl (by decide) rfl rfl (by simp [Value.oneCell'])) ?_; clear H; intro b615 w615 hb615 H)
  refine WL_guard_t rfl rfl ?_
  (refine WL_call rfl (R_call rfl Try.call20 rfl) (write_noU (e := 2) (ys := [1]) (RdS.blk (c := [U 1]) (off := 0) (m := 1) (cap := 1) (H.get .here) (by rfl) (by decide) (by decide)) (by decide) (place_cap (j := 3) (k := (1 : Nat)) (H.get (.there (.there (.there (.there (.there (.there (.there (.there (.there (.there (.there (.there (.there (.there (.there .here)))))))))))))))) (Sp.from H (PB := [(p0, b0), (p1, b1), (p2, b2), (p3, b3)]) (ts := [ta, tb, (tc.set 0 ⟨zk, newPl.g + 1, false⟩), (td.set 0 ⟨zk, newPl.g + 1, false⟩)]) bs cap sp (inv4 hal hag hbl hbg (set_len hcl) (set_g hcg (show newPl.g + 1 ≤ 1000001 by decide)) (set_len hdl) (set_g hdg (show newPl.g + 1 ≤ 1000001 by decide))) (fun _ hp => .tail _ (List.mem_append_left _ hp))) rfl rfl (fun i a h hu => by rw [← htd] at h; exact drop_all rfl i a h hu _)) (by decide)) ?_; rintro _ w617 ⟨rfl, H1⟩; replace H := H.seq0 H1; clear H1; replace H := H.pop (by assumption))
  refine WL_guard_t rfl rfl ?_
  refine WL_step rfl (R_ne_f rfl rfl (by omega)) ?_
  refine WL_guard_t rfl rfl ?_
  refine WL_stepM rfl (R_pk_f rfl) ?_
  refine WL_stepM rfl (R_pk_t rfl) ?_
  refine WL_nil ?_
  refine W_cond_f rfl ?_
  refine W_skip ?_
  refine W_seq ?_
  refine W_region_l ?_
  refine WL_stepM rfl (R_mv) ?_
  refine WL_stepM rfl (R_mv) ?_
  refine WL_step rfl (R_lt_f rfl rfl (by omega)) ?_
  refine WL_stepM rfl (R_mv) ?_
  refine WL_guard_f rfl rfl (by decide) ?_
  refine WL_guard_f rfl rfl (by decide) ?_
  refine WL_guard_f rfl rfl (by decide) ?_
  refine WL_guard_n rfl rfl ?_
  refine WL_guard_n rfl rfl ?_
  refine WL_guard_n rfl rfl ?_
  refine WL_guard_n rfl rfl ?_
  refine WL_guard_n rfl rfl ?_
  refine WL_guard_f rfl rfl (by decide) ?_
  refine WL_stepM rfl (R_pk_f rfl) ?_
  refine WL_nil ?_
  refine W_cond_f rfl ?_
  refine W_skip ?_
  (skip) <;> refine W_region_l ?_
  refine WL_stepM rfl (R_mv) ?_
  refine WL_step rfl (R_add (r := 4) rfl rfl (by decide)) ?_
  refine WL_stepM rfl (R_as) ?_
  refine WL_nil ?_
  refine Rn_succ ?_
  refine W_seq ?_
  refine W_seq ?_
  refine W_region_l ?_
  refine WL_stepM rfl (R_mv) ?_
  refine WL_step rfl (R_lt_f rfl rfl (by omega)) ?_
  refine WL_nil ?_
  refine W_cond_f rfl ?_
  refine W_exit ?_
  refine (if_pos rfl).mpr ?_
  refine W_seq ?_
  refine W_region_l ?_
  refine WL_stepM rfl (R_mv) ?_
  refine WL_stepM rfl (R_mv) ?_
  refine WL_step rfl (R_len_slice Try.underlying22 rfl) ?_
  (refine WL_call rfl (R_call rfl Try.call21 rfl) (Mem.load_yes (xs := us) 3 ys.length (H.get (.there (.there (.there (.there (.there (.there (.there (.there (.there (.there .here))))))))))) (H.get (.there (.there (.there (.there (.there (.there (.there (.there (.there (.there (.there .here)))))))))))) hul (by omega) (by omega)) ?_; rintro _ w665 ⟨u3, M3, rfl, hO3, H1⟩; rw [hgy] at hO3; have h665 := H.seqO hO3 H1; clear H H1 hO3; obtain ⟨hO3, H⟩ := h665; obtain ⟨a3, c3, rfl⟩ := hO3.form)
  refine WL_stepM rfl (R_mv) ?_
  refine WL_step rfl (R_extract rfl rfl) ?_
  refine WL_step rfl (R_extract rfl rfl) ?_
  refine WL_stepM rfl (R_as) ?_
  refine WL_stepM rfl (R_as) ?_
  refine WL_nil ?_
  refine W_seq ?_
  refine W_region_l ?_
  refine WL_stepM rfl (R_mv) ?_
  refine WL_step rfl (R_eq_t rfl rfl (by omega)) ?_
  refine WL_stepM rfl (R_mv) ?_
  refine WL_guard_t rfl rfl ?_
  refine WL_stepM rfl (R_mv) ?_
  refine WL_guard_t rfl rfl ?_
  refine WL_step rfl (R_conv_bs (xs := ys) Try.underlying22 Try.underlying5 Try.underlying9 rfl (RdS.own hO3 (fun q hq => H.held q (by simp [hq])))) ?_
  refine WL_guard_t rfl rfl ?_
  refine WL_stepM rfl (R_mv) ?_
  refine WL_guard_t rfl rfl ?_
  refine WL_step rfl (R_conv_bs (xs := ys) Try.underlying22 Try.underlying5 Try.underlying9 rfl (hl.monoN H (by repeat' first | exact kNil | apply kCons | apply kApp | assumption | exact OwnS.keys (by assumption)))) ?_
  refine WL_guard_t rfl rfl ?_
  refine WL_step rfl (R_eq_S_t (xs := ys) (ys := ys) rfl rfl rfl) ?_
  refine WL_stepM rfl (R_pk_t rfl) ?_
  refine WL_stepM rfl (R_mv) ?_
  refine WL_guard_t rfl rfl ?_
  (refine WL_call rfl (R_call rfl Try.call15 rfl) (awake_ret _) ?_; rintro _ w690 ⟨rfl, H1⟩; replace H := H.seq0 H1; clear H1)
  refine WL_stepM rfl (R_pk_t rfl) ?_
  refine WL_stepM rfl (R_as) ?_
  refine WL_nil ?_
  refine W_ret ?_
  exact ⟨_, rfl, rfl, H.none (by repeat' first | exact kNil | apply kCons | apply kApp | assumption | exact OwnS.keys (by assumption))⟩

theorem gone_3 {w : World} {ys : List UInt8} {l : Value} {at_ : Int} (hl : RdS w l (ys.map U)) (hy : ys.length ≤ 60) (hV : at_ % 4 = 3) :
    Ret Try.prog 5 #[l, I at_] w fun v w' => v = .bool true ∧ Hp w [] w' := by
  refine Ret_of_W (args := [_, _]) Try.func5 rfl Try.ntmps5 Try.results5 (by simp) ?_
  have H := Hp.refl w
  obtain ⟨ao, ca0, rfl⟩ := hl.form
  simp only [List.length_map] at hl ⊢
  obtain ⟨ta, hta, hal, hag, ha0⟩ := tset t0_len t0_g (i := 0) (by decide) ⟨cp 0 (7 : Nat) 0 60 0 0, newPl.g, true⟩ (show newPl.g ≤ 1000001 by decide)
  have hna : namesFrom 0 ta = [((0 + 256 * newPl.g : Nat) : Int)] := by rw [← hta]; rfl
  obtain ⟨tb, htb, hbl, hbg, hb0⟩ := tset t0_len t0_g (i := 0) (by decide) ⟨cp 0 7 (0 + 0) 60 (0 : Nat) (0 + 256 * newPl.g : Nat), newPl.g, true⟩ (show newPl.g ≤ 1000001 by decide)
  have hnb : namesFrom 0 tb = [((0 + 256 * newPl.g : Nat) : Int)] := by rw [← htb]; rfl
  obtain ⟨tc, htc, hcl, hcg, hc0⟩ := tset t0_len t0_g (i := 0) (by decide) ⟨cp 0 7 ((0 + 0) + 0) 60 (1 : Nat) (0 + 256 * newPl.g : Nat), newPl.g, true⟩ (show newPl.g ≤ 1000001 by decide)
  have hnc : namesFrom 0 tc = [((0 + 256 * newPl.g : Nat) : Int)] := by rw [← htc]; rfl
  obtain ⟨td, htd, hdl, hdg, hd0⟩ := tset t0_len t0_g (i := 0) (by decide) ⟨cp 0 7 (((0 + 0) + 0) + 0) 60 (2 : Nat) (0 + 256 * newPl.g : Nat), newPl.g, true⟩ (show newPl.g ≤ 1000001 by decide)
  have hnd : namesFrom 0 td = [((0 + 256 * newPl.g : Nat) : Int)] := by rw [← htd]; rfl
  obtain ⟨zs, hzs, hzl⟩ : ∃ zs : List UInt8, zs = List.replicate 128 0 ∧ zs.length = 128 := ⟨_, rfl, by simp⟩
  obtain ⟨us, hus, hul⟩ : ∃ us : List UInt8, us = Mem.put zs ys 3 ∧ us.length = 128 := ⟨_, rfl, by rw [Mem.put_length (by omega)]; exact hzl⟩
  have hgy : (us.drop 3).take ys.length = ys := by rw [hus]; exact put_back (by omega)
  refine W_seq ?_
  refine W_region_l ?_
  refine WL_stepM rfl (R_as) ?_
  refine WL_nil ?_
  refine W_seq ?_
  refine W_region_l ?_
  (refine WL_call rfl (R_call rfl Try.call12 rfl) (Mem.new_ret 2 _) ?_; rintro _ w7 ⟨m, mb, rfl, H1, hm, hmb⟩; rw [show Mem.szOf 2 = 128 from rfl, ← Mem.zmap, ← hzs] at H1; replace H := H.seqN H1 (kCons hm (kCons hmb kNil)); replace H : Hp w [(m, blk [sl mb 0 128 128] 87), (mb, blk (zs.map U) 5)] w7 := H; clear H1)
  (refine WL_call rfl (R_call rfl Try.call13 rfl) (Caps.new_ret (E := 4) (by decide) (by decide) _) ?_; rintro _ w8 ⟨s, bs, cap, sp, PB, rfl, hPl, hs, hbs, hPB, H1⟩; obtain ⟨p0, b0, p1, b1, p2, b2, p3, b3, rfl⟩ := four hPl; have hsz := H.size; replace H := H.seqN H1 (spB_keys hs hbs hPB); clear H1; obtain ⟨hp0, hb0'⟩ := hPB (p0, b0) (.head _); obtain ⟨hp1, hb1'⟩ := hPB (p1, b1) (.tail _ (.head _)); obtain ⟨hp2, hb2'⟩ := hPB (p2, b2) (.tail _ (.tail _ (.head _))); obtain ⟨hp3, hb3'⟩ := hPB (p3, b3) (.tail _ (.tail _ (.tail _ (.head _)))); replace hs := Nat.le_trans hsz hs; replace hbs := Nat.le_trans hsz hbs; replace hp0 : w.heap.size ≤ p0 := Nat.le_trans hsz hp0; replace hb0' : w.heap.size ≤ b0 := Nat.le_trans hsz hb0'; replace hp1 : w.heap.size ≤ p1 := Nat.le_trans hsz hp1; replace hb1' : w.heap.size ≤ b1 := Nat.le_trans hsz hb1'; replace hp2 : w.heap.size ≤ p2 := Nat.le_trans hsz hp2; replace hb2' : w.heap.size ≤ b2 := Nat.le_trans hsz hb2'; replace hp3 : w.heap.size ≤ p3 := Nat.le_trans hsz hp3; replace hb3' : w.heap.size ≤ b3 := Nat.le_trans hsz hb3'; clear hPB hPl hsz; replace H : Hp w [(s, blk [sl bs 0 4 cap] 90), (bs, blk (ptrs [(p0, b0), (p1, b1), (p2, b2), (p3, b3)] ++ sp) 91), (p0, blk [sl b0 0 32 32] 135), (b0, blk (rows plc t0) 137), (p1, blk [sl b1 0 32 32] 135), (b1, blk (rows plc t0) 137), (p2, blk [sl b2 0 32 32] 135), (b2, blk (rows plc t0) 137), (p3, blk [sl b3 0 32 32] 135), (b3, blk (rows plc t0) 137), (m, blk [sl mb 0 128 128] 87), (mb, blk (zs.map U) 5)] w8 := H)
  refine WL_stepM rfl (R_as) ?_
  refine WL_stepM rfl (R_as) ?_
  refine WL_nil ?_
  refine W_seq ?_
  refine W_region_l ?_
  refine WL_stepM rfl (R_mv) ?_
  refine WL_stepM rfl (R_mv) ?_
  (refine WL_call rfl (R_call rfl Try.call14 rfl) (new_ret m s _) ?_; rintro _ w16 ⟨rr, rfl, hrr, H1⟩; have hsz := H.size; replace H := H.seqN H1 (kCons hrr kNil); clear H1; replace hrr := Nat.le_trans hsz hrr; clear hsz; replace H : Hp w ((rr, blk [ptr m 0, ptr s 0, nilS] 95) :: [(s, blk [sl bs 0 4 cap] 90), (bs, blk (ptrs [(p0, b0), (p1, b1), (p2, b2), (p3, b3)] ++ sp) 91), (p0, blk [sl b0 0 32 32] 135), (b0, blk (rows plc t0) 137), (p1, blk [sl b1 0 32 32] 135), (b1, blk (rows plc t0) 137), (p2, blk [sl b2 0 32 32] 135), (b2, blk (rows plc t0) 137), (p3, blk [sl b3 0 32 32] 135), (b3, blk (rows plc t0) 137), (m, blk [sl mb 0 128 128] 87), (mb, blk (zs.map U) 5)]) w16 := H)
  refine WL_stepM rfl (R_as) ?_
  refine WL_nil ?_
  refine W_seq ?_
  refine W_seq ?_
  refine W_region_l ?_
  refine WL_stepM rfl (R_mv) ?_
  refine WL_step rfl (R_eq_ptr_nil Try.underlying23 rfl rfl) ?_
  refine WL_stepM rfl (R_mv) ?_
  refine WL_guard_t rfl rfl ?_
  refine WL_stepM rfl (R_mv) ?_
  refine WL_guard_t rfl rfl ?_
  refine WL_step rfl (R_eq_ptr_nil Try.underlying25 rfl rfl) ?_
  refine WL_stepM rfl (R_pk_f rfl) ?_
  refine WL_stepM rfl (R_mv) ?_
  refine WL_guard_t rfl rfl ?_
  refine WL_stepM rfl (R_mv) ?_
  refine WL_guard_t rfl rfl ?_
  refine WL_step rfl (R_eq_ptr_nil Try.underlying27 rfl rfl) ?_
  refine WL_stepM rfl (R_pk_f rfl) ?_
  refine WL_stepM rfl (R_mv) ?_
  refine WL_guard_t rfl rfl ?_
  refine WL_stepM rfl (R_mv) ?_
  refine WL_guard_t rfl rfl ?_
  refine WL_step rfl (R_len_slice Try.underlying22 rfl) ?_
  refine WL_guard_t rfl rfl ?_
  refine WL_step rfl (R_gt_f rfl rfl (by omega)) ?_
  refine WL_stepM rfl (R_pk_f rfl) ?_
  refine WL_nil ?_
  refine W_cond_f rfl ?_
  refine W_skip ?_
  refine W_seq ?_
  refine W_region_l ?_
  refine WL_stepM rfl (R_mv) ?_
  (refine WL_call rfl (R_call rfl Try.call17 rfl) (add_ret (xs := zs) (H.get .here) (H.get (.there (.there (.there (.there (.there (.there (.there (.there (.there (.there (.there .here)))))))))))) hzl (by decide) (lo := 3) (n := 60) (by decide) (by decide) (by decide)) ?_; rintro _ w50 ⟨a, ca, sp2, rfl, ha, H1⟩; have hsz := H.size; replace H := H.seq H1 (okSeq_set .here (okSeq_new ha okSeq_nil)); clear H1; replace ha := Nat.le_trans hsz ha; clear hsz)
  refine WL_stepM rfl (R_mv) ?_
  refine WL_step rfl (R_extract rfl rfl) ?_
  refine WL_step rfl (R_extract rfl rfl) ?_
  refine WL_stepM rfl (R_as) ?_
  refine WL_stepM rfl (R_as) ?_
  refine WL_nil ?_
  refine W_seq ?_
  refine W_region_l ?_
  (refine WL_effn rfl (E_alloc (vs := [I 0, I 0, I 0, I 0]) H Try.zeroValue47 rfl) ?_; clear H; intro nmb w59 hnmb H; replace H : Hp w ((s, blk [sl bs 0 4 cap] 90) :: (bs, blk (ptrs [(p0, b0), (p1, b1), (p2, b2), (p3, b3)] ++ sp) 91) :: (p0, blk [sl b0 0 32 32] 135) :: (b0, blk (rows plc t0) 137) :: (p1, blk [sl b1 0 32 32] 135) :: (b1, blk (rows plc t0) 137) :: (p2, blk [sl b2 0 32 32] 135) :: (b2, blk (rows plc t0) 137) :: (p3, blk [sl b3 0 32 32] 135) :: (b3, blk (rows plc t0) 137) :: [(m, blk [sl mb 0 128 128] 87), (mb, blk (zs.map U) 5), (nmb, blk [I 0, I 0, I 0, I 0] 47), (a, blk ([I 3, I 60] ++ sp2) 98), (rr, blk [ptr m 0, ptr s 0, sl a 0 1 ca] 95)]) w59 := H.perm (List.perm_append_comm (l₁ := [_, _, _]) (l₂ := [(s, blk [sl bs 0 4 cap] 90), (bs, blk (ptrs [(p0, b0), (p1, b1), (p2, b2), (p3, b3)] ++ sp) 91), (p0, blk [sl b0 0 32 32] 135), (b0, blk (rows plc t0) 137), (p1, blk [sl b1 0 32 32] 135), (b1, blk (rows plc t0) 137), (p2, blk [sl b2 0 32 32] 135), (b2, blk (rows plc t0) 137), (p3, blk [sl b3 0 32 32] 135), (b3, blk (rows plc t0) 137), (m, blk [sl mb 0 128 128] 87), (mb, blk (zs.map U) 5)])))
  refine WL_nil ?_
  refine W_seq ?_
  refine W_region_l ?_
  refine WL_stepM rfl (R_mv) ?_
  refine WL_stepM rfl (R_mv) ?_
  refine WL_step rfl (R_buildL (places := [(0, 1), (1, 1), (2, 1), (3, 1), (4, 2)]) (vs := (cp 0 (7 : Nat) 0 60 0 0).c) Try.underlying38 Try.typeInfo38 rfl rfl (by kernel_rfl) rfl rfl rfl) ?_
  (refine WL_call rfl (R_call rfl Try.call18 rfl) (put_yes (j := 0) (i := 0) (r := 7) (o := 0) (lo := 0) (n := 60) (re := 0) (rn := 0) (Sp.from H (PB := [(p0, b0), (p1, b1), (p2, b2), (p3, b3)]) (ts := [t0, t0, t0, t0]) bs cap sp (inv4 t0_len t0_g t0_len t0_g t0_len t0_g t0_len t0_g) (fun _ hp => List.mem_append_left _ hp)) rfl rfl (by decide) (by decide) (by decide) t0_at new_free (fun _ _ h => absurd h (Nat.not_lt_zero _))) ?_; rintro _ w66 ⟨rfl, H1⟩; rw [hta] at H1; replace H := H.seq H1 (okSeq_set (.there (.there (.there .here))) okSeq_nil); clear H1)
  refine WL_stepM rfl (R_mv) ?_
  refine WL_step rfl (R_extract rfl rfl) ?_
  refine WL_step rfl (R_extract rfl rfl) ?_
  refine WL_step rfl (R_indexAddrA (off' := 0) Try.underlying47 Try.sizeOf3 rfl rfl (by omega) (by omega) rfl) ?_
  (refine WL_effu rfl (E_store (v := I (0 + 256 * newPl.g : Nat)) H Try.sizeOf3 rfl rfl rfl (.there (.there (.there (.there (.there (.there (.there (.there (.there (.there (.there (.there .here)))))))))))) (by simp)) ?_; clear H; intro w71 H; replace H : Hp w ((s, blk [sl bs 0 4 cap] 90) :: (bs, blk (ptrs [(p0, b0), (p1, b1), (p2, b2), (p3, b3)] ++ sp) 91) :: (p0, blk [sl b0 0 32 32] 135) :: (b0, blk (rows plc ta) 137) :: (p1, blk [sl b1 0 32 32] 135) :: (b1, blk (rows plc t0) 137) :: (p2, blk [sl b2 0 32 32] 135) :: (b2, blk (rows plc t0) 137) :: (p3, blk [sl b3 0 32 32] 135) :: (b3, blk (rows plc t0) 137) :: [(m, blk [sl mb 0 128 128] 87), (mb, blk (zs.map U) 5), (nmb, blk [I (0 + 256 * newPl.g : Nat), I 0, I 0, I 0] 47), (a, blk ([I 3, I 60] ++ sp2) 98), (rr, blk [ptr m 0, ptr s 0, sl a 0 1 ca] 95)]) w71 := H)
  refine WL_nil ?_
  refine W_seq ?_
  refine W_seq ?_
  refine W_region_l ?_
  refine WL_stepM rfl (R_as) ?_
  refine WL_nil ?_
  refine W_block ?_
  refine W_rounds 3 ?_
  refine W_seq ?_
  refine W_seq ?_
  refine W_region_l ?_
  refine WL_stepM rfl (R_mv) ?_
  refine WL_step rfl (R_lt_t rfl rfl (by omega)) ?_
  refine WL_nil ?_
  refine W_cond_t rfl ?_
  refine W_skip ?_
  refine W_seq ?_
  refine W_block ?_
  refine W_seq ?_
  refine W_region_l ?_
  refine WL_stepM rfl (R_mv) ?_
  refine WL_stepM rfl (R_mv) ?_
  refine WL_step rfl (R_sub (r := 0) rfl rfl (by decide)) ?_
  refine WL_stepM rfl (R_mv) ?_
  refine WL_step rfl (R_sub (r := 0) rfl rfl (by decide)) ?_
  refine WL_step rfl (R_indexAddrA (off' := 0) Try.underlying47 Try.sizeOf3 rfl rfl (by omega) (by omega) rfl) ?_
  refine WL_step rfl (R_load (v := I (0 + 256 * newPl.g : Nat)) Try.isAgg3 rfl (H.get (.there (.there (.there (.there (.there (.there (.there (.there (.there (.there (.there (.there .here))))))))))))) rfl) ?_
  refine WL_stepM rfl (R_mv) ?_
  (refine WL_call rfl (R_call rfl Try.call19 rfl) (grant_yes (j := 0) (i := 0) (k := 1) (i2 := 0) (g0 := newPl.g) (a := newPl) (l1 := 0) (n1 := 60) (gv := 7) (z := 4) (Sp.from H (PB := [(p0, b0), (p1, b1), (p2, b2), (p3, b3)]) (ts := [ta, t0, t0, t0]) bs cap sp (inv4 hal hag t0_len t0_g t0_len t0_g t0_len t0_g) (fun _ hp => List.mem_append_left _ hp)) rfl rfl ha0 rfl rfl t0_at new_free (fun _ _ h => absurd h (Nat.not_lt_zero _)) (by decide) (by decide) (by decide) (by decide) (by decide) (by decide) (by decide)) ?_; rintro _ w99 ⟨rfl, H1⟩; rw [htb] at H1; replace H := H.seq H1 (okSeq_set (.there (.there (.there (.there (.there .here))))) okSeq_nil); clear H1)
  refine WL_stepM rfl (R_mv) ?_
  refine WL_step rfl (R_extract rfl rfl) ?_
  refine WL_step rfl (R_extract rfl rfl) ?_
  refine WL_stepM rfl (R_as) ?_
  refine WL_stepM rfl (R_as) ?_
  refine WL_nil ?_
  refine W_seq ?_
  refine W_seq ?_
  refine W_region_l ?_
  refine WL_stepM rfl (R_mv) ?_
  refine WL_step rfl (R_ne_f rfl rfl (by omega)) ?_
  refine WL_nil ?_
  refine W_cond_f rfl ?_
  refine W_skip ?_
  refine W_region_l ?_
  refine WL_stepM rfl (R_mv) ?_
  refine WL_stepM rfl (R_mv) ?_
  refine WL_step rfl (R_indexAddrA (off' := 1) Try.underlying47 Try.sizeOf3 rfl rfl (by omega) (by omega) rfl) ?_
  (refine WL_effu rfl (E_store (v := I (0 + 256 * newPl.g : Nat)) H Try.sizeOf3 rfl rfl rfl (.there (.there (.there (.there (.there (.there (.there (.there (.there (.there (.there (.there .here)))))))))))) (by simp)) ?_; clear H; intro w118 H; replace H : Hp w ((s, blk [sl bs 0 4 cap] 90) :: (bs, blk (ptrs [(p0, b0), (p1, b1), (p2, b2), (p3, b3)] ++ sp) 91) :: (p0, blk [sl b0 0 32 32] 135) :: (b0, blk (rows plc ta) 137) :: (p1, blk [sl b1 0 32 32] 135) :: (b1, blk (rows plc tb) 137) :: (p2, blk [sl b2 0 32 32] 135) :: (b2, blk (rows plc t0) 137) :: (p3, blk [sl b3 0 32 32] 135) :: (b3, blk (rows plc t0) 137) :: [(m, blk [sl mb 0 128 128] 87), (mb, blk (zs.map U) 5), (nmb, blk [I (0 + 256 * newPl.g : Nat), I (0 + 256 * newPl.g : Nat), I 0, I 0] 47), (a, blk ([I 3, I 60] ++ sp2) 98), (rr, blk [ptr m 0, ptr s 0, sl a 0 1 ca] 95)]) w118 := H)
  refine WL_nil ?_
  refine W_region_l ?_
  refine WL_stepM rfl (R_mv) ?_
  refine WL_step rfl (R_add (r := 2) rfl rfl (by decide)) ?_
  refine WL_stepM rfl (R_as) ?_
  refine WL_nil ?_
  refine Rn_succ ?_
  refine W_seq ?_
  refine W_seq ?_
  refine W_region_l ?_
  refine WL_stepM rfl (R_mv) ?_
  refine WL_step rfl (R_lt_t rfl rfl (by omega)) ?_
  refine WL_nil ?_
  refine W_cond_t rfl ?_
  refine W_skip ?_
  refine W_seq ?_
  refine W_block ?_
  refine W_seq ?_
  refine W_region_l ?_
  refine WL_stepM rfl (R_mv) ?_
  refine WL_stepM rfl (R_mv) ?_
  refine WL_step rfl (R_sub (r := 1) rfl rfl (by decide)) ?_
  refine WL_stepM rfl (R_mv) ?_
  refine WL_step rfl (R_sub (r := 1) rfl rfl (by decide)) ?_
  refine WL_step rfl (R_indexAddrA (off' := 1) Try.underlying47 Try.sizeOf3 rfl rfl (by omega) (by omega) rfl) ?_
  refine WL_step rfl (R_load (v := I (0 + 256 * newPl.g : Nat)) Try.isAgg3 rfl (H.get (.there (.there (.there (.there (.there (.there (.there (.there (.there (.there (.there (.there .here))))))))))))) rfl) ?_
  refine WL_stepM rfl (R_mv) ?_
  (refine WL_call rfl (R_call rfl Try.call19 rfl) (grant_yes (j := 1) (i := 0) (k := 2) (i2 := 0) (g0 := newPl.g) (a := newPl) (l1 := 0) (n1 := 60) (gv := 7) (z := 4) (Sp.from H (PB := [(p0, b0), (p1, b1), (p2, b2), (p3, b3)]) (ts := [ta, tb, t0, t0]) bs cap sp (inv4 hal hag hbl hbg t0_len t0_g t0_len t0_g) (fun _ hp => List.mem_append_left _ hp)) rfl rfl hb0 rfl rfl t0_at new_free (fun _ _ h => absurd h (Nat.not_lt_zero _)) (by decide) (by decide) (by decide) (by decide) (by decide) (by decide) (by decide)) ?_; rintro _ w146 ⟨rfl, H1⟩; rw [htc] at H1; replace H := H.seq H1 (okSeq_set (.there (.there (.there (.there (.there (.there (.there .here))))))) okSeq_nil); clear H1)
  refine WL_stepM rfl (R_mv) ?_
  refine WL_step rfl (R_extract rfl rfl) ?_
  refine WL_step rfl (R_extract rfl rfl) ?_
  refine WL_stepM rfl (R_as) ?_
  refine WL_stepM rfl (R_as) ?_
  refine WL_nil ?_
  refine W_seq ?_
  refine W_seq ?_
  refine W_region_l ?_
  refine WL_stepM rfl (R_mv) ?_
  refine WL_step rfl (R_ne_f rfl rfl (by omega)) ?_
  refine WL_nil ?_
  refine W_cond_f rfl ?_
  refine W_skip ?_
  refine W_region_l ?_
  refine WL_stepM rfl (R_mv) ?_
  refine WL_stepM rfl (R_mv) ?_
  refine WL_step rfl (R_indexAddrA (off' := 2) Try.underlying47 Try.sizeOf3 rfl rfl (by omega) (by omega) rfl) ?_
  (refine WL_effu rfl (E_store (v := I (0 + 256 * newPl.g : Nat)) H Try.sizeOf3 rfl rfl rfl (.there (.there (.there (.there (.there (.there (.there (.there (.there (.there (.there (.there .here)))))))))))) (by simp)) ?_; clear H; intro w165 H; replace H : Hp w ((s, blk [sl bs 0 4 cap] 90) :: (bs, blk (ptrs [(p0, b0), (p1, b1), (p2, b2), (p3, b3)] ++ sp) 91) :: (p0, blk [sl b0 0 32 32] 135) :: (b0, blk (rows plc ta) 137) :: (p1, blk [sl b1 0 32 32] 135) :: (b1, blk (rows plc tb) 137) :: (p2, blk [sl b2 0 32 32] 135) :: (b2, blk (rows plc tc) 137) :: (p3, blk [sl b3 0 32 32] 135) :: (b3, blk (rows plc t0) 137) :: [(m, blk [sl mb 0 128 128] 87), (mb, blk (zs.map U) 5), (nmb, blk [I (0 + 256 * newPl.g : Nat), I (0 + 256 * newPl.g : Nat), I (0 + 256 * newPl.g : Nat), I 0] 47), (a, blk ([I 3, I 60] ++ sp2) 98), (rr, blk [ptr m 0, ptr s 0, sl a 0 1 ca] 95)]) w165 := H)
  refine WL_nil ?_
  refine W_region_l ?_
  refine WL_stepM rfl (R_mv) ?_
  refine WL_step rfl (R_add (r := 3) rfl rfl (by decide)) ?_
  refine WL_stepM rfl (R_as) ?_
  refine WL_nil ?_
  refine Rn_succ ?_
  refine W_seq ?_
  refine W_seq ?_
  refine W_region_l ?_
  refine WL_stepM rfl (R_mv) ?_
  refine WL_step rfl (R_lt_t rfl rfl (by omega)) ?_
  refine WL_nil ?_
  refine W_cond_t rfl ?_
  refine W_skip ?_
  refine W_seq ?_
  refine W_block ?_
  refine W_seq ?_
  refine W_region_l ?_
  refine WL_stepM rfl (R_mv) ?_
  refine WL_stepM rfl (R_mv) ?_
  refine WL_step rfl (R_sub (r := 2) rfl rfl (by decide)) ?_
  refine WL_stepM rfl (R_mv) ?_
  refine WL_step rfl (R_sub (r := 2) rfl rfl (by decide)) ?_
  refine WL_step rfl (R_indexAddrA (off' := 2) Try.underlying47 Try.sizeOf3 rfl rfl (by omega) (by omega) rfl) ?_
  refine WL_step rfl (R_load (v := I (0 + 256 * newPl.g : Nat)) Try.isAgg3 rfl (H.get (.there (.there (.there (.there (.there (.there (.there (.there (.there (.there (.there (.there .here))))))))))))) rfl) ?_
  refine WL_stepM rfl (R_mv) ?_
  (refine WL_call rfl (R_call rfl Try.call19 rfl) (grant_yes (j := 2) (i := 0) (k := 3) (i2 := 0) (g0 := newPl.g) (a := newPl) (l1 := 0) (n1 := 60) (gv := 7) (z := 4) (Sp.from H (PB := [(p0, b0), (p1, b1), (p2, b2), (p3, b3)]) (ts := [ta, tb, tc, t0]) bs cap sp (inv4 hal hag hbl hbg hcl hcg t0_len t0_g) (fun _ hp => List.mem_append_left _ hp)) rfl rfl hc0 rfl rfl t0_at new_free (fun _ _ h => absurd h (Nat.not_lt_zero _)) (by decide) (by decide) (by decide) (by decide) (by decide) (by decide) (by decide)) ?_; rintro _ w193 ⟨rfl, H1⟩; rw [htd] at H1; replace H := H.seq H1 (okSeq_set (.there (.there (.there (.there (.there (.there (.there (.there (.there .here))))))))) okSeq_nil); clear H1)
  refine WL_stepM rfl (R_mv) ?_
  refine WL_step rfl (R_extract rfl rfl) ?_
  refine WL_step rfl (R_extract rfl rfl) ?_
  refine WL_stepM rfl (R_as) ?_
  refine WL_stepM rfl (R_as) ?_
  refine WL_nil ?_
  refine W_seq ?_
  refine W_seq ?_
  refine W_region_l ?_
  refine WL_stepM rfl (R_mv) ?_
  refine WL_step rfl (R_ne_f rfl rfl (by omega)) ?_
  refine WL_nil ?_
  refine W_cond_f rfl ?_
  refine W_skip ?_
  refine W_region_l ?_
  refine WL_stepM rfl (R_mv) ?_
  refine WL_stepM rfl (R_mv) ?_
  refine WL_step rfl (R_indexAddrA (off' := 3) Try.underlying47 Try.sizeOf3 rfl rfl (by omega) (by omega) rfl) ?_
  (refine WL_effu rfl (E_store (v := I (0 + 256 * newPl.g : Nat)) H Try.sizeOf3 rfl rfl rfl (.there (.there (.there (.there (.there (.there (.there (.there (.there (.there (.there (.there .here)))))))))))) (by simp)) ?_; clear H; intro w212 H; replace H : Hp w ((s, blk [sl bs 0 4 cap] 90) :: (bs, blk (ptrs [(p0, b0), (p1, b1), (p2, b2), (p3, b3)] ++ sp) 91) :: (p0, blk [sl b0 0 32 32] 135) :: (b0, blk (rows plc ta) 137) :: (p1, blk [sl b1 0 32 32] 135) :: (b1, blk (rows plc tb) 137) :: (p2, blk [sl b2 0 32 32] 135) :: (b2, blk (rows plc tc) 137) :: (p3, blk [sl b3 0 32 32] 135) :: (b3, blk (rows plc td) 137) :: [(m, blk [sl mb 0 128 128] 87), (mb, blk (zs.map U) 5), (nmb, blk [I (0 + 256 * newPl.g : Nat), I (0 + 256 * newPl.g : Nat), I (0 + 256 * newPl.g : Nat), I (0 + 256 * newPl.g : Nat)] 47), (a, blk ([I 3, I 60] ++ sp2) 98), (rr, blk [ptr m 0, ptr s 0, sl a 0 1 ca] 95)]) w212 := H)
  refine WL_nil ?_
  refine W_region_l ?_
  refine WL_stepM rfl (R_mv) ?_
  refine WL_step rfl (R_add (r := 4) rfl rfl (by decide)) ?_
  refine WL_stepM rfl (R_as) ?_
  refine WL_nil ?_
  refine Rn_succ ?_
  refine W_seq ?_
  refine W_seq ?_
  refine W_region_l ?_
  refine WL_stepM rfl (R_mv) ?_
  refine WL_step rfl (R_lt_f rfl rfl (by omega)) ?_
  refine WL_nil ?_
  refine W_cond_f rfl ?_
  refine W_exit ?_
  refine (if_pos rfl).mpr ?_
  refine W_seq ?_
  refine W_seq ?_
  refine W_region_l ?_
  refine WL_stepM rfl (R_mv) ?_
  refine WL_step rfl (R_indexAddrA (off' := 3) Try.underlying47 Try.sizeOf3 rfl rfl (by omega) (by omega) rfl) ?_
  refine WL_step rfl (R_load (v := I (0 + 256 * newPl.g : Nat)) Try.isAgg3 rfl (H.get (.there (.there (.there (.there (.there (.there (.there (.there (.there (.there (.there (.there .here))))))))))))) rfl) ?_
  refine WL_stepM rfl (R_mv) ?_
  (refine WL_call rfl (R_call rfl Try.call20 rfl) (write_yes (xs := zs) (ys := ys) (p := 3) (hl.monoN H (by repeat' first | exact kNil | apply kCons | apply kApp | assumption | exact OwnS.keys (by assumption))) (place_to (j := 3) (i := 0) (z := 2) (k := ys.length) (at_ := 0) (lo := (((0 + 0) + 0) + 0)) (rlo := 3) (rn := 60) (p := 3) rfl (H.get (.there (.there (.there (.there (.there (.there (.there (.there (.there (.there (.there (.there (.there (.there .here))))))))))))))) (H.get (.there (.there (.there (.there (.there (.there (.there (.there (.there (.there (.there (.there (.there .here)))))))))))))) (Sp.from H (PB := [(p0, b0), (p1, b1), (p2, b2), (p3, b3)]) (ts := [ta, tb, tc, td]) bs cap sp (inv4 hal hag hbl hbg hcl hcg hdl hdg) (fun _ hp => List.mem_append_left _ hp)) rfl rfl hd0 (by decide) (by decide) (by decide) (by decide) (by decide) (by decide) (by decide) (by omega) (by omega)) (H.get (.there (.there (.there (.there (.there (.there (.there (.there (.there (.there (.there (.there (.there (.there .here))))))))))))))) (H.get (.there (.there (.there (.there (.there (.there (.there (.there (.there (.there .here))))))))))) (H.get (.there (.there (.there (.there (.there (.there (.there (.there (.there (.there (.there .here)))))))))))) hzl (by decide) (by omega)) ?_; rintro _ w236 ⟨rfl, H1⟩; rw [← hus] at H1; replace H := H.seq H1 (okSeq_set (.there (.there (.there (.there (.there (.there (.there (.there (.there (.there (.there .here))))))))))) okSeq_nil); clear H1)
  refine WL_step rfl (R_ne_f rfl rfl (by omega)) ?_
  refine WL_nil ?_
  refine W_cond_f rfl ?_
  refine W_skip ?_
  refine W_seq ?_
  refine W_region_l ?_
  refine WL_stepM rfl (R_mv) ?_
  refine WL_step rfl (R_bits (r := 3) rfl rfl (by simp) ((and_mask_i64 2 4 (by decide) rfl (by decide)).trans hV)) ?_
  refine WL_stepM rfl (R_as) ?_
  refine WL_nil ?_
  refine W_seq ?_
  refine W_region_l ?_
  refine WL_stepM rfl (R_mv) ?_
  refine WL_stepM rfl (R_mv) ?_
  refine WL_stepM rfl (R_mv) ?_
  refine WL_step rfl (R_indexAddrA (off' := 3) Try.underlying47 Try.sizeOf3 rfl rfl (by omega) (by omega) rfl) ?_
  refine WL_step rfl (R_load (v := I (0 + 256 * newPl.g : Nat)) Try.isAgg3 rfl (H.get (.there (.there (.there (.there (.there (.there (.there (.there (.there (.there (.there (.there .here))))))))))))) rfl) ?_
  (refine WL_call rfl (R_call rfl Try.call24 rfl) (revoke_4_3 H hal hag hbl hbg hcl hcg hdl hdg hna hnb hnc hnd ha0 hb0 hc0 hd0) ?_; clear H; rintro _ w254 ⟨rfl, H⟩)
  refine WL_stepM rfl (R_mv) ?_
  refine WL_step rfl (R_extract rfl rfl) ?_
  refine WL_step rfl (R_extract rfl rfl) ?_
  refine WL_stepM rfl (R_as) ?_
  refine WL_stepM rfl (R_as) ?_
  refine WL_nil ?_
  refine W_seq ?_
  refine W_seq ?_
  refine W_region_l ?_
  refine WL_stepM rfl (R_mv) ?_
  refine WL_stepM rfl (R_mv) ?_
  refine WL_step rfl (R_sub (r := 1) rfl rfl (by decide)) ?_
  refine WL_step rfl (R_ne_f rfl rfl (by omega)) ?_
  refine WL_stepM rfl (R_mv) ?_
  refine WL_guard_t rfl rfl ?_
  refine WL_stepM rfl (R_mv) ?_
  refine WL_guard_t rfl rfl ?_
  refine WL_step rfl (R_ne_f rfl rfl (by omega)) ?_
  refine WL_stepM rfl (R_pk_f rfl) ?_
  refine WL_nil ?_
  refine W_cond_f rfl ?_
  refine W_skip ?_
  refine W_seq ?_
  refine W_seq ?_
  refine W_region_l ?_
  refine WL_stepM rfl (R_as) ?_
  refine WL_nil ?_
  refine W_block ?_
  refine W_rounds 4 ?_
  refine W_seq ?_
  refine W_seq ?_
  refine W_region_l ?_
  refine WL_stepM rfl (R_mv) ?_
  refine WL_step rfl (R_lt_t rfl rfl (by omega)) ?_
  refine WL_nil ?_
  refine W_cond_t rfl ?_
  refine W_skip ?_
  refine W_seq ?_
  refine W_block ?_
  refine W_seq ?_
  refine W_region_l ?_
  refine WL_stepM rfl (R_mv) ?_
  refine WL_stepM rfl (R_mv) ?_
  refine WL_stepM rfl (R_mv) ?_
  refine WL_step rfl (R_indexAddrA (off' := 0) Try.underlying47 Try.sizeOf3 rfl rfl (by omega) (by omega) rfl) ?_
  refine WL_step rfl (R_load (v := I (0 + 256 * newPl.g : Nat)) Try.isAgg3 rfl (H.get (.there (.there (.there (.there (.there (.there (.there (.there (.there (.there (.there (.there .here))))))))))))) rfl) ?_
  refine WL_stepM rfl (R_mv) ?_
  refine WL_step rfl (R_len_slice Try.underlying22 rfl) ?_
  (refine WL_call rfl (R_call rfl Try.call22 rfl) (read_yes (xs := us) (p := 3) (k := ys.length) (place_to (j := 0) (i := 0) (z := 1) (k := ys.length) (at_ := 0) (lo := 0) (rlo := 3) (rn := 60) (p := 3) rfl (H.get (.there (.there (.there (.there (.there (.there (.there (.there (.there (.there (.there (.there (.there (.there .here))))))))))))))) (H.get (.there (.there (.there (.there (.there (.there (.there (.there (.there (.there (.there (.there (.there .here)))))))))))))) (Sp.from H (PB := [(p0, b0), (p1, b1), (p2, b2), (p3, b3)]) (ts := [ta, tb, tc, (td.set 0 ⟨zk, newPl.g + 1, false⟩)]) bs cap sp (inv4 hal hag hbl hbg hcl hcg (set_len hdl) (set_g hdg (show newPl.g + 1 ≤ 1000001 by decide))) (fun _ hp => List.mem_append_left _ hp)) rfl rfl ha0 (by decide) (by decide) (by decide) (by decide) (by decide) (by decide) (by decide) (by omega) (by omega)) (H.get (.there (.there (.there (.there (.there (.there (.there (.there (.there (.there (.there (.there (.there (.there .here))))))))))))))) (H.get (.there (.there (.there (.there (.there (.there (.there (.there (.there (.there .here))))))))))) (H.get (.there (.there (.there (.there (.there (.there (.there (.there (.there (.there (.there .here)))))))))))) hul (by decide) (by omega)) ?_; rintro _ w302 ⟨u2, M2, rfl, hO2, H1⟩; rw [hgy] at hO2; have h302 := H.seqO hO2 H1; clear H H1 hO2; obtain ⟨hO2, H⟩ := h302; obtain ⟨a2, c2, rfl⟩ := hO2.form)
  refine WL_stepM rfl (R_mv) ?_
  refine WL_step rfl (R_extract rfl rfl) ?_
  refine WL_step rfl (R_extract rfl rfl) ?_
  refine WL_stepM rfl (R_as) ?_
  refine WL_stepM rfl (R_as) ?_
  refine WL_nil ?_
  refine W_seq ?_
  refine W_seq ?_
  refine W_region_l ?_
  refine WL_stepM rfl (R_mv) ?_
  refine WL_stepM rfl (R_mv) ?_
  refine WL_step rfl (R_ge_f rfl rfl (by omega)) ?_
  refine WL_stepM rfl (R_mv) ?_
  refine WL_guard_f rfl rfl (by decide) ?_
  refine WL_guard_f rfl rfl (by decide) ?_
  refine WL_guard_f rfl rfl (by decide) ?_
  refine WL_guard_n rfl rfl ?_
  refine WL_guard_n rfl rfl ?_
  refine WL_guard_n rfl rfl ?_
  refine WL_guard_f rfl rfl (by decide) ?_
  refine WL_guard_f rfl rfl (by decide) ?_
  refine WL_guard_n rfl rfl ?_
  refine WL_guard_n rfl rfl ?_
  refine WL_guard_n rfl rfl ?_
  refine WL_guard_n rfl rfl ?_
  refine WL_guard_n rfl rfl ?_
  refine WL_guard_n rfl rfl ?_
  refine WL_guard_n rfl rfl ?_
  refine WL_guard_n rfl rfl ?_
  refine WL_guard_f rfl rfl (by decide) ?_
  refine WL_stepM rfl (R_pk_f rfl) ?_
  refine WL_nil ?_
  refine W_cond_f rfl ?_
  refine W_skip ?_
  refine W_seq ?_
  refine W_region_l ?_
  refine WL_stepM rfl (R_mv) ?_
  refine WL_stepM rfl (R_mv) ?_
  refine WL_step rfl (R_lt_t rfl rfl (by omega)) ?_
  refine WL_stepM rfl (R_mv) ?_
  refine WL_guard_t rfl rfl ?_
  refine WL_stepM rfl (R_mv) ?_
  refine WL_guard_t rfl rfl ?_
  refine WL_step rfl (R_ne_f rfl rfl (by omega)) ?_
  refine WL_guard_t rfl rfl ?_
  refine WL_stepM rfl (R_mv) ?_
  refine WL_guard_t rfl rfl ?_
  refine WL_stepM rfl (R_mv) ?_
  refine WL_guard_t rfl rfl ?_
  refine WL_step rfl (R_conv_bs (xs := ys) Try.underlying22 Try.underlying5 Try.underlying9 rfl (RdS.own hO2 (fun q hq => H.held q (by simp [hq])))) ?_
  refine WL_guard_t rfl rfl ?_
  refine WL_stepM rfl (R_mv) ?_
  refine WL_guard_t rfl rfl ?_
  refine WL_step rfl (R_conv_bs (xs := ys) Try.underlying22 Try.underlying5 Try.underlying9 rfl (hl.monoN H (by repeat' first | exact kNil | apply kCons | apply kApp | assumption | exact OwnS.keys (by assumption)))) ?_
  refine WL_guard_t rfl rfl ?_
  refine WL_step rfl (R_ne_S_f (xs := ys) (ys := ys) rfl rfl rfl) ?_
  refine WL_guard_t rfl rfl ?_
  refine WL_stepM rfl (R_pk_f rfl) ?_
  refine WL_stepM rfl (R_pk_t rfl) ?_
  refine WL_nil ?_
  refine W_cond_f rfl ?_
  refine W_skip ?_
  ((replace H := Hp.dropN (M := M2) H hO2.keys; clear hO2)) <;> refine W_region_l ?_
  refine WL_stepM rfl (R_mv) ?_
  refine WL_step rfl (R_add (r := 1) rfl rfl (by decide)) ?_
  refine WL_stepM rfl (R_as) ?_
  refine WL_nil ?_
  refine Rn_succ ?_
  refine W_seq ?_
  refine W_seq ?_
  refine W_region_l ?_
  refine WL_stepM rfl (R_mv) ?_
  refine WL_step rfl (R_lt_t rfl rfl (by omega)) ?_
  refine WL_nil ?_
  refine W_cond_t rfl ?_
  refine W_skip ?_
  refine W_seq ?_
  refine W_block ?_
  refine W_seq ?_
  refine W_region_l ?_
  refine WL_stepM rfl (R_mv) ?_
  refine WL_stepM rfl (R_mv) ?_
  refine WL_stepM rfl (R_mv) ?_
  refine WL_step rfl (R_indexAddrA (off' := 1) Try.underlying47 Try.sizeOf3 rfl rfl (by omega) (by omega) rfl) ?_
  refine WL_step rfl (R_load (v := I (0 + 256 * newPl.g : Nat)) Try.isAgg3 rfl (H.get (.there (.there (.there (.there (.there (.there (.there (.there (.there (.there (.there (.there .here))))))))))))) rfl) ?_
  refine WL_stepM rfl (R_mv) ?_
  refine WL_step rfl (R_len_slice Try.underlying22 rfl) ?_
  (refine WL_call rfl (R_call rfl Try.call22 rfl) (read_yes (xs := us) (p := 3) (k := ys.length) (place_to (j := 1) (i := 0) (z := 1) (k := ys.length) (at_ := 0) (lo := (0 + 0)) (rlo := 3) (rn := 60) (p := 3) rfl (H.get (.there (.there (.there (.there (.there (.there (.there (.there (.there (.there (.there (.there (.there (.there .here))))))))))))))) (H.get (.there (.there (.there (.there (.there (.there (.there (.there (.there (.there (.there (.there (.there .here)))))))))))))) (Sp.from H (PB := [(p0, b0), (p1, b1), (p2, b2), (p3, b3)]) (ts := [ta, tb, tc, (td.set 0 ⟨zk, newPl.g + 1, false⟩)]) bs cap sp (inv4 hal hag hbl hbg hcl hcg (set_len hdl) (set_g hdg (show newPl.g + 1 ≤ 1000001 by decide))) (fun _ hp => List.mem_append_left _ hp)) rfl rfl hb0 (by decide) (by decide) (by decide) (by decide) (by decide) (by decide) (by decide) (by omega) (by omega)) (H.get (.there (.there (.there (.there (.there (.there (.there (.there (.there (.there (.there (.there (.there (.there .here))))))))))))))) (H.get (.there (.there (.there (.there (.there (.there (.there (.there (.there (.there .here))))))))))) (H.get (.there (.there (.there (.there (.there (.there (.there (.there (.there (.there (.there .here)))))))))))) hul (by decide) (by omega)) ?_; rintro _ w390 ⟨u2, M2, rfl, hO2, H1⟩; rw [hgy] at hO2; have h390 := H.seqO hO2 H1; clear H H1 hO2; obtain ⟨hO2, H⟩ := h390; obtain ⟨a2, c2, rfl⟩ := hO2.form)
  refine WL_stepM rfl (R_mv) ?_
  refine WL_step rfl (R_extract rfl rfl) ?_
  refine WL_step rfl (R_extract rfl rfl) ?_
  refine WL_stepM rfl (R_as) ?_
  refine WL_stepM rfl (R_as) ?_
  refine WL_nil ?_
  refine W_seq ?_
  refine W_seq ?_
  refine W_region_l ?_
  refine WL_stepM rfl (R_mv) ?_
  refine WL_stepM rfl (R_mv) ?_
  refine WL_step rfl (R_ge_f rfl rfl (by omega)) ?_
  refine WL_stepM rfl (R_mv) ?_
  refine WL_guard_f rfl rfl (by decide) ?_
  refine WL_guard_f rfl rfl (by decide) ?_
  refine WL_guard_f rfl rfl (by decide) ?_
  refine WL_guard_n rfl rfl ?_
  refine WL_guard_n rfl rfl ?_
  refine WL_guard_n rfl rfl ?_
  refine WL_guard_f rfl rfl (by decide) ?_
  refine WL_guard_f rfl rfl (by decide) ?_
  refine WL_guard_n rfl rfl ?_
  refine WL_guard_n rfl rfl ?_
  refine WL_guard_n rfl rfl ?_
  refine WL_guard_n rfl rfl ?_
  refine WL_guard_n rfl rfl ?_
  refine WL_guard_n rfl rfl ?_
  refine WL_guard_n rfl rfl ?_
  refine WL_guard_n rfl rfl ?_
  refine WL_guard_f rfl rfl (by decide) ?_
  refine WL_stepM rfl (R_pk_f rfl) ?_
  refine WL_nil ?_
  refine W_cond_f rfl ?_
  refine W_skip ?_
  refine W_seq ?_
  refine W_region_l ?_
  refine WL_stepM rfl (R_mv) ?_
  refine WL_stepM rfl (R_mv) ?_
  refine WL_step rfl (R_lt_t rfl rfl (by omega)) ?_
  refine WL_stepM rfl (R_mv) ?_
  refine WL_guard_t rfl rfl ?_
  refine WL_stepM rfl (R_mv) ?_
  refine WL_guard_t rfl rfl ?_
  refine WL_step rfl (R_ne_f rfl rfl (by omega)) ?_
  refine WL_guard_t rfl rfl ?_
  refine WL_stepM rfl (R_mv) ?_
  refine WL_guard_t rfl rfl ?_
  refine WL_stepM rfl (R_mv) ?_
  refine WL_guard_t rfl rfl ?_
  refine WL_step rfl (R_conv_bs (xs := ys) Try.underlying22 Try.underlying5 Try.underlying9 rfl (RdS.own hO2 (fun q hq => H.held q (by simp [hq])))) ?_
  refine WL_guard_t rfl rfl ?_
  refine WL_stepM rfl (R_mv) ?_
  refine WL_guard_t rfl rfl ?_
  refine WL_step rfl (R_conv_bs (xs := ys) Try.underlying22 Try.underlying5 Try.underlying9 rfl (hl.monoN H (by repeat' first | exact kNil | apply kCons | apply kApp | assumption | exact OwnS.keys (by assumption)))) ?_
  refine WL_guard_t rfl rfl ?_
  refine WL_step rfl (R_ne_S_f (xs := ys) (ys := ys) rfl rfl rfl) ?_
  refine WL_guard_t rfl rfl ?_
  refine WL_stepM rfl (R_pk_f rfl) ?_
  refine WL_stepM rfl (R_pk_t rfl) ?_
  refine WL_nil ?_
  refine W_cond_f rfl ?_
  refine W_skip ?_
  ((replace H := Hp.dropN (M := M2) H hO2.keys; clear hO2)) <;> refine W_region_l ?_
  refine WL_stepM rfl (R_mv) ?_
  refine WL_step rfl (R_add (r := 2) rfl rfl (by decide)) ?_
  refine WL_stepM rfl (R_as) ?_
  refine WL_nil ?_
  refine Rn_succ ?_
  refine W_seq ?_
  refine W_seq ?_
  refine W_region_l ?_
  refine WL_stepM rfl (R_mv) ?_
  refine WL_step rfl (R_lt_t rfl rfl (by omega)) ?_
  refine WL_nil ?_
  refine W_cond_t rfl ?_
  refine W_skip ?_
  refine W_seq ?_
  refine W_block ?_
  refine W_seq ?_
  refine W_region_l ?_
  refine WL_stepM rfl (R_mv) ?_
  refine WL_stepM rfl (R_mv) ?_
  refine WL_stepM rfl (R_mv) ?_
  refine WL_step rfl (R_indexAddrA (off' := 2) Try.underlying47 Try.sizeOf3 rfl rfl (by omega) (by omega) rfl) ?_
  refine WL_step rfl (R_load (v := I (0 + 256 * newPl.g : Nat)) Try.isAgg3 rfl (H.get (.there (.there (.there (.there (.there (.there (.there (.there (.there (.there (.there (.there .here))))))))))))) rfl) ?_
  refine WL_stepM rfl (R_mv) ?_
  refine WL_step rfl (R_len_slice Try.underlying22 rfl) ?_
  (refine WL_call rfl (R_call rfl Try.call22 rfl) (read_yes (xs := us) (p := 3) (k := ys.length) (place_to (j := 2) (i := 0) (z := 1) (k := ys.length) (at_ := 0) (lo := ((0 + 0) + 0)) (rlo := 3) (rn := 60) (p := 3) rfl (H.get (.there (.there (.there (.there (.there (.there (.there (.there (.there (.there (.there (.there (.there (.there .here))))))))))))))) (H.get (.there (.there (.there (.there (.there (.there (.there (.there (.there (.there (.there (.there (.there .here)))))))))))))) (Sp.from H (PB := [(p0, b0), (p1, b1), (p2, b2), (p3, b3)]) (ts := [ta, tb, tc, (td.set 0 ⟨zk, newPl.g + 1, false⟩)]) bs cap sp (inv4 hal hag hbl hbg hcl hcg (set_len hdl) (set_g hdg (show newPl.g + 1 ≤ 1000001 by decide))) (fun _ hp => List.mem_append_left _ hp)) rfl rfl hc0 (by decide) (by decide) (by decide) (by decide) (by decide) (by decide) (by decide) (by omega) (by omega)) (H.get (.there (.there (.there (.there (.there (.there (.there (.there (.there (.there (.there (.there (.there (.there .here))))))))))))))) (H.get (.there (.there (.there (.there (.there (.there (.there (.there (.there (.there .here))))))))))) (H.get (.there (.there (.there (.there (.there (.there (.there (.there (.there (.there (.there .here)))))))))))) hul (by decide) (by omega)) ?_; rintro _ w478 ⟨u2, M2, rfl, hO2, H1⟩; rw [hgy] at hO2; have h478 := H.seqO hO2 H1; clear H H1 hO2; obtain ⟨hO2, H⟩ := h478; obtain ⟨a2, c2, rfl⟩ := hO2.form)
  refine WL_stepM rfl (R_mv) ?_
  refine WL_step rfl (R_extract rfl rfl) ?_
  refine WL_step rfl (R_extract rfl rfl) ?_
  refine WL_stepM rfl (R_as) ?_
  refine WL_stepM rfl (R_as) ?_
  refine WL_nil ?_
  refine W_seq ?_
  refine W_seq ?_
  refine W_region_l ?_
  refine WL_stepM rfl (R_mv) ?_
  refine WL_stepM rfl (R_mv) ?_
  refine WL_step rfl (R_ge_f rfl rfl (by omega)) ?_
  refine WL_stepM rfl (R_mv) ?_
  refine WL_guard_f rfl rfl (by decide) ?_
  refine WL_guard_f rfl rfl (by decide) ?_
  refine WL_guard_f rfl rfl (by decide) ?_
  refine WL_guard_n rfl rfl ?_
  refine WL_guard_n rfl rfl ?_
  refine WL_guard_n rfl rfl ?_
  refine WL_guard_f rfl rfl (by decide) ?_
  refine WL_guard_f rfl rfl (by decide) ?_
  refine WL_guard_n rfl rfl ?_
  refine WL_guard_n rfl rfl ?_
  refine WL_guard_n rfl rfl ?_
  refine WL_guard_n rfl rfl ?_
  refine WL_guard_n rfl rfl ?_
  refine WL_guard_n rfl rfl ?_
  refine WL_guard_n rfl rfl ?_
  refine WL_guard_n rfl rfl ?_
  refine WL_guard_f rfl rfl (by decide) ?_
  refine WL_stepM rfl (R_pk_f rfl) ?_
  refine WL_nil ?_
  refine W_cond_f rfl ?_
  refine W_skip ?_
  refine W_seq ?_
  refine W_region_l ?_
  refine WL_stepM rfl (R_mv) ?_
  refine WL_stepM rfl (R_mv) ?_
  refine WL_step rfl (R_lt_t rfl rfl (by omega)) ?_
  refine WL_stepM rfl (R_mv) ?_
  refine WL_guard_t rfl rfl ?_
  refine WL_stepM rfl (R_mv) ?_
  refine WL_guard_t rfl rfl ?_
  refine WL_step rfl (R_ne_f rfl rfl (by omega)) ?_
  refine WL_guard_t rfl rfl ?_
  refine WL_stepM rfl (R_mv) ?_
  refine WL_guard_t rfl rfl ?_
  refine WL_stepM rfl (R_mv) ?_
  refine WL_guard_t rfl rfl ?_
  refine WL_step rfl (R_conv_bs (xs := ys) Try.underlying22 Try.underlying5 Try.underlying9 rfl (RdS.own hO2 (fun q hq => H.held q (by simp [hq])))) ?_
  refine WL_guard_t rfl rfl ?_
  refine WL_stepM rfl (R_mv) ?_
  refine WL_guard_t rfl rfl ?_
  refine WL_step rfl (R_conv_bs (xs := ys) Try.underlying22 Try.underlying5 Try.underlying9 rfl (hl.monoN H (by repeat' first | exact kNil | apply kCons | apply kApp | assumption | exact OwnS.keys (by assumption)))) ?_
  refine WL_guard_t rfl rfl ?_
  refine WL_step rfl (R_ne_S_f (xs := ys) (ys := ys) rfl rfl rfl) ?_
  refine WL_guard_t rfl rfl ?_
  refine WL_stepM rfl (R_pk_f rfl) ?_
  refine WL_stepM rfl (R_pk_t rfl) ?_
  refine WL_nil ?_
  refine W_cond_f rfl ?_
  refine W_skip ?_
  ((replace H := Hp.dropN (M := M2) H hO2.keys; clear hO2)) <;> refine W_region_l ?_
  refine WL_stepM rfl (R_mv) ?_
  refine WL_step rfl (R_add (r := 3) rfl rfl (by decide)) ?_
  refine WL_stepM rfl (R_as) ?_
  refine WL_nil ?_
  refine Rn_succ ?_
  refine W_seq ?_
  refine W_seq ?_
  refine W_region_l ?_
  refine WL_stepM rfl (R_mv) ?_
  refine WL_step rfl (R_lt_t rfl rfl (by omega)) ?_
  refine WL_nil ?_
  refine W_cond_t rfl ?_
  refine W_skip ?_
  refine W_seq ?_
  refine W_block ?_
  refine W_seq ?_
  refine W_region_l ?_
  refine WL_stepM rfl (R_mv) ?_
  refine WL_stepM rfl (R_mv) ?_
  refine WL_stepM rfl (R_mv) ?_
  refine WL_step rfl (R_indexAddrA (off' := 3) Try.underlying47 Try.sizeOf3 rfl rfl (by omega) (by omega) rfl) ?_
  refine WL_step rfl (R_load (v := I (0 + 256 * newPl.g : Nat)) Try.isAgg3 rfl (H.get (.there (.there (.there (.there (.there (.there (.there (.there (.there (.there (.there (.there .here))))))))))))) rfl) ?_
  refine WL_stepM rfl (R_mv) ?_
  refine WL_step rfl (R_len_slice Try.underlying22 rfl) ?_
  (refine WL_call rfl (R_call rfl Try.call22 rfl) (read_no (e := 2) (place_cap (j := 3) (H.get (.there (.there (.there (.there (.there (.there (.there (.there (.there (.there (.there (.there (.there (.there .here))))))))))))))) (Sp.from H (PB := [(p0, b0), (p1, b1), (p2, b2), (p3, b3)]) (ts := [ta, tb, tc, (td.set 0 ⟨zk, newPl.g + 1, false⟩)]) bs cap sp (inv4 hal hag hbl hbg hcl hcg (set_len hdl) (set_g hdg (show newPl.g + 1 ≤ 1000001 by decide))) (fun _ hp => List.mem_append_left _ hp)) rfl rfl (fun i a h hu => by rw [← htd] at h; exact drop_all rfl i a h hu _)) (by decide)) ?_; rintro _ w566 ⟨rfl, H1⟩; replace H := H.seq0 H1; clear H1)
  refine WL_stepM rfl (R_mv) ?_
  refine WL_step rfl (R_extract rfl rfl) ?_
  refine WL_step rfl (R_extract rfl rfl) ?_
  refine WL_stepM rfl (R_as) ?_
  refine WL_stepM rfl (R_as) ?_
  refine WL_nil ?_
  refine W_seq ?_
  refine W_seq ?_
  refine W_region_l ?_
  refine WL_stepM rfl (R_mv) ?_
  refine WL_stepM rfl (R_mv) ?_
  refine WL_step rfl (R_ge_t rfl rfl (by omega)) ?_
  refine WL_stepM rfl (R_mv) ?_
  refine WL_guard_t rfl rfl ?_
  refine WL_stepM rfl (R_mv) ?_
  refine WL_guard_t rfl rfl ?_
  refine WL_step rfl (R_ne_f rfl rfl (by omega)) ?_
  refine WL_guard_t rfl rfl ?_
  refine WL_stepM rfl (R_mv) ?_
  refine WL_guard_t rfl rfl ?_
  refine WL_stepM rfl (R_mv) ?_
  refine WL_guard_t rfl rfl ?_
  refine WL_step rfl (R_len_slice Try.underlying22 rfl) ?_
  refine WL_guard_t rfl rfl ?_
  refine WL_step rfl (R_ne_f rfl rfl (by omega)) ?_
  refine WL_guard_t rfl rfl ?_
  refine WL_stepM rfl (R_pk_f rfl) ?_
  refine WL_guard_t rfl rfl ?_
  refine WL_stepM rfl (R_mv) ?_
  refine WL_guard_t rfl rfl ?_
  refine WL_stepM rfl (R_mv) ?_
  refine WL_guard_t rfl rfl ?_
  refine WL_stepM rfl (R_mv) ?_
  refine WL_guard_t rfl rfl ?_
  refine WL_stepM rfl (R_mv) ?_
  refine WL_guard_t rfl rfl ?_
  refine WL_step rfl (R_indexAddrA (off' := 3) Try.underlying47 Try.sizeOf3 rfl rfl (by omega) (by omega) rfl) ?_
  refine WL_guard_t rfl rfl ?_
  refine WL_step rfl (R_load (v := I (0 + 256 * newPl.g : Nat)) Try.isAgg3 rfl (H.get (.there (.there (.there (.there (.there (.there (.there (.there (.there (.there (.there (.there .here))))))))))))) rfl) ?_
  refine WL_guard_t rfl rfl ?_
  (refine WL_effn rfl (E_buildOnes (vs := [(.int _ _)]) H Try.underlying22 Try.sizeOf5 Try.zeroValue5 rfl rfl (by decide) rfl rfl (by simp [Value.oneCell'])) ?_; clear H; intro b607 w607 hb607 H)
  refine WL_guard_t rfl rfl ?_
  (refine WL_call rfl (R_call rfl Try.call20 rfl) (write_noU (e := 2) (ys := [1]) (RdS.blk (c := [U 1]) (off := 0) (m := 1) (cap := 1) (H.get .here) (by rfl) (by decide) (by decide)) (by decide) (place_cap (j := 3) (k := (1 : Nat)) (H.get (.there (.there (.there (.there (.there (.there (.there (.there (.there (.there (.there (.there (.there (.there (.there .here)))))))))))))))) (Sp.from H (PB := [(p0, b0), (p1, b1), (p2, b2), (p3, b3)]) (ts := [ta, tb, tc, (td.set 0 ⟨zk, newPl.g + 1, false⟩)]) bs cap sp (inv4 hal hag hbl hbg hcl hcg (set_len hdl) (set_g hdg (show newPl.g + 1 ≤ 1000001 by decide))) (fun _ hp => .tail _ (List.mem_append_left _ hp))) rfl rfl (fun i a h hu => by rw [← htd] at h; exact drop_all rfl i a h hu _)) (by decide)) ?_; rintro _ w609 ⟨rfl, H1⟩; replace H := H.seq0 H1; clear H1; replace H := H.pop (by assumption))
  refine WL_guard_t rfl rfl ?_
  refine WL_step rfl (R_ne_f rfl rfl (by omega)) ?_
  refine WL_guard_t rfl rfl ?_
  refine WL_stepM rfl (R_pk_f rfl) ?_
  refine WL_stepM rfl (R_pk_t rfl) ?_
  refine WL_nil ?_
  refine W_cond_f rfl ?_
  refine W_skip ?_
  refine W_seq ?_
  refine W_region_l ?_
  refine WL_stepM rfl (R_mv) ?_
  refine WL_stepM rfl (R_mv) ?_
  refine WL_step rfl (R_lt_f rfl rfl (by omega)) ?_
  refine WL_stepM rfl (R_mv) ?_
  refine WL_guard_f rfl rfl (by decide) ?_
  refine WL_guard_f rfl rfl (by decide) ?_
  refine WL_guard_f rfl rfl (by decide) ?_
  refine WL_guard_n rfl rfl ?_
  refine WL_guard_n rfl rfl ?_
  refine WL_guard_n rfl rfl ?_
  refine WL_guard_n rfl rfl ?_
  refine WL_guard_n rfl rfl ?_
  refine WL_guard_f rfl rfl (by decide) ?_
  refine WL_stepM rfl (R_pk_f rfl) ?_
  refine WL_nil ?_
  refine W_cond_f rfl ?_
  refine W_skip ?_
  (skip) <;> refine W_region_l ?_
  refine WL_stepM rfl (R_mv) ?_
  refine WL_step rfl (R_add (r := 4) rfl rfl (by decide)) ?_
  refine WL_stepM rfl (R_as) ?_
  refine WL_nil ?_
  refine Rn_succ ?_
  refine W_seq ?_
  refine W_seq ?_
  refine W_region_l ?_
  refine WL_stepM rfl (R_mv) ?_
  refine WL_step rfl (R_lt_f rfl rfl (by omega)) ?_
  refine WL_nil ?_
  refine W_cond_f rfl ?_
  refine W_exit ?_
  refine (if_pos rfl).mpr ?_
  refine W_seq ?_
  refine W_region_l ?_
  refine WL_stepM rfl (R_mv) ?_
  refine WL_stepM rfl (R_mv) ?_
  refine WL_step rfl (R_len_slice Try.underlying22 rfl) ?_
  (refine WL_call rfl (R_call rfl Try.call21 rfl) (Mem.load_yes (xs := us) 3 ys.length (H.get (.there (.there (.there (.there (.there (.there (.there (.there (.there (.there .here))))))))))) (H.get (.there (.there (.there (.there (.there (.there (.there (.there (.there (.there (.there .here)))))))))))) hul (by omega) (by omega)) ?_; rintro _ w657 ⟨u3, M3, rfl, hO3, H1⟩; rw [hgy] at hO3; have h657 := H.seqO hO3 H1; clear H H1 hO3; obtain ⟨hO3, H⟩ := h657; obtain ⟨a3, c3, rfl⟩ := hO3.form)
  refine WL_stepM rfl (R_mv) ?_
  refine WL_step rfl (R_extract rfl rfl) ?_
  refine WL_step rfl (R_extract rfl rfl) ?_
  refine WL_stepM rfl (R_as) ?_
  refine WL_stepM rfl (R_as) ?_
  refine WL_nil ?_
  refine W_seq ?_
  refine W_region_l ?_
  refine WL_stepM rfl (R_mv) ?_
  refine WL_step rfl (R_eq_t rfl rfl (by omega)) ?_
  refine WL_stepM rfl (R_mv) ?_
  refine WL_guard_t rfl rfl ?_
  refine WL_stepM rfl (R_mv) ?_
  refine WL_guard_t rfl rfl ?_
  refine WL_step rfl (R_conv_bs (xs := ys) Try.underlying22 Try.underlying5 Try.underlying9 rfl (RdS.own hO3 (fun q hq => H.held q (by simp [hq])))) ?_
  refine WL_guard_t rfl rfl ?_
  refine WL_stepM rfl (R_mv) ?_
  refine WL_guard_t rfl rfl ?_
  refine WL_step rfl (R_conv_bs (xs := ys) Try.underlying22 Try.underlying5 Try.underlying9 rfl (hl.monoN H (by repeat' first | exact kNil | apply kCons | apply kApp | assumption | exact OwnS.keys (by assumption)))) ?_
  refine WL_guard_t rfl rfl ?_
  refine WL_step rfl (R_eq_S_t (xs := ys) (ys := ys) rfl rfl rfl) ?_
  refine WL_stepM rfl (R_pk_t rfl) ?_
  refine WL_stepM rfl (R_mv) ?_
  refine WL_guard_t rfl rfl ?_
  (refine WL_call rfl (R_call rfl Try.call15 rfl) (awake_ret _) ?_; rintro _ w682 ⟨rfl, H1⟩; replace H := H.seq0 H1; clear H1)
  refine WL_stepM rfl (R_pk_t rfl) ?_
  refine WL_stepM rfl (R_as) ?_
  refine WL_nil ?_
  refine W_ret ?_
  exact ⟨_, rfl, rfl, H.none (by repeat' first | exact kNil | apply kCons | apply kApp | assumption | exact OwnS.keys (by assumption))⟩

theorem gone_big {w : World} {ys : List UInt8} {l : Value} {at_ : Int} (hl : RdS w l (ys.map U)) (hy : 60 < ys.length) (hb : ys.length ≤ 9223372036854775807) :
    Ret Try.prog 5 #[l, I at_] w fun v w' => v = .bool true ∧ Hp w [] w' := by
  refine Ret_of_W (args := [_, _]) Try.func5 rfl Try.ntmps5 Try.results5 (by simp) ?_
  have H := Hp.refl w
  obtain ⟨ao, ca0, rfl⟩ := hl.form
  simp only [List.length_map] at hl ⊢
  refine W_seq ?_
  refine W_region_l ?_
  refine WL_stepM rfl (R_as) ?_
  refine WL_nil ?_
  refine W_seq ?_
  refine W_region_l ?_
  (refine WL_call rfl (R_call rfl Try.call12 rfl) (Mem.new_ret 2 _) ?_; rintro _ w7 ⟨m, mb, rfl, H1, hm, hmb⟩; replace H := H.seqD H1 (kCons hm (kCons hmb kNil)); clear H1)
  (refine WL_call rfl (R_call rfl Try.call13 rfl) (Caps.new_ret (E := 4) (by decide) (by decide) _) ?_; rintro _ w8 ⟨s, bs, cap, sp, PB, rfl, hPl, hs, hbs, hPB, H1⟩; replace H := H.seqD H1 (spB_keys hs hbs hPB); clear H1 hPB)
  refine WL_stepM rfl (R_as) ?_
  refine WL_stepM rfl (R_as) ?_
  refine WL_nil ?_
  refine W_seq ?_
  refine W_region_l ?_
  refine WL_stepM rfl (R_mv) ?_
  refine WL_stepM rfl (R_mv) ?_
  (refine WL_call rfl (R_call rfl Try.call14 rfl) (new_ret m s _) ?_; rintro _ w16 ⟨rr, rfl, hrr, H1⟩; replace H := H.seqD H1 (kCons hrr kNil); clear H1)
  refine WL_stepM rfl (R_as) ?_
  refine WL_nil ?_
  refine W_seq ?_
  refine W_seq ?_
  refine W_region_l ?_
  refine WL_stepM rfl (R_mv) ?_
  refine WL_step rfl (R_eq_ptr_nil Try.underlying23 rfl rfl) ?_
  refine WL_stepM rfl (R_mv) ?_
  refine WL_guard_t rfl rfl ?_
  refine WL_stepM rfl (R_mv) ?_
  refine WL_guard_t rfl rfl ?_
  refine WL_step rfl (R_eq_ptr_nil Try.underlying25 rfl rfl) ?_
  refine WL_stepM rfl (R_pk_f rfl) ?_
  refine WL_stepM rfl (R_mv) ?_
  refine WL_guard_t rfl rfl ?_
  refine WL_stepM rfl (R_mv) ?_
  refine WL_guard_t rfl rfl ?_
  refine WL_step rfl (R_eq_ptr_nil Try.underlying27 rfl rfl) ?_
  refine WL_stepM rfl (R_pk_f rfl) ?_
  refine WL_stepM rfl (R_mv) ?_
  refine WL_guard_t rfl rfl ?_
  refine WL_stepM rfl (R_mv) ?_
  refine WL_guard_t rfl rfl ?_
  refine WL_step rfl (R_len_slice Try.underlying22 rfl) ?_
  refine WL_guard_t rfl rfl ?_
  refine WL_step rfl (R_gt_t rfl rfl (by omega)) ?_
  refine WL_stepM rfl (R_pk_f rfl) ?_
  refine WL_nil ?_
  refine W_cond_t rfl ?_
  refine W_seq ?_
  refine W_region_l ?_
  refine WL_stepM rfl (R_mv) ?_
  refine WL_step rfl (R_ne_ptr_nil Try.underlying23 rfl rfl) ?_
  refine WL_stepM rfl (R_mv) ?_
  refine WL_guard_t rfl rfl ?_
  refine WL_stepM rfl (R_mv) ?_
  refine WL_guard_t rfl rfl ?_
  refine WL_step rfl (R_ne_ptr_nil Try.underlying25 rfl rfl) ?_
  refine WL_stepM rfl (R_pk_t rfl) ?_
  refine WL_stepM rfl (R_mv) ?_
  refine WL_guard_t rfl rfl ?_
  refine WL_stepM rfl (R_mv) ?_
  refine WL_guard_t rfl rfl ?_
  refine WL_step rfl (R_ne_ptr_nil Try.underlying27 rfl rfl) ?_
  refine WL_stepM rfl (R_pk_t rfl) ?_
  refine WL_stepM rfl (R_mv) ?_
  refine WL_guard_t rfl rfl ?_
  (refine WL_call rfl (R_call rfl Try.call15 rfl) (awake_ret _) ?_; rintro _ w64 ⟨rfl, H1⟩; replace H := H.seq0 H1; clear H1)
  refine WL_stepM rfl (R_pk_t rfl) ?_
  refine WL_stepM rfl (R_as) ?_
  refine WL_nil ?_
  refine W_ret ?_
  exact ⟨_, rfl, rfl, H⟩

theorem gone_ret {w : World} {ys : List UInt8} {l : Value} (at_ : Int) (hl : RdS w l (ys.map U)) (hb : ys.length ≤ 9223372036854775807) :
    Ret Try.prog 5 #[l, I at_] w fun v w' => v = .bool true ∧ Hp w [] w' := by
  by_cases hy : ys.length ≤ 60
  · rcases (by omega : at_ % 4 = 0 ∨ at_ % 4 = 1 ∨ at_ % 4 = 2 ∨ at_ % 4 = 3) with h | h | h | h
    · exact gone_0 hl hy h
    · exact gone_1 hl hy h
    · exact gone_2 hl hy h
    · exact gone_3 hl hy h
  · exact gone_big hl (by omega) hb
end Go.Proofs.Ythonajikgljgmaa.Reg

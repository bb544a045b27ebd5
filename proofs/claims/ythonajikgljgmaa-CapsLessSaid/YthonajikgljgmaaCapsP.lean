/-
  The law CapsParts.
-/
import Derived.Test.YthonajikgljgmaaCapsH
import Derived.Test.YthonajikgljgmaaUnderB
namespace Go.Proofs.Ythonajikgljgmaa.Reg
open Go Go.Proofs Go.Proofs.Ythonajikgljgmaa.Fx Go.Proofs.Ythonajikgljgmaa.TabC Go.Proofs.Ythonajikgljgmaa.Caps
set_option maxRecDepth 100000
set_option linter.unusedVariables false
set_option linter.unusedSimpArgs false
set_option maxHeartbeats 8000000

theorem and2_r {r : Nat} (h : r < 8) : bitsOf .and .i64 (r : Int) 2 = ((2 * (r / 2 % 2) : Nat) : Int) := by
  have : ∀ a : Fin 8, bitsOf .and .i64 (a.val : Int) 2 = ((2 * (a.val / 2 % 2) : Nat) : Int) := by decide
  exact this ⟨r, h⟩

theorem parts_right {w : World} {lo n at_ m rights : Int} (hV : rights / 2 % 2 ≠ 0 ∧ 0 ≤ n % 64 ∧ 0 ≤ at_ % 128 ∧ 0 ≤ m % 128) : Ret Try.prog 6 #[I lo, I n, I at_, I m, I rights] w fun v w' => v = .bool true ∧ Hp w [] w' := by
  refine Ret_of_W (args := [_, _, _, _, _]) Try.func6 rfl Try.ntmps6 Try.results6 (by simp) ?_
  have H := Hp.refl w
  obtain ⟨L, hL, hL2⟩ : ∃ N : Nat, lo % 64 = (N : Int) ∧ N < 64 := ⟨(lo % 64).toNat, by omega, by omega⟩
  obtain ⟨N, hN, hN2⟩ : ∃ N : Nat, n % 64 = (N : Int) ∧ N < 64 := ⟨(n % 64).toNat, by omega, by omega⟩
  obtain ⟨A, hA, hA2⟩ : ∃ N : Nat, at_ % 128 = (N : Int) ∧ N < 128 := ⟨(at_ % 128).toNat, by omega, by omega⟩
  obtain ⟨M, hM, hM2⟩ : ∃ N : Nat, m % 128 = (N : Int) ∧ N < 128 := ⟨(m % 128).toNat, by omega, by omega⟩
  obtain ⟨R, hR, hR2⟩ : ∃ N : Nat, rights % 8 = (N : Int) ∧ N < 8 := ⟨(rights % 8).toNat, by omega, by omega⟩
  rw [hN, hA, hM] at hV
  obtain ⟨ta, hta, hal, hag, ha0⟩ := tset t0_len t0_g (i := 0) (by decide) ⟨cp 4 (7 : Nat) 10 200 0 0, newPl.g, true⟩ (by decide)
  obtain ⟨tb, htb, hbl, hbg, hb0⟩ := tset t0_len t0_g (i := 0) (by decide) ⟨cp 4 5 (10 + (L : Int)) (N : Int) (0 : Nat) (0 + 256 * newPl.g : Nat), newPl.g, true⟩ (show newPl.g ≤ 1000001 by decide)
  obtain ⟨tc, htc, hcl, hcg, hc0⟩ := tset t0_len t0_g (i := 0) (by decide) ⟨cp 4 (R : Int) (10 + (L : Int) + (A : Int)) (M : Int) (1 : Nat) (0 + 256 * newPl.g : Nat), newPl.g, true⟩ (show newPl.g ≤ 1000001 by decide)
  have hna : namesFrom 0 ta = [((0 + 256 * newPl.g : Nat) : Int)] := by rw [← hta]; rfl
  have hnb : namesFrom 0 tb = [((0 + 256 * newPl.g : Nat) : Int)] := by rw [← htb]; rfl
  have hnc : namesFrom 0 tc = [((0 + 256 * newPl.g : Nat) : Int)] := by rw [← htc]; rfl
  refine W_seq ?_
  refine W_region_l ?_
  refine WL_stepM rfl (R_as) ?_
  refine WL_nil ?_
  refine W_seq ?_
  refine W_region_l ?_
  (refine WL_call rfl (R_call rfl Try.call13 rfl) (Caps.new_ret (E := 3) (by decide) (by decide) _) ?_; rintro _ w7 ⟨s, bs, cap, sp, PB, rfl, hPl, hs, hbs, hPB, H1⟩; obtain ⟨p0, b0, p1, b1, p2, b2, rfl⟩ := three hPl; have hsz := H.size; replace H := H.seqN H1 (spB_keys hs hbs hPB); clear H1; obtain ⟨hp0, hb0'⟩ := hPB (p0, b0) (.head _); obtain ⟨hp1, hb1'⟩ := hPB (p1, b1) (.tail _ (.head _)); obtain ⟨hp2, hb2'⟩ := hPB (p2, b2) (.tail _ (.tail _ (.head _))); replace hs := Nat.le_trans hsz hs; replace hbs := Nat.le_trans hsz hbs; replace hp0 : w.heap.size ≤ p0 := Nat.le_trans hsz hp0; replace hb0' : w.heap.size ≤ b0 := Nat.le_trans hsz hb0'; replace hp1 : w.heap.size ≤ p1 := Nat.le_trans hsz hp1; replace hb1' : w.heap.size ≤ b1 := Nat.le_trans hsz hb1'; replace hp2 : w.heap.size ≤ p2 := Nat.le_trans hsz hp2; replace hb2' : w.heap.size ≤ b2 := Nat.le_trans hsz hb2'; clear hPB hPl hsz; replace H : Hp w [(s, blk [sl bs 0 3 cap] 90), (bs, blk (ptrs [(p0, b0), (p1, b1), (p2, b2)] ++ sp) 91), (p0, blk [sl b0 0 32 32] 135), (b0, blk (rows plc (t0)) 137), (p1, blk [sl b1 0 32 32] 135), (b1, blk (rows plc t0) 137), (p2, blk [sl b2 0 32 32] 135), (b2, blk (rows plc t0) 137)] w7 := H)
  refine WL_stepM rfl (R_as) ?_
  refine WL_nil ?_
  refine W_seq ?_
  refine W_seq ?_
  refine W_region_l ?_
  refine WL_stepM rfl (R_mv) ?_
  refine WL_step rfl (R_eq_ptr_nil Try.underlying25 rfl rfl) ?_
  refine WL_nil ?_
  refine W_cond_f rfl ?_
  refine W_skip ?_
  refine W_seq ?_
  refine W_region_l ?_
  refine WL_stepM rfl (R_mv) ?_
  refine WL_step rfl (R_bits (r := (L : Int)) rfl rfl (by simp) ((and_mask_i64 6 64 (by decide) rfl (by decide)).trans hL)) ?_
  refine WL_stepM rfl (R_mv) ?_
  refine WL_step rfl (R_bits (r := (N : Int)) rfl rfl (by simp) ((and_mask_i64 6 64 (by decide) rfl (by decide)).trans hN)) ?_
  refine WL_stepM rfl (R_mv) ?_
  refine WL_step rfl (R_bits (r := (A : Int)) rfl rfl (by simp) ((and_mask_i64 7 128 (by decide) rfl (by decide)).trans hA)) ?_
  refine WL_stepM rfl (R_mv) ?_
  refine WL_step rfl (R_bits (r := (M : Int)) rfl rfl (by simp) ((and_mask_i64 7 128 (by decide) rfl (by decide)).trans hM)) ?_
  refine WL_stepM rfl (R_as) ?_
  refine WL_stepM rfl (R_as) ?_
  refine WL_stepM rfl (R_as) ?_
  refine WL_stepM rfl (R_as) ?_
  refine WL_nil ?_
  refine W_seq ?_
  refine W_region_l ?_
  refine WL_stepM rfl (R_mv) ?_
  refine WL_step rfl (R_buildL (places := [(0, 1), (1, 1), (2, 1), (3, 1), (4, 2)]) (vs := (cp 4 (7 : Nat) 10 200 0 0).c) Try.underlying38 Try.typeInfo38 rfl rfl (by kernel_rfl) rfl rfl rfl) ?_
  (refine WL_call rfl (R_call rfl Try.call18 rfl) (put_yes (j := 0) (i := 0) (r := 7) (o := 4) (lo := 10) (n := 200) (re := 0) (rn := 0) (Sp.from H (PB := [(p0, b0), (p1, b1), (p2, b2)]) (ts := [t0, t0, t0]) bs cap sp (inv3 t0_len t0_g t0_len t0_g t0_len t0_g) (fun _ hp => hp)) rfl rfl (by decide) (by decide) (by decide) t0_at new_free (fun _ _ h => absurd h (Nat.not_lt_zero _))) ?_; rintro _ w37 ⟨rfl, H1⟩; rw [hta] at H1; replace H := H.seq H1 (okSeq_set (.there (.there (.there .here))) okSeq_nil); clear H1)
  refine WL_stepM rfl (R_mv) ?_
  refine WL_step rfl (R_extract rfl rfl) ?_
  refine WL_step rfl (R_extract rfl rfl) ?_
  refine WL_stepM rfl (R_as) ?_
  refine WL_stepM rfl (R_as) ?_
  refine WL_nil ?_
  refine W_seq ?_
  refine W_region_l ?_
  refine WL_stepM rfl (R_mv) ?_
  refine WL_stepM rfl (R_mv) ?_
  refine WL_stepM rfl (R_mv) ?_
  refine WL_stepM rfl (R_mv) ?_
  (refine WL_call rfl (R_call rfl Try.call19 rfl) (grant_yes (j := 0) (i := 0) (k := 1) (i2 := 0) (a := newPl) (l1 := L) (n1 := N) (gv := 5) (z := 4) (Sp.from H (PB := [(p0, b0), (p1, b1), (p2, b2)]) (ts := [ta, t0, t0]) bs cap sp (inv3 hal hag t0_len t0_g t0_len t0_g) (fun _ hp => hp)) rfl rfl ha0 rfl rfl t0_at new_free (fun _ _ h => absurd h (Nat.not_lt_zero _)) (by decide) (by decide) (by decide) (by decide) (by decide) (by omega) (by omega)) ?_; rintro _ w50 ⟨rfl, H1⟩; rw [htb] at H1; replace H := H.seq H1 (okSeq_set (.there (.there (.there (.there (.there .here))))) okSeq_nil); clear H1)
  refine WL_stepM rfl (R_mv) ?_
  refine WL_step rfl (R_extract rfl rfl) ?_
  refine WL_step rfl (R_extract rfl rfl) ?_
  refine WL_stepM rfl (R_as) ?_
  refine WL_stepM rfl (R_as) ?_
  refine WL_nil ?_
  refine W_seq ?_
  refine W_seq ?_
  refine W_region_l ?_
  refine WL_stepM rfl (R_mv) ?_
  refine WL_step rfl (R_ne_f rfl rfl (by omega)) ?_
  refine WL_stepM rfl (R_mv) ?_
  refine WL_guard_t rfl rfl ?_
  refine WL_stepM rfl (R_mv) ?_
  refine WL_guard_t rfl rfl ?_
  refine WL_step rfl (R_ne_f rfl rfl (by omega)) ?_
  refine WL_stepM rfl (R_pk_f rfl) ?_
  refine WL_nil ?_
  refine W_cond_f rfl ?_
  refine W_skip ?_
  refine W_seq ?_
  refine W_region_l ?_
  refine WL_stepM rfl (R_mv) ?_
  refine WL_step rfl (R_bits (r := (R : Int)) rfl rfl (by simp) ((and_mask_i64 3 8 (by decide) rfl (by decide)).trans hR)) ?_
  refine WL_stepM rfl (R_as) ?_
  refine WL_nil ?_
  refine W_seq ?_
  refine W_region_l ?_
  refine WL_stepM rfl (R_mv) ?_
  refine WL_stepM rfl (R_mv) ?_
  refine WL_stepM rfl (R_mv) ?_
  refine WL_stepM rfl (R_mv) ?_
  refine WL_stepM rfl (R_mv) ?_
  (refine WL_call rfl (R_call rfl Try.call19 rfl) (grant_right (j := 1) (i := 0) (gv := R) (l1 := A) (n1 := M) (z := 4) (Sp.from H (PB := [(p0, b0), (p1, b1), (p2, b2)]) (ts := [ta, tb, t0]) bs cap sp (inv3 hal hag hbl hbg t0_len t0_g) (fun _ hp => hp)) rfl rfl hb0 (by decide) (by decide) (andNot5 hR2) (by omega)) ?_; rintro _ w84 ⟨rfl, H1⟩; replace H := H.seq0 H1; clear H1)
  refine WL_stepM rfl (R_mv) ?_
  refine WL_step rfl (R_extract rfl rfl) ?_
  refine WL_step rfl (R_extract rfl rfl) ?_
  refine WL_stepM rfl (R_as) ?_
  refine WL_stepM rfl (R_as) ?_
  refine WL_nil ?_
  refine W_seq ?_
  refine W_region_l ?_
  refine WL_stepM rfl (R_as) ?_
  refine WL_nil ?_
  refine W_seq ?_
  refine W_block ?_
  refine W_seq ?_
  refine W_region_l ?_
  refine WL_stepM rfl (R_mv) ?_
  refine WL_step rfl (R_bits (r := ((2 * (R / 2 % 2) : Nat) : Int)) rfl rfl (by simp) (and2_r hR2)) ?_
  refine WL_step rfl (R_ne_t rfl rfl (by omega)) ?_
  refine WL_stepM rfl (R_as) ?_
  refine WL_nil ?_
  refine W_cond_t rfl ?_
  refine W_region_l ?_
  refine WL_stepM rfl (R_as) ?_
  refine WL_nil ?_
  refine W_seq ?_
  refine W_seq ?_
  refine W_region_l ?_
  refine WL_stepM rfl (R_mv) ?_
  refine WL_stepM rfl (R_mv) ?_
  refine WL_step rfl (R_ne_f rfl rfl (by omega)) ?_
  refine WL_nil ?_
  refine W_cond_f rfl ?_
  refine W_skip ?_
  refine W_seq ?_
  refine W_seq ?_
  refine W_region_l ?_
  refine WL_stepM rfl (R_mv) ?_
  refine WL_step rfl (R_ne_t rfl rfl (by omega)) ?_
  refine WL_nil ?_
  refine W_cond_t rfl ?_
  refine W_seq ?_
  refine W_region_l ?_
  (refine WL_call rfl (R_call rfl Try.call25 rfl) (awake3_ret _) ?_; rintro _ w126 ⟨rfl, H1⟩; replace H := H.seq0 H1; clear H1)
  refine WL_stepM rfl (R_as) ?_
  refine WL_nil ?_
  refine W_ret ?_
  exact ⟨_, rfl, rfl, H.none (by repeat' first | exact kNil | apply kCons | apply kApp | assumption | exact OwnS.keys (by assumption))⟩

theorem parts_arg {w : World} {lo n at_ m rights : Int} (hV : rights / 2 % 2 = 0 ∧ (n % 64 < at_ % 128 ∨ (at_ % 128 ≤ n % 64 ∧ n % 64 - at_ % 128 < m % 128))) : Ret Try.prog 6 #[I lo, I n, I at_, I m, I rights] w fun v w' => v = .bool true ∧ Hp w [] w' := by
  refine Ret_of_W (args := [_, _, _, _, _]) Try.func6 rfl Try.ntmps6 Try.results6 (by simp) ?_
  have H := Hp.refl w
  obtain ⟨L, hL, hL2⟩ : ∃ N : Nat, lo % 64 = (N : Int) ∧ N < 64 := ⟨(lo % 64).toNat, by omega, by omega⟩
  obtain ⟨N, hN, hN2⟩ : ∃ N : Nat, n % 64 = (N : Int) ∧ N < 64 := ⟨(n % 64).toNat, by omega, by omega⟩
  obtain ⟨A, hA, hA2⟩ : ∃ N : Nat, at_ % 128 = (N : Int) ∧ N < 128 := ⟨(at_ % 128).toNat, by omega, by omega⟩
  obtain ⟨M, hM, hM2⟩ : ∃ N : Nat, m % 128 = (N : Int) ∧ N < 128 := ⟨(m % 128).toNat, by omega, by omega⟩
  obtain ⟨R, hR, hR2⟩ : ∃ N : Nat, rights % 8 = (N : Int) ∧ N < 8 := ⟨(rights % 8).toNat, by omega, by omega⟩
  rw [hN, hA, hM] at hV
  obtain ⟨ta, hta, hal, hag, ha0⟩ := tset t0_len t0_g (i := 0) (by decide) ⟨cp 4 (7 : Nat) 10 200 0 0, newPl.g, true⟩ (by decide)
  obtain ⟨tb, htb, hbl, hbg, hb0⟩ := tset t0_len t0_g (i := 0) (by decide) ⟨cp 4 5 (10 + (L : Int)) (N : Int) (0 : Nat) (0 + 256 * newPl.g : Nat), newPl.g, true⟩ (show newPl.g ≤ 1000001 by decide)
  obtain ⟨tc, htc, hcl, hcg, hc0⟩ := tset t0_len t0_g (i := 0) (by decide) ⟨cp 4 (R : Int) (10 + (L : Int) + (A : Int)) (M : Int) (1 : Nat) (0 + 256 * newPl.g : Nat), newPl.g, true⟩ (show newPl.g ≤ 1000001 by decide)
  have hna : namesFrom 0 ta = [((0 + 256 * newPl.g : Nat) : Int)] := by rw [← hta]; rfl
  have hnb : namesFrom 0 tb = [((0 + 256 * newPl.g : Nat) : Int)] := by rw [← htb]; rfl
  have hnc : namesFrom 0 tc = [((0 + 256 * newPl.g : Nat) : Int)] := by rw [← htc]; rfl
  refine W_seq ?_
  refine W_region_l ?_
  refine WL_stepM rfl (R_as) ?_
  refine WL_nil ?_
  refine W_seq ?_
  refine W_region_l ?_
  (refine WL_call rfl (R_call rfl Try.call13 rfl) (Caps.new_ret (E := 3) (by decide) (by decide) _) ?_; rintro _ w7 ⟨s, bs, cap, sp, PB, rfl, hPl, hs, hbs, hPB, H1⟩; obtain ⟨p0, b0, p1, b1, p2, b2, rfl⟩ := three hPl; have hsz := H.size; replace H := H.seqN H1 (spB_keys hs hbs hPB); clear H1; obtain ⟨hp0, hb0'⟩ := hPB (p0, b0) (.head _); obtain ⟨hp1, hb1'⟩ := hPB (p1, b1) (.tail _ (.head _)); obtain ⟨hp2, hb2'⟩ := hPB (p2, b2) (.tail _ (.tail _ (.head _))); replace hs := Nat.le_trans hsz hs; replace hbs := Nat.le_trans hsz hbs; replace hp0 : w.heap.size ≤ p0 := Nat.le_trans hsz hp0; replace hb0' : w.heap.size ≤ b0 := Nat.le_trans hsz hb0'; replace hp1 : w.heap.size ≤ p1 := Nat.le_trans hsz hp1; replace hb1' : w.heap.size ≤ b1 := Nat.le_trans hsz hb1'; replace hp2 : w.heap.size ≤ p2 := Nat.le_trans hsz hp2; replace hb2' : w.heap.size ≤ b2 := Nat.le_trans hsz hb2'; clear hPB hPl hsz; replace H : Hp w [(s, blk [sl bs 0 3 cap] 90), (bs, blk (ptrs [(p0, b0), (p1, b1), (p2, b2)] ++ sp) 91), (p0, blk [sl b0 0 32 32] 135), (b0, blk (rows plc (t0)) 137), (p1, blk [sl b1 0 32 32] 135), (b1, blk (rows plc t0) 137), (p2, blk [sl b2 0 32 32] 135), (b2, blk (rows plc t0) 137)] w7 := H)
  refine WL_stepM rfl (R_as) ?_
  refine WL_nil ?_
  refine W_seq ?_
  refine W_seq ?_
  refine W_region_l ?_
  refine WL_stepM rfl (R_mv) ?_
  refine WL_step rfl (R_eq_ptr_nil Try.underlying25 rfl rfl) ?_
  refine WL_nil ?_
  refine W_cond_f rfl ?_
  refine W_skip ?_
  refine W_seq ?_
  refine W_region_l ?_
  refine WL_stepM rfl (R_mv) ?_
  refine WL_step rfl (R_bits (r := (L : Int)) rfl rfl (by simp) ((and_mask_i64 6 64 (by decide) rfl (by decide)).trans hL)) ?_
  refine WL_stepM rfl (R_mv) ?_
  refine WL_step rfl (R_bits (r := (N : Int)) rfl rfl (by simp) ((and_mask_i64 6 64 (by decide) rfl (by decide)).trans hN)) ?_
  refine WL_stepM rfl (R_mv) ?_
  refine WL_step rfl (R_bits (r := (A : Int)) rfl rfl (by simp) ((and_mask_i64 7 128 (by decide) rfl (by decide)).trans hA)) ?_
  refine WL_stepM rfl (R_mv) ?_
  refine WL_step rfl (R_bits (r := (M : Int)) rfl rfl (by simp) ((and_mask_i64 7 128 (by decide) rfl (by decide)).trans hM)) ?_
  refine WL_stepM rfl (R_as) ?_
  refine WL_stepM rfl (R_as) ?_
  refine WL_stepM rfl (R_as) ?_
  refine WL_stepM rfl (R_as) ?_
  refine WL_nil ?_
  refine W_seq ?_
  refine W_region_l ?_
  refine WL_stepM rfl (R_mv) ?_
  refine WL_step rfl (R_buildL (places := [(0, 1), (1, 1), (2, 1), (3, 1), (4, 2)]) (vs := (cp 4 (7 : Nat) 10 200 0 0).c) Try.underlying38 Try.typeInfo38 rfl rfl (by kernel_rfl) rfl rfl rfl) ?_
  (refine WL_call rfl (R_call rfl Try.call18 rfl) (put_yes (j := 0) (i := 0) (r := 7) (o := 4) (lo := 10) (n := 200) (re := 0) (rn := 0) (Sp.from H (PB := [(p0, b0), (p1, b1), (p2, b2)]) (ts := [t0, t0, t0]) bs cap sp (inv3 t0_len t0_g t0_len t0_g t0_len t0_g) (fun _ hp => hp)) rfl rfl (by decide) (by decide) (by decide) t0_at new_free (fun _ _ h => absurd h (Nat.not_lt_zero _))) ?_; rintro _ w37 ⟨rfl, H1⟩; rw [hta] at H1; replace H := H.seq H1 (okSeq_set (.there (.there (.there .here))) okSeq_nil); clear H1)
  refine WL_stepM rfl (R_mv) ?_
  refine WL_step rfl (R_extract rfl rfl) ?_
  refine WL_step rfl (R_extract rfl rfl) ?_
  refine WL_stepM rfl (R_as) ?_
  refine WL_stepM rfl (R_as) ?_
  refine WL_nil ?_
  refine W_seq ?_
  refine W_region_l ?_
  refine WL_stepM rfl (R_mv) ?_
  refine WL_stepM rfl (R_mv) ?_
  refine WL_stepM rfl (R_mv) ?_
  refine WL_stepM rfl (R_mv) ?_
  (refine WL_call rfl (R_call rfl Try.call19 rfl) (grant_yes (j := 0) (i := 0) (k := 1) (i2 := 0) (a := newPl) (l1 := L) (n1 := N) (gv := 5) (z := 4) (Sp.from H (PB := [(p0, b0), (p1, b1), (p2, b2)]) (ts := [ta, t0, t0]) bs cap sp (inv3 hal hag t0_len t0_g t0_len t0_g) (fun _ hp => hp)) rfl rfl ha0 rfl rfl t0_at new_free (fun _ _ h => absurd h (Nat.not_lt_zero _)) (by decide) (by decide) (by decide) (by decide) (by decide) (by omega) (by omega)) ?_; rintro _ w50 ⟨rfl, H1⟩; rw [htb] at H1; replace H := H.seq H1 (okSeq_set (.there (.there (.there (.there (.there .here))))) okSeq_nil); clear H1)
  refine WL_stepM rfl (R_mv) ?_
  refine WL_step rfl (R_extract rfl rfl) ?_
  refine WL_step rfl (R_extract rfl rfl) ?_
  refine WL_stepM rfl (R_as) ?_
  refine WL_stepM rfl (R_as) ?_
  refine WL_nil ?_
  refine W_seq ?_
  refine W_seq ?_
  refine W_region_l ?_
  refine WL_stepM rfl (R_mv) ?_
  refine WL_step rfl (R_ne_f rfl rfl (by omega)) ?_
  refine WL_stepM rfl (R_mv) ?_
  refine WL_guard_t rfl rfl ?_
  refine WL_stepM rfl (R_mv) ?_
  refine WL_guard_t rfl rfl ?_
  refine WL_step rfl (R_ne_f rfl rfl (by omega)) ?_
  refine WL_stepM rfl (R_pk_f rfl) ?_
  refine WL_nil ?_
  refine W_cond_f rfl ?_
  refine W_skip ?_
  refine W_seq ?_
  refine W_region_l ?_
  refine WL_stepM rfl (R_mv) ?_
  refine WL_step rfl (R_bits (r := (R : Int)) rfl rfl (by simp) ((and_mask_i64 3 8 (by decide) rfl (by decide)).trans hR)) ?_
  refine WL_stepM rfl (R_as) ?_
  refine WL_nil ?_
  refine W_seq ?_
  refine W_region_l ?_
  refine WL_stepM rfl (R_mv) ?_
  refine WL_stepM rfl (R_mv) ?_
  refine WL_stepM rfl (R_mv) ?_
  refine WL_stepM rfl (R_mv) ?_
  refine WL_stepM rfl (R_mv) ?_
  (refine WL_call rfl (R_call rfl Try.call19 rfl) (grant_arg (j := 1) (i := 0) (k := 2) (gv := R) (l1 := A) (n1 := M) (z := 4) (Sp.from H (PB := [(p0, b0), (p1, b1), (p2, b2)]) (ts := [ta, tb, t0]) bs cap sp (inv3 hal hag hbl hbg t0_len t0_g) (fun _ hp => hp)) rfl rfl hb0 (by simp) (by decide) (by decide) ((andNot5 hR2).trans (by omega)) (by omega) (by omega) (by omega) (by omega)) ?_; rintro _ w84 ⟨rfl, H1⟩; replace H := H.seq0 H1; clear H1)
  refine WL_stepM rfl (R_mv) ?_
  refine WL_step rfl (R_extract rfl rfl) ?_
  refine WL_step rfl (R_extract rfl rfl) ?_
  refine WL_stepM rfl (R_as) ?_
  refine WL_stepM rfl (R_as) ?_
  refine WL_nil ?_
  refine W_seq ?_
  refine W_region_l ?_
  refine WL_stepM rfl (R_as) ?_
  refine WL_nil ?_
  refine W_seq ?_
  refine W_block ?_
  refine W_seq ?_
  refine W_region_l ?_
  refine WL_stepM rfl (R_mv) ?_
  refine WL_step rfl (R_bits (r := ((2 * (R / 2 % 2) : Nat) : Int)) rfl rfl (by simp) (and2_r hR2)) ?_
  refine WL_step rfl (R_ne_f rfl rfl (by omega)) ?_
  refine WL_stepM rfl (R_as) ?_
  refine WL_nil ?_
  refine W_cond_f rfl ?_
  refine W_seq ?_
  refine W_region_l ?_
  refine WL_stepM rfl (R_mv) ?_
  refine WL_stepM rfl (R_mv) ?_
  refine WL_step rfl (R_gt rfl rfl) ?_
  refine WL_stepM rfl (R_mv) ?_
  apply WL_orK 6 73 79 [(74, 79)] H
  case hc => rfl
  case h1 =>
    intro h111
    refine WL_guard_t rfl rfl ?_
    refine WL_stepM rfl (R_mv) ?_
    refine WL_guard_t rfl rfl ?_
    refine WL_stepM rfl (R_mv) ?_
    refine WL_guard_t rfl rfl ?_
    refine WL_stepM rfl (R_mv) ?_
    refine WL_guard_t rfl rfl ?_
    refine WL_step rfl (R_sub rfl rfl (w_i64 (by omega))) ?_
    refine WL_guard_t rfl rfl ?_
    refine WL_step rfl (R_gt rfl rfl) ?_
    refine WL_stepM rfl (R_pk_f rfl) ?_
    refine WL_nil ?_
    exact ⟨(same_mov rfl (same_updo rfl (same_updo rfl (same_mov rfl (same_mov rfl (same_mov rfl Same.refl)))))), rfl, H⟩
  case h0 =>
    intro h111
    refine WL_guard_f rfl rfl (by decide) ?_
    refine WL_guard_f rfl rfl (by decide) ?_
    refine WL_guard_f rfl rfl (by decide) ?_
    refine WL_guard_f rfl rfl (by decide) ?_
    refine WL_guard_f rfl rfl (by decide) ?_
    refine WL_stepM rfl (R_pk_t rfl) ?_
    refine WL_nil ?_
    exact ⟨(same_mov rfl (same_updo rfl (same_updo rfl (same_updo rfl (same_updo rfl (same_updo rfl Same.refl)))))), rfl, H⟩
  case h2 =>
    (clear H; intro E111 w111 H)
    refine WL_stepM rfl (R_as) ?_
    refine WL_nil ?_
    refine W_if rfl (fun h135 => ?_) (fun h135 => ?_)
    · refine W_region_l ?_
      refine WL_stepM rfl (R_as) ?_
      refine WL_nil ?_
      refine W_seq ?_
      refine W_seq ?_
      refine W_region_l ?_
      refine WL_stepM rfl (R_mv) ?_
      refine WL_stepM rfl (R_mv) ?_
      refine WL_step rfl (R_ne_f rfl rfl (by omega)) ?_
      refine WL_nil ?_
      refine W_cond_f rfl ?_
      refine W_skip ?_
      refine W_seq ?_
      refine W_seq ?_
      refine W_region_l ?_
      refine WL_stepM rfl (R_mv) ?_
      refine WL_step rfl (R_ne_t rfl rfl (by omega)) ?_
      refine WL_nil ?_
      refine W_cond_t rfl ?_
      refine W_seq ?_
      refine W_region_l ?_
      (refine WL_call rfl (R_call rfl Try.call25 rfl) (awake3_ret _) ?_; rintro _ w157 ⟨rfl, H1⟩; replace H := H.seq0 H1; clear H1)
      refine WL_stepM rfl (R_as) ?_
      refine WL_nil ?_
      refine W_ret ?_
      exact ⟨_, rfl, rfl, H.none (by repeat' first | exact kNil | apply kCons | apply kApp | assumption | exact OwnS.keys (by assumption))⟩
    · refine W_skip ?_
      refine W_seq ?_
      refine W_seq ?_
      refine W_region_l ?_
      refine WL_stepM rfl (R_mv) ?_
      refine WL_stepM rfl (R_mv) ?_
      refine WL_step rfl (R_ne_f rfl rfl (by omega)) ?_
      refine WL_nil ?_
      refine W_cond_f rfl ?_
      refine W_skip ?_
      refine W_seq ?_
      refine W_seq ?_
      refine W_region_l ?_
      refine WL_stepM rfl (R_mv) ?_
      refine WL_step rfl (R_ne_f rfl rfl (by omega)) ?_
      refine WL_nil ?_
      refine W_cond_f rfl ?_
      refine W_skip ?_
      refine W_seq ?_
      refine W_region_l ?_
      refine WL_stepM rfl (R_mv) ?_
      refine WL_stepM rfl (R_mv) ?_
      exact (by omega : False).elim

theorem parts_ok {w : World} {lo n at_ m rights : Int} (hV : rights / 2 % 2 = 0 ∧ at_ % 128 ≤ n % 64 ∧ m % 128 ≤ n % 64 - at_ % 128) : Ret Try.prog 6 #[I lo, I n, I at_, I m, I rights] w fun v w' => v = .bool true ∧ Hp w [] w' := by
  refine Ret_of_W (args := [_, _, _, _, _]) Try.func6 rfl Try.ntmps6 Try.results6 (by simp) ?_
  have H := Hp.refl w
  obtain ⟨L, hL, hL2⟩ : ∃ N : Nat, lo % 64 = (N : Int) ∧ N < 64 := ⟨(lo % 64).toNat, by omega, by omega⟩
  obtain ⟨N, hN, hN2⟩ : ∃ N : Nat, n % 64 = (N : Int) ∧ N < 64 := ⟨(n % 64).toNat, by omega, by omega⟩
  obtain ⟨A, hA, hA2⟩ : ∃ N : Nat, at_ % 128 = (N : Int) ∧ N < 128 := ⟨(at_ % 128).toNat, by omega, by omega⟩
  obtain ⟨M, hM, hM2⟩ : ∃ N : Nat, m % 128 = (N : Int) ∧ N < 128 := ⟨(m % 128).toNat, by omega, by omega⟩
  obtain ⟨R, hR, hR2⟩ : ∃ N : Nat, rights % 8 = (N : Int) ∧ N < 8 := ⟨(rights % 8).toNat, by omega, by omega⟩
  rw [hN, hA, hM] at hV
  obtain ⟨ta, hta, hal, hag, ha0⟩ := tset t0_len t0_g (i := 0) (by decide) ⟨cp 4 (7 : Nat) 10 200 0 0, newPl.g, true⟩ (by decide)
  obtain ⟨tb, htb, hbl, hbg, hb0⟩ := tset t0_len t0_g (i := 0) (by decide) ⟨cp 4 5 (10 + (L : Int)) (N : Int) (0 : Nat) (0 + 256 * newPl.g : Nat), newPl.g, true⟩ (show newPl.g ≤ 1000001 by decide)
  obtain ⟨tc, htc, hcl, hcg, hc0⟩ := tset t0_len t0_g (i := 0) (by decide) ⟨cp 4 (R : Int) (10 + (L : Int) + (A : Int)) (M : Int) (1 : Nat) (0 + 256 * newPl.g : Nat), newPl.g, true⟩ (show newPl.g ≤ 1000001 by decide)
  have hna : namesFrom 0 ta = [((0 + 256 * newPl.g : Nat) : Int)] := by rw [← hta]; rfl
  have hnb : namesFrom 0 tb = [((0 + 256 * newPl.g : Nat) : Int)] := by rw [← htb]; rfl
  have hnc : namesFrom 0 tc = [((0 + 256 * newPl.g : Nat) : Int)] := by rw [← htc]; rfl
  refine W_seq ?_
  refine W_region_l ?_
  refine WL_stepM rfl (R_as) ?_
  refine WL_nil ?_
  refine W_seq ?_
  refine W_region_l ?_
  (refine WL_call rfl (R_call rfl Try.call13 rfl) (Caps.new_ret (E := 3) (by decide) (by decide) _) ?_; rintro _ w7 ⟨s, bs, cap, sp, PB, rfl, hPl, hs, hbs, hPB, H1⟩; obtain ⟨p0, b0, p1, b1, p2, b2, rfl⟩ := three hPl; have hsz := H.size; replace H := H.seqN H1 (spB_keys hs hbs hPB); clear H1; obtain ⟨hp0, hb0'⟩ := hPB (p0, b0) (.head _); obtain ⟨hp1, hb1'⟩ := hPB (p1, b1) (.tail _ (.head _)); obtain ⟨hp2, hb2'⟩ := hPB (p2, b2) (.tail _ (.tail _ (.head _))); replace hs := Nat.le_trans hsz hs; replace hbs := Nat.le_trans hsz hbs; replace hp0 : w.heap.size ≤ p0 := Nat.le_trans hsz hp0; replace hb0' : w.heap.size ≤ b0 := Nat.le_trans hsz hb0'; replace hp1 : w.heap.size ≤ p1 := Nat.le_trans hsz hp1; replace hb1' : w.heap.size ≤ b1 := Nat.le_trans hsz hb1'; replace hp2 : w.heap.size ≤ p2 := Nat.le_trans hsz hp2; replace hb2' : w.heap.size ≤ b2 := Nat.le_trans hsz hb2'; clear hPB hPl hsz; replace H : Hp w [(s, blk [sl bs 0 3 cap] 90), (bs, blk (ptrs [(p0, b0), (p1, b1), (p2, b2)] ++ sp) 91), (p0, blk [sl b0 0 32 32] 135), (b0, blk (rows plc (t0)) 137), (p1, blk [sl b1 0 32 32] 135), (b1, blk (rows plc t0) 137), (p2, blk [sl b2 0 32 32] 135), (b2, blk (rows plc t0) 137)] w7 := H)
  refine WL_stepM rfl (R_as) ?_
  refine WL_nil ?_
  refine W_seq ?_
  refine W_seq ?_
  refine W_region_l ?_
  refine WL_stepM rfl (R_mv) ?_
  refine WL_step rfl (R_eq_ptr_nil Try.underlying25 rfl rfl) ?_
  refine WL_nil ?_
  refine W_cond_f rfl ?_
  refine W_skip ?_
  refine W_seq ?_
  refine W_region_l ?_
  refine WL_stepM rfl (R_mv) ?_
  refine WL_step rfl (R_bits (r := (L : Int)) rfl rfl (by simp) ((and_mask_i64 6 64 (by decide) rfl (by decide)).trans hL)) ?_
  refine WL_stepM rfl (R_mv) ?_
  refine WL_step rfl (R_bits (r := (N : Int)) rfl rfl (by simp) ((and_mask_i64 6 64 (by decide) rfl (by decide)).trans hN)) ?_
  refine WL_stepM rfl (R_mv) ?_
  refine WL_step rfl (R_bits (r := (A : Int)) rfl rfl (by simp) ((and_mask_i64 7 128 (by decide) rfl (by decide)).trans hA)) ?_
  refine WL_stepM rfl (R_mv) ?_
  refine WL_step rfl (R_bits (r := (M : Int)) rfl rfl (by simp) ((and_mask_i64 7 128 (by decide) rfl (by decide)).trans hM)) ?_
  refine WL_stepM rfl (R_as) ?_
  refine WL_stepM rfl (R_as) ?_
  refine WL_stepM rfl (R_as) ?_
  refine WL_stepM rfl (R_as) ?_
  refine WL_nil ?_
  refine W_seq ?_
  refine W_region_l ?_
  refine WL_stepM rfl (R_mv) ?_
  refine WL_step rfl (R_buildL (places := [(0, 1), (1, 1), (2, 1), (3, 1), (4, 2)]) (vs := (cp 4 (7 : Nat) 10 200 0 0).c) Try.underlying38 Try.typeInfo38 rfl rfl (by kernel_rfl) rfl rfl rfl) ?_
  (refine WL_call rfl (R_call rfl Try.call18 rfl) (put_yes (j := 0) (i := 0) (r := 7) (o := 4) (lo := 10) (n := 200) (re := 0) (rn := 0) (Sp.from H (PB := [(p0, b0), (p1, b1), (p2, b2)]) (ts := [t0, t0, t0]) bs cap sp (inv3 t0_len t0_g t0_len t0_g t0_len t0_g) (fun _ hp => hp)) rfl rfl (by decide) (by decide) (by decide) t0_at new_free (fun _ _ h => absurd h (Nat.not_lt_zero _))) ?_; rintro _ w37 ⟨rfl, H1⟩; rw [hta] at H1; replace H := H.seq H1 (okSeq_set (.there (.there (.there .here))) okSeq_nil); clear H1)
  refine WL_stepM rfl (R_mv) ?_
  refine WL_step rfl (R_extract rfl rfl) ?_
  refine WL_step rfl (R_extract rfl rfl) ?_
  refine WL_stepM rfl (R_as) ?_
  refine WL_stepM rfl (R_as) ?_
  refine WL_nil ?_
  refine W_seq ?_
  refine W_region_l ?_
  refine WL_stepM rfl (R_mv) ?_
  refine WL_stepM rfl (R_mv) ?_
  refine WL_stepM rfl (R_mv) ?_
  refine WL_stepM rfl (R_mv) ?_
  (refine WL_call rfl (R_call rfl Try.call19 rfl) (grant_yes (j := 0) (i := 0) (k := 1) (i2 := 0) (a := newPl) (l1 := L) (n1 := N) (gv := 5) (z := 4) (Sp.from H (PB := [(p0, b0), (p1, b1), (p2, b2)]) (ts := [ta, t0, t0]) bs cap sp (inv3 hal hag t0_len t0_g t0_len t0_g) (fun _ hp => hp)) rfl rfl ha0 rfl rfl t0_at new_free (fun _ _ h => absurd h (Nat.not_lt_zero _)) (by decide) (by decide) (by decide) (by decide) (by decide) (by omega) (by omega)) ?_; rintro _ w50 ⟨rfl, H1⟩; rw [htb] at H1; replace H := H.seq H1 (okSeq_set (.there (.there (.there (.there (.there .here))))) okSeq_nil); clear H1)
  refine WL_stepM rfl (R_mv) ?_
  refine WL_step rfl (R_extract rfl rfl) ?_
  refine WL_step rfl (R_extract rfl rfl) ?_
  refine WL_stepM rfl (R_as) ?_
  refine WL_stepM rfl (R_as) ?_
  refine WL_nil ?_
  refine W_seq ?_
  refine W_seq ?_
  refine W_region_l ?_
  refine WL_stepM rfl (R_mv) ?_
  refine WL_step rfl (R_ne_f rfl rfl (by omega)) ?_
  refine WL_stepM rfl (R_mv) ?_
  refine WL_guard_t rfl rfl ?_
  refine WL_stepM rfl (R_mv) ?_
  refine WL_guard_t rfl rfl ?_
  refine WL_step rfl (R_ne_f rfl rfl (by omega)) ?_
  refine WL_stepM rfl (R_pk_f rfl) ?_
  refine WL_nil ?_
  refine W_cond_f rfl ?_
  refine W_skip ?_
  refine W_seq ?_
  refine W_region_l ?_
  refine WL_stepM rfl (R_mv) ?_
  refine WL_step rfl (R_bits (r := (R : Int)) rfl rfl (by simp) ((and_mask_i64 3 8 (by decide) rfl (by decide)).trans hR)) ?_
  refine WL_stepM rfl (R_as) ?_
  refine WL_nil ?_
  refine W_seq ?_
  refine W_region_l ?_
  refine WL_stepM rfl (R_mv) ?_
  refine WL_stepM rfl (R_mv) ?_
  refine WL_stepM rfl (R_mv) ?_
  refine WL_stepM rfl (R_mv) ?_
  refine WL_stepM rfl (R_mv) ?_
  (refine WL_call rfl (R_call rfl Try.call19 rfl) (grant_yes (j := 1) (i := 0) (k := 2) (i2 := 0) (a := newPl) (l1 := A) (n1 := M) (gv := R) (z := 4) (Sp.from H (PB := [(p0, b0), (p1, b1), (p2, b2)]) (ts := [ta, tb, t0]) bs cap sp (inv3 hal hag hbl hbg t0_len t0_g) (fun _ hp => hp)) rfl rfl hb0 rfl rfl t0_at new_free (fun _ _ h => absurd h (Nat.not_lt_zero _)) (by decide) (by decide) ((andNot5 hR2).trans (by omega)) (by omega) (by omega) (by omega) (by omega)) ?_; rintro _ w84 ⟨rfl, H1⟩; rw [htc] at H1; replace H := H.seq H1 (okSeq_set (.there (.there (.there (.there (.there (.there (.there .here))))))) okSeq_nil); clear H1)
  refine WL_stepM rfl (R_mv) ?_
  refine WL_step rfl (R_extract rfl rfl) ?_
  refine WL_step rfl (R_extract rfl rfl) ?_
  refine WL_stepM rfl (R_as) ?_
  refine WL_stepM rfl (R_as) ?_
  refine WL_nil ?_
  refine W_seq ?_
  refine W_region_l ?_
  refine WL_stepM rfl (R_as) ?_
  refine WL_nil ?_
  refine W_seq ?_
  refine W_block ?_
  refine W_seq ?_
  refine W_region_l ?_
  refine WL_stepM rfl (R_mv) ?_
  refine WL_step rfl (R_bits (r := ((2 * (R / 2 % 2) : Nat) : Int)) rfl rfl (by simp) (and2_r hR2)) ?_
  refine WL_step rfl (R_ne_f rfl rfl (by omega)) ?_
  refine WL_stepM rfl (R_as) ?_
  refine WL_nil ?_
  refine W_cond_f rfl ?_
  refine W_seq ?_
  refine W_region_l ?_
  refine WL_stepM rfl (R_mv) ?_
  refine WL_stepM rfl (R_mv) ?_
  refine WL_step rfl (R_gt_f rfl rfl (by omega)) ?_
  refine WL_stepM rfl (R_mv) ?_
  refine WL_guard_t rfl rfl ?_
  refine WL_stepM rfl (R_mv) ?_
  refine WL_guard_t rfl rfl ?_
  refine WL_stepM rfl (R_mv) ?_
  refine WL_guard_t rfl rfl ?_
  refine WL_stepM rfl (R_mv) ?_
  refine WL_guard_t rfl rfl ?_
  refine WL_step rfl (R_sub rfl rfl (w_i64 (by omega))) ?_
  refine WL_guard_t rfl rfl ?_
  refine WL_step rfl (R_gt_f rfl rfl (by omega)) ?_
  refine WL_stepM rfl (R_pk_f rfl) ?_
  refine WL_stepM rfl (R_as) ?_
  refine WL_nil ?_
  refine W_cond_f rfl ?_
  refine W_skip ?_
  refine W_seq ?_
  refine W_seq ?_
  refine W_region_l ?_
  refine WL_stepM rfl (R_mv) ?_
  refine WL_stepM rfl (R_mv) ?_
  refine WL_step rfl (R_ne_f rfl rfl (by omega)) ?_
  refine WL_nil ?_
  refine W_cond_f rfl ?_
  refine W_skip ?_
  refine W_seq ?_
  refine W_seq ?_
  refine W_region_l ?_
  refine WL_stepM rfl (R_mv) ?_
  refine WL_step rfl (R_ne_f rfl rfl (by omega)) ?_
  refine WL_nil ?_
  refine W_cond_f rfl ?_
  refine W_skip ?_
  refine W_seq ?_
  refine W_region_l ?_
  refine WL_stepM rfl (R_mv) ?_
  refine WL_stepM rfl (R_mv) ?_
  (refine WL_call rfl (R_call rfl Try.call26 rfl) (Caps.get_yes (j := 2) (i := 0) (a := ⟨cp 4 (R : Int) (10 + (L : Int) + (A : Int)) (M : Int) (1 : Nat) (0 + 256 * newPl.g : Nat), newPl.g, true⟩) (Sp.from H (PB := [(p0, b0), (p1, b1), (p2, b2)]) (ts := [ta, tb, tc]) bs cap sp (inv3 hal hag hbl hbg hcl hcg) (fun _ hp => hp)) rfl rfl hc0 rfl) ?_; rintro _ w147 ⟨rfl, H1⟩; replace H := H.seq0 H1; clear H1)
  refine WL_stepM rfl (R_mv) ?_
  refine WL_step rfl (R_extract rfl rfl) ?_
  refine WL_step rfl (R_extract rfl rfl) ?_
  (refine WL_effn rfl (E_allocK H) ?_; clear H; intro c19 w151 hc19 H)
  (refine WL_effu rfl (E_storeK (q := cp 4 (R : Int) (10 + (L : Int) + (A : Int)) (M : Int) (1 : Nat) (0 + 256 * newPl.g : Nat)) H rfl rfl .here) ?_; clear H; intro w152 H)
  refine WL_stepM rfl (R_as) ?_
  refine WL_nil ?_
  refine W_seq ?_
  refine W_region_l ?_
  refine WL_stepM rfl (R_mv) ?_
  refine WL_stepM rfl (R_mv) ?_
  (refine WL_call rfl (R_call rfl Try.call27 rfl) (under_3_0 (Sp.from H (PB := [(p0, b0), (p1, b1), (p2, b2)]) (ts := [ta, tb, tc]) bs cap sp (inv3 hal hag hbl hbg hcl hcg) (fun _ hp => .tail _ hp)) hna hnb hnc ha0 hb0 hc0) ?_; rintro _ w159 ⟨_, MU, rfl, hO, H1⟩; have h159 := H.seqO hO H1; clear H H1 hO; obtain ⟨hO, H⟩ := h159; obtain ⟨ub, uc, usp, rfl, hub, rfl, husp, huc⟩ := OwnS.pos hO (by decide))
  refine WL_stepM rfl (R_mv) ?_
  refine WL_step rfl (R_extract rfl rfl) ?_
  refine WL_step rfl (R_extract rfl rfl) ?_
  refine WL_stepM rfl (R_as) ?_
  refine WL_stepM rfl (R_as) ?_
  refine WL_nil ?_
  refine W_seq ?_
  refine W_region_l ?_
  refine WL_stepM rfl (R_mv) ?_
  refine WL_step rfl (R_eq_t rfl rfl (by omega)) ?_
  refine WL_stepM rfl (R_mv) ?_
  refine WL_guard_t rfl rfl ?_
  refine WL_step rfl (R_loadK (q := cp 4 (R : Int) (10 + (L : Int) + (A : Int)) (M : Int) (1 : Nat) (0 + 256 * newPl.g : Nat)) rfl (H.get (.there .here))) ?_
  refine WL_guard_t rfl rfl ?_
  refine WL_stepM rfl (R_mv) ?_
  refine WL_guard_t rfl rfl ?_
  refine WL_stepM rfl (R_mv) ?_
  refine WL_guard_t rfl rfl ?_
  refine WL_step rfl (R_add rfl rfl (w_i64 (by omega))) ?_
  refine WL_guard_t rfl rfl ?_
  refine WL_stepM rfl (R_mv) ?_
  refine WL_guard_t rfl rfl ?_
  refine WL_step rfl (R_add rfl rfl (w_i64 (by omega))) ?_
  refine WL_guard_t rfl rfl ?_
  refine WL_stepM rfl (R_mv) ?_
  refine WL_guard_t rfl rfl ?_
  refine WL_stepM rfl (R_mv) ?_
  refine WL_guard_t rfl rfl ?_
  refine WL_step rfl (R_buildL (places := [(0, 1), (1, 1)]) (vs := [I 1, I (0 + 256 * newPl.g : Nat)]) Try.underlying36 Try.typeInfo36 rfl rfl (by kernel_rfl) rfl rfl rfl) ?_
  refine WL_guard_t rfl rfl ?_
  refine WL_step rfl (R_buildL (places := [(0, 1), (1, 1), (2, 1), (3, 1), (4, 2)]) (vs := (cp 4 (R : Int) (10 + (L : Int) + (A : Int)) (M : Int) (1 : Nat) (0 + 256 * newPl.g : Nat)).c) Try.underlying38 Try.typeInfo38 rfl rfl (by kernel_rfl) rfl rfl rfl) ?_
  refine WL_guard_t rfl rfl ?_
  refine WL_step rfl (R_eq_cap_t (o := 4) (r := (R : Int)) (lo := 10 + (L : Int) + (A : Int)) (n := (M : Int)) (re := (1 : Nat)) (rn := (0 + 256 * newPl.g : Nat)) rfl rfl) ?_
  refine WL_stepM rfl (R_pk_t rfl) ?_
  refine WL_stepM rfl (R_mv) ?_
  refine WL_guard_t rfl rfl ?_
  refine WL_stepM rfl (R_mv) ?_
  refine WL_guard_t rfl rfl ?_
  refine WL_step rfl (R_eq_t rfl rfl (by omega)) ?_
  refine WL_stepM rfl (R_pk_t rfl) ?_
  refine WL_stepM rfl (R_mv) ?_
  refine WL_guard_t rfl rfl ?_
  refine WL_stepM rfl (R_mv) ?_
  refine WL_guard_t rfl rfl ?_
  refine WL_step rfl (R_len_slice Try.underlying51 rfl) ?_
  refine WL_guard_t rfl rfl ?_
  refine WL_step rfl (R_eq_t rfl rfl (by omega)) ?_
  refine WL_stepM rfl (R_pk_t rfl) ?_
  refine WL_stepM rfl (R_mv) ?_
  refine WL_guard_t rfl rfl ?_
  refine WL_stepM rfl (R_mv) ?_
  refine WL_guard_t rfl rfl ?_
  refine WL_step rfl (R_indexAddr (off' := 0) Try.underlying51 Try.sizeOf36 rfl rfl (by decide) (by decide) (by decide)) ?_
  refine WL_guard_t rfl rfl ?_
  refine WL_step rfl (R_loadA (vs := [I 1, I (0 + 256 * newPl.g : Nat)]) Try.isAgg36 Try.sizeOf36 rfl (H.get .here) rfl (by simp)) ?_
  refine WL_guard_t rfl rfl ?_
  refine WL_stepM rfl (R_mv) ?_
  refine WL_guard_t rfl rfl ?_
  refine WL_step rfl (R_buildL (places := [(0, 1), (1, 1)]) (vs := [I 1, I (0 + 256 * newPl.g : Nat)]) Try.underlying36 Try.typeInfo36 rfl rfl (by kernel_rfl) rfl rfl rfl) ?_
  refine WL_guard_t rfl rfl ?_
  refine WL_step rfl (R_eq_ref_t (a := 1) (b := (0 + 256 * newPl.g : Nat)) rfl rfl) ?_
  refine WL_stepM rfl (R_pk_t rfl) ?_
  refine WL_stepM rfl (R_mv) ?_
  refine WL_guard_t rfl rfl ?_
  refine WL_stepM rfl (R_mv) ?_
  refine WL_guard_t rfl rfl ?_
  refine WL_step rfl (R_indexAddr (off' := 2) Try.underlying51 Try.sizeOf36 rfl rfl (by decide) (by decide) (by decide)) ?_
  refine WL_guard_t rfl rfl ?_
  refine WL_step rfl (R_loadA (vs := [I 2, I (0 + 256 * newPl.g : Nat)]) Try.isAgg36 Try.sizeOf36 rfl (H.get .here) rfl (by simp)) ?_
  refine WL_guard_t rfl rfl ?_
  refine WL_stepM rfl (R_mv) ?_
  refine WL_guard_t rfl rfl ?_
  refine WL_step rfl (R_buildL (places := [(0, 1), (1, 1)]) (vs := [I 2, I (0 + 256 * newPl.g : Nat)]) Try.underlying36 Try.typeInfo36 rfl rfl (by kernel_rfl) rfl rfl rfl) ?_
  refine WL_guard_t rfl rfl ?_
  refine WL_step rfl (R_eq_ref_t (a := 2) (b := (0 + 256 * newPl.g : Nat)) rfl rfl) ?_
  refine WL_stepM rfl (R_pk_t rfl) ?_
  refine WL_stepM rfl (R_mv) ?_
  refine WL_guard_t rfl rfl ?_
  (refine WL_call rfl (R_call rfl Try.call25 rfl) (awake3_ret _) ?_; rintro _ w238 ⟨rfl, H1⟩; replace H := H.seq0 H1; clear H1)
  refine WL_stepM rfl (R_pk_t rfl) ?_
  refine WL_stepM rfl (R_as) ?_
  refine WL_nil ?_
  refine W_ret ?_
  exact ⟨_, rfl, rfl, H.none (by repeat' first | exact kNil | apply kCons | apply kApp | assumption | exact OwnS.keys (by assumption))⟩

theorem parts_ret {w : World} (lo n at_ m rights : Int) : Ret Try.prog 6 #[I lo, I n, I at_, I m, I rights] w fun v w' => v = .bool true ∧ Hp w [] w' := by
  by_cases h1 : rights / 2 % 2 = 0
  · by_cases h2 : at_ % 128 ≤ n % 64 ∧ m % 128 ≤ n % 64 - at_ % 128
    · exact parts_ok ⟨h1, h2.1, h2.2⟩
    · exact parts_arg ⟨h1, by omega⟩
  · exact parts_right ⟨h1, by omega, by omega, by omega⟩
end Go.Proofs.Ythonajikgljgmaa.Reg

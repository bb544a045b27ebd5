/-
  The law RegionCopies.
-/
import Derived.Test.YthonajikgljgmaaRegE
namespace Go.Proofs.Ythonajikgljgmaa.Reg
open Go Go.Proofs Go.Proofs.Ythonajikgljgmaa.Fx Go.Proofs.Ythonajikgljgmaa.TabC Go.Proofs.Ythonajikgljgmaa.Caps
set_option maxRecDepth 100000
set_option linter.unusedVariables false
set_option linter.unusedSimpArgs false
set_option maxHeartbeats 8000000

theorem and1_8 {r : Nat} (h : r < 8) : bitsOf .and .i64 (r : Int) 1 = ((r % 2 : Nat) : Int) := by
  have : ∀ a : Fin 8, bitsOf .and .i64 (a.val : Int) 1 = ((a.val % 2 : Nat) : Int) := by decide
  exact this ⟨r, h⟩
theorem and2_8 {r : Nat} (h : r < 8) : bitsOf .and .i64 (r : Int) 2 = ((2 * (r / 2 % 2) : Nat) : Int) := by
  have : ∀ a : Fin 8, bitsOf .and .i64 (a.val : Int) 2 = ((2 * (a.val / 2 % 2) : Nat) : Int) := by decide
  exact this ⟨r, h⟩
theorem and_2 (x : Int) : bitsOf .and .i64 x 2 = 2 * (x / 2 % 2) := by
  have h2 : (BitVec.ofInt 64 2) = 2#64 := by decide
  show IntKind.i64.wrap (((BitVec.ofInt 64 x) &&& (BitVec.ofInt 64 2)).toNat : Int) = _
  rw [h2]
  have hb : (BitVec.ofInt 64 x &&& 2#64) = if (BitVec.ofInt 64 x).getLsbD 1 then 2#64 else 0#64 := by
    ext i hi
    rw [BitVec.getElem_and]
    by_cases h : (BitVec.ofInt 64 x).getLsbD 1
    · rw [if_pos h]
      by_cases hi1 : i = 1
      · subst hi1; rw [← BitVec.getLsbD_eq_getElem, h]; simp
      · have : (2#64)[i] = false := by rw [← BitVec.getLsbD_eq_getElem]; simp [BitVec.getLsbD_ofNat]; intro; rw [show (2 : Nat) = 2 ^ 1 from rfl, Nat.testBit_two_pow]; simp; omega
        rw [this, Bool.and_false]
    · rw [if_neg h]
      by_cases hi1 : i = 1
      · subst hi1; rw [← BitVec.getLsbD_eq_getElem, eq_false_of_ne_true h]; simp
      · have : (2#64)[i] = false := by rw [← BitVec.getLsbD_eq_getElem]; simp [BitVec.getLsbD_ofNat]; intro; rw [show (2 : Nat) = 2 ^ 1 from rfl, Nat.testBit_two_pow]; simp; omega
        rw [this, Bool.and_false]; simp
  have hg : (BitVec.ofInt 64 x).getLsbD 1 = decide (x / 2 % 2 = 1) := by
    rw [BitVec.getLsbD, BitVec.toNat_ofInt, Nat.testBit_eq_decide_div_mod_eq]
    congr 1
    apply propext
    constructor <;> intro h <;> omega
  rw [hb, hg]
  by_cases h : x / 2 % 2 = 1
  · rw [decide_eq_true h, if_pos rfl, h]; rfl
  · rw [decide_eq_false h, if_neg (by simp)]
    have : x / 2 % 2 = 0 := by omega
    rw [this]; rfl
theorem put0_at {xs ys : List UInt8} {i : Nat} (h : ys.length ≤ xs.length) : (Mem.put xs ys 0).length = xs.length := Mem.put_length (by omega)

theorem copyW {w w2 : World} {f : Nat} {args : Array Value} {mb : Nat} {M : List (Nat × Obj)} {o : Obj} {xs us : List UInt8} (h : Ret Try.prog f args w2 fun v w' => v = I 0 ∧ Hp w2 [(mb, blk (xs.map U) 5)] w') (hb : w.heap[mb]? = some o) (H2 : Hp w M w2) (hk : ∀ p ∈ M, w.heap.size ≤ p.1) (hu : us = xs) :
    Ret Try.prog f args w2 fun v w' => v = I 0 ∧ Hp w (M ++ [(mb, blk (us.map U) 5)]) w' := by
  subst hu
  refine h.mono ?_
  rintro v w' ⟨hv, H1⟩
  exact ⟨hv, (H2.seqB hb hk H1).perm (List.perm_append_comm (l₁ := [_]) (l₂ := M))⟩
theorem copyN {w w2 : World} {f : Nat} {args : Array Value} {M : List (Nat × Obj)} {e : Int} (h : Ret Try.prog f args w2 fun v w' => v = I e ∧ Hp w2 [] w') (H2 : Hp w M w2) :
    Ret Try.prog f args w2 fun v w' => v = I e ∧ Hp w (M ++ []) w' := by
  rw [List.append_nil]
  refine h.mono ?_
  rintro v w' ⟨hv, H1⟩
  exact ⟨hv, H2.seq0 H1⟩
theorem seqMK {w0 w w' : World} {L M : List (Nat × Obj)} {b : Nat} {o o0 : Obj} {f} (H : Hp w0 L w) (H1 : Hp w (M ++ [(b, o)]) w') (hM : ∀ p ∈ M, w.heap.size ≤ p.1) (hat : At L b o0 f) : Hp w0 (f o) w' := by
  have h := H.get hat
  have H2 : Hp w [(b, o)] w' := Hp.dropN H1 hM
  exact H.seq H2 (okSeq_set hat okSeq_nil)

theorem copies_yes {w : World} {ys : List UInt8} {l : Value} {at_ on n rd wr : Int} (hl : RdS w l (ys.map U)) (hy : ys.length ≤ 100) (hV : ¬ rd % 2 = 0 ∧ ¬ wr / 2 % 2 = 0) :
    Ret Try.prog 4 #[l, I at_, I on, I n, I rd, I wr] w fun v w' => v = .bool true ∧ Hp w [] w' := by
  refine Ret_of_W (args := [_, _, _, _, _, _]) Try.func4 rfl Try.ntmps4 Try.results4 (by simp) ?_
  have H := Hp.refl w
  obtain ⟨ao, ca0, rfl⟩ := hl.form
  simp only [List.length_map] at hl ⊢
  obtain ⟨A, hA, hA2⟩ : ∃ L : Nat, at_ % 64 = (L : Int) ∧ L < 64 := ⟨(at_ % 64).toNat, by omega, by omega⟩
  obtain ⟨O, hO, hO2⟩ : ∃ L : Nat, on % 64 = (L : Int) ∧ L < 64 := ⟨(on % 64).toNat, by omega, by omega⟩
  obtain ⟨N, hN, hN2⟩ : ∃ N : Nat, n % 32 = (N : Int) ∧ N < 32 := ⟨(n % 32).toNat, by omega, by omega⟩
  obtain ⟨R, hR, hR2⟩ : ∃ N : Nat, rd % 8 = (N : Int) ∧ N < 8 := ⟨(rd % 8).toNat, by omega, by omega⟩
  obtain ⟨W, hW, hW2⟩ : ∃ N : Nat, wr % 8 = (N : Int) ∧ N < 8 := ⟨(wr % 8).toNat, by omega, by omega⟩
  obtain ⟨ta, hta, hal, hag, ha0⟩ := tset t0_len t0_g (i := 0) (by decide) ⟨cp 0 (R : Int) 0 100 0 0, newPl.g, true⟩ (show newPl.g ≤ 1000001 by decide)
  have ha1 : ta[1]? = some newPl := by rw [← hta, List.getElem?_set_ne (by decide)]; rfl
  obtain ⟨tb, htb, hbl, hbg, hb1⟩ := tset hal hag (i := 1) (by decide) ⟨cp 0 (W : Int) 0 100 0 0, newPl.g, true⟩ (show newPl.g ≤ 1000001 by decide)
  have hb0 : tb[0]? = some ⟨cp 0 (R : Int) 0 100 0 0, newPl.g, true⟩ := by rw [← htb, List.getElem?_set_ne (by decide)]; exact ha0
  obtain ⟨zs, hzs, hzl⟩ : ∃ zs : List UInt8, zs = List.replicate 128 0 ∧ zs.length = 128 := ⟨_, rfl, by simp⟩
  obtain ⟨vs, hvs, hvl⟩ : ∃ vs : List UInt8, vs = Mem.put zs ys 0 ∧ vs.length = 128 := ⟨_, rfl, by rw [Mem.put_length (by omega)]; exact hzl⟩
  obtain ⟨qs, hqs, hql⟩ : ∃ qs : List UInt8, qs = vs.take 100 ∧ qs.length = 100 := ⟨_, rfl, by rw [List.length_take]; omega⟩
  obtain ⟨cs, hcs, hcl⟩ : ∃ cs : List UInt8, cs = (vs.drop A).take N ∧ cs.length = N := ⟨_, rfl, by rw [List.length_take, List.length_drop]; omega⟩
  obtain ⟨us, hus, hul⟩ : ∃ us : List UInt8, us = Mem.put vs cs O ∧ us.length = 128 := ⟨_, rfl, by rw [Mem.put_length (by omega)]; exact hvl⟩
  obtain ⟨ns, hns, hnl⟩ : ∃ ns : List UInt8, ns = us.take 100 ∧ ns.length = 100 := ⟨_, rfl, by rw [List.length_take]; omega⟩
  refine W_seq ?_
  refine W_region_l ?_
  refine WL_stepM rfl (R_as) ?_
  refine WL_nil ?_
  refine W_seq ?_
  refine W_region_l ?_
  (refine WL_call rfl (R_call rfl Try.call12 rfl) (Mem.new_ret 2 _) ?_; rintro _ w7 ⟨m, mb, rfl, H1, hm, hmb⟩; rw [show Mem.szOf 2 = 128 from rfl, ← Mem.zmap, ← hzs] at H1; replace H := H.seqN H1 (kCons hm (kCons hmb kNil)); replace H : Hp w [(m, blk [sl mb 0 128 128] 87), (mb, blk (zs.map U) 5)] w7 := H; clear H1)
  (refine WL_call rfl (R_call rfl Try.call13 rfl) (Caps.new_ret (E := 1) (by decide) (by decide) _) ?_; rintro _ w8 ⟨s, bs, cap, sp, PB, rfl, hPl, hs, hbs, hPB, H1⟩; obtain ⟨p0, b0, rfl⟩ := one hPl; have hsz := H.size; replace H := H.seqN H1 (spB_keys hs hbs hPB); clear H1; obtain ⟨hp0, hb0'⟩ := hPB (p0, b0) (.head _); replace hs := Nat.le_trans hsz hs; replace hbs := Nat.le_trans hsz hbs; replace hp0 : w.heap.size ≤ p0 := Nat.le_trans hsz hp0; replace hb0' : w.heap.size ≤ b0 := Nat.le_trans hsz hb0'; clear hPB hPl hsz; replace H : Hp w [(s, blk [sl bs 0 1 cap] 90), (bs, blk (ptrs [(p0, b0)] ++ sp) 91), (p0, blk [sl b0 0 32 32] 135), (b0, blk (rows plc t0) 137), (m, blk [sl mb 0 128 128] 87), (mb, blk (zs.map U) 5)] w8 := H)
  refine WL_stepM rfl (R_as) ?_
  refine WL_stepM rfl (R_as) ?_
  refine WL_nil ?_
  refine W_seq ?_
  refine W_region_l ?_
  refine WL_stepM rfl (R_mv) ?_
  refine WL_stepM rfl (R_mv) ?_
  (refine WL_call rfl (R_call rfl Try.call14 rfl) (new_ret m s _) ?_; rintro _ w16 ⟨rr, rfl, hrr, H1⟩; have hsz := H.size; replace H := H.seqN H1 (kCons hrr kNil); clear H1; replace hrr := Nat.le_trans hsz hrr; clear hsz; replace H : Hp w [(rr, blk [ptr m 0, ptr s 0, nilS] 95), (s, blk [sl bs 0 1 cap] 90), (bs, blk (ptrs [(p0, b0)] ++ sp) 91), (p0, blk [sl b0 0 32 32] 135), (b0, blk (rows plc t0) 137), (m, blk [sl mb 0 128 128] 87), (mb, blk (zs.map U) 5)] w16 := H)
  refine WL_stepM rfl (R_as) ?_
  refine WL_nil ?_
  refine W_seq ?_
  refine W_seq ?_
  refine W_region_l ?_
  refine WL_stepM rfl (R_mv) ?_
  refine WL_step rfl (R_eq_ptr_nil Try.underlying23 rfl rfl) ?_
  refine WL_stepM rfl (R_mv) ?_
  refine WL_guard_t rfl rfl ?_
  refine WL_stepM rfl (R_mv) ?_
  refine WL_guard_t rfl rfl ?_
  refine WL_step rfl (R_eq_ptr_nil Try.underlying25 rfl rfl) ?_
  refine WL_stepM rfl (R_pk_f rfl) ?_
  refine WL_stepM rfl (R_mv) ?_
  refine WL_guard_t rfl rfl ?_
  refine WL_stepM rfl (R_mv) ?_
  refine WL_guard_t rfl rfl ?_
  refine WL_step rfl (R_eq_ptr_nil Try.underlying27 rfl rfl) ?_
  refine WL_stepM rfl (R_pk_f rfl) ?_
  refine WL_stepM rfl (R_mv) ?_
  refine WL_guard_t rfl rfl ?_
  refine WL_stepM rfl (R_mv) ?_
  refine WL_guard_t rfl rfl ?_
  refine WL_step rfl (R_len_slice Try.underlying22 rfl) ?_
  refine WL_guard_t rfl rfl ?_
  refine WL_step rfl (R_gt_f rfl rfl (by omega)) ?_
  refine WL_stepM rfl (R_pk_f rfl) ?_
  refine WL_nil ?_
  refine W_cond_f rfl ?_
  refine W_skip ?_
  refine W_seq ?_
  refine W_region_l ?_
  refine WL_stepM rfl (R_mv) ?_
  (refine WL_call rfl (R_call rfl Try.call17 rfl) (add_ret (xs := zs) (H.get .here) (H.get (.there (.there (.there (.there (.there .here)))))) hzl (by decide) (lo := 0) (n := 100) (by decide) (by decide) (by decide)) ?_; rintro _ w50 ⟨a, ca, sp2, rfl, ha, H1⟩; have hsz := H.size; replace H := H.seq H1 (okSeq_set .here (okSeq_new ha okSeq_nil)); clear H1; replace ha := Nat.le_trans hsz ha; clear hsz)
  refine WL_stepM rfl (R_mv) ?_
  refine WL_step rfl (R_extract rfl rfl) ?_
  refine WL_step rfl (R_extract rfl rfl) ?_
  refine WL_stepM rfl (R_as) ?_
  refine WL_stepM rfl (R_as) ?_
  refine WL_nil ?_
  refine W_seq ?_
  refine W_region_l ?_
  refine WL_stepM rfl (R_mv) ?_
  refine WL_stepM rfl (R_mv) ?_
  (refine WL_call rfl (R_call rfl Try.call16 rfl) (Mem.store_yes (xs := zs) (ys := ys) 0 (H.get (.there (.there (.there (.there (.there (.there .here))))))) (H.get (.there (.there (.there (.there (.there (.there (.there .here)))))))) hzl (by omega) (hl.monoN H (by repeat' first | exact kNil | apply kCons | apply kApp | assumption | exact OwnS.keys (by assumption))) (by omega)) ?_; rintro _ w61 ⟨rfl, H1⟩; rw [← hvs] at H1; replace H := H.seq H1 (okSeq_set (.there (.there (.there (.there (.there (.there (.there .here))))))) okSeq_nil); clear H1)
  refine WL_nil ?_
  refine W_seq ?_
  refine W_region_l ?_
  refine WL_stepM rfl (R_mv) ?_
  (refine WL_call rfl (R_call rfl Try.call21 rfl) (Mem.load_yes (xs := vs) 0 100 (H.get (.there (.there (.there (.there (.there (.there .here))))))) (H.get (.there (.there (.there (.there (.there (.there (.there .here)))))))) hvl (by omega) (by omega)) ?_; rintro _ w66 ⟨_, M, rfl, hO1, H1⟩; rw [List.drop_zero, ← hqs] at hO1; have h66 := H.seqO hO1 H1; clear H H1 hO1; obtain ⟨hO1, H⟩ := h66; obtain ⟨ub, uc, usp, rfl, hub, rfl, husp, huc⟩ := OwnS.pos hO1 (by omega); replace H : Hp w [(ub, blk (qs.map U ++ usp) 5), (a, blk ([I 0, I 100] ++ sp2) 98), (rr, blk [ptr m 0, ptr s 0, sl a 0 1 ca] 95), (s, blk [sl bs 0 1 cap] 90), (bs, blk (ptrs [(p0, b0)] ++ sp) 91), (p0, blk [sl b0 0 32 32] 135), (b0, blk (rows plc t0) 137), (m, blk [sl mb 0 128 128] 87), (mb, blk (vs.map U) 5)] w66 := H)
  refine WL_stepM rfl (R_mv) ?_
  refine WL_step rfl (R_extract rfl rfl) ?_
  refine WL_step rfl (R_extract rfl rfl) ?_
  refine WL_stepM rfl (R_as) ?_
  refine WL_stepM rfl (R_as) ?_
  refine WL_nil ?_
  refine W_seq ?_
  refine W_region_l ?_
  refine WL_stepM rfl (R_mv) ?_
  refine WL_step rfl (R_bits (r := (A : Int)) rfl rfl (by simp) ((and_mask_i64 6 64 (by decide) rfl (by decide)).trans hA)) ?_
  refine WL_stepM rfl (R_mv) ?_
  refine WL_step rfl (R_bits (r := (O : Int)) rfl rfl (by simp) ((and_mask_i64 6 64 (by decide) rfl (by decide)).trans hO)) ?_
  refine WL_stepM rfl (R_mv) ?_
  refine WL_step rfl (R_bits (r := (N : Int)) rfl rfl (by simp) ((and_mask_i64 5 32 (by decide) rfl (by decide)).trans hN)) ?_
  refine WL_stepM rfl (R_as) ?_
  refine WL_stepM rfl (R_as) ?_
  refine WL_stepM rfl (R_as) ?_
  refine WL_nil ?_
  refine W_seq ?_
  refine W_region_l ?_
  refine WL_stepM rfl (R_mv) ?_
  refine WL_stepM rfl (R_mv) ?_
  refine WL_stepM rfl (R_mv) ?_
  refine WL_step rfl (R_bits (r := (R : Int)) rfl rfl (by simp) ((and_mask_i64 3 8 (by decide) rfl (by decide)).trans hR)) ?_
  refine WL_step rfl (R_buildL (places := [(0, 1), (1, 1), (2, 1), (3, 1), (4, 2)]) (vs := (cp 0 (R : Int) 0 100 0 0).c) Try.underlying38 Try.typeInfo38 rfl rfl (by kernel_rfl) rfl rfl rfl) ?_
  (refine WL_call rfl (R_call rfl Try.call18 rfl) (put_yes (j := 0) (i := 0) (r := R) (o := 0) (lo := 0) (n := 100) (re := 0) (rn := 0) (Sp.from H (PB := [(p0, b0)]) (ts := [t0]) bs cap sp (inv1 t0_len t0_g) (fun _ hp => .tail _ (.tail _ (.tail _ (List.mem_append_left _ hp))))) rfl rfl hR2 (by decide) (by decide) t0_at new_free (fun _ _ h => absurd h (Nat.not_lt_zero _))) ?_; rintro _ w92 ⟨rfl, H1⟩; rw [hta] at H1; replace H := H.seq H1 (okSeq_set (.there (.there (.there (.there (.there (.there .here)))))) okSeq_nil); clear H1)
  refine WL_stepM rfl (R_mv) ?_
  refine WL_step rfl (R_extract rfl rfl) ?_
  refine WL_step rfl (R_extract rfl rfl) ?_
  refine WL_stepM rfl (R_as) ?_
  refine WL_stepM rfl (R_as) ?_
  refine WL_nil ?_
  refine W_seq ?_
  refine W_region_l ?_
  refine WL_stepM rfl (R_mv) ?_
  refine WL_stepM rfl (R_mv) ?_
  refine WL_stepM rfl (R_mv) ?_
  refine WL_step rfl (R_bits (r := (W : Int)) rfl rfl (by simp) ((and_mask_i64 3 8 (by decide) rfl (by decide)).trans hW)) ?_
  refine WL_step rfl (R_buildL (places := [(0, 1), (1, 1), (2, 1), (3, 1), (4, 2)]) (vs := (cp 0 (W : Int) 0 100 0 0).c) Try.underlying38 Try.typeInfo38 rfl rfl (by kernel_rfl) rfl rfl rfl) ?_
  (refine WL_call rfl (R_call rfl Try.call18 rfl) (put_yes (j := 0) (i := 1) (r := W) (o := 0) (lo := 0) (n := 100) (re := 0) (rn := 0) (Sp.from H (PB := [(p0, b0)]) (ts := [ta]) bs cap sp (inv1 hal hag) (fun _ hp => .tail _ (.tail _ (.tail _ (List.mem_append_left _ hp))))) rfl rfl hW2 (by decide) (by decide) ha1 new_free (fun k a' hk hka hf => by obtain rfl : k = 0 := (by omega); rw [ha0] at hka; cases hka; exact absurd hf.1 (show ¬ (true = false) by decide))) ?_; rintro _ w106 ⟨rfl, H1⟩; rw [htb] at H1; replace H := H.seq H1 (okSeq_set (.there (.there (.there (.there (.there (.there .here)))))) okSeq_nil); clear H1)
  refine WL_stepM rfl (R_mv) ?_
  refine WL_step rfl (R_extract rfl rfl) ?_
  refine WL_step rfl (R_extract rfl rfl) ?_
  refine WL_stepM rfl (R_as) ?_
  refine WL_stepM rfl (R_as) ?_
  refine WL_nil ?_
  refine W_seq ?_
  refine W_region_l ?_
  refine WL_stepM rfl (R_mv) ?_
  refine WL_stepM rfl (R_mv) ?_
  refine WL_stepM rfl (R_mv) ?_
  refine WL_stepM rfl (R_mv) ?_
  refine WL_stepM rfl (R_mv) ?_
  refine WL_stepM rfl (R_mv) ?_
  (refine WL_call rfl (R_call rfl Try.call23 rfl) (copy_to (e := 0) (k := N) (zs := cs) (K := [(mb, blk (us.map U) 5)]) (by rw [hcs]; exact read_yes (xs := vs) (p := A) (k := N) (place_to (j := 0) (i := 0) (z := ((R % 2 : Nat) : Int)) (p := A) (k := N) (at_ := A) (lo := 0) (rlo := 0) (rn := 100) (by omega) (H.get (.there (.there .here))) (H.get (.there .here)) (Sp.from H (PB := [(p0, b0)]) (ts := [tb]) bs cap sp (inv1 hbl hbg) (fun _ hp => .tail _ (.tail _ (.tail _ (List.mem_append_left _ hp))))) rfl rfl hb0 (and1_8 hR2) (by omega) (by decide) (by decide) (by decide) (by decide) (by omega) (by omega) (by omega)) (H.get (.there (.there .here))) (H.get (.there (.there (.there (.there (.there (.there (.there .here)))))))) (H.get (.there (.there (.there (.there (.there (.there (.there (.there .here))))))))) hvl (by decide) (by omega)) (fun u M w2 hO2 H2 => copyW (write_yes (xs := vs) (ys := cs) (p := O) (RdS.own hO2 (fun p hp => H2.held p hp)) (by rw [hcl]; exact place_to (j := 0) (i := 1) (z := ((2 * (W / 2 % 2) : Nat) : Int)) (p := O) (k := N) (at_ := O) (lo := 0) (rlo := 0) (rn := 100) (by omega) (H2.blockN (H.get (.there (.there .here))) hO2.keys) (H2.blockN (H.get (.there .here)) hO2.keys) (((Sp.from H (PB := [(p0, b0)]) (ts := [tb]) bs cap sp (inv1 hbl hbg) (fun _ hp => .tail _ (.tail _ (.tail _ (List.mem_append_left _ hp)))))).monoN H2 hO2.keys) rfl rfl hb1 (and2_8 hW2) (by omega) (by decide) (by decide) (by decide) (by decide) (by omega) (by omega) (by omega)) (H2.blockN (H.get (.there (.there .here))) hO2.keys) (H2.blockN (H.get (.there (.there (.there (.there (.there (.there (.there .here)))))))) hO2.keys) (H2.blockN (H.get (.there (.there (.there (.there (.there (.there (.there (.there .here))))))))) hO2.keys) hvl (by decide) (by omega)) (H.get (.there (.there (.there (.there (.there (.there (.there (.there .here))))))))) H2 hO2.keys hus)) ?_; rintro _ w121 ⟨M, rfl, hMk, H1⟩; replace H := seqMK H H1 hMk (.there (.there (.there (.there (.there (.there (.there (.there .here)))))))); clear H1 hMk)
  refine WL_stepM rfl (R_as) ?_
  refine WL_nil ?_
  refine W_seq ?_
  refine W_region_l ?_
  refine WL_stepM rfl (R_mv) ?_
  (have _g := hb1; refine WL_call rfl (R_call rfl Try.call21 rfl) (Mem.load_yes (xs := us) 0 100 (H.get (.there (.there (.there (.there (.there (.there (.there .here)))))))) (H.get (.there (.there (.there (.there (.there (.there (.there (.there .here))))))))) hul (by omega) (by omega)) ?_; rintro _ w127 ⟨_, M, rfl, hO3, H1⟩; rw [List.drop_zero, ← hns] at hO3; have h127 := H.seqO hO3 H1; clear H H1 hO3; obtain ⟨hO3, H⟩ := h127; obtain ⟨nb, nc, nsp, rfl, hnb, rfl, hnsp, hnc⟩ := OwnS.pos hO3 (by omega); replace H : Hp w [(nb, blk (ns.map U ++ nsp) 5), (ub, blk (qs.map U ++ usp) 5), (a, blk ([I 0, I 100] ++ sp2) 98), (rr, blk [ptr m 0, ptr s 0, sl a 0 1 ca] 95), (s, blk [sl bs 0 1 cap] 90), (bs, blk (ptrs [(p0, b0)] ++ sp) 91), (p0, blk [sl b0 0 32 32] 135), (b0, blk (rows plc tb) 137), (m, blk [sl mb 0 128 128] 87), (mb, blk (us.map U) 5)] w127 := H)
  refine WL_stepM rfl (R_mv) ?_
  refine WL_step rfl (R_extract rfl rfl) ?_
  refine WL_step rfl (R_extract rfl rfl) ?_
  refine WL_stepM rfl (R_as) ?_
  refine WL_stepM rfl (R_as) ?_
  refine WL_nil ?_
  refine W_seq ?_
  refine W_seq ?_
  refine W_region_l ?_
  refine WL_stepM rfl (R_mv) ?_
  refine WL_step rfl (R_ne_f rfl rfl (by omega)) ?_
  refine WL_stepM rfl (R_mv) ?_
  refine WL_guard_t rfl rfl ?_
  refine WL_stepM rfl (R_mv) ?_
  refine WL_guard_t rfl rfl ?_
  refine WL_step rfl (R_ne_f rfl rfl (by omega)) ?_
  refine WL_stepM rfl (R_pk_f rfl) ?_
  refine WL_stepM rfl (R_mv) ?_
  refine WL_guard_t rfl rfl ?_
  refine WL_stepM rfl (R_mv) ?_
  refine WL_guard_t rfl rfl ?_
  refine WL_step rfl (R_ne_f rfl rfl (by omega)) ?_
  refine WL_stepM rfl (R_pk_f rfl) ?_
  refine WL_stepM rfl (R_mv) ?_
  refine WL_guard_t rfl rfl ?_
  refine WL_stepM rfl (R_mv) ?_
  refine WL_guard_t rfl rfl ?_
  refine WL_step rfl (R_ne_f rfl rfl (by omega)) ?_
  refine WL_stepM rfl (R_pk_f rfl) ?_
  refine WL_stepM rfl (R_mv) ?_
  refine WL_guard_t rfl rfl ?_
  refine WL_stepM rfl (R_mv) ?_
  refine WL_guard_t rfl rfl ?_
  refine WL_step rfl (R_len_slice Try.underlying22 rfl) ?_
  refine WL_guard_t rfl rfl ?_
  refine WL_step rfl (R_ne_f rfl rfl (by omega)) ?_
  refine WL_stepM rfl (R_pk_f rfl) ?_
  refine WL_stepM rfl (R_mv) ?_
  refine WL_guard_t rfl rfl ?_
  refine WL_stepM rfl (R_mv) ?_
  refine WL_guard_t rfl rfl ?_
  refine WL_step rfl (R_len_slice Try.underlying22 rfl) ?_
  refine WL_guard_t rfl rfl ?_
  refine WL_step rfl (R_ne_f rfl rfl (by omega)) ?_
  refine WL_stepM rfl (R_pk_f rfl) ?_
  refine WL_nil ?_
  refine W_cond_f rfl ?_
  refine W_skip ?_
  refine W_seq ?_
  refine W_region_l ?_
  refine WL_stepM rfl (R_mv) ?_
  refine WL_step rfl (R_bits (r := rd % 2) rfl rfl (by simp) (and_mask_i64 1 2 (by decide) rfl (by decide))) ?_
  refine WL_step rfl (R_ne_t rfl rfl (by omega)) ?_
  refine WL_stepM rfl (R_mv) ?_
  refine WL_guard_t rfl rfl ?_
  refine WL_stepM rfl (R_mv) ?_
  refine WL_guard_t rfl rfl ?_
  refine WL_step rfl (R_bits (r := 2 * (wr / 2 % 2)) rfl rfl (by simp) (and_2 wr)) ?_
  refine WL_guard_t rfl rfl ?_
  refine WL_step rfl (R_ne_t rfl rfl (by omega)) ?_
  refine WL_stepM rfl (R_pk_t rfl) ?_
  refine WL_stepM rfl (R_as) ?_
  refine WL_nil ?_
  refine W_seq ?_
  refine W_seq ?_
  refine W_region_l ?_
  refine WL_stepM rfl (R_mv) ?_
  refine WL_step rfl (R_eq_t rfl rfl (by omega)) ?_
  refine WL_stepM rfl (R_mv) ?_
  refine WL_step rfl (R_ne_bool_f Try.underlying4 rfl rfl (by decide)) ?_
  refine WL_stepM rfl (R_mv) ?_
  refine WL_guard_t rfl rfl ?_
  refine WL_stepM rfl (R_mv) ?_
  refine WL_guard_t rfl rfl ?_
  refine WL_step rfl (R_not_t rfl) ?_
  refine WL_guard_t rfl rfl ?_
  refine WL_stepM rfl (R_mv) ?_
  refine WL_guard_f rfl rfl (by decide) ?_
  refine WL_guard_f rfl rfl (by decide) ?_
  refine WL_guard_t rfl rfl ?_
  refine WL_stepM rfl (R_pk_f rfl) ?_
  refine WL_stepM rfl (R_pk_f rfl) ?_
  refine WL_nil ?_
  refine W_cond_f rfl ?_
  refine W_skip ?_
  refine W_seq ?_
  refine W_seq ?_
  refine W_region_l ?_
  refine WL_stepM rfl (R_as) ?_
  refine WL_nil ?_
  refine W_block ?_
  refine W_loopS [(12, 12), (28, 29), (156, 190)] (fun (i : Nat) E w' => i ≤ 100 ∧ E 28 = I i ∧ Hp w [(nb, blk (ns.map U ++ nsp) 5), (ub, blk (qs.map U ++ usp) 5), (a, blk ([I 0, I 100] ++ sp2) 98), (rr, blk [ptr m 0, ptr s 0, sl a 0 1 ca] 95), (s, blk [sl bs 0 1 cap] 90), (bs, blk (ptrs [(p0, b0)] ++ sp) 91), (p0, blk [sl b0 0 32 32] 135), (b0, blk (rows plc tb) 137), (m, blk [sl mb 0 128 128] 87), (mb, blk (us.map U) 5)] w') (fun i => 100 - i) 0 ?e0 ?r0
  · exact ⟨by omega, rfl, H⟩
  · (clear H; rintro i E w1 ⟨hi, h0, H⟩; refine W_kn h0 ?_)
    refine W_seq ?_
    refine W_seq ?_
    refine W_region_l ?_
    refine WL_stepM rfl (R_mv) ?_
    refine WL_step rfl (R_lt rfl rfl) ?_
    refine WL_nil ?_
    refine W_if rfl (fun h227 => ?_) (fun h227 => ?_)
    · refine W_skip ?_
      refine W_seq ?_
      refine W_block ?_
      refine W_seq ?_
      ((obtain ⟨x, hx⟩ : ∃ x, ns[i]? = some x := ⟨_, List.getElem?_eq_getElem (by omega)⟩; obtain ⟨y, hyy⟩ : ∃ y, qs[i]? = some y := ⟨_, List.getElem?_eq_getElem (by omega)⟩)) <;> refine W_region_l ?_
      refine WL_stepM rfl (R_mv) ?_
      refine WL_stepM rfl (R_mv) ?_
      refine WL_step rfl (R_indexAddr (off' := i) Try.underlying22 Try.sizeOf5 rfl rfl (by omega) (by omega) (by omega)) ?_
      refine WL_step rfl (R_load (v := U y) Try.isAgg5 rfl (H.get (.there .here)) (by rw [List.getElem?_append_left (by rw [List.length_map]; omega), List.getElem?_map, hyy]; rfl)) ?_
      refine WL_stepM rfl (R_as) ?_
      refine WL_nil ?_
      refine W_seq ?_
      refine W_seq ?_
      refine W_region_l ?_
      refine WL_stepM rfl (R_mv) ?_
      refine WL_stepM rfl (R_mv) ?_
      refine WL_guard_t rfl rfl ?_
      refine WL_stepM rfl (R_mv) ?_
      refine WL_guard_t rfl rfl ?_
      refine WL_stepM rfl (R_mv) ?_
      refine WL_guard_t rfl rfl ?_
      refine WL_step rfl (R_ge rfl rfl) ?_
      refine WL_stepM rfl (R_pk_t rfl) ?_
      refine WL_stepM rfl (R_mv) ?_
      apply WL_andK 6 170 176 [(171, 176)] H
      case hc => rfl
      case h1 =>
        intro h252
        refine WL_guard_t rfl rfl ?_
        refine WL_stepM rfl (R_mv) ?_
        refine WL_guard_t rfl rfl ?_
        refine WL_stepM rfl (R_mv) ?_
        refine WL_guard_t rfl rfl ?_
        refine WL_stepM rfl (R_mv) ?_
        refine WL_guard_t rfl rfl ?_
        refine WL_step rfl (R_add rfl rfl (w_i64 (by omega))) ?_
        refine WL_guard_t rfl rfl ?_
        refine WL_step rfl (R_lt rfl rfl) ?_
        refine WL_stepM rfl (R_pk_t rfl) ?_
        refine WL_nil ?_
        exact ⟨(same_mov rfl (same_updo rfl (same_updo rfl (same_mov rfl (same_mov rfl (same_mov rfl Same.refl)))))), rfl, H⟩
      case h0 =>
        intro h252
        refine WL_guard_f rfl rfl (by decide) ?_
        refine WL_guard_f rfl rfl (by decide) ?_
        refine WL_guard_f rfl rfl (by decide) ?_
        refine WL_guard_f rfl rfl (by decide) ?_
        refine WL_guard_f rfl rfl (by decide) ?_
        refine WL_stepM rfl (R_pk_f rfl) ?_
        refine WL_nil ?_
        exact ⟨(same_mov rfl (same_updo rfl (same_updo rfl (same_updo rfl (same_updo rfl (same_updo rfl Same.refl)))))), rfl, H⟩
      case h2 =>
        (clear H; intro E252 w252 H)
        refine WL_nil ?_
        refine W_if rfl (fun h275 => ?_) (fun h275 => ?_)
        · refine W_region_l ?_
          refine WL_stepM rfl (R_mv) ?_
          refine WL_stepM rfl (R_mv) ?_
          refine WL_stepM rfl (R_mv) ?_
          refine WL_step rfl (R_add (r := ((A + i : Nat) : Int)) rfl rfl (by rw [w_i64 (by omega)]; omega)) ?_
          refine WL_stepM rfl (R_mv) ?_
          refine WL_step rfl (R_sub (r := ((A + i - O : Nat) : Int)) rfl rfl (by rw [w_i64 (by omega)]; omega)) ?_
          (obtain ⟨z, hz⟩ : ∃ z, qs[A + i - O]? = some z := ⟨_, List.getElem?_eq_getElem (by omega)⟩; obtain rfl : x = z := (by rw [hns, List.getElem?_take_of_lt (by omega), hus, put_in (by omega) (by omega) (by omega), hcs, List.getElem?_take_of_lt (by omega), List.getElem?_drop] at hx; rw [hqs, List.getElem?_take_of_lt (by omega), show A + i - O = A + (i - O) from by omega, hx] at hz; exact Option.some.inj hz); refine WL_step rfl (R_indexAddr (off' := A + i - O) Try.underlying22 Try.sizeOf5 rfl rfl (by omega) (by omega) (by omega)) ?_)
          refine WL_step rfl (R_load (v := U x) Try.isAgg5 rfl (H.get (.there .here)) (by rw [List.getElem?_append_left (by rw [List.length_map]; omega), List.getElem?_map, hz]; rfl)) ?_
          refine WL_stepM rfl (R_as) ?_
          refine WL_nil ?_
          refine W_seq ?_
          refine W_region_l ?_
          refine WL_stepM rfl (R_mv) ?_
          refine WL_stepM rfl (R_mv) ?_
          refine WL_step rfl (R_indexAddr (off' := i) Try.underlying22 Try.sizeOf5 rfl rfl (by omega) (by omega) (by omega)) ?_
          refine WL_step rfl (R_load (v := U x) Try.isAgg5 rfl (H.get .here) (by rw [List.getElem?_append_left (by rw [List.length_map]; omega), List.getElem?_map, hx]; rfl)) ?_
          refine WL_stepM rfl (R_mv) ?_
          refine WL_step rfl (R_ne_f rfl rfl rfl) ?_
          refine WL_nil ?_
          refine W_cond_f rfl ?_
          refine W_skip ?_
          refine W_region_l ?_
          refine WL_stepM rfl (R_mv) ?_
          refine WL_step rfl (R_add rfl rfl (w_i64 (by omega))) ?_
          refine WL_stepM rfl (R_as) ?_
          refine WL_nil ?_
          exact ⟨(same_mov rfl (same_updo rfl (same_mov rfl (same_updo rfl (same_mov rfl (same_updo rfl (same_updo rfl (same_mov rfl (same_mov rfl (same_mov rfl (same_updo rfl (same_updo rfl (same_updo rfl (same_mov rfl (same_updo rfl (same_mov rfl (same_mov rfl (same_mov rfl (same_know rfl (same_in rfl (same_mov rfl (same_mov rfl (same_updo rfl (same_mov rfl (same_mov rfl (same_mov rfl (same_mov rfl (same_mov rfl (same_updo rfl (same_updo rfl (same_mov rfl (same_mov rfl (same_know rfl (same_updo rfl (same_mov rfl same_ovr))))))))))))))))))))))))))))))))))), i + 1, by omega, by omega, rfl, H⟩
        · refine W_skip ?_
          refine W_seq ?_
          refine W_region_l ?_
          refine WL_stepM rfl (R_mv) ?_
          refine WL_stepM rfl (R_mv) ?_
          refine WL_step rfl (R_indexAddr (off' := i) Try.underlying22 Try.sizeOf5 rfl rfl (by omega) (by omega) (by omega)) ?_
          refine WL_step rfl (R_load (v := U x) Try.isAgg5 rfl (H.get .here) (by rw [List.getElem?_append_left (by rw [List.length_map]; omega), List.getElem?_map, hx]; rfl)) ?_
          refine WL_stepM rfl (R_mv) ?_
          (obtain rfl : x = y := (by rw [hns, List.getElem?_take_of_lt (by omega), hus, put_out (by omega) (by omega)] at hx; rw [hqs, List.getElem?_take_of_lt (by omega), hx] at hyy; exact Option.some.inj hyy); refine WL_step rfl (R_ne_f rfl rfl rfl) ?_)
          refine WL_nil ?_
          refine W_cond_f rfl ?_
          refine W_skip ?_
          refine W_region_l ?_
          refine WL_stepM rfl (R_mv) ?_
          refine WL_step rfl (R_add rfl rfl (w_i64 (by omega))) ?_
          refine WL_stepM rfl (R_as) ?_
          refine WL_nil ?_
          exact ⟨(same_mov rfl (same_updo rfl (same_mov rfl (same_updo rfl (same_mov rfl (same_updo rfl (same_updo rfl (same_mov rfl (same_mov rfl (same_know rfl (same_in rfl (same_mov rfl (same_mov rfl (same_updo rfl (same_mov rfl (same_mov rfl (same_mov rfl (same_mov rfl (same_mov rfl (same_updo rfl (same_updo rfl (same_mov rfl (same_mov rfl (same_know rfl (same_updo rfl (same_mov rfl same_ovr)))))))))))))))))))))))))), i + 1, by omega, by omega, rfl, H⟩
    · refine W_exit ?_
      refine (if_pos rfl).mpr ?_
      refine W_seq ?_
      refine W_region_l ?_
      (refine WL_call rfl (R_call rfl Try.call15 rfl) (awake_ret _) ?_; rintro _ w326 ⟨rfl, H1⟩; replace H := H.seq0 H1; clear H1)
      refine WL_stepM rfl (R_as) ?_
      refine WL_nil ?_
      refine W_ret ?_
      exact ⟨_, rfl, rfl, H.none (by repeat' first | exact kNil | apply kCons | apply kApp | assumption | exact OwnS.keys (by assumption))⟩

theorem copies_n1 {w : World} {ys : List UInt8} {l : Value} {at_ on n rd wr : Int} (hl : RdS w l (ys.map U)) (hy : ys.length ≤ 100) (hV : rd % 2 = 0) :
    Ret Try.prog 4 #[l, I at_, I on, I n, I rd, I wr] w fun v w' => v = .bool true ∧ Hp w [] w' := by
  refine Ret_of_W (args := [_, _, _, _, _, _]) Try.func4 rfl Try.ntmps4 Try.results4 (by simp) ?_
  have H := Hp.refl w
  obtain ⟨ao, ca0, rfl⟩ := hl.form
  simp only [List.length_map] at hl ⊢
  obtain ⟨A, hA, hA2⟩ : ∃ L : Nat, at_ % 64 = (L : Int) ∧ L < 64 := ⟨(at_ % 64).toNat, by omega, by omega⟩
  obtain ⟨O, hO, hO2⟩ : ∃ L : Nat, on % 64 = (L : Int) ∧ L < 64 := ⟨(on % 64).toNat, by omega, by omega⟩
  obtain ⟨N, hN, hN2⟩ : ∃ N : Nat, n % 32 = (N : Int) ∧ N < 32 := ⟨(n % 32).toNat, by omega, by omega⟩
  obtain ⟨R, hR, hR2⟩ : ∃ N : Nat, rd % 8 = (N : Int) ∧ N < 8 := ⟨(rd % 8).toNat, by omega, by omega⟩
  obtain ⟨W, hW, hW2⟩ : ∃ N : Nat, wr % 8 = (N : Int) ∧ N < 8 := ⟨(wr % 8).toNat, by omega, by omega⟩
  obtain ⟨ta, hta, hal, hag, ha0⟩ := tset t0_len t0_g (i := 0) (by decide) ⟨cp 0 (R : Int) 0 100 0 0, newPl.g, true⟩ (show newPl.g ≤ 1000001 by decide)
  have ha1 : ta[1]? = some newPl := by rw [← hta, List.getElem?_set_ne (by decide)]; rfl
  obtain ⟨tb, htb, hbl, hbg, hb1⟩ := tset hal hag (i := 1) (by decide) ⟨cp 0 (W : Int) 0 100 0 0, newPl.g, true⟩ (show newPl.g ≤ 1000001 by decide)
  have hb0 : tb[0]? = some ⟨cp 0 (R : Int) 0 100 0 0, newPl.g, true⟩ := by rw [← htb, List.getElem?_set_ne (by decide)]; exact ha0
  obtain ⟨zs, hzs, hzl⟩ : ∃ zs : List UInt8, zs = List.replicate 128 0 ∧ zs.length = 128 := ⟨_, rfl, by simp⟩
  obtain ⟨vs, hvs, hvl⟩ : ∃ vs : List UInt8, vs = Mem.put zs ys 0 ∧ vs.length = 128 := ⟨_, rfl, by rw [Mem.put_length (by omega)]; exact hzl⟩
  obtain ⟨qs, hqs, hql⟩ : ∃ qs : List UInt8, qs = vs.take 100 ∧ qs.length = 100 := ⟨_, rfl, by rw [List.length_take]; omega⟩
  obtain ⟨cs, hcs, hcl⟩ : ∃ cs : List UInt8, cs = (vs.drop A).take N ∧ cs.length = N := ⟨_, rfl, by rw [List.length_take, List.length_drop]; omega⟩
  -- nothing is written
  obtain ⟨ns, hns, hnl⟩ : ∃ ns : List UInt8, ns = vs.take 100 ∧ ns.length = 100 := ⟨_, rfl, by rw [List.length_take]; omega⟩
  refine W_seq ?_
  refine W_region_l ?_
  refine WL_stepM rfl (R_as) ?_
  refine WL_nil ?_
  refine W_seq ?_
  refine W_region_l ?_
  (refine WL_call rfl (R_call rfl Try.call12 rfl) (Mem.new_ret 2 _) ?_; rintro _ w7 ⟨m, mb, rfl, H1, hm, hmb⟩; rw [show Mem.szOf 2 = 128 from rfl, ← Mem.zmap, ← hzs] at H1; replace H := H.seqN H1 (kCons hm (kCons hmb kNil)); replace H : Hp w [(m, blk [sl mb 0 128 128] 87), (mb, blk (zs.map U) 5)] w7 := H; clear H1)
  (refine WL_call rfl (R_call rfl Try.call13 rfl) (Caps.new_ret (E := 1) (by decide) (by decide) _) ?_; rintro _ w8 ⟨s, bs, cap, sp, PB, rfl, hPl, hs, hbs, hPB, H1⟩; obtain ⟨p0, b0, rfl⟩ := one hPl; have hsz := H.size; replace H := H.seqN H1 (spB_keys hs hbs hPB); clear H1; obtain ⟨hp0, hb0'⟩ := hPB (p0, b0) (.head _); replace hs := Nat.le_trans hsz hs; replace hbs := Nat.le_trans hsz hbs; replace hp0 : w.heap.size ≤ p0 := Nat.le_trans hsz hp0; replace hb0' : w.heap.size ≤ b0 := Nat.le_trans hsz hb0'; clear hPB hPl hsz; replace H : Hp w [(s, blk [sl bs 0 1 cap] 90), (bs, blk (ptrs [(p0, b0)] ++ sp) 91), (p0, blk [sl b0 0 32 32] 135), (b0, blk (rows plc t0) 137), (m, blk [sl mb 0 128 128] 87), (mb, blk (zs.map U) 5)] w8 := H)
  refine WL_stepM rfl (R_as) ?_
  refine WL_stepM rfl (R_as) ?_
  refine WL_nil ?_
  refine W_seq ?_
  refine W_region_l ?_
  refine WL_stepM rfl (R_mv) ?_
  refine WL_stepM rfl (R_mv) ?_
  (refine WL_call rfl (R_call rfl Try.call14 rfl) (new_ret m s _) ?_; rintro _ w16 ⟨rr, rfl, hrr, H1⟩; have hsz := H.size; replace H := H.seqN H1 (kCons hrr kNil); clear H1; replace hrr := Nat.le_trans hsz hrr; clear hsz; replace H : Hp w [(rr, blk [ptr m 0, ptr s 0, nilS] 95), (s, blk [sl bs 0 1 cap] 90), (bs, blk (ptrs [(p0, b0)] ++ sp) 91), (p0, blk [sl b0 0 32 32] 135), (b0, blk (rows plc t0) 137), (m, blk [sl mb 0 128 128] 87), (mb, blk (zs.map U) 5)] w16 := H)
  refine WL_stepM rfl (R_as) ?_
  refine WL_nil ?_
  refine W_seq ?_
  refine W_seq ?_
  refine W_region_l ?_
  refine WL_stepM rfl (R_mv) ?_
  refine WL_step rfl (R_eq_ptr_nil Try.underlying23 rfl rfl) ?_
  refine WL_stepM rfl (R_mv) ?_
  refine WL_guard_t rfl rfl ?_
  refine WL_stepM rfl (R_mv) ?_
  refine WL_guard_t rfl rfl ?_
  refine WL_step rfl (R_eq_ptr_nil Try.underlying25 rfl rfl) ?_
  refine WL_stepM rfl (R_pk_f rfl) ?_
  refine WL_stepM rfl (R_mv) ?_
  refine WL_guard_t rfl rfl ?_
  refine WL_stepM rfl (R_mv) ?_
  refine WL_guard_t rfl rfl ?_
  refine WL_step rfl (R_eq_ptr_nil Try.underlying27 rfl rfl) ?_
  refine WL_stepM rfl (R_pk_f rfl) ?_
  refine WL_stepM rfl (R_mv) ?_
  refine WL_guard_t rfl rfl ?_
  refine WL_stepM rfl (R_mv) ?_
  refine WL_guard_t rfl rfl ?_
  refine WL_step rfl (R_len_slice Try.underlying22 rfl) ?_
  refine WL_guard_t rfl rfl ?_
  refine WL_step rfl (R_gt_f rfl rfl (by omega)) ?_
  refine WL_stepM rfl (R_pk_f rfl) ?_
  refine WL_nil ?_
  refine W_cond_f rfl ?_
  refine W_skip ?_
  refine W_seq ?_
  refine W_region_l ?_
  refine WL_stepM rfl (R_mv) ?_
  (refine WL_call rfl (R_call rfl Try.call17 rfl) (add_ret (xs := zs) (H.get .here) (H.get (.there (.there (.there (.there (.there .here)))))) hzl (by decide) (lo := 0) (n := 100) (by decide) (by decide) (by decide)) ?_; rintro _ w50 ⟨a, ca, sp2, rfl, ha, H1⟩; have hsz := H.size; replace H := H.seq H1 (okSeq_set .here (okSeq_new ha okSeq_nil)); clear H1; replace ha := Nat.le_trans hsz ha; clear hsz)
  refine WL_stepM rfl (R_mv) ?_
  refine WL_step rfl (R_extract rfl rfl) ?_
  refine WL_step rfl (R_extract rfl rfl) ?_
  refine WL_stepM rfl (R_as) ?_
  refine WL_stepM rfl (R_as) ?_
  refine WL_nil ?_
  refine W_seq ?_
  refine W_region_l ?_
  refine WL_stepM rfl (R_mv) ?_
  refine WL_stepM rfl (R_mv) ?_
  (refine WL_call rfl (R_call rfl Try.call16 rfl) (Mem.store_yes (xs := zs) (ys := ys) 0 (H.get (.there (.there (.there (.there (.there (.there .here))))))) (H.get (.there (.there (.there (.there (.there (.there (.there .here)))))))) hzl (by omega) (hl.monoN H (by repeat' first | exact kNil | apply kCons | apply kApp | assumption | exact OwnS.keys (by assumption))) (by omega)) ?_; rintro _ w61 ⟨rfl, H1⟩; rw [← hvs] at H1; replace H := H.seq H1 (okSeq_set (.there (.there (.there (.there (.there (.there (.there .here))))))) okSeq_nil); clear H1)
  refine WL_nil ?_
  refine W_seq ?_
  refine W_region_l ?_
  refine WL_stepM rfl (R_mv) ?_
  (refine WL_call rfl (R_call rfl Try.call21 rfl) (Mem.load_yes (xs := vs) 0 100 (H.get (.there (.there (.there (.there (.there (.there .here))))))) (H.get (.there (.there (.there (.there (.there (.there (.there .here)))))))) hvl (by omega) (by omega)) ?_; rintro _ w66 ⟨_, M, rfl, hO1, H1⟩; rw [List.drop_zero, ← hqs] at hO1; have h66 := H.seqO hO1 H1; clear H H1 hO1; obtain ⟨hO1, H⟩ := h66; obtain ⟨ub, uc, usp, rfl, hub, rfl, husp, huc⟩ := OwnS.pos hO1 (by omega); replace H : Hp w [(ub, blk (qs.map U ++ usp) 5), (a, blk ([I 0, I 100] ++ sp2) 98), (rr, blk [ptr m 0, ptr s 0, sl a 0 1 ca] 95), (s, blk [sl bs 0 1 cap] 90), (bs, blk (ptrs [(p0, b0)] ++ sp) 91), (p0, blk [sl b0 0 32 32] 135), (b0, blk (rows plc t0) 137), (m, blk [sl mb 0 128 128] 87), (mb, blk (vs.map U) 5)] w66 := H)
  refine WL_stepM rfl (R_mv) ?_
  refine WL_step rfl (R_extract rfl rfl) ?_
  refine WL_step rfl (R_extract rfl rfl) ?_
  refine WL_stepM rfl (R_as) ?_
  refine WL_stepM rfl (R_as) ?_
  refine WL_nil ?_
  refine W_seq ?_
  refine W_region_l ?_
  refine WL_stepM rfl (R_mv) ?_
  refine WL_step rfl (R_bits (r := (A : Int)) rfl rfl (by simp) ((and_mask_i64 6 64 (by decide) rfl (by decide)).trans hA)) ?_
  refine WL_stepM rfl (R_mv) ?_
  refine WL_step rfl (R_bits (r := (O : Int)) rfl rfl (by simp) ((and_mask_i64 6 64 (by decide) rfl (by decide)).trans hO)) ?_
  refine WL_stepM rfl (R_mv) ?_
  refine WL_step rfl (R_bits (r := (N : Int)) rfl rfl (by simp) ((and_mask_i64 5 32 (by decide) rfl (by decide)).trans hN)) ?_
  refine WL_stepM rfl (R_as) ?_
  refine WL_stepM rfl (R_as) ?_
  refine WL_stepM rfl (R_as) ?_
  refine WL_nil ?_
  refine W_seq ?_
  refine W_region_l ?_
  refine WL_stepM rfl (R_mv) ?_
  refine WL_stepM rfl (R_mv) ?_
  refine WL_stepM rfl (R_mv) ?_
  refine WL_step rfl (R_bits (r := (R : Int)) rfl rfl (by simp) ((and_mask_i64 3 8 (by decide) rfl (by decide)).trans hR)) ?_
  refine WL_step rfl (R_buildL (places := [(0, 1), (1, 1), (2, 1), (3, 1), (4, 2)]) (vs := (cp 0 (R : Int) 0 100 0 0).c) Try.underlying38 Try.typeInfo38 rfl rfl (by kernel_rfl) rfl rfl rfl) ?_
  (refine WL_call rfl (R_call rfl Try.call18 rfl) (put_yes (j := 0) (i := 0) (r := R) (o := 0) (lo := 0) (n := 100) (re := 0) (rn := 0) (Sp.from H (PB := [(p0, b0)]) (ts := [t0]) bs cap sp (inv1 t0_len t0_g) (fun _ hp => .tail _ (.tail _ (.tail _ (List.mem_append_left _ hp))))) rfl rfl hR2 (by decide) (by decide) t0_at new_free (fun _ _ h => absurd h (Nat.not_lt_zero _))) ?_; rintro _ w92 ⟨rfl, H1⟩; rw [hta] at H1; replace H := H.seq H1 (okSeq_set (.there (.there (.there (.there (.there (.there .here)))))) okSeq_nil); clear H1)
  refine WL_stepM rfl (R_mv) ?_
  refine WL_step rfl (R_extract rfl rfl) ?_
  refine WL_step rfl (R_extract rfl rfl) ?_
  refine WL_stepM rfl (R_as) ?_
  refine WL_stepM rfl (R_as) ?_
  refine WL_nil ?_
  refine W_seq ?_
  refine W_region_l ?_
  refine WL_stepM rfl (R_mv) ?_
  refine WL_stepM rfl (R_mv) ?_
  refine WL_stepM rfl (R_mv) ?_
  refine WL_step rfl (R_bits (r := (W : Int)) rfl rfl (by simp) ((and_mask_i64 3 8 (by decide) rfl (by decide)).trans hW)) ?_
  refine WL_step rfl (R_buildL (places := [(0, 1), (1, 1), (2, 1), (3, 1), (4, 2)]) (vs := (cp 0 (W : Int) 0 100 0 0).c) Try.underlying38 Try.typeInfo38 rfl rfl (by kernel_rfl) rfl rfl rfl) ?_
  (refine WL_call rfl (R_call rfl Try.call18 rfl) (put_yes (j := 0) (i := 1) (r := W) (o := 0) (lo := 0) (n := 100) (re := 0) (rn := 0) (Sp.from H (PB := [(p0, b0)]) (ts := [ta]) bs cap sp (inv1 hal hag) (fun _ hp => .tail _ (.tail _ (.tail _ (List.mem_append_left _ hp))))) rfl rfl hW2 (by decide) (by decide) ha1 new_free (fun k a' hk hka hf => by obtain rfl : k = 0 := (by omega); rw [ha0] at hka; cases hka; exact absurd hf.1 (show ¬ (true = false) by decide))) ?_; rintro _ w106 ⟨rfl, H1⟩; rw [htb] at H1; replace H := H.seq H1 (okSeq_set (.there (.there (.there (.there (.there (.there .here)))))) okSeq_nil); clear H1)
  refine WL_stepM rfl (R_mv) ?_
  refine WL_step rfl (R_extract rfl rfl) ?_
  refine WL_step rfl (R_extract rfl rfl) ?_
  refine WL_stepM rfl (R_as) ?_
  refine WL_stepM rfl (R_as) ?_
  refine WL_nil ?_
  refine W_seq ?_
  refine W_region_l ?_
  refine WL_stepM rfl (R_mv) ?_
  refine WL_stepM rfl (R_mv) ?_
  refine WL_stepM rfl (R_mv) ?_
  refine WL_stepM rfl (R_mv) ?_
  refine WL_stepM rfl (R_mv) ?_
  refine WL_stepM rfl (R_mv) ?_
  (refine WL_call rfl (R_call rfl Try.call23 rfl) (copy_rd (e := 3) (read_no (place_right (j := 0) (i := 0) (H.get (.there (.there .here))) (Sp.from H (PB := [(p0, b0)]) (ts := [tb]) bs cap sp (inv1 hbl hbg) (fun _ hp => .tail _ (.tail _ (.tail _ (List.mem_append_left _ hp))))) rfl rfl hb0 ((and1_8 hR2).trans (by omega))) (by decide)) (by decide)) ?_; rintro _ w121 ⟨rfl, H1⟩; replace H := H.seq0 H1; clear H1)
  refine WL_stepM rfl (R_as) ?_
  refine WL_nil ?_
  refine W_seq ?_
  refine W_region_l ?_
  refine WL_stepM rfl (R_mv) ?_
  (have _g := hb1; refine WL_call rfl (R_call rfl Try.call21 rfl) (Mem.load_yes (xs := vs) 0 100 (H.get (.there (.there (.there (.there (.there (.there (.there .here)))))))) (H.get (.there (.there (.there (.there (.there (.there (.there (.there .here))))))))) hvl (by omega) (by omega)) ?_; rintro _ w127 ⟨_, M, rfl, hO3, H1⟩; rw [List.drop_zero, ← hns] at hO3; have h127 := H.seqO hO3 H1; clear H H1 hO3; obtain ⟨hO3, H⟩ := h127; obtain ⟨nb, nc, nsp, rfl, hnb, rfl, hnsp, hnc⟩ := OwnS.pos hO3 (by omega); replace H : Hp w [(nb, blk (ns.map U ++ nsp) 5), (ub, blk (qs.map U ++ usp) 5), (a, blk ([I 0, I 100] ++ sp2) 98), (rr, blk [ptr m 0, ptr s 0, sl a 0 1 ca] 95), (s, blk [sl bs 0 1 cap] 90), (bs, blk (ptrs [(p0, b0)] ++ sp) 91), (p0, blk [sl b0 0 32 32] 135), (b0, blk (rows plc tb) 137), (m, blk [sl mb 0 128 128] 87), (mb, blk (vs.map U) 5)] w127 := H)
  refine WL_stepM rfl (R_mv) ?_
  refine WL_step rfl (R_extract rfl rfl) ?_
  refine WL_step rfl (R_extract rfl rfl) ?_
  refine WL_stepM rfl (R_as) ?_
  refine WL_stepM rfl (R_as) ?_
  refine WL_nil ?_
  refine W_seq ?_
  refine W_seq ?_
  refine W_region_l ?_
  refine WL_stepM rfl (R_mv) ?_
  refine WL_step rfl (R_ne_f rfl rfl (by omega)) ?_
  refine WL_stepM rfl (R_mv) ?_
  refine WL_guard_t rfl rfl ?_
  refine WL_stepM rfl (R_mv) ?_
  refine WL_guard_t rfl rfl ?_
  refine WL_step rfl (R_ne_f rfl rfl (by omega)) ?_
  refine WL_stepM rfl (R_pk_f rfl) ?_
  refine WL_stepM rfl (R_mv) ?_
  refine WL_guard_t rfl rfl ?_
  refine WL_stepM rfl (R_mv) ?_
  refine WL_guard_t rfl rfl ?_
  refine WL_step rfl (R_ne_f rfl rfl (by omega)) ?_
  refine WL_stepM rfl (R_pk_f rfl) ?_
  refine WL_stepM rfl (R_mv) ?_
  refine WL_guard_t rfl rfl ?_
  refine WL_stepM rfl (R_mv) ?_
  refine WL_guard_t rfl rfl ?_
  refine WL_step rfl (R_ne_f rfl rfl (by omega)) ?_
  refine WL_stepM rfl (R_pk_f rfl) ?_
  refine WL_stepM rfl (R_mv) ?_
  refine WL_guard_t rfl rfl ?_
  refine WL_stepM rfl (R_mv) ?_
  refine WL_guard_t rfl rfl ?_
  refine WL_step rfl (R_len_slice Try.underlying22 rfl) ?_
  refine WL_guard_t rfl rfl ?_
  refine WL_step rfl (R_ne_f rfl rfl (by omega)) ?_
  refine WL_stepM rfl (R_pk_f rfl) ?_
  refine WL_stepM rfl (R_mv) ?_
  refine WL_guard_t rfl rfl ?_
  refine WL_stepM rfl (R_mv) ?_
  refine WL_guard_t rfl rfl ?_
  refine WL_step rfl (R_len_slice Try.underlying22 rfl) ?_
  refine WL_guard_t rfl rfl ?_
  refine WL_step rfl (R_ne_f rfl rfl (by omega)) ?_
  refine WL_stepM rfl (R_pk_f rfl) ?_
  refine WL_nil ?_
  refine W_cond_f rfl ?_
  refine W_skip ?_
  refine W_seq ?_
  refine W_region_l ?_
  refine WL_stepM rfl (R_mv) ?_
  refine WL_step rfl (R_bits (r := rd % 2) rfl rfl (by simp) (and_mask_i64 1 2 (by decide) rfl (by decide))) ?_
  refine WL_step rfl (R_ne_f rfl rfl (by omega)) ?_
  refine WL_stepM rfl (R_mv) ?_
  refine WL_guard_f rfl rfl (by decide) ?_
  refine WL_guard_f rfl rfl (by decide) ?_
  refine WL_guard_f rfl rfl (by decide) ?_
  refine WL_stepM rfl (R_pk_f rfl) ?_
  refine WL_stepM rfl (R_as) ?_
  refine WL_nil ?_
  refine W_seq ?_
  refine W_seq ?_
  refine W_region_l ?_
  refine WL_stepM rfl (R_mv) ?_
  refine WL_step rfl (R_eq_f rfl rfl (by omega)) ?_
  refine WL_stepM rfl (R_mv) ?_
  refine WL_step rfl (R_ne_bool_f Try.underlying4 rfl rfl (by decide)) ?_
  refine WL_stepM rfl (R_mv) ?_
  refine WL_guard_t rfl rfl ?_
  refine WL_stepM rfl (R_mv) ?_
  refine WL_guard_t rfl rfl ?_
  refine WL_step rfl (R_not_f rfl) ?_
  refine WL_guard_t rfl rfl ?_
  refine WL_stepM rfl (R_mv) ?_
  refine WL_guard_t rfl rfl ?_
  refine WL_stepM rfl (R_mv) ?_
  refine WL_guard_t rfl rfl ?_
  refine WL_step rfl (R_ne_f rfl rfl (by omega)) ?_
  refine WL_guard_t rfl rfl ?_
  refine WL_stepM rfl (R_pk_t rfl) ?_
  refine WL_stepM rfl (R_pk_f rfl) ?_
  refine WL_nil ?_
  refine W_cond_f rfl ?_
  refine W_skip ?_
  refine W_seq ?_
  refine W_seq ?_
  refine W_region_l ?_
  refine WL_stepM rfl (R_as) ?_
  refine WL_nil ?_
  refine W_block ?_
  refine W_loopS [(12, 12), (28, 29), (156, 190)] (fun (i : Nat) E w' => i ≤ 100 ∧ E 28 = I i ∧ Hp w [(nb, blk (ns.map U ++ nsp) 5), (ub, blk (qs.map U ++ usp) 5), (a, blk ([I 0, I 100] ++ sp2) 98), (rr, blk [ptr m 0, ptr s 0, sl a 0 1 ca] 95), (s, blk [sl bs 0 1 cap] 90), (bs, blk (ptrs [(p0, b0)] ++ sp) 91), (p0, blk [sl b0 0 32 32] 135), (b0, blk (rows plc tb) 137), (m, blk [sl mb 0 128 128] 87), (mb, blk (vs.map U) 5)] w') (fun i => 100 - i) 0 ?e0 ?r0
  · exact ⟨by omega, rfl, H⟩
  · (clear H; rintro i E w1 ⟨hi, h0, H⟩; refine W_kn h0 ?_)
    refine W_seq ?_
    refine W_seq ?_
    refine W_region_l ?_
    refine WL_stepM rfl (R_mv) ?_
    refine WL_step rfl (R_lt rfl rfl) ?_
    refine WL_nil ?_
    refine W_if rfl (fun h226 => ?_) (fun h226 => ?_)
    · refine W_skip ?_
      refine W_seq ?_
      refine W_block ?_
      refine W_seq ?_
      ((obtain ⟨x, hx⟩ : ∃ x, ns[i]? = some x := ⟨_, List.getElem?_eq_getElem (by omega)⟩; obtain ⟨y, hyy⟩ : ∃ y, qs[i]? = some y := ⟨_, List.getElem?_eq_getElem (by omega)⟩)) <;> refine W_region_l ?_
      refine WL_stepM rfl (R_mv) ?_
      refine WL_stepM rfl (R_mv) ?_
      refine WL_step rfl (R_indexAddr (off' := i) Try.underlying22 Try.sizeOf5 rfl rfl (by omega) (by omega) (by omega)) ?_
      refine WL_step rfl (R_load (v := U y) Try.isAgg5 rfl (H.get (.there .here)) (by rw [List.getElem?_append_left (by rw [List.length_map]; omega), List.getElem?_map, hyy]; rfl)) ?_
      refine WL_stepM rfl (R_as) ?_
      refine WL_nil ?_
      refine W_seq ?_
      refine W_seq ?_
      refine W_region_l ?_
      refine WL_stepM rfl (R_mv) ?_
      refine WL_stepM rfl (R_mv) ?_
      refine WL_guard_f rfl rfl (by decide) ?_
      refine WL_guard_f rfl rfl (by decide) ?_
      refine WL_guard_f rfl rfl (by decide) ?_
      refine WL_stepM rfl (R_pk_f rfl) ?_
      refine WL_stepM rfl (R_mv) ?_
      refine WL_guard_f rfl rfl (by decide) ?_
      refine WL_guard_f rfl rfl (by decide) ?_
      refine WL_guard_f rfl rfl (by decide) ?_
      refine WL_guard_f rfl rfl (by decide) ?_
      refine WL_guard_f rfl rfl (by decide) ?_
      refine WL_stepM rfl (R_pk_f rfl) ?_
      refine WL_nil ?_
      refine W_cond_f rfl ?_
      refine W_skip ?_
      refine W_seq ?_
      refine W_region_l ?_
      refine WL_stepM rfl (R_mv) ?_
      refine WL_stepM rfl (R_mv) ?_
      refine WL_step rfl (R_indexAddr (off' := i) Try.underlying22 Try.sizeOf5 rfl rfl (by omega) (by omega) (by omega)) ?_
      refine WL_step rfl (R_load (v := U x) Try.isAgg5 rfl (H.get .here) (by rw [List.getElem?_append_left (by rw [List.length_map]; omega), List.getElem?_map, hx]; rfl)) ?_
      refine WL_stepM rfl (R_mv) ?_
      (obtain rfl : x = y := (by rw [hns] at hx; rw [hqs, hx] at hyy; exact Option.some.inj hyy); refine WL_step rfl (R_ne_f rfl rfl rfl) ?_)
      refine WL_nil ?_
      refine W_cond_f rfl ?_
      refine W_skip ?_
      refine W_region_l ?_
      refine WL_stepM rfl (R_mv) ?_
      refine WL_step rfl (R_add rfl rfl (w_i64 (by omega))) ?_
      refine WL_stepM rfl (R_as) ?_
      refine WL_nil ?_
      exact ⟨(same_mov rfl (same_updo rfl (same_mov rfl (same_updo rfl (same_mov rfl (same_updo rfl (same_updo rfl (same_mov rfl (same_mov rfl (same_mov rfl (same_updo rfl (same_updo rfl (same_updo rfl (same_updo rfl (same_updo rfl (same_mov rfl (same_mov rfl (same_updo rfl (same_updo rfl (same_updo rfl (same_mov rfl (same_mov rfl (same_mov rfl (same_updo rfl (same_updo rfl (same_mov rfl (same_mov rfl (same_know rfl (same_updo rfl (same_mov rfl same_ovr)))))))))))))))))))))))))))))), i + 1, by omega, by omega, rfl, H⟩
    · refine W_exit ?_
      refine (if_pos rfl).mpr ?_
      refine W_seq ?_
      refine W_region_l ?_
      (refine WL_call rfl (R_call rfl Try.call15 rfl) (awake_ret _) ?_; rintro _ w278 ⟨rfl, H1⟩; replace H := H.seq0 H1; clear H1)
      refine WL_stepM rfl (R_as) ?_
      refine WL_nil ?_
      refine W_ret ?_
      exact ⟨_, rfl, rfl, H.none (by repeat' first | exact kNil | apply kCons | apply kApp | assumption | exact OwnS.keys (by assumption))⟩

theorem copies_n2 {w : World} {ys : List UInt8} {l : Value} {at_ on n rd wr : Int} (hl : RdS w l (ys.map U)) (hy : ys.length ≤ 100) (hV : ¬ rd % 2 = 0 ∧ wr / 2 % 2 = 0) :
    Ret Try.prog 4 #[l, I at_, I on, I n, I rd, I wr] w fun v w' => v = .bool true ∧ Hp w [] w' := by
  refine Ret_of_W (args := [_, _, _, _, _, _]) Try.func4 rfl Try.ntmps4 Try.results4 (by simp) ?_
  have H := Hp.refl w
  obtain ⟨ao, ca0, rfl⟩ := hl.form
  simp only [List.length_map] at hl ⊢
  obtain ⟨A, hA, hA2⟩ : ∃ L : Nat, at_ % 64 = (L : Int) ∧ L < 64 := ⟨(at_ % 64).toNat, by omega, by omega⟩
  obtain ⟨O, hO, hO2⟩ : ∃ L : Nat, on % 64 = (L : Int) ∧ L < 64 := ⟨(on % 64).toNat, by omega, by omega⟩
  obtain ⟨N, hN, hN2⟩ : ∃ N : Nat, n % 32 = (N : Int) ∧ N < 32 := ⟨(n % 32).toNat, by omega, by omega⟩
  obtain ⟨R, hR, hR2⟩ : ∃ N : Nat, rd % 8 = (N : Int) ∧ N < 8 := ⟨(rd % 8).toNat, by omega, by omega⟩
  obtain ⟨W, hW, hW2⟩ : ∃ N : Nat, wr % 8 = (N : Int) ∧ N < 8 := ⟨(wr % 8).toNat, by omega, by omega⟩
  obtain ⟨ta, hta, hal, hag, ha0⟩ := tset t0_len t0_g (i := 0) (by decide) ⟨cp 0 (R : Int) 0 100 0 0, newPl.g, true⟩ (show newPl.g ≤ 1000001 by decide)
  have ha1 : ta[1]? = some newPl := by rw [← hta, List.getElem?_set_ne (by decide)]; rfl
  obtain ⟨tb, htb, hbl, hbg, hb1⟩ := tset hal hag (i := 1) (by decide) ⟨cp 0 (W : Int) 0 100 0 0, newPl.g, true⟩ (show newPl.g ≤ 1000001 by decide)
  have hb0 : tb[0]? = some ⟨cp 0 (R : Int) 0 100 0 0, newPl.g, true⟩ := by rw [← htb, List.getElem?_set_ne (by decide)]; exact ha0
  obtain ⟨zs, hzs, hzl⟩ : ∃ zs : List UInt8, zs = List.replicate 128 0 ∧ zs.length = 128 := ⟨_, rfl, by simp⟩
  obtain ⟨vs, hvs, hvl⟩ : ∃ vs : List UInt8, vs = Mem.put zs ys 0 ∧ vs.length = 128 := ⟨_, rfl, by rw [Mem.put_length (by omega)]; exact hzl⟩
  obtain ⟨qs, hqs, hql⟩ : ∃ qs : List UInt8, qs = vs.take 100 ∧ qs.length = 100 := ⟨_, rfl, by rw [List.length_take]; omega⟩
  obtain ⟨cs, hcs, hcl⟩ : ∃ cs : List UInt8, cs = (vs.drop A).take N ∧ cs.length = N := ⟨_, rfl, by rw [List.length_take, List.length_drop]; omega⟩
  -- nothing is written
  obtain ⟨ns, hns, hnl⟩ : ∃ ns : List UInt8, ns = vs.take 100 ∧ ns.length = 100 := ⟨_, rfl, by rw [List.length_take]; omega⟩
  refine W_seq ?_
  refine W_region_l ?_
  refine WL_stepM rfl (R_as) ?_
  refine WL_nil ?_
  refine W_seq ?_
  refine W_region_l ?_
  (refine WL_call rfl (R_call rfl Try.call12 rfl) (Mem.new_ret 2 _) ?_; rintro _ w7 ⟨m, mb, rfl, H1, hm, hmb⟩; rw [show Mem.szOf 2 = 128 from rfl, ← Mem.zmap, ← hzs] at H1; replace H := H.seqN H1 (kCons hm (kCons hmb kNil)); replace H : Hp w [(m, blk [sl mb 0 128 128] 87), (mb, blk (zs.map U) 5)] w7 := H; clear H1)
  (refine WL_call rfl (R_call rfl Try.call13 rfl) (Caps.new_ret (E := 1) (by decide) (by decide) _) ?_; rintro _ w8 ⟨s, bs, cap, sp, PB, rfl, hPl, hs, hbs, hPB, H1⟩; obtain ⟨p0, b0, rfl⟩ := one hPl; have hsz := H.size; replace H := H.seqN H1 (spB_keys hs hbs hPB); clear H1; obtain ⟨hp0, hb0'⟩ := hPB (p0, b0) (.head _); replace hs := Nat.le_trans hsz hs; replace hbs := Nat.le_trans hsz hbs; replace hp0 : w.heap.size ≤ p0 := Nat.le_trans hsz hp0; replace hb0' : w.heap.size ≤ b0 := Nat.le_trans hsz hb0'; clear hPB hPl hsz; replace H : Hp w [(s, blk [sl bs 0 1 cap] 90), (bs, blk (ptrs [(p0, b0)] ++ sp) 91), (p0, blk [sl b0 0 32 32] 135), (b0, blk (rows plc t0) 137), (m, blk [sl mb 0 128 128] 87), (mb, blk (zs.map U) 5)] w8 := H)
  refine WL_stepM rfl (R_as) ?_
  refine WL_stepM rfl (R_as) ?_
  refine WL_nil ?_
  refine W_seq ?_
  refine W_region_l ?_
  refine WL_stepM rfl (R_mv) ?_
  refine WL_stepM rfl (R_mv) ?_
  (refine WL_call rfl (R_call rfl Try.call14 rfl) (new_ret m s _) ?_; rintro _ w16 ⟨rr, rfl, hrr, H1⟩; have hsz := H.size; replace H := H.seqN H1 (kCons hrr kNil); clear H1; replace hrr := Nat.le_trans hsz hrr; clear hsz; replace H : Hp w [(rr, blk [ptr m 0, ptr s 0, nilS] 95), (s, blk [sl bs 0 1 cap] 90), (bs, blk (ptrs [(p0, b0)] ++ sp) 91), (p0, blk [sl b0 0 32 32] 135), (b0, blk (rows plc t0) 137), (m, blk [sl mb 0 128 128] 87), (mb, blk (zs.map U) 5)] w16 := H)
  refine WL_stepM rfl (R_as) ?_
  refine WL_nil ?_
  refine W_seq ?_
  refine W_seq ?_
  refine W_region_l ?_
  refine WL_stepM rfl (R_mv) ?_
  refine WL_step rfl (R_eq_ptr_nil Try.underlying23 rfl rfl) ?_
  refine WL_stepM rfl (R_mv) ?_
  refine WL_guard_t rfl rfl ?_
  refine WL_stepM rfl (R_mv) ?_
  refine WL_guard_t rfl rfl ?_
  refine WL_step rfl (R_eq_ptr_nil Try.underlying25 rfl rfl) ?_
  refine WL_stepM rfl (R_pk_f rfl) ?_
  refine WL_stepM rfl (R_mv) ?_
  refine WL_guard_t rfl rfl ?_
  refine WL_stepM rfl (R_mv) ?_
  refine WL_guard_t rfl rfl ?_
  refine WL_step rfl (R_eq_ptr_nil Try.underlying27 rfl rfl) ?_
  refine WL_stepM rfl (R_pk_f rfl) ?_
  refine WL_stepM rfl (R_mv) ?_
  refine WL_guard_t rfl rfl ?_
  refine WL_stepM rfl (R_mv) ?_
  refine WL_guard_t rfl rfl ?_
  refine WL_step rfl (R_len_slice Try.underlying22 rfl) ?_
  refine WL_guard_t rfl rfl ?_
  refine WL_step rfl (R_gt_f rfl rfl (by omega)) ?_
  refine WL_stepM rfl (R_pk_f rfl) ?_
  refine WL_nil ?_
  refine W_cond_f rfl ?_
  refine W_skip ?_
  refine W_seq ?_
  refine W_region_l ?_
  refine WL_stepM rfl (R_mv) ?_
  (refine WL_call rfl (R_call rfl Try.call17 rfl) (add_ret (xs := zs) (H.get .here) (H.get (.there (.there (.there (.there (.there .here)))))) hzl (by decide) (lo := 0) (n := 100) (by decide) (by decide) (by decide)) ?_; rintro _ w50 ⟨a, ca, sp2, rfl, ha, H1⟩; have hsz := H.size; replace H := H.seq H1 (okSeq_set .here (okSeq_new ha okSeq_nil)); clear H1; replace ha := Nat.le_trans hsz ha; clear hsz)
  refine WL_stepM rfl (R_mv) ?_
  refine WL_step rfl (R_extract rfl rfl) ?_
  refine WL_step rfl (R_extract rfl rfl) ?_
  refine WL_stepM rfl (R_as) ?_
  refine WL_stepM rfl (R_as) ?_
  refine WL_nil ?_
  refine W_seq ?_
  refine W_region_l ?_
  refine WL_stepM rfl (R_mv) ?_
  refine WL_stepM rfl (R_mv) ?_
  (refine WL_call rfl (R_call rfl Try.call16 rfl) (Mem.store_yes (xs := zs) (ys := ys) 0 (H.get (.there (.there (.there (.there (.there (.there .here))))))) (H.get (.there (.there (.there (.there (.there (.there (.there .here)))))))) hzl (by omega) (hl.monoN H (by repeat' first | exact kNil | apply kCons | apply kApp | assumption | exact OwnS.keys (by assumption))) (by omega)) ?_; rintro _ w61 ⟨rfl, H1⟩; rw [← hvs] at H1; replace H := H.seq H1 (okSeq_set (.there (.there (.there (.there (.there (.there (.there .here))))))) okSeq_nil); clear H1)
  refine WL_nil ?_
  refine W_seq ?_
  refine W_region_l ?_
  refine WL_stepM rfl (R_mv) ?_
  (refine WL_call rfl (R_call rfl Try.call21 rfl) (Mem.load_yes (xs := vs) 0 100 (H.get (.there (.there (.there (.there (.there (.there .here))))))) (H.get (.there (.there (.there (.there (.there (.there (.there .here)))))))) hvl (by omega) (by omega)) ?_; rintro _ w66 ⟨_, M, rfl, hO1, H1⟩; rw [List.drop_zero, ← hqs] at hO1; have h66 := H.seqO hO1 H1; clear H H1 hO1; obtain ⟨hO1, H⟩ := h66; obtain ⟨ub, uc, usp, rfl, hub, rfl, husp, huc⟩ := OwnS.pos hO1 (by omega); replace H : Hp w [(ub, blk (qs.map U ++ usp) 5), (a, blk ([I 0, I 100] ++ sp2) 98), (rr, blk [ptr m 0, ptr s 0, sl a 0 1 ca] 95), (s, blk [sl bs 0 1 cap] 90), (bs, blk (ptrs [(p0, b0)] ++ sp) 91), (p0, blk [sl b0 0 32 32] 135), (b0, blk (rows plc t0) 137), (m, blk [sl mb 0 128 128] 87), (mb, blk (vs.map U) 5)] w66 := H)
  refine WL_stepM rfl (R_mv) ?_
  refine WL_step rfl (R_extract rfl rfl) ?_
  refine WL_step rfl (R_extract rfl rfl) ?_
  refine WL_stepM rfl (R_as) ?_
  refine WL_stepM rfl (R_as) ?_
  refine WL_nil ?_
  refine W_seq ?_
  refine W_region_l ?_
  refine WL_stepM rfl (R_mv) ?_
  refine WL_step rfl (R_bits (r := (A : Int)) rfl rfl (by simp) ((and_mask_i64 6 64 (by decide) rfl (by decide)).trans hA)) ?_
  refine WL_stepM rfl (R_mv) ?_
  refine WL_step rfl (R_bits (r := (O : Int)) rfl rfl (by simp) ((and_mask_i64 6 64 (by decide) rfl (by decide)).trans hO)) ?_
  refine WL_stepM rfl (R_mv) ?_
  refine WL_step rfl (R_bits (r := (N : Int)) rfl rfl (by simp) ((and_mask_i64 5 32 (by decide) rfl (by decide)).trans hN)) ?_
  refine WL_stepM rfl (R_as) ?_
  refine WL_stepM rfl (R_as) ?_
  refine WL_stepM rfl (R_as) ?_
  refine WL_nil ?_
  refine W_seq ?_
  refine W_region_l ?_
  refine WL_stepM rfl (R_mv) ?_
  refine WL_stepM rfl (R_mv) ?_
  refine WL_stepM rfl (R_mv) ?_
  refine WL_step rfl (R_bits (r := (R : Int)) rfl rfl (by simp) ((and_mask_i64 3 8 (by decide) rfl (by decide)).trans hR)) ?_
  refine WL_step rfl (R_buildL (places := [(0, 1), (1, 1), (2, 1), (3, 1), (4, 2)]) (vs := (cp 0 (R : Int) 0 100 0 0).c) Try.underlying38 Try.typeInfo38 rfl rfl (by kernel_rfl) rfl rfl rfl) ?_
  (refine WL_call rfl (R_call rfl Try.call18 rfl) (put_yes (j := 0) (i := 0) (r := R) (o := 0) (lo := 0) (n := 100) (re := 0) (rn := 0) (Sp.from H (PB := [(p0, b0)]) (ts := [t0]) bs cap sp (inv1 t0_len t0_g) (fun _ hp => .tail _ (.tail _ (.tail _ (List.mem_append_left _ hp))))) rfl rfl hR2 (by decide) (by decide) t0_at new_free (fun _ _ h => absurd h (Nat.not_lt_zero _))) ?_; rintro _ w92 ⟨rfl, H1⟩; rw [hta] at H1; replace H := H.seq H1 (okSeq_set (.there (.there (.there (.there (.there (.there .here)))))) okSeq_nil); clear H1)
  refine WL_stepM rfl (R_mv) ?_
  refine WL_step rfl (R_extract rfl rfl) ?_
  refine WL_step rfl (R_extract rfl rfl) ?_
  refine WL_stepM rfl (R_as) ?_
  refine WL_stepM rfl (R_as) ?_
  refine WL_nil ?_
  refine W_seq ?_
  refine W_region_l ?_
  refine WL_stepM rfl (R_mv) ?_
  refine WL_stepM rfl (R_mv) ?_
  refine WL_stepM rfl (R_mv) ?_
  refine WL_step rfl (R_bits (r := (W : Int)) rfl rfl (by simp) ((and_mask_i64 3 8 (by decide) rfl (by decide)).trans hW)) ?_
  refine WL_step rfl (R_buildL (places := [(0, 1), (1, 1), (2, 1), (3, 1), (4, 2)]) (vs := (cp 0 (W : Int) 0 100 0 0).c) Try.underlying38 Try.typeInfo38 rfl rfl (by kernel_rfl) rfl rfl rfl) ?_
  (refine WL_call rfl (R_call rfl Try.call18 rfl) (put_yes (j := 0) (i := 1) (r := W) (o := 0) (lo := 0) (n := 100) (re := 0) (rn := 0) (Sp.from H (PB := [(p0, b0)]) (ts := [ta]) bs cap sp (inv1 hal hag) (fun _ hp => .tail _ (.tail _ (.tail _ (List.mem_append_left _ hp))))) rfl rfl hW2 (by decide) (by decide) ha1 new_free (fun k a' hk hka hf => by obtain rfl : k = 0 := (by omega); rw [ha0] at hka; cases hka; exact absurd hf.1 (show ¬ (true = false) by decide))) ?_; rintro _ w106 ⟨rfl, H1⟩; rw [htb] at H1; replace H := H.seq H1 (okSeq_set (.there (.there (.there (.there (.there (.there .here)))))) okSeq_nil); clear H1)
  refine WL_stepM rfl (R_mv) ?_
  refine WL_step rfl (R_extract rfl rfl) ?_
  refine WL_step rfl (R_extract rfl rfl) ?_
  refine WL_stepM rfl (R_as) ?_
  refine WL_stepM rfl (R_as) ?_
  refine WL_nil ?_
  refine W_seq ?_
  refine W_region_l ?_
  refine WL_stepM rfl (R_mv) ?_
  refine WL_stepM rfl (R_mv) ?_
  refine WL_stepM rfl (R_mv) ?_
  refine WL_stepM rfl (R_mv) ?_
  refine WL_stepM rfl (R_mv) ?_
  refine WL_stepM rfl (R_mv) ?_
  (refine WL_call rfl (R_call rfl Try.call23 rfl) (copy_to (e := 3) (k := N) (zs := cs) (K := []) (by rw [hcs]; exact read_yes (xs := vs) (p := A) (k := N) (place_to (j := 0) (i := 0) (z := ((R % 2 : Nat) : Int)) (p := A) (k := N) (at_ := A) (lo := 0) (rlo := 0) (rn := 100) (by omega) (H.get (.there (.there .here))) (H.get (.there .here)) (Sp.from H (PB := [(p0, b0)]) (ts := [tb]) bs cap sp (inv1 hbl hbg) (fun _ hp => .tail _ (.tail _ (.tail _ (List.mem_append_left _ hp))))) rfl rfl hb0 (and1_8 hR2) (by omega) (by decide) (by decide) (by decide) (by decide) (by omega) (by omega) (by omega)) (H.get (.there (.there .here))) (H.get (.there (.there (.there (.there (.there (.there (.there .here)))))))) (H.get (.there (.there (.there (.there (.there (.there (.there (.there .here))))))))) hvl (by decide) (by omega)) (fun u M w2 hO2 H2 => copyN (write_noU (ys := cs) (RdS.own hO2 (fun p hp => H2.held p hp)) (by omega) (place_right (j := 0) (i := 1) (H2.blockN (H.get (.there (.there .here))) hO2.keys) (((Sp.from H (PB := [(p0, b0)]) (ts := [tb]) bs cap sp (inv1 hbl hbg) (fun _ hp => .tail _ (.tail _ (.tail _ (List.mem_append_left _ hp)))))).monoN H2 hO2.keys) rfl rfl hb1 ((and2_8 hW2).trans (by omega))) (by decide)) H2)) ?_; rintro _ w121 ⟨M, rfl, hMk, H1⟩; rw [List.append_nil] at H1; replace H := H.seqD H1 hMk; clear H1 hMk)
  refine WL_stepM rfl (R_as) ?_
  refine WL_nil ?_
  refine W_seq ?_
  refine W_region_l ?_
  refine WL_stepM rfl (R_mv) ?_
  (have _g := hb1; refine WL_call rfl (R_call rfl Try.call21 rfl) (Mem.load_yes (xs := vs) 0 100 (H.get (.there (.there (.there (.there (.there (.there (.there .here)))))))) (H.get (.there (.there (.there (.there (.there (.there (.there (.there .here))))))))) hvl (by omega) (by omega)) ?_; rintro _ w127 ⟨_, M, rfl, hO3, H1⟩; rw [List.drop_zero, ← hns] at hO3; have h127 := H.seqO hO3 H1; clear H H1 hO3; obtain ⟨hO3, H⟩ := h127; obtain ⟨nb, nc, nsp, rfl, hnb, rfl, hnsp, hnc⟩ := OwnS.pos hO3 (by omega); replace H : Hp w [(nb, blk (ns.map U ++ nsp) 5), (ub, blk (qs.map U ++ usp) 5), (a, blk ([I 0, I 100] ++ sp2) 98), (rr, blk [ptr m 0, ptr s 0, sl a 0 1 ca] 95), (s, blk [sl bs 0 1 cap] 90), (bs, blk (ptrs [(p0, b0)] ++ sp) 91), (p0, blk [sl b0 0 32 32] 135), (b0, blk (rows plc tb) 137), (m, blk [sl mb 0 128 128] 87), (mb, blk (vs.map U) 5)] w127 := H)
  refine WL_stepM rfl (R_mv) ?_
  refine WL_step rfl (R_extract rfl rfl) ?_
  refine WL_step rfl (R_extract rfl rfl) ?_
  refine WL_stepM rfl (R_as) ?_
  refine WL_stepM rfl (R_as) ?_
  refine WL_nil ?_
  refine W_seq ?_
  refine W_seq ?_
  refine W_region_l ?_
  refine WL_stepM rfl (R_mv) ?_
  refine WL_step rfl (R_ne_f rfl rfl (by omega)) ?_
  refine WL_stepM rfl (R_mv) ?_
  refine WL_guard_t rfl rfl ?_
  refine WL_stepM rfl (R_mv) ?_
  refine WL_guard_t rfl rfl ?_
  refine WL_step rfl (R_ne_f rfl rfl (by omega)) ?_
  refine WL_stepM rfl (R_pk_f rfl) ?_
  refine WL_stepM rfl (R_mv) ?_
  refine WL_guard_t rfl rfl ?_
  refine WL_stepM rfl (R_mv) ?_
  refine WL_guard_t rfl rfl ?_
  refine WL_step rfl (R_ne_f rfl rfl (by omega)) ?_
  refine WL_stepM rfl (R_pk_f rfl) ?_
  refine WL_stepM rfl (R_mv) ?_
  refine WL_guard_t rfl rfl ?_
  refine WL_stepM rfl (R_mv) ?_
  refine WL_guard_t rfl rfl ?_
  refine WL_step rfl (R_ne_f rfl rfl (by omega)) ?_
  refine WL_stepM rfl (R_pk_f rfl) ?_
  refine WL_stepM rfl (R_mv) ?_
  refine WL_guard_t rfl rfl ?_
  refine WL_stepM rfl (R_mv) ?_
  refine WL_guard_t rfl rfl ?_
  refine WL_step rfl (R_len_slice Try.underlying22 rfl) ?_
  refine WL_guard_t rfl rfl ?_
  refine WL_step rfl (R_ne_f rfl rfl (by omega)) ?_
  refine WL_stepM rfl (R_pk_f rfl) ?_
  refine WL_stepM rfl (R_mv) ?_
  refine WL_guard_t rfl rfl ?_
  refine WL_stepM rfl (R_mv) ?_
  refine WL_guard_t rfl rfl ?_
  refine WL_step rfl (R_len_slice Try.underlying22 rfl) ?_
  refine WL_guard_t rfl rfl ?_
  refine WL_step rfl (R_ne_f rfl rfl (by omega)) ?_
  refine WL_stepM rfl (R_pk_f rfl) ?_
  refine WL_nil ?_
  refine W_cond_f rfl ?_
  refine W_skip ?_
  refine W_seq ?_
  refine W_region_l ?_
  refine WL_stepM rfl (R_mv) ?_
  refine WL_step rfl (R_bits (r := rd % 2) rfl rfl (by simp) (and_mask_i64 1 2 (by decide) rfl (by decide))) ?_
  refine WL_step rfl (R_ne_t rfl rfl (by omega)) ?_
  refine WL_stepM rfl (R_mv) ?_
  refine WL_guard_t rfl rfl ?_
  refine WL_stepM rfl (R_mv) ?_
  refine WL_guard_t rfl rfl ?_
  refine WL_step rfl (R_bits (r := 2 * (wr / 2 % 2)) rfl rfl (by simp) (and_2 wr)) ?_
  refine WL_guard_t rfl rfl ?_
  refine WL_step rfl (R_ne_f rfl rfl (by omega)) ?_
  refine WL_stepM rfl (R_pk_t rfl) ?_
  refine WL_stepM rfl (R_as) ?_
  refine WL_nil ?_
  refine W_seq ?_
  refine W_seq ?_
  refine W_region_l ?_
  refine WL_stepM rfl (R_mv) ?_
  refine WL_step rfl (R_eq_f rfl rfl (by omega)) ?_
  refine WL_stepM rfl (R_mv) ?_
  refine WL_step rfl (R_ne_bool_f Try.underlying4 rfl rfl (by decide)) ?_
  refine WL_stepM rfl (R_mv) ?_
  refine WL_guard_t rfl rfl ?_
  refine WL_stepM rfl (R_mv) ?_
  refine WL_guard_t rfl rfl ?_
  refine WL_step rfl (R_not_f rfl) ?_
  refine WL_guard_t rfl rfl ?_
  refine WL_stepM rfl (R_mv) ?_
  refine WL_guard_t rfl rfl ?_
  refine WL_stepM rfl (R_mv) ?_
  refine WL_guard_t rfl rfl ?_
  refine WL_step rfl (R_ne_f rfl rfl (by omega)) ?_
  refine WL_guard_t rfl rfl ?_
  refine WL_stepM rfl (R_pk_t rfl) ?_
  refine WL_stepM rfl (R_pk_f rfl) ?_
  refine WL_nil ?_
  refine W_cond_f rfl ?_
  refine W_skip ?_
  refine W_seq ?_
  refine W_seq ?_
  refine W_region_l ?_
  refine WL_stepM rfl (R_as) ?_
  refine WL_nil ?_
  refine W_block ?_
  refine W_loopS [(12, 12), (28, 29), (156, 190)] (fun (i : Nat) E w' => i ≤ 100 ∧ E 28 = I i ∧ Hp w [(nb, blk (ns.map U ++ nsp) 5), (ub, blk (qs.map U ++ usp) 5), (a, blk ([I 0, I 100] ++ sp2) 98), (rr, blk [ptr m 0, ptr s 0, sl a 0 1 ca] 95), (s, blk [sl bs 0 1 cap] 90), (bs, blk (ptrs [(p0, b0)] ++ sp) 91), (p0, blk [sl b0 0 32 32] 135), (b0, blk (rows plc tb) 137), (m, blk [sl mb 0 128 128] 87), (mb, blk (vs.map U) 5)] w') (fun i => 100 - i) 0 ?e0 ?r0
  · exact ⟨by omega, rfl, H⟩
  · (clear H; rintro i E w1 ⟨hi, h0, H⟩; refine W_kn h0 ?_)
    refine W_seq ?_
    refine W_seq ?_
    refine W_region_l ?_
    refine WL_stepM rfl (R_mv) ?_
    refine WL_step rfl (R_lt rfl rfl) ?_
    refine WL_nil ?_
    refine W_if rfl (fun h229 => ?_) (fun h229 => ?_)
    · refine W_skip ?_
      refine W_seq ?_
      refine W_block ?_
      refine W_seq ?_
      ((obtain ⟨x, hx⟩ : ∃ x, ns[i]? = some x := ⟨_, List.getElem?_eq_getElem (by omega)⟩; obtain ⟨y, hyy⟩ : ∃ y, qs[i]? = some y := ⟨_, List.getElem?_eq_getElem (by omega)⟩)) <;> refine W_region_l ?_
      refine WL_stepM rfl (R_mv) ?_
      refine WL_stepM rfl (R_mv) ?_
      refine WL_step rfl (R_indexAddr (off' := i) Try.underlying22 Try.sizeOf5 rfl rfl (by omega) (by omega) (by omega)) ?_
      refine WL_step rfl (R_load (v := U y) Try.isAgg5 rfl (H.get (.there .here)) (by rw [List.getElem?_append_left (by rw [List.length_map]; omega), List.getElem?_map, hyy]; rfl)) ?_
      refine WL_stepM rfl (R_as) ?_
      refine WL_nil ?_
      refine W_seq ?_
      refine W_seq ?_
      refine W_region_l ?_
      refine WL_stepM rfl (R_mv) ?_
      refine WL_stepM rfl (R_mv) ?_
      refine WL_guard_f rfl rfl (by decide) ?_
      refine WL_guard_f rfl rfl (by decide) ?_
      refine WL_guard_f rfl rfl (by decide) ?_
      refine WL_stepM rfl (R_pk_f rfl) ?_
      refine WL_stepM rfl (R_mv) ?_
      refine WL_guard_f rfl rfl (by decide) ?_
      refine WL_guard_f rfl rfl (by decide) ?_
      refine WL_guard_f rfl rfl (by decide) ?_
      refine WL_guard_f rfl rfl (by decide) ?_
      refine WL_guard_f rfl rfl (by decide) ?_
      refine WL_stepM rfl (R_pk_f rfl) ?_
      refine WL_nil ?_
      refine W_cond_f rfl ?_
      refine W_skip ?_
      refine W_seq ?_
      refine W_region_l ?_
      refine WL_stepM rfl (R_mv) ?_
      refine WL_stepM rfl (R_mv) ?_
      refine WL_step rfl (R_indexAddr (off' := i) Try.underlying22 Try.sizeOf5 rfl rfl (by omega) (by omega) (by omega)) ?_
      refine WL_step rfl (R_load (v := U x) Try.isAgg5 rfl (H.get .here) (by rw [List.getElem?_append_left (by rw [List.length_map]; omega), List.getElem?_map, hx]; rfl)) ?_
      refine WL_stepM rfl (R_mv) ?_
      (obtain rfl : x = y := (by rw [hns] at hx; rw [hqs, hx] at hyy; exact Option.some.inj hyy); refine WL_step rfl (R_ne_f rfl rfl rfl) ?_)
      refine WL_nil ?_
      refine W_cond_f rfl ?_
      refine W_skip ?_
      refine W_region_l ?_
      refine WL_stepM rfl (R_mv) ?_
      refine WL_step rfl (R_add rfl rfl (w_i64 (by omega))) ?_
      refine WL_stepM rfl (R_as) ?_
      refine WL_nil ?_
      exact ⟨(same_mov rfl (same_updo rfl (same_mov rfl (same_updo rfl (same_mov rfl (same_updo rfl (same_updo rfl (same_mov rfl (same_mov rfl (same_mov rfl (same_updo rfl (same_updo rfl (same_updo rfl (same_updo rfl (same_updo rfl (same_mov rfl (same_mov rfl (same_updo rfl (same_updo rfl (same_updo rfl (same_mov rfl (same_mov rfl (same_mov rfl (same_updo rfl (same_updo rfl (same_mov rfl (same_mov rfl (same_know rfl (same_updo rfl (same_mov rfl same_ovr)))))))))))))))))))))))))))))), i + 1, by omega, by omega, rfl, H⟩
    · refine W_exit ?_
      refine (if_pos rfl).mpr ?_
      refine W_seq ?_
      refine W_region_l ?_
      (refine WL_call rfl (R_call rfl Try.call15 rfl) (awake_ret _) ?_; rintro _ w281 ⟨rfl, H1⟩; replace H := H.seq0 H1; clear H1)
      refine WL_stepM rfl (R_as) ?_
      refine WL_nil ?_
      refine W_ret ?_
      exact ⟨_, rfl, rfl, H.none (by repeat' first | exact kNil | apply kCons | apply kApp | assumption | exact OwnS.keys (by assumption))⟩

theorem copies_big {w : World} {ys : List UInt8} {l : Value} {at_ on n rd wr : Int} (hl : RdS w l (ys.map U)) (hy : 100 < ys.length) (hb : ys.length ≤ 9223372036854775807) :
    Ret Try.prog 4 #[l, I at_, I on, I n, I rd, I wr] w fun v w' => v = .bool true ∧ Hp w [] w' := by
  refine Ret_of_W (args := [_, _, _, _, _, _]) Try.func4 rfl Try.ntmps4 Try.results4 (by simp) ?_
  have H := Hp.refl w
  obtain ⟨ao, ca0, rfl⟩ := hl.form
  simp only [List.length_map] at hl ⊢
  refine W_seq ?_
  refine W_region_l ?_
  refine WL_stepM rfl (R_as) ?_
  refine WL_nil ?_
  refine W_seq ?_
  refine W_region_l ?_
  (refine WL_call rfl (R_call rfl Try.call12 rfl) (Mem.new_ret 2 _) ?_; rintro _ w7 ⟨m, mb, rfl, H1, hm, hmb⟩; replace H := H.seqD H1 (kCons hm (kCons hmb kNil)); clear H1)
  (refine WL_call rfl (R_call rfl Try.call13 rfl) (Caps.new_ret (E := 1) (by decide) (by decide) _) ?_; rintro _ w8 ⟨s, bs, cap, sp, PB, rfl, hPl, hs, hbs, hPB, H1⟩; replace H := H.seqD H1 (spB_keys hs hbs hPB); clear H1 hPB)
  refine WL_stepM rfl (R_as) ?_
  refine WL_stepM rfl (R_as) ?_
  refine WL_nil ?_
  refine W_seq ?_
  refine W_region_l ?_
  refine WL_stepM rfl (R_mv) ?_
  refine WL_stepM rfl (R_mv) ?_
  (refine WL_call rfl (R_call rfl Try.call14 rfl) (new_ret m s _) ?_; rintro _ w16 ⟨rr, rfl, hrr, H1⟩; replace H := H.seqD H1 (kCons hrr kNil); clear H1)
  refine WL_stepM rfl (R_as) ?_
  refine WL_nil ?_
  refine W_seq ?_
  refine W_seq ?_
  refine W_region_l ?_
  refine WL_stepM rfl (R_mv) ?_
  refine WL_step rfl (R_eq_ptr_nil Try.underlying23 rfl rfl) ?_
  refine WL_stepM rfl (R_mv) ?_
  refine WL_guard_t rfl rfl ?_
  refine WL_stepM rfl (R_mv) ?_
  refine WL_guard_t rfl rfl ?_
  refine WL_step rfl (R_eq_ptr_nil Try.underlying25 rfl rfl) ?_
  refine WL_stepM rfl (R_pk_f rfl) ?_
  refine WL_stepM rfl (R_mv) ?_
  refine WL_guard_t rfl rfl ?_
  refine WL_stepM rfl (R_mv) ?_
  refine WL_guard_t rfl rfl ?_
  refine WL_step rfl (R_eq_ptr_nil Try.underlying27 rfl rfl) ?_
  refine WL_stepM rfl (R_pk_f rfl) ?_
  refine WL_stepM rfl (R_mv) ?_
  refine WL_guard_t rfl rfl ?_
  refine WL_stepM rfl (R_mv) ?_
  refine WL_guard_t rfl rfl ?_
  refine WL_step rfl (R_len_slice Try.underlying22 rfl) ?_
  refine WL_guard_t rfl rfl ?_
  refine WL_step rfl (R_gt_t rfl rfl (by omega)) ?_
  refine WL_stepM rfl (R_pk_f rfl) ?_
  refine WL_nil ?_
  refine W_cond_t rfl ?_
  refine W_seq ?_
  refine W_region_l ?_
  refine WL_stepM rfl (R_mv) ?_
  refine WL_step rfl (R_ne_ptr_nil Try.underlying23 rfl rfl) ?_
  refine WL_stepM rfl (R_mv) ?_
  refine WL_guard_t rfl rfl ?_
  refine WL_stepM rfl (R_mv) ?_
  refine WL_guard_t rfl rfl ?_
  refine WL_step rfl (R_ne_ptr_nil Try.underlying25 rfl rfl) ?_
  refine WL_stepM rfl (R_pk_t rfl) ?_
  refine WL_stepM rfl (R_mv) ?_
  refine WL_guard_t rfl rfl ?_
  refine WL_stepM rfl (R_mv) ?_
  refine WL_guard_t rfl rfl ?_
  refine WL_step rfl (R_ne_ptr_nil Try.underlying27 rfl rfl) ?_
  refine WL_stepM rfl (R_pk_t rfl) ?_
  refine WL_stepM rfl (R_mv) ?_
  refine WL_guard_t rfl rfl ?_
  (refine WL_call rfl (R_call rfl Try.call15 rfl) (awake_ret _) ?_; rintro _ w64 ⟨rfl, H1⟩; replace H := H.seq0 H1; clear H1)
  refine WL_stepM rfl (R_pk_t rfl) ?_
  refine WL_stepM rfl (R_as) ?_
  refine WL_nil ?_
  refine W_ret ?_
  exact ⟨_, rfl, rfl, H⟩

theorem copies_ret {w : World} {ys : List UInt8} {l : Value} (at_ on n rd wr : Int) (hl : RdS w l (ys.map U)) (hb : ys.length ≤ 9223372036854775807) :
    Ret Try.prog 4 #[l, I at_, I on, I n, I rd, I wr] w fun v w' => v = .bool true ∧ Hp w [] w' := by
  by_cases hy : ys.length ≤ 100
  · by_cases h1 : rd % 2 = 0
    · exact copies_n1 hl hy h1
    · by_cases h2 : wr / 2 % 2 = 0
      · exact copies_n2 hl hy ⟨h1, h2⟩
      · exact copies_yes hl hy ⟨h1, h2⟩
  · exact copies_big hl (by omega) hb
end Go.Proofs.Ythonajikgljgmaa.Reg

/-
  Regions: what is fixed of them holds.
-/
import Derived.Test.YthonajikgljgmaaRegB
import Derived.Test.YthonajikgljgmaaRegC
namespace Go.Proofs.Ythonajikgljgmaa.Reg
open Go Go.Proofs Go.Proofs.Ythonajikgljgmaa.Fx Go.Proofs.Ythonajikgljgmaa.TabC Go.Proofs.Ythonajikgljgmaa.Caps
set_option maxRecDepth 100000
set_option linter.unusedVariables false
set_option linter.unusedSimpArgs false
set_option maxHeartbeats 8000000

theorem Sp.from {w0 w : World} {L : List (Nat × Obj)} {s : Nat} {PB : List (Nat × Nat)} {ts : List (List Pl)} (H : Hp w0 L w) (bs cap : Nat) (sp : List Value) (hI : Inv PB ts) (hs : spB s bs cap sp PB ts ⊆ L) : Sp w s PB ts :=
  Sp.of (fun p hp => H.held p (hs hp)) hI
/-- a table with something put into it -/
theorem tset {t : List Pl} (hl : t.length = 32) (hg : ∀ a ∈ t, a.g ≤ 1000001) {i : Nat} (hi : i < 32) (x : Pl) (hx : x.g ≤ 1000001) : ∃ t', t.set i x = t' ∧ t'.length = 32 ∧ (∀ a ∈ t', a.g ≤ 1000001) ∧ t'[i]? = some x :=
  ⟨_, rfl, by rw [List.length_set]; exact hl, fun a ha => (List.mem_or_eq_of_mem_set ha).elim (hg a) (fun e => e ▸ hx), List.getElem?_set_self (by omega)⟩
theorem t0_len : t0.length = 32 := by simp [t0]
theorem t0_g : ∀ a ∈ t0, a.g ≤ 1000001 := fun a ha => by rw [List.eq_of_mem_replicate ha]; decide
theorem t0_at : t0[0]? = some newPl := rfl
theorem new_free : free newPl := by unfold free; exact ⟨rfl, by decide⟩
theorem inv2 {x y : Nat × Nat} {ta tb : List Pl} (h1 : ta.length = 32) (h2 : ∀ a ∈ ta, a.g ≤ 1000001) (h3 : tb.length = 32) (h4 : ∀ a ∈ tb, a.g ≤ 1000001) : Inv [x, y] [ta, tb] :=
  ⟨rfl, by simp [h1, h3], by simp only [List.mem_cons, List.not_mem_nil, or_false]; rintro t (rfl | rfl); exact h2; exact h4⟩
theorem inv1 {x : Nat × Nat} {ta : List Pl} (h1 : ta.length = 32) (h2 : ∀ a ∈ ta, a.g ≤ 1000001) : Inv [x] [ta] :=
  ⟨rfl, by simp [h1], by simp only [List.mem_cons, List.not_mem_nil, or_false]; rintro t rfl; exact h2⟩
theorem two {PB : List (Nat × Nat)} (h : PB.length = 2) : ∃ p0 b0 p1 b1, PB = [(p0, b0), (p1, b1)] := by
  rcases PB with _ | ⟨⟨a, b⟩, _ | ⟨⟨c, d⟩, _ | ⟨_, _⟩⟩⟩ <;> simp at h
  exact ⟨a, b, c, d, rfl⟩
theorem one {PB : List (Nat × Nat)} (h : PB.length = 1) : ∃ p0 b0, PB = [(p0, b0)] := by
  rcases PB with _ | ⟨⟨a, b⟩, _ | ⟨_, _⟩⟩ <;> simp at h
  exact ⟨a, b, rfl⟩

theorem place_to {w : World} {rr m s : Nat} {a ca : Nat} {sp : List Value} {rlo rn : Int} {PB : List (Nat × Nat)} {ts : List (List Pl)} {j i g0 : Nat} {q : Nat × Nat} {t : List Pl} {r lo n re : Int}
    {rt at_ k z rx : Int} {p : Nat} (hp : rlo + lo + at_ = (p : Int)) (hr : w.heap[rr]? = some (blk [ptr m 0, ptr s 0, sl a 0 1 ca] 95)) (ha : w.heap[a]? = some (blk ([I rlo, I rn] ++ sp) 98)) (hS : Sp w s PB ts)
    (hq : PB[j]? = some q) (ht : ts[j]? = some t) (h : t[i]? = some ⟨cp 0 r lo n re rx, g0, true⟩) (bz : bitsOf .and .i64 r rt = z) (hz : z ≠ 0)
    (hlo : 0 ≤ lo ∧ lo ≤ 65536) (hn : 0 ≤ n ∧ n ≤ 65536) (hrlo : 0 ≤ rlo ∧ rlo ≤ 65536) (hrn : 0 ≤ rn ∧ rn ≤ 65536) (hat : 0 ≤ at_ ∧ at_ ≤ n) (hk : 0 ≤ k ∧ k ≤ n - at_) (hin : lo + at_ ≤ rn ∧ k ≤ rn - lo - at_) :
    Ret Try.prog 45 #[ptr rr 0, I j, I (i + 256 * g0 : Nat), I rt, I at_, I k] w fun v w' => v = .tuple #[I p, I 0] ∧ Hp w [] w' := by
  rw [← hp]
  exact place_yes hr ha hS hq ht h bz hz hlo hn hrlo hrn hat hk hin

theorem awake_ret (w : World) : Ret Try.prog 15 #[] w fun v w' => v = .bool true ∧ Hp w [] w' := by
  refine Ret_of_W (args := []) Try.func15 rfl Try.ntmps15 Try.results15 (by simp) ?_
  have H := Hp.refl w
  obtain ⟨ta, hta, hal, hag, ha0⟩ := tset t0_len t0_g (i := 0) (by decide) ⟨cp 0 (7 : Nat) 0 20 0 0, newPl.g, true⟩ (by decide)
  obtain ⟨tb, htb, hbl, hbg, hb0⟩ := tset t0_len t0_g (i := 0) (by decide) ⟨cp 0 1 (0 + 5) 2 (0 : Nat) (0 + 256 * newPl.g : Nat), newPl.g, true⟩ (by decide)
  obtain ⟨zs, hzs, hzl⟩ : ∃ zs : List UInt8, zs = List.replicate 128 0 ∧ zs.length = 128 := ⟨_, rfl, by simp⟩
  obtain ⟨us, hus, hul⟩ : ∃ us : List UInt8, us = Mem.put zs [7, 8, 9] 15 ∧ us.length = 128 := ⟨_, rfl, by rw [Mem.put_length (by rw [hzl]; decide), hzl]⟩
  have hgx : (us.drop 15).take 2 = [7, 8] := by rw [hus, hzs]; rfl
  refine W_seq ?_
  refine W_region_l ?_
  refine WL_stepM rfl (R_as) ?_
  refine WL_nil ?_
  refine W_seq ?_
  refine W_region_l ?_
  (refine WL_call rfl (R_call rfl Try.call12 rfl) (Mem.new_ret 2 _) ?_; rintro _ w7 ⟨m, mb, rfl, H1, hm, hmb⟩; rw [show Mem.szOf 2 = 128 from rfl, ← Mem.zmap, ← hzs] at H1; replace H := H.seqN H1 (kCons hm (kCons hmb kNil)); replace H : Hp w [(m, blk [sl mb 0 128 128] 87), (mb, blk (zs.map U) 5)] w7 := H; clear H1)
  (refine WL_call rfl (R_call rfl Try.call13 rfl) (Caps.new_ret (E := 2) (by decide) (by decide) _) ?_; rintro _ w8 ⟨s, bs, cap, sp, PB, rfl, hPl, hs, hbs, hPB, H1⟩; obtain ⟨p0, b0, p1, b1, rfl⟩ := two hPl; have hsz := H.size; replace H := H.seqN H1 (spB_keys hs hbs hPB); clear H1; obtain ⟨hp0, hb0'⟩ := hPB (p0, b0) (.head _); obtain ⟨hp1, hb1'⟩ := hPB (p1, b1) (.tail _ (.head _)); replace hs := Nat.le_trans hsz hs; replace hbs := Nat.le_trans hsz hbs; replace hp0 : w.heap.size ≤ p0 := Nat.le_trans hsz hp0; replace hb0' : w.heap.size ≤ b0 := Nat.le_trans hsz hb0'; replace hp1 : w.heap.size ≤ p1 := Nat.le_trans hsz hp1; replace hb1' : w.heap.size ≤ b1 := Nat.le_trans hsz hb1'; clear hPB hPl hsz; replace H : Hp w [(s, blk [sl bs 0 2 cap] 90), (bs, blk (ptrs [(p0, b0), (p1, b1)] ++ sp) 91), (p0, blk [sl b0 0 32 32] 135), (b0, blk (rows plc t0) 137), (p1, blk [sl b1 0 32 32] 135), (b1, blk (rows plc t0) 137), (m, blk [sl mb 0 128 128] 87), (mb, blk (zs.map U) 5)] w8 := H)
  refine WL_stepM rfl (R_as) ?_
  refine WL_stepM rfl (R_as) ?_
  refine WL_nil ?_
  refine W_seq ?_
  refine W_region_l ?_
  refine WL_stepM rfl (R_mv) ?_
  refine WL_stepM rfl (R_mv) ?_
  (refine WL_call rfl (R_call rfl Try.call14 rfl) (new_ret m s _) ?_; rintro _ w16 ⟨rr, rfl, hrr, H1⟩; have hsz := H.size; replace H := H.seqN H1 (kCons hrr kNil); clear H1; replace hrr := Nat.le_trans hsz hrr; clear hsz; replace H : Hp w [(rr, blk [ptr m 0, ptr s 0, nilS] 95), (s, blk [sl bs 0 2 cap] 90), (bs, blk (ptrs [(p0, b0), (p1, b1)] ++ sp) 91), (p0, blk [sl b0 0 32 32] 135), (b0, blk (rows plc t0) 137), (p1, blk [sl b1 0 32 32] 135), (b1, blk (rows plc t0) 137), (m, blk [sl mb 0 128 128] 87), (mb, blk (zs.map U) 5)] w16 := H)
  refine WL_stepM rfl (R_as) ?_
  refine WL_nil ?_
  refine W_seq ?_
  refine W_seq ?_
  refine W_region_l ?_
  refine WL_stepM rfl (R_mv) ?_
  refine WL_step rfl (R_eq_ptr_nil Try.underlying23 rfl rfl) ?_
  refine WL_stepM rfl (R_mv) ?_
  refine WL_guard_t rfl rfl ?_
  refine WL_stepM rfl (R_mv) ?_
  refine WL_guard_t rfl rfl ?_
  refine WL_step rfl (R_eq_ptr_nil Try.underlying25 rfl rfl) ?_
  refine WL_stepM rfl (R_pk_f rfl) ?_
  refine WL_stepM rfl (R_mv) ?_
  refine WL_guard_t rfl rfl ?_
  refine WL_stepM rfl (R_mv) ?_
  refine WL_guard_t rfl rfl ?_
  refine WL_step rfl (R_eq_ptr_nil Try.underlying27 rfl rfl) ?_
  refine WL_stepM rfl (R_pk_f rfl) ?_
  refine WL_nil ?_
  refine W_cond_f rfl ?_
  refine W_skip ?_
  refine W_seq ?_
  refine W_region_l ?_
  refine WL_stepM rfl (R_mv) ?_
  (refine WL_call rfl (R_call rfl Try.call17 rfl) (add_ret (xs := zs) (H.get .here) (H.get (.there (.there (.there (.there (.there (.there (.there .here)))))))) hzl (by decide) (lo := 10) (n := 20) (by decide) (by decide) (by decide)) ?_; rintro _ w42 ⟨a, ca, sp2, rfl, ha, H1⟩; have hsz := H.size; replace H := H.seq H1 (okSeq_set .here (okSeq_new ha okSeq_nil)); clear H1; replace ha := Nat.le_trans hsz ha; clear hsz)
  refine WL_stepM rfl (R_mv) ?_
  refine WL_step rfl (R_extract rfl rfl) ?_
  refine WL_step rfl (R_extract rfl rfl) ?_
  refine WL_stepM rfl (R_as) ?_
  refine WL_stepM rfl (R_as) ?_
  refine WL_nil ?_
  refine W_seq ?_
  refine W_region_l ?_
  refine WL_stepM rfl (R_mv) ?_
  refine WL_stepM rfl (R_mv) ?_
  refine WL_step rfl (R_buildL (places := [(0, 1), (1, 1), (2, 1), (3, 1), (4, 2)]) (vs := (cp 0 (7 : Nat) 0 20 0 0).c) Try.underlying38 Try.typeInfo38 rfl rfl (by kernel_rfl) rfl rfl rfl) ?_
  (refine WL_call rfl (R_call rfl Try.call18 rfl) (put_yes (j := 0) (i := 0) (r := 7) (o := 0) (lo := 0) (n := 20) (re := 0) (rn := 0) (Sp.from H (PB := [(p0, b0), (p1, b1)]) (ts := [t0, t0]) bs cap sp (inv2 t0_len t0_g t0_len t0_g) (fun _ hp => .tail _ (.tail _ (List.mem_append_left _ hp)))) rfl rfl (by decide) (by decide) (by decide) t0_at new_free (fun _ _ h => absurd h (Nat.not_lt_zero _))) ?_; rintro _ w54 ⟨rfl, H1⟩; rw [hta] at H1; replace H := H.seq H1 (okSeq_set (.there (.there (.there (.there (.there .here))))) okSeq_nil); clear H1)
  refine WL_stepM rfl (R_mv) ?_
  refine WL_step rfl (R_extract rfl rfl) ?_
  refine WL_step rfl (R_extract rfl rfl) ?_
  refine WL_stepM rfl (R_as) ?_
  refine WL_stepM rfl (R_as) ?_
  refine WL_nil ?_
  refine W_seq ?_
  refine W_region_l ?_
  refine WL_stepM rfl (R_mv) ?_
  refine WL_stepM rfl (R_mv) ?_
  (refine WL_call rfl (R_call rfl Try.call19 rfl) (grant_yes (j := 0) (i := 0) (k := 1) (i2 := 0) (l1 := 5) (n1 := 2) (gv := 1) (z := 4) (Sp.from H (PB := [(p0, b0), (p1, b1)]) (ts := [ta, t0]) bs cap sp (inv2 hal hag t0_len t0_g) (fun _ hp => .tail _ (.tail _ (List.mem_append_left _ hp)))) rfl rfl ha0 rfl rfl t0_at new_free (fun _ _ h => absurd h (Nat.not_lt_zero _)) (by decide) (by decide) (by decide) (by decide) (by decide) (by decide) (by decide)) ?_; rintro _ w65 ⟨rfl, H1⟩; rw [htb] at H1; replace H := H.seq H1 (okSeq_set (.there (.there (.there (.there (.there (.there (.there .here))))))) okSeq_nil); clear H1)
  refine WL_stepM rfl (R_mv) ?_
  refine WL_step rfl (R_extract rfl rfl) ?_
  refine WL_step rfl (R_extract rfl rfl) ?_
  refine WL_stepM rfl (R_as) ?_
  refine WL_stepM rfl (R_as) ?_
  refine WL_nil ?_
  refine W_seq ?_
  refine W_region_l ?_
  refine WL_stepM rfl (R_mv) ?_
  refine WL_stepM rfl (R_mv) ?_
  (refine WL_effn rfl (E_buildOnes (vs := [(.int _ _), (.int _ _), (.int _ _)]) H Try.underlying22 Try.sizeOf5 Try.zeroValue5 rfl rfl (by decide) rfl rfl (by simp [Value.oneCell'])) ?_; clear H; intro b76 w76 hb76 H)
  (refine WL_call rfl (R_call rfl Try.call20 rfl) (write_yes (xs := zs) (ys := [7, 8, 9]) (p := 15) (RdS.blk (c := [U 7, U 8, U 9]) (off := 0) (m := 3) (cap := 3) (H.get .here) (by rfl) (by decide) (by decide)) (place_to (j := 0) (i := 0) (z := 2) (k := 3) (at_ := 5) (lo := 0) (rlo := 10) (rn := 20) rfl (H.get (.there (.there .here))) (H.get (.there .here)) (Sp.from H (PB := [(p0, b0), (p1, b1)]) (ts := [ta, tb]) bs cap sp (inv2 hal hag hbl hbg) (fun _ hp => .tail _ (.tail _ (.tail _ (List.mem_append_left _ hp))))) rfl rfl ha0 (by decide) (by decide) (by decide) (by decide) (by decide) (by decide) (by decide) (by decide) (by decide)) (H.get (.there (.there .here))) (H.get (.there (.there (.there (.there (.there (.there (.there (.there (.there .here)))))))))) (H.get (.there (.there (.there (.there (.there (.there (.there (.there (.there (.there .here))))))))))) hzl (by decide) (by rw [hzl]; decide)) ?_; rintro _ w77 ⟨rfl, H1⟩; rw [← hus] at H1; replace H := H.seq H1 (okSeq_set (.there (.there (.there (.there (.there (.there (.there (.there (.there (.there .here)))))))))) okSeq_nil); clear H1)
  refine WL_stepM rfl (R_as) ?_
  refine WL_nil ?_
  refine W_seq ?_
  refine W_region_l ?_
  refine WL_stepM rfl (R_mv) ?_
  refine WL_stepM rfl (R_mv) ?_
  (refine WL_call rfl (R_call rfl Try.call22 rfl) (read_yes (xs := us) (p := 15) (k := 2) (place_to (j := 1) (i := 0) (z := 1) (k := 2) (at_ := 0) (lo := 0 + 5) (rlo := 10) (rn := 20) rfl (H.get (.there (.there .here))) (H.get (.there .here)) (Sp.from H (PB := [(p0, b0), (p1, b1)]) (ts := [ta, tb]) bs cap sp (inv2 hal hag hbl hbg) (fun _ hp => .tail _ (.tail _ (.tail _ (List.mem_append_left _ hp))))) rfl rfl hb0 (by decide) (by decide) (by decide) (by decide) (by decide) (by decide) (by decide) (by decide) (by decide)) (H.get (.there (.there .here))) (H.get (.there (.there (.there (.there (.there (.there (.there (.there (.there .here)))))))))) (H.get (.there (.there (.there (.there (.there (.there (.there (.there (.there (.there .here))))))))))) hul (by decide) (by rw [hul]; decide)) ?_; rintro _ w84 ⟨u, M, rfl, hO, H1⟩; rw [hgx] at hO; have h84 := H.seqO hO H1; clear H H1 hO; obtain ⟨hO, H⟩ := h84)
  refine WL_stepM rfl (R_mv) ?_
  refine WL_step rfl (R_extract rfl rfl) ?_
  refine WL_step rfl (R_extract rfl rfl) ?_
  refine WL_stepM rfl (R_as) ?_
  refine WL_stepM rfl (R_as) ?_
  refine WL_nil ?_
  refine W_seq ?_
  refine W_region_l ?_
  refine WL_stepM rfl (R_mv) ?_
  refine WL_stepM rfl (R_mv) ?_
  (refine WL_effn rfl (E_buildOnes (vs := [(.int _ _)]) H Try.underlying22 Try.sizeOf5 Try.zeroValue5 rfl rfl (by decide) rfl rfl (by simp [Value.oneCell'])) ?_; clear H; intro b95 w95 hb95 H)
  (refine WL_call rfl (R_call rfl Try.call20 rfl) (write_no (e := 3) (ys := [U 1]) (RdS.blk (c := [U 1]) (off := 0) (m := 1) (cap := 1) (H.get .here) (by rfl) (by decide) (by decide)) (by decide) (place_right (j := 1) (i := 0) (H.get (.there (.app _ (.there (.there .here))))) (Sp.from H (PB := [(p0, b0), (p1, b1)]) (ts := [ta, tb]) bs cap sp (inv2 hal hag hbl hbg) (fun _ hp => .tail _ (List.mem_append_right _ (.tail _ (.tail _ (.tail _ (List.mem_append_left _ hp))))))) rfl rfl hb0 (by decide)) (by decide)) ?_; rintro _ w96 ⟨rfl, H1⟩; replace H := H.seq0 H1; clear H1)
  refine WL_stepM rfl (R_as) ?_
  refine WL_nil ?_
  refine W_seq ?_
  refine W_region_l ?_
  refine WL_stepM rfl (R_mv) ?_
  refine WL_step rfl (R_eq_t rfl rfl (by omega)) ?_
  refine WL_stepM rfl (R_mv) ?_
  refine WL_guard_t rfl rfl ?_
  refine WL_stepM rfl (R_mv) ?_
  refine WL_guard_t rfl rfl ?_
  refine WL_step rfl (R_eq_t rfl rfl (by omega)) ?_
  refine WL_stepM rfl (R_pk_t rfl) ?_
  refine WL_stepM rfl (R_mv) ?_
  refine WL_guard_t rfl rfl ?_
  refine WL_stepM rfl (R_mv) ?_
  refine WL_guard_t rfl rfl ?_
  refine WL_step rfl (R_eq_t rfl rfl (by omega)) ?_
  refine WL_stepM rfl (R_pk_t rfl) ?_
  refine WL_stepM rfl (R_mv) ?_
  refine WL_guard_t rfl rfl ?_
  refine WL_stepM rfl (R_mv) ?_
  refine WL_guard_t rfl rfl ?_
  refine WL_step rfl (R_eq_t rfl rfl (by omega)) ?_
  refine WL_stepM rfl (R_pk_t rfl) ?_
  refine WL_stepM rfl (R_mv) ?_
  refine WL_guard_t rfl rfl ?_
  refine WL_stepM rfl (R_mv) ?_
  refine WL_guard_t rfl rfl ?_
  refine WL_step rfl (R_eq_t rfl rfl (by omega)) ?_
  refine WL_stepM rfl (R_pk_t rfl) ?_
  refine WL_stepM rfl (R_mv) ?_
  refine WL_guard_t rfl rfl ?_
  refine WL_stepM rfl (R_mv) ?_
  refine WL_guard_t rfl rfl ?_
  refine WL_step rfl (R_conv_bs (xs := [7, 8]) Try.underlying22 Try.underlying5 Try.underlying9 rfl (RdS.own hO (fun q hq => H.held q (by simp [hq])))) ?_
  refine WL_guard_t rfl rfl ?_
  refine WL_step rfl (R_eq_S_t rfl rfl rfl) ?_
  refine WL_stepM rfl (R_pk_t rfl) ?_
  refine WL_stepM rfl (R_mv) ?_
  refine WL_guard_t rfl rfl ?_
  refine WL_stepM rfl (R_mv) ?_
  refine WL_guard_t rfl rfl ?_
  refine WL_step rfl (R_eq_t rfl rfl (by omega)) ?_
  refine WL_stepM rfl (R_pk_t rfl) ?_
  refine WL_stepM rfl (R_as) ?_
  refine WL_nil ?_
  refine W_ret ?_
  exact ⟨_, rfl, rfl, H.none (by repeat' first | exact kNil | apply kCons | apply kApp | assumption | exact OwnS.keys (by assumption))⟩
end Go.Proofs.Ythonajikgljgmaa.Reg

/-
  A cap is revoked, of which one other was granted; what is fixed of caps holds.
-/
import Derived.Test.YthonajikgljgmaaUnderA
import Derived.Test.YthonajikgljgmaaRegD
namespace Go.Proofs.Ythonajikgljgmaa.Reg
open Go Go.Proofs Go.Proofs.Ythonajikgljgmaa.Fx Go.Proofs.Ythonajikgljgmaa.TabC Go.Proofs.Ythonajikgljgmaa.Caps
set_option maxRecDepth 100000
set_option linter.unusedVariables false
set_option linter.unusedSimpArgs false
set_option maxHeartbeats 8000000

theorem revoke_one {w0 w : World} {B : List (Nat × Obj)} {s bs cap p0 b0 p1 b1 : Nat} {sp : List Value} {ta tb : List Pl} {o r lo n o2 r2 lo2 n2 : Int} {g0 g1 : Nat} (H : Hp w0 ((s, blk [sl bs 0 2 cap] 90) :: (bs, blk (ptrs [(p0, b0), (p1, b1)] ++ sp) 91) :: (p0, blk [sl b0 0 32 32] 135) :: (b0, blk (rows plc ta) 137) :: (p1, blk [sl b1 0 32 32] 135) :: (b1, blk (rows plc tb) 137) :: B) w)
    (hal : ta.length = 32) (hag : ∀ a ∈ ta, a.g ≤ 1000001) (hbl : tb.length = 32) (hbg : ∀ a ∈ tb, a.g ≤ 1000001)
    (hna : namesFrom 0 ta = [((0 + 256 * g0 : Nat) : Int)]) (hnb : namesFrom 0 tb = [((0 + 256 * g1 : Nat) : Int)]) (ha : ta[0]? = some ⟨cp o r lo n 0 0, g0, true⟩) (hb : tb[0]? = some ⟨cp o2 r2 lo2 n2 (0 : Nat) (0 + 256 * g0 : Nat), g1, true⟩) (h0 : 0 < g0) :
    Ret Try.prog 24 #[ptr s 0, I (0 : Nat), I (0 + 256 * g0 : Nat)] w fun v w' => v = .tuple #[I 2, I 0] ∧ ∃ ta' tb', ta' = ta.set 0 ⟨zk, g0 + 1, false⟩ ∧ tb' = tb.set 0 ⟨zk, g1 + 1, false⟩ ∧ Hp w0 ((s, blk [sl bs 0 2 cap] 90) :: (bs, blk (ptrs [(p0, b0), (p1, b1)] ++ sp) 91) :: (p0, blk [sl b0 0 32 32] 135) :: (b0, blk (rows plc ta') 137) :: (p1, blk [sl b1 0 32 32] 135) :: (b1, blk (rows plc tb') 137) :: B) w' := by
  refine Ret_of_W (args := [_, _, _]) Try.func24 rfl Try.ntmps24 Try.results24 (by simp) ?_
  obtain ⟨ta', hta'⟩ : ∃ t, t = ta.set 0 ⟨zk, g0 + 1, false⟩ := ⟨_, rfl⟩
  obtain ⟨tb', htb'⟩ : ∃ t, t = tb.set 0 ⟨zk, g1 + 1, false⟩ := ⟨_, rfl⟩
  refine W_seq ?_
  refine W_region_l ?_
  refine WL_stepM rfl (R_as) ?_
  refine WL_stepM rfl (R_as) ?_
  refine WL_nil ?_
  refine W_seq ?_
  refine W_region_l ?_
  refine WL_stepM rfl (R_mv) ?_
  refine WL_stepM rfl (R_mv) ?_
  refine WL_stepM rfl (R_mv) ?_
  (refine WL_call rfl (R_call rfl Try.call27 rfl) (under_one (Sp.from H (PB := [(p0, b0), (p1, b1)]) (ts := [ta, tb]) bs cap sp (inv2 hal hag hbl hbg) (fun _ hp => List.mem_append_left _ hp)) hna hnb ha hb h0) ?_; rintro _ w11 ⟨_, M, rfl, hO, H1⟩; have h11 := H.seqO hO H1; clear H H1 hO; obtain ⟨hO, H⟩ := h11; obtain ⟨ub, uc, usp, rfl, hub, rfl, husp, huc⟩ := OwnS.pos hO (by decide); replace H : Hp w0 ((ub, blk ([I 1, I (0 + 256 * g1 : Nat)] ++ usp) 36) :: (s, blk [sl bs 0 2 cap] 90) :: (bs, blk (ptrs [(p0, b0), (p1, b1)] ++ sp) 91) :: (p0, blk [sl b0 0 32 32] 135) :: (b0, blk (rows plc ta) 137) :: (p1, blk [sl b1 0 32 32] 135) :: (b1, blk (rows plc tb) 137) :: B) w11 := H)
  refine WL_stepM rfl (R_mv) ?_
  refine WL_step rfl (R_extract rfl rfl) ?_
  refine WL_step rfl (R_extract rfl rfl) ?_
  refine WL_stepM rfl (R_as) ?_
  refine WL_stepM rfl (R_as) ?_
  refine WL_nil ?_
  refine W_seq ?_
  refine W_seq ?_
  refine W_region_l ?_
  refine WL_stepM rfl (R_mv) ?_
  refine WL_step rfl (R_ne_f rfl rfl (by omega)) ?_
  refine WL_nil ?_
  refine W_cond_f rfl ?_
  refine W_skip ?_
  refine W_seq ?_
  refine W_seq ?_
  refine W_region_l ?_
  refine WL_stepM rfl (R_mv) ?_
  refine WL_step rfl (R_len_slice Try.underlying51 rfl) ?_
  refine WL_stepM rfl (R_mv) ?_
  refine WL_nil ?_
  refine W_block ?_
  refine W_rounds 1 ?_
  refine W_seq ?_
  refine W_region_l ?_
  refine WL_step rfl (R_lt_t rfl rfl (by omega)) ?_
  refine WL_nil ?_
  refine W_seq ?_
  refine W_cond_t rfl ?_
  refine W_skip ?_
  refine W_seq ?_
  refine W_block ?_
  refine W_seq ?_
  refine W_region_l ?_
  refine WL_step rfl (R_indexAddr (off' := 0) Try.underlying51 Try.sizeOf36 rfl rfl (by decide) (by decide) (by decide)) ?_
  refine WL_step rfl (R_loadA (vs := [I 1, I (0 + 256 * g1 : Nat)]) Try.isAgg36 Try.sizeOf36 rfl (H.get .here) rfl (by simp)) ?_
  (refine WL_effn rfl (E_alloc (vs := [I 0, I 0]) H Try.zeroValue36 rfl) ?_; clear H; intro c11 w47 hc11 H)
  (refine WL_effu rfl (E_storeA (vs := [I 1, I (0 + 256 * g1 : Nat)]) H Try.sizeOf36 rfl rfl (by simp [Value.oneCell']) .here (by simp)) ?_; clear H; intro w48 H; replace H : Hp w0 ((c11, blk [I 1, I (0 + 256 * g1 : Nat)] 36) :: (ub, blk ([I 1, I (0 + 256 * g1 : Nat)] ++ usp) 36) :: (s, blk [sl bs 0 2 cap] 90) :: (bs, blk (ptrs [(p0, b0), (p1, b1)] ++ sp) 91) :: (p0, blk [sl b0 0 32 32] 135) :: (b0, blk (rows plc ta) 137) :: (p1, blk [sl b1 0 32 32] 135) :: (b1, blk (rows plc tb) 137) :: B) w48 := H)
  refine WL_nil ?_
  (refine W_draw (Kp [(c11, blk [I 1, I (0 + 256 * g1 : Nat)] 36), (s, blk [sl bs 0 2 cap] 90), (bs, blk (ptrs [(p0, b0), (p1, b1)] ++ sp) 91)]) (fun _ => false) (by kernel_rfl) H ?_; clear H; intro w50 H)
  refine WA_takeM 0 rfl rfl rfl (by kernel_rfl) (by kernel_rfl) (H.kp.sub (by simp)) (fun _ hC => R_mv) ?_
  refine WA_take 1 rfl rfl rfl (by kernel_rfl) (by kernel_rfl) (H.kp.sub (by simp)) (fun _ hC => R_nilCheck rfl) ?_
  refine WA_take 2 rfl rfl rfl (by kernel_rfl) (by kernel_rfl) (H.kp.sub (by simp)) (fun _ hC => R_fieldAddr (off' := 0) Try.underlying90 rfl Try.sizeOf88 (by decide) rfl rfl) ?_
  refine WA_take 3 rfl rfl rfl (by kernel_rfl) (by kernel_rfl) (H.kp.sub (by simp)) (fun _ hC => R_load (v := sl bs 0 2 cap) Try.isAgg88 rfl (hC.get (.there .here)) rfl) ?_
  refine WA_take 4 rfl rfl rfl (by kernel_rfl) (by kernel_rfl) (H.kp.sub (by simp)) (fun _ hC => R_fieldAddr (off' := 0) Try.underlying36 rfl Try.sizeOf3 (by decide) rfl rfl) ?_
  refine WA_take 5 rfl rfl rfl (by kernel_rfl) (by kernel_rfl) (H.kp.sub (by simp)) (fun _ hC => R_load (v := I 1) Try.isAgg3 rfl (hC.get .here) rfl) ?_
  refine WA_take 6 rfl rfl rfl (by kernel_rfl) (by kernel_rfl) (H.kp.sub (by simp)) (fun _ hC => R_indexAddr (off' := 1) Try.underlying88 Try.sizeOf91 rfl rfl (by decide) (by decide) (by decide)) ?_
  refine WA_take 7 rfl rfl rfl (by kernel_rfl) (by kernel_rfl) (H.kp.sub (by simp)) (fun _ hC => R_load (v := ptr p1 0) Try.isAgg91 rfl (hC.get (.there (.there .here))) rfl) ?_
  refine WA_take 8 rfl rfl rfl (by kernel_rfl) (by kernel_rfl) (H.kp.sub (by simp)) (fun _ hC => R_fieldAddr (off' := 1) Try.underlying36 rfl Try.sizeOf3 (by decide) rfl rfl) ?_
  refine WA_take 9 rfl rfl rfl (by kernel_rfl) (by kernel_rfl) (H.kp.sub (by simp)) (fun _ hC => R_load (v := I (0 + 256 * g1 : Nat)) Try.isAgg3 rfl (hC.get .here) rfl) ?_
  refine WA_one (i := 10) (by kernel_rfl) ?_
  (refine WI_call rfl (.inl rfl) (R_call rfl Try.call47 rfl) (TabC.drop_yes (i := 0) (H.get (.there (.there (.there (.there (.there (.there .here))))))) (H.get (.there (.there (.there (.there (.there (.there (.there .here)))))))) hbl (by decide) hb (hbg _ (List.mem_of_getElem? hb)) rfl) (fun _ _ hR _ => (H.seq hR.2 (okSeq_set (.there (.there (.there (.there (.there (.there (.there .here))))))) okSeq_nil)).kp.sub (by simp)) ?_; rintro _ w62 ⟨rfl, H1⟩; replace H := H.seq H1 (okSeq_set (.there (.there (.there (.there (.there (.there (.there .here))))))) okSeq_nil); clear H1)
  refine WA_done (by kernel_rfl) ?_
  refine W_region_l ?_
  refine WL_step rfl (R_add (r := 1) rfl rfl (by decide)) ?_
  refine WL_stepM rfl (R_mv) ?_
  refine WL_nil ?_
  refine Rn_succ ?_
  refine W_seq ?_
  refine W_region_l ?_
  refine WL_step rfl (R_lt_f rfl rfl (by omega)) ?_
  refine WL_nil ?_
  refine W_seq ?_
  refine W_cond_f rfl ?_
  refine W_exit ?_
  refine (if_pos rfl).mpr ?_
  refine W_seq ?_
  refine W_region_l ?_
  refine WL_stepM rfl (R_mv) ?_
  refine WL_step rfl (R_nilCheck rfl) ?_
  refine WL_step rfl (R_fieldAddr (off' := 0) Try.underlying90 rfl Try.sizeOf88 (by decide) rfl rfl) ?_
  refine WL_step rfl (R_load (v := sl bs 0 2 cap) Try.isAgg88 rfl (H.get (.there (.there .here))) rfl) ?_
  refine WL_stepM rfl (R_mv) ?_
  refine WL_step rfl (R_indexAddr (off' := 0) Try.underlying88 Try.sizeOf91 rfl rfl (by decide) (by decide) (by decide)) ?_
  refine WL_step rfl (R_load (v := ptr p0 0) Try.isAgg91 rfl (H.get (.there (.there (.there .here)))) rfl) ?_
  refine WL_stepM rfl (R_mv) ?_
  (refine WL_call rfl (R_call rfl Try.call47 rfl) (TabC.drop_yes (i := 0) (H.get (.there (.there (.there (.there .here))))) (H.get (.there (.there (.there (.there (.there .here)))))) hal (by decide) ha (hag _ (List.mem_of_getElem? ha)) rfl) ?_; rintro _ w87 ⟨rfl, H1⟩; replace H := H.seq H1 (okSeq_set (.there (.there (.there (.there (.there .here))))) okSeq_nil); clear H1)
  refine WL_nil ?_
  refine W_seq ?_
  refine W_region_l ?_
  refine WL_stepM rfl (R_mv) ?_
  refine WL_step rfl (R_len_slice Try.underlying51 rfl) ?_
  refine WL_step rfl (R_add rfl rfl (w_i64 (by omega))) ?_
  refine WL_stepM rfl (R_as) ?_
  refine WL_stepM rfl (R_as) ?_
  refine WL_nil ?_
  refine W_ret ?_
  exact ⟨_, rfl, rfl, ta', tb', hta', htb', by rw [hta', htb']; exact (H.pop (by assumption)).pop (by assumption)⟩

def capK : List IntKind := [.i64] ++ ([.i64] ++ ([.i64] ++ ([.i64] ++ (refK ++ []))))
theorem eq_cap : EqC Try.prog 38 capK true 3 := by
  have hi := EqC.int Try.isAgg3 Try.sizeOf3 Try.underlying3
  refine EqC.struct (d0 := 2) Try.isAgg38 Try.sizeOf38 Try.underlying38 (by kernel_rfl) ?_
  unfold capK
  refine FieldsC.cons (by decide) rfl hi (by decide) ?_
  refine FieldsC.cons (by decide) rfl hi (by decide) ?_
  refine FieldsC.cons (by decide) rfl hi (by decide) ?_
  refine FieldsC.cons (by decide) rfl hi (by decide) ?_
  exact FieldsC.cons (by decide) rfl eq_ref (by decide) .nil
theorem R_eq_cap_t {E : Env} {w : World} {d : Option Nat} {ty : TypeId} {pos : String} {after : Array Edge} {t' : TypeId} {x y : Operand} {o r lo n re rn : Int} (hx : ev E x = vk (cp o r lo n re rn)) (hy : ev E y = vk (cp o r lo n re rn)) :
    (execOp (ev E) (mk d (.binOp .eql 38 x y t') ty pos after)).run Try.prog w = .ok (.value (.bool true)) w := by
  rw [R_eq_C eq_cap (ns := [o, r, lo, n, re, rn]) (ms := [o, r, lo, n, re, rn]) (by decide) (by kernel_rfl) hx hy rfl rfl rfl rfl, decide_eq_true rfl]

theorem drop_all {x y : Pl} (hy : y.u = false) : ∀ (i : Nat) (a : Pl), ((t0.set 0 x).set 0 y)[i]? = some a → a.u = true → ∀ n : Int, n ≠ ((i + 256 * a.g : Nat) : Int) := by
  intro i a h hu
  rw [List.set_set] at h
  rcases List.mem_or_eq_of_mem_set (List.mem_of_getElem? h) with h1 | h1
  · rw [List.eq_of_mem_replicate h1] at hu; cases hu
  · rw [h1, hy] at hu; cases hu

theorem awake3_ret (w : World) : Ret Try.prog 25 #[] w fun v w' => v = .bool true ∧ Hp w [] w' := by
  refine Ret_of_W (args := []) Try.func25 rfl Try.ntmps25 Try.results25 (by simp) ?_
  have H := Hp.refl w
  obtain ⟨ta, hta, hal, hag, ha0⟩ := tset t0_len t0_g (i := 0) (by decide) ⟨cp 0 (7 : Nat) 0 10 0 0, newPl.g, true⟩ (by decide)
  obtain ⟨tb, htb, hbl, hbg, hb0⟩ := tset t0_len t0_g (i := 0) (by decide) ⟨cp 0 1 (0 + 2) 3 (0 : Nat) (0 + 256 * newPl.g : Nat), newPl.g, true⟩ (by decide)
  have hna : namesFrom 0 ta = [((0 + 256 * newPl.g : Nat) : Int)] := by rw [← hta]; rfl
  have hnb : namesFrom 0 tb = [((0 + 256 * newPl.g : Nat) : Int)] := by rw [← htb]; rfl
  refine W_seq ?_
  refine W_region_l ?_
  refine WL_stepM rfl (R_as) ?_
  refine WL_nil ?_
  refine W_seq ?_
  refine W_region_l ?_
  (refine WL_call rfl (R_call rfl Try.call13 rfl) (Caps.new_ret (E := 2) (by decide) (by decide) _) ?_; rintro _ w7 ⟨s, bs, cap, sp, PB, rfl, hPl, hs, hbs, hPB, H1⟩; obtain ⟨p0, b0, p1, b1, rfl⟩ := two hPl; have hsz := H.size; replace H := H.seqN H1 (spB_keys hs hbs hPB); clear H1; obtain ⟨hp0, hb0'⟩ := hPB (p0, b0) (.head _); obtain ⟨hp1, hb1'⟩ := hPB (p1, b1) (.tail _ (.head _)); replace hs := Nat.le_trans hsz hs; replace hbs := Nat.le_trans hsz hbs; replace hp0 : w.heap.size ≤ p0 := Nat.le_trans hsz hp0; replace hb0' : w.heap.size ≤ b0 := Nat.le_trans hsz hb0'; replace hp1 : w.heap.size ≤ p1 := Nat.le_trans hsz hp1; replace hb1' : w.heap.size ≤ b1 := Nat.le_trans hsz hb1'; clear hPB hPl hsz; replace H : Hp w [(s, blk [sl bs 0 2 cap] 90), (bs, blk (ptrs [(p0, b0), (p1, b1)] ++ sp) 91), (p0, blk [sl b0 0 32 32] 135), (b0, blk (rows plc t0) 137), (p1, blk [sl b1 0 32 32] 135), (b1, blk (rows plc t0) 137)] w7 := H)
  refine WL_stepM rfl (R_as) ?_
  refine WL_nil ?_
  refine W_seq ?_
  refine W_seq ?_
  refine W_region_l ?_
  refine WL_stepM rfl (R_mv) ?_
  refine WL_step rfl (R_eq_ptr_nil Try.underlying25 rfl rfl) ?_
  refine WL_nil ?_
  refine W_cond_f rfl ?_
  refine W_skip ?_
  refine W_seq ?_
  refine W_region_l ?_
  refine WL_stepM rfl (R_mv) ?_
  refine WL_step rfl (R_buildL (places := [(0, 1), (1, 1), (2, 1), (3, 1), (4, 2)]) (vs := (cp 0 (7 : Nat) 0 10 0 0).c) Try.underlying38 Try.typeInfo38 rfl rfl (by kernel_rfl) rfl rfl rfl) ?_
  (refine WL_call rfl (R_call rfl Try.call18 rfl) (put_yes (j := 0) (i := 0) (r := 7) (o := 0) (lo := 0) (n := 10) (re := 0) (rn := 0) (Sp.from H (PB := [(p0, b0), (p1, b1)]) (ts := [t0, t0]) bs cap sp (inv2 t0_len t0_g t0_len t0_g) (fun _ hp => hp)) rfl rfl (by decide) (by decide) (by decide) t0_at new_free (fun _ _ h => absurd h (Nat.not_lt_zero _))) ?_; rintro _ w22 ⟨rfl, H1⟩; rw [hta] at H1; replace H := H.seq H1 (okSeq_set (.there (.there (.there .here))) okSeq_nil); clear H1)
  refine WL_stepM rfl (R_mv) ?_
  refine WL_step rfl (R_extract rfl rfl) ?_
  refine WL_step rfl (R_extract rfl rfl) ?_
  refine WL_stepM rfl (R_as) ?_
  refine WL_stepM rfl (R_as) ?_
  refine WL_nil ?_
  refine W_seq ?_
  refine W_region_l ?_
  refine WL_stepM rfl (R_mv) ?_
  refine WL_stepM rfl (R_mv) ?_
  (refine WL_call rfl (R_call rfl Try.call19 rfl) (grant_yes (j := 0) (i := 0) (k := 1) (i2 := 0) (l1 := 2) (n1 := 3) (gv := 1) (z := 4) (Sp.from H (PB := [(p0, b0), (p1, b1)]) (ts := [ta, t0]) bs cap sp (inv2 hal hag t0_len t0_g) (fun _ hp => hp)) rfl rfl ha0 rfl rfl t0_at new_free (fun _ _ h => absurd h (Nat.not_lt_zero _)) (by decide) (by decide) (by decide) (by decide) (by decide) (by decide) (by decide)) ?_; rintro _ w33 ⟨rfl, H1⟩; rw [htb] at H1; replace H := H.seq H1 (okSeq_set (.there (.there (.there (.there (.there .here))))) okSeq_nil); clear H1)
  refine WL_stepM rfl (R_mv) ?_
  refine WL_step rfl (R_extract rfl rfl) ?_
  refine WL_step rfl (R_extract rfl rfl) ?_
  refine WL_stepM rfl (R_as) ?_
  refine WL_stepM rfl (R_as) ?_
  refine WL_nil ?_
  refine W_seq ?_
  refine W_region_l ?_
  refine WL_stepM rfl (R_mv) ?_
  refine WL_stepM rfl (R_mv) ?_
  (refine WL_call rfl (R_call rfl Try.call26 rfl) (Caps.get_yes (j := 1) (i := 0) (a := ⟨cp 0 1 (0 + 2) 3 (0 : Nat) (0 + 256 * newPl.g : Nat), newPl.g, true⟩) (Sp.from H (PB := [(p0, b0), (p1, b1)]) (ts := [ta, tb]) bs cap sp (inv2 hal hag hbl hbg) (fun _ hp => hp)) rfl rfl hb0 rfl) ?_; rintro _ w44 ⟨rfl, H1⟩; replace H := H.seq0 H1; clear H1)
  refine WL_stepM rfl (R_mv) ?_
  refine WL_step rfl (R_extract rfl rfl) ?_
  refine WL_step rfl (R_extract rfl rfl) ?_
  (refine WL_effn rfl (E_allocK H) ?_; clear H; intro c6 w48 hc6 H)
  (refine WL_effu rfl (E_storeK (q := cp 0 1 (0 + 2) 3 (0 : Nat) (0 + 256 * newPl.g : Nat)) H rfl rfl .here) ?_; clear H; intro w49 H; replace H : Hp w ((s, blk [sl bs 0 2 cap] 90) :: (bs, blk (ptrs [(p0, b0), (p1, b1)] ++ sp) 91) :: (p0, blk [sl b0 0 32 32] 135) :: (b0, blk (rows plc ta) 137) :: (p1, blk [sl b1 0 32 32] 135) :: (b1, blk (rows plc tb) 137) :: [(c6, blk (cp 0 1 (0 + 2) 3 (0 : Nat) (0 + 256 * newPl.g : Nat)).c 38)]) w49 := H.perm (List.perm_append_comm (l₁ := [_]) (l₂ := [(s, blk [sl bs 0 2 cap] 90), (bs, blk (ptrs [(p0, b0), (p1, b1)] ++ sp) 91), (p0, blk [sl b0 0 32 32] 135), (b0, blk (rows plc ta) 137), (p1, blk [sl b1 0 32 32] 135), (b1, blk (rows plc tb) 137)])))
  refine WL_stepM rfl (R_as) ?_
  refine WL_nil ?_
  refine W_seq ?_
  refine W_region_l ?_
  refine WL_stepM rfl (R_mv) ?_
  refine WL_stepM rfl (R_mv) ?_
  (refine WL_call rfl (R_call rfl Try.call24 rfl) (revoke_one (B := [(c6, blk (cp 0 1 (0 + 2) 3 (0 : Nat) (0 + 256 * newPl.g : Nat)).c 38)]) H hal hag hbl hbg hna hnb ha0 hb0 (by decide)) ?_; clear H; rintro _ w56 ⟨rfl, ta', tb', hta', htb', H⟩)
  refine WL_stepM rfl (R_mv) ?_
  refine WL_step rfl (R_extract rfl rfl) ?_
  refine WL_step rfl (R_extract rfl rfl) ?_
  refine WL_stepM rfl (R_as) ?_
  refine WL_stepM rfl (R_as) ?_
  refine WL_nil ?_
  refine W_seq ?_
  refine W_region_l ?_
  refine WL_stepM rfl (R_mv) ?_
  refine WL_stepM rfl (R_mv) ?_
  (have _g := hta'; refine WL_call rfl (R_call rfl Try.call26 rfl) (Caps.get_no (j := 1) (t := tb') (Sp.from H (PB := [(p0, b0), (p1, b1)]) (ts := [ta', tb']) bs cap sp (inv2 (by rw [hta', List.length_set]; exact hal) (fun a ha => by rw [hta'] at ha; rcases List.mem_or_eq_of_mem_set ha with h | rfl; exact hag a h; decide) (by rw [htb', List.length_set]; exact hbl) (fun a ha => by rw [htb'] at ha; rcases List.mem_or_eq_of_mem_set ha with h | rfl; exact hbg a h; decide)) (fun _ hp => List.mem_append_left _ hp)) rfl rfl _ (fun i a h hu => by rw [htb', ← htb] at h; exact drop_all rfl i a h hu _)) ?_; rintro _ w67 ⟨rfl, H1⟩; replace H := H.seq0 H1; clear H1)
  refine WL_stepM rfl (R_mv) ?_
  refine WL_step rfl (R_extract rfl rfl) ?_
  refine WL_step rfl (R_extract rfl rfl) ?_
  (refine WL_effn rfl (E_allocK H) ?_; clear H; intro c10 w71 hc10 H)
  (refine WL_effu rfl (E_storeK (q := zk) H rfl rfl .here) ?_; clear H; intro w72 H)
  refine WL_stepM rfl (R_as) ?_
  refine WL_nil ?_
  refine W_seq ?_
  refine W_region_l ?_
  refine WL_stepM rfl (R_mv) ?_
  refine WL_step rfl (R_eq_t rfl rfl (by omega)) ?_
  refine WL_stepM rfl (R_mv) ?_
  refine WL_guard_t rfl rfl ?_
  refine WL_stepM rfl (R_mv) ?_
  refine WL_guard_t rfl rfl ?_
  refine WL_step rfl (R_eq_t rfl rfl (by omega)) ?_
  refine WL_stepM rfl (R_pk_t rfl) ?_
  refine WL_stepM rfl (R_mv) ?_
  refine WL_guard_t rfl rfl ?_
  refine WL_stepM rfl (R_mv) ?_
  refine WL_guard_t rfl rfl ?_
  refine WL_step rfl (R_eq_t rfl rfl (by omega)) ?_
  refine WL_stepM rfl (R_pk_t rfl) ?_
  refine WL_stepM rfl (R_mv) ?_
  refine WL_guard_t rfl rfl ?_
  refine WL_step rfl (R_loadK (q := cp 0 1 (0 + 2) 3 (0 : Nat) (0 + 256 * newPl.g : Nat)) rfl (H.get (.there (.there (.there (.there (.there (.there (.there .here))))))))) ?_
  refine WL_guard_t rfl rfl ?_
  refine WL_stepM rfl (R_mv) ?_
  refine WL_guard_t rfl rfl ?_
  refine WL_step rfl (R_buildL (places := [(0, 1), (1, 1)]) (vs := [I 0, I (0 + 256 * newPl.g : Nat)]) Try.underlying36 Try.typeInfo36 rfl rfl (by kernel_rfl) rfl rfl rfl) ?_
  refine WL_guard_t rfl rfl ?_
  refine WL_step rfl (R_buildL (places := [(0, 1), (1, 1), (2, 1), (3, 1), (4, 2)]) (vs := (cp 0 1 (0 + 2) 3 (0 : Nat) (0 + 256 * newPl.g : Nat)).c) Try.underlying38 Try.typeInfo38 rfl rfl (by kernel_rfl) rfl rfl rfl) ?_
  refine WL_guard_t rfl rfl ?_
  refine WL_step rfl (R_eq_cap_t (o := 0) (r := 1) (lo := 0 + 2) (n := 3) (re := (0 : Nat)) (rn := (0 + 256 * newPl.g : Nat)) rfl rfl) ?_
  refine WL_stepM rfl (R_pk_t rfl) ?_
  refine WL_stepM rfl (R_mv) ?_
  refine WL_guard_t rfl rfl ?_
  refine WL_stepM rfl (R_mv) ?_
  refine WL_guard_t rfl rfl ?_
  refine WL_step rfl (R_eq_t rfl rfl (by omega)) ?_
  refine WL_stepM rfl (R_pk_t rfl) ?_
  refine WL_stepM rfl (R_mv) ?_
  refine WL_guard_t rfl rfl ?_
  refine WL_stepM rfl (R_mv) ?_
  refine WL_guard_t rfl rfl ?_
  refine WL_step rfl (R_eq_t rfl rfl (by omega)) ?_
  refine WL_stepM rfl (R_pk_t rfl) ?_
  refine WL_stepM rfl (R_mv) ?_
  refine WL_guard_t rfl rfl ?_
  refine WL_stepM rfl (R_mv) ?_
  refine WL_guard_t rfl rfl ?_
  refine WL_step rfl (R_eq_t rfl rfl (by omega)) ?_
  refine WL_stepM rfl (R_pk_t rfl) ?_
  refine WL_stepM rfl (R_as) ?_
  refine WL_nil ?_
  refine W_ret ?_
  exact ⟨_, rfl, rfl, H.none (by repeat' first | exact kNil | apply kCons | apply kApp | assumption | exact OwnS.keys (by assumption))⟩
end Go.Proofs.Ythonajikgljgmaa.Reg

/-
  A cap is revoked: four environments, each with one that was granted of the one ahead.
-/
import Derived.Test.YthonajikgljgmaaUnderC
import Derived.Test.YthonajikgljgmaaRevA
namespace Go.Proofs.Ythonajikgljgmaa.Reg
open Go Go.Proofs Go.Proofs.Ythonajikgljgmaa.Fx Go.Proofs.Ythonajikgljgmaa.TabC Go.Proofs.Ythonajikgljgmaa.Caps
set_option maxRecDepth 100000
set_option linter.unusedVariables false
set_option linter.unusedSimpArgs false
set_option maxHeartbeats 8000000

theorem inv4 {x y z u : Nat × Nat} {ta tb tc td : List Pl} (h1 : ta.length = 32) (h2 : ∀ a ∈ ta, a.g ≤ 1000001) (h3 : tb.length = 32) (h4 : ∀ a ∈ tb, a.g ≤ 1000001) (h5 : tc.length = 32) (h6 : ∀ a ∈ tc, a.g ≤ 1000001) (h7 : td.length = 32) (h8 : ∀ a ∈ td, a.g ≤ 1000001) : Inv [x, y, z, u] [ta, tb, tc, td] :=
  ⟨rfl, by simp [h1, h3, h5, h7], by simp only [List.mem_cons, List.not_mem_nil, or_false]; rintro t (rfl | rfl | rfl | rfl); exact h2; exact h4; exact h6; exact h8⟩
theorem four {PB : List (Nat × Nat)} (h : PB.length = 4) : ∃ p0 b0 p1 b1 p2 b2 p3 b3, PB = [(p0, b0), (p1, b1), (p2, b2), (p3, b3)] := by
  rcases PB with _ | ⟨⟨a, b⟩, _ | ⟨⟨c, d⟩, _ | ⟨⟨e, f⟩, _ | ⟨⟨g, gg⟩, _ | ⟨_, _⟩⟩⟩⟩⟩ <;> simp at h
  exact ⟨a, b, c, d, e, f, g, gg, rfl⟩
theorem put_back {xs ys : List UInt8} {p : Nat} (h : p + ys.length ≤ xs.length) : ((Mem.put xs ys p).drop p).take ys.length = ys := by
  unfold Mem.put
  have hl : (xs.take p).length = p := by rw [List.length_take]; omega
  rw [List.append_assoc, List.drop_append, hl, Nat.sub_self, List.drop_zero, List.drop_of_length_le (by omega), List.nil_append, List.take_append_of_le_length (Nat.le_refl _), List.take_of_length_le (Nat.le_refl _)]
theorem set_len {t : List Pl} {x : Pl} (h : t.length = 32) : (t.set 0 x).length = 32 := by rw [List.length_set]; exact h
theorem set_g {t : List Pl} {x : Pl} (h : ∀ a ∈ t, a.g ≤ 1000001) (hx : x.g ≤ 1000001) : ∀ a ∈ t.set 0 x, a.g ≤ 1000001 := fun a ha => (List.mem_or_eq_of_mem_set ha).elim (h a) (fun e => e ▸ hx)

theorem revoke_4_0 {w0 w : World} {B : List (Nat × Obj)} {s bs cap p0 b0 p1 b1 p2 b2 p3 b3 : Nat} {sp : List Value} {ta tb tc td : List Pl} {o0 r0 l0 n0 o1 r1 l1 n1 o2 r2 l2 n2 o3 r3 l3 n3 : Int} (H : Hp w0 ((s, blk [sl bs 0 4 cap] 90) :: (bs, blk (ptrs [(p0, b0), (p1, b1), (p2, b2), (p3, b3)] ++ sp) 91) :: (p0, blk [sl b0 0 32 32] 135) :: (b0, blk (rows plc ta) 137) :: (p1, blk [sl b1 0 32 32] 135) :: (b1, blk (rows plc tb) 137) :: (p2, blk [sl b2 0 32 32] 135) :: (b2, blk (rows plc tc) 137) :: (p3, blk [sl b3 0 32 32] 135) :: (b3, blk (rows plc td) 137) :: B) w)
    (hal : ta.length = 32) (hag : ∀ a ∈ ta, a.g ≤ 1000001) (hbl : tb.length = 32) (hbg : ∀ a ∈ tb, a.g ≤ 1000001) (hcl : tc.length = 32) (hcg : ∀ a ∈ tc, a.g ≤ 1000001) (hdl : td.length = 32) (hdg : ∀ a ∈ td, a.g ≤ 1000001) (hn0 : namesFrom 0 ta = [((0 + 256 * newPl.g : Nat) : Int)]) (hn1 : namesFrom 0 tb = [((0 + 256 * newPl.g : Nat) : Int)]) (hn2 : namesFrom 0 tc = [((0 + 256 * newPl.g : Nat) : Int)]) (hn3 : namesFrom 0 td = [((0 + 256 * newPl.g : Nat) : Int)]) (h0 : ta[0]? = some ⟨cp o0 r0 l0 n0 0 0, newPl.g, true⟩) (h1 : tb[0]? = some ⟨cp o1 r1 l1 n1 0 (0 + 256 * newPl.g : Nat), newPl.g, true⟩) (h2 : tc[0]? = some ⟨cp o2 r2 l2 n2 1 (0 + 256 * newPl.g : Nat), newPl.g, true⟩) (h3 : td[0]? = some ⟨cp o3 r3 l3 n3 2 (0 + 256 * newPl.g : Nat), newPl.g, true⟩) :
    Ret Try.prog 24 #[ptr s 0, I 0, I (0 + 256 * newPl.g : Nat)] w fun v w' => v = .tuple #[I 4, I 0] ∧ Hp w0 ((s, blk [sl bs 0 4 cap] 90) :: (bs, blk (ptrs [(p0, b0), (p1, b1), (p2, b2), (p3, b3)] ++ sp) 91) :: (p0, blk [sl b0 0 32 32] 135) :: (b0, blk (rows plc (ta.set 0 ⟨zk, newPl.g + 1, false⟩)) 137) :: (p1, blk [sl b1 0 32 32] 135) :: (b1, blk (rows plc (tb.set 0 ⟨zk, newPl.g + 1, false⟩)) 137) :: (p2, blk [sl b2 0 32 32] 135) :: (b2, blk (rows plc (tc.set 0 ⟨zk, newPl.g + 1, false⟩)) 137) :: (p3, blk [sl b3 0 32 32] 135) :: (b3, blk (rows plc (td.set 0 ⟨zk, newPl.g + 1, false⟩)) 137) :: B) w' := by
  refine Ret_of_W (args := [_, _, _]) Try.func24 rfl Try.ntmps24 Try.results24 (by simp) ?_
  refine W_seq ?_
  refine W_region_l ?_
  refine WL_stepM rfl (R_as) ?_
  refine WL_stepM rfl (R_as) ?_
  refine WL_nil ?_
  refine W_seq ?_
  refine W_region_l ?_
  refine WL_stepM rfl (R_mv) ?_
  refine WL_stepM rfl (R_mv) ?_
  refine WL_stepM rfl (R_mv) ?_
  (refine WL_call rfl (R_call rfl Try.call27 rfl) (under_4_0 (Sp.from H (PB := [(p0, b0), (p1, b1), (p2, b2), (p3, b3)]) (ts := [ta, tb, tc, td]) bs cap sp (inv4 hal hag hbl hbg hcl hcg hdl hdg) (fun _ hp => List.mem_append_left _ hp)) hn0 hn1 hn2 hn3 h0 h1 h2 h3) ?_; rintro _ w11 ⟨_, M, rfl, hO, H1⟩; have h11 := H.seqO hO H1; clear H H1 hO; obtain ⟨hO, H⟩ := h11; obtain ⟨ub, uc, usp, rfl, hub, rfl, husp, huc⟩ := OwnS.pos hO (by decide); replace H : Hp w0 ((ub, blk ([I 1, I (0 + 256 * newPl.g : Nat), I 2, I (0 + 256 * newPl.g : Nat), I 3, I (0 + 256 * newPl.g : Nat)] ++ usp) 36) :: (s, blk [sl bs 0 4 cap] 90) :: (bs, blk (ptrs [(p0, b0), (p1, b1), (p2, b2), (p3, b3)] ++ sp) 91) :: (p0, blk [sl b0 0 32 32] 135) :: (b0, blk (rows plc ta) 137) :: (p1, blk [sl b1 0 32 32] 135) :: (b1, blk (rows plc tb) 137) :: (p2, blk [sl b2 0 32 32] 135) :: (b2, blk (rows plc tc) 137) :: (p3, blk [sl b3 0 32 32] 135) :: (b3, blk (rows plc td) 137) :: B) w11 := H)
  refine WL_stepM rfl (R_mv) ?_
  refine WL_step rfl (R_extract rfl rfl) ?_
  refine WL_step rfl (R_extract rfl rfl) ?_
  refine WL_stepM rfl (R_as) ?_
  refine WL_stepM rfl (R_as) ?_
  refine WL_nil ?_
  refine W_seq ?_
  refine W_seq ?_
  refine W_region_l ?_
  refine WL_stepM rfl (R_mv) ?_
  refine WL_step rfl (R_ne_f rfl rfl (by omega)) ?_
  refine WL_nil ?_
  refine W_cond_f rfl ?_
  refine W_skip ?_
  refine W_seq ?_
  refine W_seq ?_
  refine W_region_l ?_
  refine WL_stepM rfl (R_mv) ?_
  refine WL_step rfl (R_len_slice Try.underlying51 rfl) ?_
  refine WL_stepM rfl (R_mv) ?_
  refine WL_nil ?_
  refine W_block ?_
  refine W_rounds 3 ?_
  refine W_seq ?_
  refine W_region_l ?_
  refine WL_step rfl (R_lt_t rfl rfl (by omega)) ?_
  refine WL_nil ?_
  refine W_seq ?_
  refine W_cond_t rfl ?_
  refine W_skip ?_
  refine W_seq ?_
  refine W_block ?_
  refine W_seq ?_
  refine W_region_l ?_
  refine WL_step rfl (R_indexAddr (off' := 0) Try.underlying51 Try.sizeOf36 rfl rfl (by decide) (by decide) (by decide)) ?_
  refine WL_step rfl (R_loadA (vs := [I 1, I (0 + 256 * newPl.g : Nat)]) Try.isAgg36 Try.sizeOf36 rfl (H.get .here) rfl (by simp)) ?_
  (refine WL_effn rfl (E_alloc (vs := [I 0, I 0]) H Try.zeroValue36 rfl) ?_; clear H; intro c11 w47 hc11 H)
  (refine WL_effu rfl (E_storeA (vs := [I 1, I (0 + 256 * newPl.g : Nat)]) H Try.sizeOf36 rfl rfl (by simp [Value.oneCell']) .here (by simp)) ?_; clear H; intro w48 H; have mk1 : True := trivial)
  refine WL_nil ?_
  (have _g := mk1; refine W_draw (Kp [(c11, blk [I 1, I (0 + 256 * newPl.g : Nat)] 36), (s, blk [sl bs 0 4 cap] 90), (bs, blk (ptrs [(p0, b0), (p1, b1), (p2, b2), (p3, b3)] ++ sp) 91)]) (fun _ => false) (by kernel_rfl) H ?_; clear H; intro w50 H; clear mk1)
  refine WA_takeM 0 rfl rfl rfl (by kernel_rfl) (by kernel_rfl) (H.kp.sub (by simp)) (fun _ hC => R_mv) ?_
  refine WA_take 1 rfl rfl rfl (by kernel_rfl) (by kernel_rfl) (H.kp.sub (by simp)) (fun _ hC => R_nilCheck rfl) ?_
  refine WA_take 2 rfl rfl rfl (by kernel_rfl) (by kernel_rfl) (H.kp.sub (by simp)) (fun _ hC => R_fieldAddr (off' := 0) Try.underlying90 rfl Try.sizeOf88 (by decide) rfl rfl) ?_
  refine WA_take 3 rfl rfl rfl (by kernel_rfl) (by kernel_rfl) (H.kp.sub (by simp)) (fun _ hC => R_load (v := sl bs 0 4 cap) Try.isAgg88 rfl (hC.get (.there .here)) rfl) ?_
  refine WA_take 4 rfl rfl rfl (by kernel_rfl) (by kernel_rfl) (H.kp.sub (by simp)) (fun _ hC => R_fieldAddr (off' := 0) Try.underlying36 rfl Try.sizeOf3 (by decide) rfl rfl) ?_
  refine WA_take 5 rfl rfl rfl (by kernel_rfl) (by kernel_rfl) (H.kp.sub (by simp)) (fun _ hC => R_load (v := I 1) Try.isAgg3 rfl (hC.get .here) rfl) ?_
  refine WA_take 6 rfl rfl rfl (by kernel_rfl) (by kernel_rfl) (H.kp.sub (by simp)) (fun _ hC => R_indexAddr (off' := 1) Try.underlying88 Try.sizeOf91 rfl rfl (by decide) (by decide) (by decide)) ?_
  refine WA_take 7 rfl rfl rfl (by kernel_rfl) (by kernel_rfl) (H.kp.sub (by simp)) (fun _ hC => R_load (v := ptr p1 0) Try.isAgg91 rfl (hC.get (.there (.there .here))) rfl) ?_
  refine WA_take 8 rfl rfl rfl (by kernel_rfl) (by kernel_rfl) (H.kp.sub (by simp)) (fun _ hC => R_fieldAddr (off' := 1) Try.underlying36 rfl Try.sizeOf3 (by decide) rfl rfl) ?_
  refine WA_take 9 rfl rfl rfl (by kernel_rfl) (by kernel_rfl) (H.kp.sub (by simp)) (fun _ hC => R_load (v := I (0 + 256 * newPl.g : Nat)) Try.isAgg3 rfl (hC.get .here) rfl) ?_
  refine WA_one (i := 10) (by kernel_rfl) ?_
  (refine WI_call rfl (.inl rfl) (R_call rfl Try.call47 rfl) (TabC.drop_yes (i := 0) (a := ⟨cp o1 r1 l1 n1 0 (0 + 256 * newPl.g : Nat), newPl.g, true⟩) (H.get (.there (.there (.there (.there (.there (.there .here))))))) (H.get (.there (.there (.there (.there (.there (.there (.there .here)))))))) hbl (by decide) h1 (hbg _ (List.mem_of_getElem? h1)) rfl) (fun _ _ hR _ => (H.seq hR.2 (okSeq_set (.there (.there (.there (.there (.there (.there (.there .here))))))) okSeq_nil)).kp.sub (by simp)) ?_; rintro _ w62 ⟨rfl, H1⟩; replace H := H.seq H1 (okSeq_set (.there (.there (.there (.there (.there (.there (.there .here))))))) okSeq_nil); clear H1)
  refine WA_done (by kernel_rfl) ?_
  ((replace H := H.pop (by assumption))) <;> refine W_region_l ?_
  refine WL_step rfl (R_add (r := 1) rfl rfl (by decide)) ?_
  refine WL_stepM rfl (R_mv) ?_
  refine WL_nil ?_
  refine Rn_succ ?_
  refine W_seq ?_
  refine W_region_l ?_
  refine WL_step rfl (R_lt_t rfl rfl (by omega)) ?_
  refine WL_nil ?_
  refine W_seq ?_
  refine W_cond_t rfl ?_
  refine W_skip ?_
  refine W_seq ?_
  refine W_block ?_
  refine W_seq ?_
  refine W_region_l ?_
  refine WL_step rfl (R_indexAddr (off' := 2) Try.underlying51 Try.sizeOf36 rfl rfl (by decide) (by decide) (by decide)) ?_
  refine WL_step rfl (R_loadA (vs := [I 2, I (0 + 256 * newPl.g : Nat)]) Try.isAgg36 Try.sizeOf36 rfl (H.get .here) rfl (by simp)) ?_
  (refine WL_effn rfl (E_alloc (vs := [I 0, I 0]) H Try.zeroValue36 rfl) ?_; clear H; intro c11 w82 hc11 H)
  (refine WL_effu rfl (E_storeA (vs := [I 2, I (0 + 256 * newPl.g : Nat)]) H Try.sizeOf36 rfl rfl (by simp [Value.oneCell']) .here (by simp)) ?_; clear H; intro w83 H; have mk2 : True := trivial)
  refine WL_nil ?_
  (have _g := mk2; refine W_draw (Kp [(c11, blk [I 2, I (0 + 256 * newPl.g : Nat)] 36), (s, blk [sl bs 0 4 cap] 90), (bs, blk (ptrs [(p0, b0), (p1, b1), (p2, b2), (p3, b3)] ++ sp) 91)]) (fun _ => false) (by kernel_rfl) H ?_; clear H; intro w85 H; clear mk2)
  refine WA_takeM 0 rfl rfl rfl (by kernel_rfl) (by kernel_rfl) (H.kp.sub (by simp)) (fun _ hC => R_mv) ?_
  refine WA_take 1 rfl rfl rfl (by kernel_rfl) (by kernel_rfl) (H.kp.sub (by simp)) (fun _ hC => R_nilCheck rfl) ?_
  refine WA_take 2 rfl rfl rfl (by kernel_rfl) (by kernel_rfl) (H.kp.sub (by simp)) (fun _ hC => R_fieldAddr (off' := 0) Try.underlying90 rfl Try.sizeOf88 (by decide) rfl rfl) ?_
  refine WA_take 3 rfl rfl rfl (by kernel_rfl) (by kernel_rfl) (H.kp.sub (by simp)) (fun _ hC => R_load (v := sl bs 0 4 cap) Try.isAgg88 rfl (hC.get (.there .here)) rfl) ?_
  refine WA_take 4 rfl rfl rfl (by kernel_rfl) (by kernel_rfl) (H.kp.sub (by simp)) (fun _ hC => R_fieldAddr (off' := 0) Try.underlying36 rfl Try.sizeOf3 (by decide) rfl rfl) ?_
  refine WA_take 5 rfl rfl rfl (by kernel_rfl) (by kernel_rfl) (H.kp.sub (by simp)) (fun _ hC => R_load (v := I 2) Try.isAgg3 rfl (hC.get .here) rfl) ?_
  refine WA_take 6 rfl rfl rfl (by kernel_rfl) (by kernel_rfl) (H.kp.sub (by simp)) (fun _ hC => R_indexAddr (off' := 2) Try.underlying88 Try.sizeOf91 rfl rfl (by decide) (by decide) (by decide)) ?_
  refine WA_take 7 rfl rfl rfl (by kernel_rfl) (by kernel_rfl) (H.kp.sub (by simp)) (fun _ hC => R_load (v := ptr p2 0) Try.isAgg91 rfl (hC.get (.there (.there .here))) rfl) ?_
  refine WA_take 8 rfl rfl rfl (by kernel_rfl) (by kernel_rfl) (H.kp.sub (by simp)) (fun _ hC => R_fieldAddr (off' := 1) Try.underlying36 rfl Try.sizeOf3 (by decide) rfl rfl) ?_
  refine WA_take 9 rfl rfl rfl (by kernel_rfl) (by kernel_rfl) (H.kp.sub (by simp)) (fun _ hC => R_load (v := I (0 + 256 * newPl.g : Nat)) Try.isAgg3 rfl (hC.get .here) rfl) ?_
  refine WA_one (i := 10) (by kernel_rfl) ?_
  (refine WI_call rfl (.inl rfl) (R_call rfl Try.call47 rfl) (TabC.drop_yes (i := 0) (a := ⟨cp o2 r2 l2 n2 1 (0 + 256 * newPl.g : Nat), newPl.g, true⟩) (H.get (.there (.there (.there (.there (.there (.there (.there (.there .here))))))))) (H.get (.there (.there (.there (.there (.there (.there (.there (.there (.there .here)))))))))) hcl (by decide) h2 (hcg _ (List.mem_of_getElem? h2)) rfl) (fun _ _ hR _ => (H.seq hR.2 (okSeq_set (.there (.there (.there (.there (.there (.there (.there (.there (.there .here))))))))) okSeq_nil)).kp.sub (by simp)) ?_; rintro _ w97 ⟨rfl, H1⟩; replace H := H.seq H1 (okSeq_set (.there (.there (.there (.there (.there (.there (.there (.there (.there .here))))))))) okSeq_nil); clear H1)
  refine WA_done (by kernel_rfl) ?_
  ((replace H := H.pop (by assumption))) <;> refine W_region_l ?_
  refine WL_step rfl (R_add (r := 2) rfl rfl (by decide)) ?_
  refine WL_stepM rfl (R_mv) ?_
  refine WL_nil ?_
  refine Rn_succ ?_
  refine W_seq ?_
  refine W_region_l ?_
  refine WL_step rfl (R_lt_t rfl rfl (by omega)) ?_
  refine WL_nil ?_
  refine W_seq ?_
  refine W_cond_t rfl ?_
  refine W_skip ?_
  refine W_seq ?_
  refine W_block ?_
  refine W_seq ?_
  refine W_region_l ?_
  refine WL_step rfl (R_indexAddr (off' := 4) Try.underlying51 Try.sizeOf36 rfl rfl (by decide) (by decide) (by decide)) ?_
  refine WL_step rfl (R_loadA (vs := [I 3, I (0 + 256 * newPl.g : Nat)]) Try.isAgg36 Try.sizeOf36 rfl (H.get .here) rfl (by simp)) ?_
  (refine WL_effn rfl (E_alloc (vs := [I 0, I 0]) H Try.zeroValue36 rfl) ?_; clear H; intro c11 w117 hc11 H)
  (refine WL_effu rfl (E_storeA (vs := [I 3, I (0 + 256 * newPl.g : Nat)]) H Try.sizeOf36 rfl rfl (by simp [Value.oneCell']) .here (by simp)) ?_; clear H; intro w118 H; have mk3 : True := trivial)
  refine WL_nil ?_
  (have _g := mk3; refine W_draw (Kp [(c11, blk [I 3, I (0 + 256 * newPl.g : Nat)] 36), (s, blk [sl bs 0 4 cap] 90), (bs, blk (ptrs [(p0, b0), (p1, b1), (p2, b2), (p3, b3)] ++ sp) 91)]) (fun _ => false) (by kernel_rfl) H ?_; clear H; intro w120 H; clear mk3)
  refine WA_takeM 0 rfl rfl rfl (by kernel_rfl) (by kernel_rfl) (H.kp.sub (by simp)) (fun _ hC => R_mv) ?_
  refine WA_take 1 rfl rfl rfl (by kernel_rfl) (by kernel_rfl) (H.kp.sub (by simp)) (fun _ hC => R_nilCheck rfl) ?_
  refine WA_take 2 rfl rfl rfl (by kernel_rfl) (by kernel_rfl) (H.kp.sub (by simp)) (fun _ hC => R_fieldAddr (off' := 0) Try.underlying90 rfl Try.sizeOf88 (by decide) rfl rfl) ?_
  refine WA_take 3 rfl rfl rfl (by kernel_rfl) (by kernel_rfl) (H.kp.sub (by simp)) (fun _ hC => R_load (v := sl bs 0 4 cap) Try.isAgg88 rfl (hC.get (.there .here)) rfl) ?_
  refine WA_take 4 rfl rfl rfl (by kernel_rfl) (by kernel_rfl) (H.kp.sub (by simp)) (fun _ hC => R_fieldAddr (off' := 0) Try.underlying36 rfl Try.sizeOf3 (by decide) rfl rfl) ?_
  refine WA_take 5 rfl rfl rfl (by kernel_rfl) (by kernel_rfl) (H.kp.sub (by simp)) (fun _ hC => R_load (v := I 3) Try.isAgg3 rfl (hC.get .here) rfl) ?_
  refine WA_take 6 rfl rfl rfl (by kernel_rfl) (by kernel_rfl) (H.kp.sub (by simp)) (fun _ hC => R_indexAddr (off' := 3) Try.underlying88 Try.sizeOf91 rfl rfl (by decide) (by decide) (by decide)) ?_
  refine WA_take 7 rfl rfl rfl (by kernel_rfl) (by kernel_rfl) (H.kp.sub (by simp)) (fun _ hC => R_load (v := ptr p3 0) Try.isAgg91 rfl (hC.get (.there (.there .here))) rfl) ?_
  refine WA_take 8 rfl rfl rfl (by kernel_rfl) (by kernel_rfl) (H.kp.sub (by simp)) (fun _ hC => R_fieldAddr (off' := 1) Try.underlying36 rfl Try.sizeOf3 (by decide) rfl rfl) ?_
  refine WA_take 9 rfl rfl rfl (by kernel_rfl) (by kernel_rfl) (H.kp.sub (by simp)) (fun _ hC => R_load (v := I (0 + 256 * newPl.g : Nat)) Try.isAgg3 rfl (hC.get .here) rfl) ?_
  refine WA_one (i := 10) (by kernel_rfl) ?_
  (refine WI_call rfl (.inl rfl) (R_call rfl Try.call47 rfl) (TabC.drop_yes (i := 0) (a := ⟨cp o3 r3 l3 n3 2 (0 + 256 * newPl.g : Nat), newPl.g, true⟩) (H.get (.there (.there (.there (.there (.there (.there (.there (.there (.there (.there .here))))))))))) (H.get (.there (.there (.there (.there (.there (.there (.there (.there (.there (.there (.there .here)))))))))))) hdl (by decide) h3 (hdg _ (List.mem_of_getElem? h3)) rfl) (fun _ _ hR _ => (H.seq hR.2 (okSeq_set (.there (.there (.there (.there (.there (.there (.there (.there (.there (.there (.there .here))))))))))) okSeq_nil)).kp.sub (by simp)) ?_; rintro _ w132 ⟨rfl, H1⟩; replace H := H.seq H1 (okSeq_set (.there (.there (.there (.there (.there (.there (.there (.there (.there (.there (.there .here))))))))))) okSeq_nil); clear H1)
  refine WA_done (by kernel_rfl) ?_
  ((replace H := H.pop (by assumption))) <;> refine W_region_l ?_
  refine WL_step rfl (R_add (r := 3) rfl rfl (by decide)) ?_
  refine WL_stepM rfl (R_mv) ?_
  refine WL_nil ?_
  refine Rn_succ ?_
  refine W_seq ?_
  refine W_region_l ?_
  refine WL_step rfl (R_lt_f rfl rfl (by omega)) ?_
  refine WL_nil ?_
  refine W_seq ?_
  refine W_cond_f rfl ?_
  refine W_exit ?_
  refine (if_pos rfl).mpr ?_
  refine W_seq ?_
  refine W_region_l ?_
  refine WL_stepM rfl (R_mv) ?_
  refine WL_step rfl (R_nilCheck rfl) ?_
  refine WL_step rfl (R_fieldAddr (off' := 0) Try.underlying90 rfl Try.sizeOf88 (by decide) rfl rfl) ?_
  refine WL_step rfl (R_load (v := sl bs 0 4 cap) Try.isAgg88 rfl (H.get (.there .here)) rfl) ?_
  refine WL_stepM rfl (R_mv) ?_
  refine WL_step rfl (R_indexAddr (off' := 0) Try.underlying88 Try.sizeOf91 rfl rfl (by decide) (by decide) (by decide)) ?_
  refine WL_step rfl (R_load (v := ptr p0 0) Try.isAgg91 rfl (H.get (.there (.there .here))) rfl) ?_
  refine WL_stepM rfl (R_mv) ?_
  (refine WL_call rfl (R_call rfl Try.call47 rfl) (TabC.drop_yes (i := 0) (a := ⟨cp o0 r0 l0 n0 0 0, newPl.g, true⟩) (H.get (.there (.there (.there .here)))) (H.get (.there (.there (.there (.there .here))))) hal (by decide) h0 (hag _ (List.mem_of_getElem? h0)) rfl) ?_; rintro _ w157 ⟨rfl, H1⟩; replace H := H.seq H1 (okSeq_set (.there (.there (.there (.there .here)))) okSeq_nil); clear H1)
  refine WL_nil ?_
  refine W_seq ?_
  refine W_region_l ?_
  refine WL_stepM rfl (R_mv) ?_
  refine WL_step rfl (R_len_slice Try.underlying51 rfl) ?_
  refine WL_step rfl (R_add rfl rfl (w_i64 (by omega))) ?_
  refine WL_stepM rfl (R_as) ?_
  refine WL_stepM rfl (R_as) ?_
  refine WL_nil ?_
  refine W_ret ?_
  exact ⟨_, rfl, rfl, H.pop (by assumption)⟩

theorem revoke_4_1 {w0 w : World} {B : List (Nat × Obj)} {s bs cap p0 b0 p1 b1 p2 b2 p3 b3 : Nat} {sp : List Value} {ta tb tc td : List Pl} {o0 r0 l0 n0 o1 r1 l1 n1 o2 r2 l2 n2 o3 r3 l3 n3 : Int} (H : Hp w0 ((s, blk [sl bs 0 4 cap] 90) :: (bs, blk (ptrs [(p0, b0), (p1, b1), (p2, b2), (p3, b3)] ++ sp) 91) :: (p0, blk [sl b0 0 32 32] 135) :: (b0, blk (rows plc ta) 137) :: (p1, blk [sl b1 0 32 32] 135) :: (b1, blk (rows plc tb) 137) :: (p2, blk [sl b2 0 32 32] 135) :: (b2, blk (rows plc tc) 137) :: (p3, blk [sl b3 0 32 32] 135) :: (b3, blk (rows plc td) 137) :: B) w)
    (hal : ta.length = 32) (hag : ∀ a ∈ ta, a.g ≤ 1000001) (hbl : tb.length = 32) (hbg : ∀ a ∈ tb, a.g ≤ 1000001) (hcl : tc.length = 32) (hcg : ∀ a ∈ tc, a.g ≤ 1000001) (hdl : td.length = 32) (hdg : ∀ a ∈ td, a.g ≤ 1000001) (hn0 : namesFrom 0 ta = [((0 + 256 * newPl.g : Nat) : Int)]) (hn1 : namesFrom 0 tb = [((0 + 256 * newPl.g : Nat) : Int)]) (hn2 : namesFrom 0 tc = [((0 + 256 * newPl.g : Nat) : Int)]) (hn3 : namesFrom 0 td = [((0 + 256 * newPl.g : Nat) : Int)]) (h0 : ta[0]? = some ⟨cp o0 r0 l0 n0 0 0, newPl.g, true⟩) (h1 : tb[0]? = some ⟨cp o1 r1 l1 n1 0 (0 + 256 * newPl.g : Nat), newPl.g, true⟩) (h2 : tc[0]? = some ⟨cp o2 r2 l2 n2 1 (0 + 256 * newPl.g : Nat), newPl.g, true⟩) (h3 : td[0]? = some ⟨cp o3 r3 l3 n3 2 (0 + 256 * newPl.g : Nat), newPl.g, true⟩) :
    Ret Try.prog 24 #[ptr s 0, I 1, I (0 + 256 * newPl.g : Nat)] w fun v w' => v = .tuple #[I 3, I 0] ∧ Hp w0 ((s, blk [sl bs 0 4 cap] 90) :: (bs, blk (ptrs [(p0, b0), (p1, b1), (p2, b2), (p3, b3)] ++ sp) 91) :: (p0, blk [sl b0 0 32 32] 135) :: (b0, blk (rows plc ta) 137) :: (p1, blk [sl b1 0 32 32] 135) :: (b1, blk (rows plc (tb.set 0 ⟨zk, newPl.g + 1, false⟩)) 137) :: (p2, blk [sl b2 0 32 32] 135) :: (b2, blk (rows plc (tc.set 0 ⟨zk, newPl.g + 1, false⟩)) 137) :: (p3, blk [sl b3 0 32 32] 135) :: (b3, blk (rows plc (td.set 0 ⟨zk, newPl.g + 1, false⟩)) 137) :: B) w' := by
  refine Ret_of_W (args := [_, _, _]) Try.func24 rfl Try.ntmps24 Try.results24 (by simp) ?_
  refine W_seq ?_
  refine W_region_l ?_
  refine WL_stepM rfl (R_as) ?_
  refine WL_stepM rfl (R_as) ?_
  refine WL_nil ?_
  refine W_seq ?_
  refine W_region_l ?_
  refine WL_stepM rfl (R_mv) ?_
  refine WL_stepM rfl (R_mv) ?_
  refine WL_stepM rfl (R_mv) ?_
  (refine WL_call rfl (R_call rfl Try.call27 rfl) (under_4_1 (Sp.from H (PB := [(p0, b0), (p1, b1), (p2, b2), (p3, b3)]) (ts := [ta, tb, tc, td]) bs cap sp (inv4 hal hag hbl hbg hcl hcg hdl hdg) (fun _ hp => List.mem_append_left _ hp)) hn0 hn1 hn2 hn3 h0 h1 h2 h3) ?_; rintro _ w11 ⟨_, M, rfl, hO, H1⟩; have h11 := H.seqO hO H1; clear H H1 hO; obtain ⟨hO, H⟩ := h11; obtain ⟨ub, uc, usp, rfl, hub, rfl, husp, huc⟩ := OwnS.pos hO (by decide); replace H : Hp w0 ((ub, blk ([I 2, I (0 + 256 * newPl.g : Nat), I 3, I (0 + 256 * newPl.g : Nat)] ++ usp) 36) :: (s, blk [sl bs 0 4 cap] 90) :: (bs, blk (ptrs [(p0, b0), (p1, b1), (p2, b2), (p3, b3)] ++ sp) 91) :: (p0, blk [sl b0 0 32 32] 135) :: (b0, blk (rows plc ta) 137) :: (p1, blk [sl b1 0 32 32] 135) :: (b1, blk (rows plc tb) 137) :: (p2, blk [sl b2 0 32 32] 135) :: (b2, blk (rows plc tc) 137) :: (p3, blk [sl b3 0 32 32] 135) :: (b3, blk (rows plc td) 137) :: B) w11 := H)
  refine WL_stepM rfl (R_mv) ?_
  refine WL_step rfl (R_extract rfl rfl) ?_
  refine WL_step rfl (R_extract rfl rfl) ?_
  refine WL_stepM rfl (R_as) ?_
  refine WL_stepM rfl (R_as) ?_
  refine WL_nil ?_
  refine W_seq ?_
  refine W_seq ?_
  refine W_region_l ?_
  refine WL_stepM rfl (R_mv) ?_
  refine WL_step rfl (R_ne_f rfl rfl (by omega)) ?_
  refine WL_nil ?_
  refine W_cond_f rfl ?_
  refine W_skip ?_
  refine W_seq ?_
  refine W_seq ?_
  refine W_region_l ?_
  refine WL_stepM rfl (R_mv) ?_
  refine WL_step rfl (R_len_slice Try.underlying51 rfl) ?_
  refine WL_stepM rfl (R_mv) ?_
  refine WL_nil ?_
  refine W_block ?_
  refine W_rounds 2 ?_
  refine W_seq ?_
  refine W_region_l ?_
  refine WL_step rfl (R_lt_t rfl rfl (by omega)) ?_
  refine WL_nil ?_
  refine W_seq ?_
  refine W_cond_t rfl ?_
  refine W_skip ?_
  refine W_seq ?_
  refine W_block ?_
  refine W_seq ?_
  refine W_region_l ?_
  refine WL_step rfl (R_indexAddr (off' := 0) Try.underlying51 Try.sizeOf36 rfl rfl (by decide) (by decide) (by decide)) ?_
  refine WL_step rfl (R_loadA (vs := [I 2, I (0 + 256 * newPl.g : Nat)]) Try.isAgg36 Try.sizeOf36 rfl (H.get .here) rfl (by simp)) ?_
  (refine WL_effn rfl (E_alloc (vs := [I 0, I 0]) H Try.zeroValue36 rfl) ?_; clear H; intro c11 w47 hc11 H)
  (refine WL_effu rfl (E_storeA (vs := [I 2, I (0 + 256 * newPl.g : Nat)]) H Try.sizeOf36 rfl rfl (by simp [Value.oneCell']) .here (by simp)) ?_; clear H; intro w48 H; have mk2 : True := trivial)
  refine WL_nil ?_
  (have _g := mk2; refine W_draw (Kp [(c11, blk [I 2, I (0 + 256 * newPl.g : Nat)] 36), (s, blk [sl bs 0 4 cap] 90), (bs, blk (ptrs [(p0, b0), (p1, b1), (p2, b2), (p3, b3)] ++ sp) 91)]) (fun _ => false) (by kernel_rfl) H ?_; clear H; intro w50 H; clear mk2)
  refine WA_takeM 0 rfl rfl rfl (by kernel_rfl) (by kernel_rfl) (H.kp.sub (by simp)) (fun _ hC => R_mv) ?_
  refine WA_take 1 rfl rfl rfl (by kernel_rfl) (by kernel_rfl) (H.kp.sub (by simp)) (fun _ hC => R_nilCheck rfl) ?_
  refine WA_take 2 rfl rfl rfl (by kernel_rfl) (by kernel_rfl) (H.kp.sub (by simp)) (fun _ hC => R_fieldAddr (off' := 0) Try.underlying90 rfl Try.sizeOf88 (by decide) rfl rfl) ?_
  refine WA_take 3 rfl rfl rfl (by kernel_rfl) (by kernel_rfl) (H.kp.sub (by simp)) (fun _ hC => R_load (v := sl bs 0 4 cap) Try.isAgg88 rfl (hC.get (.there .here)) rfl) ?_
  refine WA_take 4 rfl rfl rfl (by kernel_rfl) (by kernel_rfl) (H.kp.sub (by simp)) (fun _ hC => R_fieldAddr (off' := 0) Try.underlying36 rfl Try.sizeOf3 (by decide) rfl rfl) ?_
  refine WA_take 5 rfl rfl rfl (by kernel_rfl) (by kernel_rfl) (H.kp.sub (by simp)) (fun _ hC => R_load (v := I 2) Try.isAgg3 rfl (hC.get .here) rfl) ?_
  refine WA_take 6 rfl rfl rfl (by kernel_rfl) (by kernel_rfl) (H.kp.sub (by simp)) (fun _ hC => R_indexAddr (off' := 2) Try.underlying88 Try.sizeOf91 rfl rfl (by decide) (by decide) (by decide)) ?_
  refine WA_take 7 rfl rfl rfl (by kernel_rfl) (by kernel_rfl) (H.kp.sub (by simp)) (fun _ hC => R_load (v := ptr p2 0) Try.isAgg91 rfl (hC.get (.there (.there .here))) rfl) ?_
  refine WA_take 8 rfl rfl rfl (by kernel_rfl) (by kernel_rfl) (H.kp.sub (by simp)) (fun _ hC => R_fieldAddr (off' := 1) Try.underlying36 rfl Try.sizeOf3 (by decide) rfl rfl) ?_
  refine WA_take 9 rfl rfl rfl (by kernel_rfl) (by kernel_rfl) (H.kp.sub (by simp)) (fun _ hC => R_load (v := I (0 + 256 * newPl.g : Nat)) Try.isAgg3 rfl (hC.get .here) rfl) ?_
  refine WA_one (i := 10) (by kernel_rfl) ?_
  (refine WI_call rfl (.inl rfl) (R_call rfl Try.call47 rfl) (TabC.drop_yes (i := 0) (a := ⟨cp o2 r2 l2 n2 1 (0 + 256 * newPl.g : Nat), newPl.g, true⟩) (H.get (.there (.there (.there (.there (.there (.there (.there (.there .here))))))))) (H.get (.there (.there (.there (.there (.there (.there (.there (.there (.there .here)))))))))) hcl (by decide) h2 (hcg _ (List.mem_of_getElem? h2)) rfl) (fun _ _ hR _ => (H.seq hR.2 (okSeq_set (.there (.there (.there (.there (.there (.there (.there (.there (.there .here))))))))) okSeq_nil)).kp.sub (by simp)) ?_; rintro _ w62 ⟨rfl, H1⟩; replace H := H.seq H1 (okSeq_set (.there (.there (.there (.there (.there (.there (.there (.there (.there .here))))))))) okSeq_nil); clear H1)
  refine WA_done (by kernel_rfl) ?_
  ((replace H := H.pop (by assumption))) <;> refine W_region_l ?_
  refine WL_step rfl (R_add (r := 1) rfl rfl (by decide)) ?_
  refine WL_stepM rfl (R_mv) ?_
  refine WL_nil ?_
  refine Rn_succ ?_
  refine W_seq ?_
  refine W_region_l ?_
  refine WL_step rfl (R_lt_t rfl rfl (by omega)) ?_
  refine WL_nil ?_
  refine W_seq ?_
  refine W_cond_t rfl ?_
  refine W_skip ?_
  refine W_seq ?_
  refine W_block ?_
  refine W_seq ?_
  refine W_region_l ?_
  refine WL_step rfl (R_indexAddr (off' := 2) Try.underlying51 Try.sizeOf36 rfl rfl (by decide) (by decide) (by decide)) ?_
  refine WL_step rfl (R_loadA (vs := [I 3, I (0 + 256 * newPl.g : Nat)]) Try.isAgg36 Try.sizeOf36 rfl (H.get .here) rfl (by simp)) ?_
  (refine WL_effn rfl (E_alloc (vs := [I 0, I 0]) H Try.zeroValue36 rfl) ?_; clear H; intro c11 w82 hc11 H)
  (refine WL_effu rfl (E_storeA (vs := [I 3, I (0 + 256 * newPl.g : Nat)]) H Try.sizeOf36 rfl rfl (by simp [Value.oneCell']) .here (by simp)) ?_; clear H; intro w83 H; have mk3 : True := trivial)
  refine WL_nil ?_
  (have _g := mk3; refine W_draw (Kp [(c11, blk [I 3, I (0 + 256 * newPl.g : Nat)] 36), (s, blk [sl bs 0 4 cap] 90), (bs, blk (ptrs [(p0, b0), (p1, b1), (p2, b2), (p3, b3)] ++ sp) 91)]) (fun _ => false) (by kernel_rfl) H ?_; clear H; intro w85 H; clear mk3)
  refine WA_takeM 0 rfl rfl rfl (by kernel_rfl) (by kernel_rfl) (H.kp.sub (by simp)) (fun _ hC => R_mv) ?_
  refine WA_take 1 rfl rfl rfl (by kernel_rfl) (by kernel_rfl) (H.kp.sub (by simp)) (fun _ hC => R_nilCheck rfl) ?_
  refine WA_take 2 rfl rfl rfl (by kernel_rfl) (by kernel_rfl) (H.kp.sub (by simp)) (fun _ hC => R_fieldAddr (off' := 0) Try.underlying90 rfl Try.sizeOf88 (by decide) rfl rfl) ?_
  refine WA_take 3 rfl rfl rfl (by kernel_rfl) (by kernel_rfl) (H.kp.sub (by simp)) (fun _ hC => R_load (v := sl bs 0 4 cap) Try.isAgg88 rfl (hC.get (.there .here)) rfl) ?_
  refine WA_take 4 rfl rfl rfl (by kernel_rfl) (by kernel_rfl) (H.kp.sub (by simp)) (fun _ hC => R_fieldAddr (off' := 0) Try.underlying36 rfl Try.sizeOf3 (by decide) rfl rfl) ?_
  refine WA_take 5 rfl rfl rfl (by kernel_rfl) (by kernel_rfl) (H.kp.sub (by simp)) (fun _ hC => R_load (v := I 3) Try.isAgg3 rfl (hC.get .here) rfl) ?_
  refine WA_take 6 rfl rfl rfl (by kernel_rfl) (by kernel_rfl) (H.kp.sub (by simp)) (fun _ hC => R_indexAddr (off' := 3) Try.underlying88 Try.sizeOf91 rfl rfl (by decide) (by decide) (by decide)) ?_
  refine WA_take 7 rfl rfl rfl (by kernel_rfl) (by kernel_rfl) (H.kp.sub (by simp)) (fun _ hC => R_load (v := ptr p3 0) Try.isAgg91 rfl (hC.get (.there (.there .here))) rfl) ?_
  refine WA_take 8 rfl rfl rfl (by kernel_rfl) (by kernel_rfl) (H.kp.sub (by simp)) (fun _ hC => R_fieldAddr (off' := 1) Try.underlying36 rfl Try.sizeOf3 (by decide) rfl rfl) ?_
  refine WA_take 9 rfl rfl rfl (by kernel_rfl) (by kernel_rfl) (H.kp.sub (by simp)) (fun _ hC => R_load (v := I (0 + 256 * newPl.g : Nat)) Try.isAgg3 rfl (hC.get .here) rfl) ?_
  refine WA_one (i := 10) (by kernel_rfl) ?_
  (refine WI_call rfl (.inl rfl) (R_call rfl Try.call47 rfl) (TabC.drop_yes (i := 0) (a := ⟨cp o3 r3 l3 n3 2 (0 + 256 * newPl.g : Nat), newPl.g, true⟩) (H.get (.there (.there (.there (.there (.there (.there (.there (.there (.there (.there .here))))))))))) (H.get (.there (.there (.there (.there (.there (.there (.there (.there (.there (.there (.there .here)))))))))))) hdl (by decide) h3 (hdg _ (List.mem_of_getElem? h3)) rfl) (fun _ _ hR _ => (H.seq hR.2 (okSeq_set (.there (.there (.there (.there (.there (.there (.there (.there (.there (.there (.there .here))))))))))) okSeq_nil)).kp.sub (by simp)) ?_; rintro _ w97 ⟨rfl, H1⟩; replace H := H.seq H1 (okSeq_set (.there (.there (.there (.there (.there (.there (.there (.there (.there (.there (.there .here))))))))))) okSeq_nil); clear H1)
  refine WA_done (by kernel_rfl) ?_
  ((replace H := H.pop (by assumption))) <;> refine W_region_l ?_
  refine WL_step rfl (R_add (r := 2) rfl rfl (by decide)) ?_
  refine WL_stepM rfl (R_mv) ?_
  refine WL_nil ?_
  refine Rn_succ ?_
  refine W_seq ?_
  refine W_region_l ?_
  refine WL_step rfl (R_lt_f rfl rfl (by omega)) ?_
  refine WL_nil ?_
  refine W_seq ?_
  refine W_cond_f rfl ?_
  refine W_exit ?_
  refine (if_pos rfl).mpr ?_
  refine W_seq ?_
  refine W_region_l ?_
  refine WL_stepM rfl (R_mv) ?_
  refine WL_step rfl (R_nilCheck rfl) ?_
  refine WL_step rfl (R_fieldAddr (off' := 0) Try.underlying90 rfl Try.sizeOf88 (by decide) rfl rfl) ?_
  refine WL_step rfl (R_load (v := sl bs 0 4 cap) Try.isAgg88 rfl (H.get (.there .here)) rfl) ?_
  refine WL_stepM rfl (R_mv) ?_
  refine WL_step rfl (R_indexAddr (off' := 1) Try.underlying88 Try.sizeOf91 rfl rfl (by decide) (by decide) (by decide)) ?_
  refine WL_step rfl (R_load (v := ptr p1 0) Try.isAgg91 rfl (H.get (.there (.there .here))) rfl) ?_
  refine WL_stepM rfl (R_mv) ?_
  (refine WL_call rfl (R_call rfl Try.call47 rfl) (TabC.drop_yes (i := 0) (a := ⟨cp o1 r1 l1 n1 0 (0 + 256 * newPl.g : Nat), newPl.g, true⟩) (H.get (.there (.there (.there (.there (.there .here)))))) (H.get (.there (.there (.there (.there (.there (.there .here))))))) hbl (by decide) h1 (hbg _ (List.mem_of_getElem? h1)) rfl) ?_; rintro _ w122 ⟨rfl, H1⟩; replace H := H.seq H1 (okSeq_set (.there (.there (.there (.there (.there (.there .here)))))) okSeq_nil); clear H1)
  refine WL_nil ?_
  refine W_seq ?_
  refine W_region_l ?_
  refine WL_stepM rfl (R_mv) ?_
  refine WL_step rfl (R_len_slice Try.underlying51 rfl) ?_
  refine WL_step rfl (R_add rfl rfl (w_i64 (by omega))) ?_
  refine WL_stepM rfl (R_as) ?_
  refine WL_stepM rfl (R_as) ?_
  refine WL_nil ?_
  refine W_ret ?_
  exact ⟨_, rfl, rfl, H.pop (by assumption)⟩

theorem revoke_4_2 {w0 w : World} {B : List (Nat × Obj)} {s bs cap p0 b0 p1 b1 p2 b2 p3 b3 : Nat} {sp : List Value} {ta tb tc td : List Pl} {o0 r0 l0 n0 o1 r1 l1 n1 o2 r2 l2 n2 o3 r3 l3 n3 : Int} (H : Hp w0 ((s, blk [sl bs 0 4 cap] 90) :: (bs, blk (ptrs [(p0, b0), (p1, b1), (p2, b2), (p3, b3)] ++ sp) 91) :: (p0, blk [sl b0 0 32 32] 135) :: (b0, blk (rows plc ta) 137) :: (p1, blk [sl b1 0 32 32] 135) :: (b1, blk (rows plc tb) 137) :: (p2, blk [sl b2 0 32 32] 135) :: (b2, blk (rows plc tc) 137) :: (p3, blk [sl b3 0 32 32] 135) :: (b3, blk (rows plc td) 137) :: B) w)
    (hal : ta.length = 32) (hag : ∀ a ∈ ta, a.g ≤ 1000001) (hbl : tb.length = 32) (hbg : ∀ a ∈ tb, a.g ≤ 1000001) (hcl : tc.length = 32) (hcg : ∀ a ∈ tc, a.g ≤ 1000001) (hdl : td.length = 32) (hdg : ∀ a ∈ td, a.g ≤ 1000001) (hn0 : namesFrom 0 ta = [((0 + 256 * newPl.g : Nat) : Int)]) (hn1 : namesFrom 0 tb = [((0 + 256 * newPl.g : Nat) : Int)]) (hn2 : namesFrom 0 tc = [((0 + 256 * newPl.g : Nat) : Int)]) (hn3 : namesFrom 0 td = [((0 + 256 * newPl.g : Nat) : Int)]) (h0 : ta[0]? = some ⟨cp o0 r0 l0 n0 0 0, newPl.g, true⟩) (h1 : tb[0]? = some ⟨cp o1 r1 l1 n1 0 (0 + 256 * newPl.g : Nat), newPl.g, true⟩) (h2 : tc[0]? = some ⟨cp o2 r2 l2 n2 1 (0 + 256 * newPl.g : Nat), newPl.g, true⟩) (h3 : td[0]? = some ⟨cp o3 r3 l3 n3 2 (0 + 256 * newPl.g : Nat), newPl.g, true⟩) :
    Ret Try.prog 24 #[ptr s 0, I 2, I (0 + 256 * newPl.g : Nat)] w fun v w' => v = .tuple #[I 2, I 0] ∧ Hp w0 ((s, blk [sl bs 0 4 cap] 90) :: (bs, blk (ptrs [(p0, b0), (p1, b1), (p2, b2), (p3, b3)] ++ sp) 91) :: (p0, blk [sl b0 0 32 32] 135) :: (b0, blk (rows plc ta) 137) :: (p1, blk [sl b1 0 32 32] 135) :: (b1, blk (rows plc tb) 137) :: (p2, blk [sl b2 0 32 32] 135) :: (b2, blk (rows plc (tc.set 0 ⟨zk, newPl.g + 1, false⟩)) 137) :: (p3, blk [sl b3 0 32 32] 135) :: (b3, blk (rows plc (td.set 0 ⟨zk, newPl.g + 1, false⟩)) 137) :: B) w' := by
  refine Ret_of_W (args := [_, _, _]) Try.func24 rfl Try.ntmps24 Try.results24 (by simp) ?_
  refine W_seq ?_
  refine W_region_l ?_
  refine WL_stepM rfl (R_as) ?_
  refine WL_stepM rfl (R_as) ?_
  refine WL_nil ?_
  refine W_seq ?_
  refine W_region_l ?_
  refine WL_stepM rfl (R_mv) ?_
  refine WL_stepM rfl (R_mv) ?_
  refine WL_stepM rfl (R_mv) ?_
  (refine WL_call rfl (R_call rfl Try.call27 rfl) (under_4_2 (Sp.from H (PB := [(p0, b0), (p1, b1), (p2, b2), (p3, b3)]) (ts := [ta, tb, tc, td]) bs cap sp (inv4 hal hag hbl hbg hcl hcg hdl hdg) (fun _ hp => List.mem_append_left _ hp)) hn0 hn1 hn2 hn3 h0 h1 h2 h3) ?_; rintro _ w11 ⟨_, M, rfl, hO, H1⟩; have h11 := H.seqO hO H1; clear H H1 hO; obtain ⟨hO, H⟩ := h11; obtain ⟨ub, uc, usp, rfl, hub, rfl, husp, huc⟩ := OwnS.pos hO (by decide); replace H : Hp w0 ((ub, blk ([I 3, I (0 + 256 * newPl.g : Nat)] ++ usp) 36) :: (s, blk [sl bs 0 4 cap] 90) :: (bs, blk (ptrs [(p0, b0), (p1, b1), (p2, b2), (p3, b3)] ++ sp) 91) :: (p0, blk [sl b0 0 32 32] 135) :: (b0, blk (rows plc ta) 137) :: (p1, blk [sl b1 0 32 32] 135) :: (b1, blk (rows plc tb) 137) :: (p2, blk [sl b2 0 32 32] 135) :: (b2, blk (rows plc tc) 137) :: (p3, blk [sl b3 0 32 32] 135) :: (b3, blk (rows plc td) 137) :: B) w11 := H)
  refine WL_stepM rfl (R_mv) ?_
  refine WL_step rfl (R_extract rfl rfl) ?_
  refine WL_step rfl (R_extract rfl rfl) ?_
  refine WL_stepM rfl (R_as) ?_
  refine WL_stepM rfl (R_as) ?_
  refine WL_nil ?_
  refine W_seq ?_
  refine W_seq ?_
  refine W_region_l ?_
  refine WL_stepM rfl (R_mv) ?_
  refine WL_step rfl (R_ne_f rfl rfl (by omega)) ?_
  refine WL_nil ?_
  refine W_cond_f rfl ?_
  refine W_skip ?_
  refine W_seq ?_
  refine W_seq ?_
  refine W_region_l ?_
  refine WL_stepM rfl (R_mv) ?_
  refine WL_step rfl (R_len_slice Try.underlying51 rfl) ?_
  refine WL_stepM rfl (R_mv) ?_
  refine WL_nil ?_
  refine W_block ?_
  refine W_rounds 1 ?_
  refine W_seq ?_
  refine W_region_l ?_
  refine WL_step rfl (R_lt_t rfl rfl (by omega)) ?_
  refine WL_nil ?_
  refine W_seq ?_
  refine W_cond_t rfl ?_
  refine W_skip ?_
  refine W_seq ?_
  refine W_block ?_
  refine W_seq ?_
  refine W_region_l ?_
  refine WL_step rfl (R_indexAddr (off' := 0) Try.underlying51 Try.sizeOf36 rfl rfl (by decide) (by decide) (by decide)) ?_
  refine WL_step rfl (R_loadA (vs := [I 3, I (0 + 256 * newPl.g : Nat)]) Try.isAgg36 Try.sizeOf36 rfl (H.get .here) rfl (by simp)) ?_
  (refine WL_effn rfl (E_alloc (vs := [I 0, I 0]) H Try.zeroValue36 rfl) ?_; clear H; intro c11 w47 hc11 H)
  (refine WL_effu rfl (E_storeA (vs := [I 3, I (0 + 256 * newPl.g : Nat)]) H Try.sizeOf36 rfl rfl (by simp [Value.oneCell']) .here (by simp)) ?_; clear H; intro w48 H; have mk3 : True := trivial)
  refine WL_nil ?_
  (have _g := mk3; refine W_draw (Kp [(c11, blk [I 3, I (0 + 256 * newPl.g : Nat)] 36), (s, blk [sl bs 0 4 cap] 90), (bs, blk (ptrs [(p0, b0), (p1, b1), (p2, b2), (p3, b3)] ++ sp) 91)]) (fun _ => false) (by kernel_rfl) H ?_; clear H; intro w50 H; clear mk3)
  refine WA_takeM 0 rfl rfl rfl (by kernel_rfl) (by kernel_rfl) (H.kp.sub (by simp)) (fun _ hC => R_mv) ?_
  refine WA_take 1 rfl rfl rfl (by kernel_rfl) (by kernel_rfl) (H.kp.sub (by simp)) (fun _ hC => R_nilCheck rfl) ?_
  refine WA_take 2 rfl rfl rfl (by kernel_rfl) (by kernel_rfl) (H.kp.sub (by simp)) (fun _ hC => R_fieldAddr (off' := 0) Try.underlying90 rfl Try.sizeOf88 (by decide) rfl rfl) ?_
  refine WA_take 3 rfl rfl rfl (by kernel_rfl) (by kernel_rfl) (H.kp.sub (by simp)) (fun _ hC => R_load (v := sl bs 0 4 cap) Try.isAgg88 rfl (hC.get (.there .here)) rfl) ?_
  refine WA_take 4 rfl rfl rfl (by kernel_rfl) (by kernel_rfl) (H.kp.sub (by simp)) (fun _ hC => R_fieldAddr (off' := 0) Try.underlying36 rfl Try.sizeOf3 (by decide) rfl rfl) ?_
  refine WA_take 5 rfl rfl rfl (by kernel_rfl) (by kernel_rfl) (H.kp.sub (by simp)) (fun _ hC => R_load (v := I 3) Try.isAgg3 rfl (hC.get .here) rfl) ?_
  refine WA_take 6 rfl rfl rfl (by kernel_rfl) (by kernel_rfl) (H.kp.sub (by simp)) (fun _ hC => R_indexAddr (off' := 3) Try.underlying88 Try.sizeOf91 rfl rfl (by decide) (by decide) (by decide)) ?_
  refine WA_take 7 rfl rfl rfl (by kernel_rfl) (by kernel_rfl) (H.kp.sub (by simp)) (fun _ hC => R_load (v := ptr p3 0) Try.isAgg91 rfl (hC.get (.there (.there .here))) rfl) ?_
  refine WA_take 8 rfl rfl rfl (by kernel_rfl) (by kernel_rfl) (H.kp.sub (by simp)) (fun _ hC => R_fieldAddr (off' := 1) Try.underlying36 rfl Try.sizeOf3 (by decide) rfl rfl) ?_
  refine WA_take 9 rfl rfl rfl (by kernel_rfl) (by kernel_rfl) (H.kp.sub (by simp)) (fun _ hC => R_load (v := I (0 + 256 * newPl.g : Nat)) Try.isAgg3 rfl (hC.get .here) rfl) ?_
  refine WA_one (i := 10) (by kernel_rfl) ?_
  (refine WI_call rfl (.inl rfl) (R_call rfl Try.call47 rfl) (TabC.drop_yes (i := 0) (a := ⟨cp o3 r3 l3 n3 2 (0 + 256 * newPl.g : Nat), newPl.g, true⟩) (H.get (.there (.there (.there (.there (.there (.there (.there (.there (.there (.there .here))))))))))) (H.get (.there (.there (.there (.there (.there (.there (.there (.there (.there (.there (.there .here)))))))))))) hdl (by decide) h3 (hdg _ (List.mem_of_getElem? h3)) rfl) (fun _ _ hR _ => (H.seq hR.2 (okSeq_set (.there (.there (.there (.there (.there (.there (.there (.there (.there (.there (.there .here))))))))))) okSeq_nil)).kp.sub (by simp)) ?_; rintro _ w62 ⟨rfl, H1⟩; replace H := H.seq H1 (okSeq_set (.there (.there (.there (.there (.there (.there (.there (.there (.there (.there (.there .here))))))))))) okSeq_nil); clear H1)
  refine WA_done (by kernel_rfl) ?_
  ((replace H := H.pop (by assumption))) <;> refine W_region_l ?_
  refine WL_step rfl (R_add (r := 1) rfl rfl (by decide)) ?_
  refine WL_stepM rfl (R_mv) ?_
  refine WL_nil ?_
  refine Rn_succ ?_
  refine W_seq ?_
  refine W_region_l ?_
  refine WL_step rfl (R_lt_f rfl rfl (by omega)) ?_
  refine WL_nil ?_
  refine W_seq ?_
  refine W_cond_f rfl ?_
  refine W_exit ?_
  refine (if_pos rfl).mpr ?_
  refine W_seq ?_
  refine W_region_l ?_
  refine WL_stepM rfl (R_mv) ?_
  refine WL_step rfl (R_nilCheck rfl) ?_
  refine WL_step rfl (R_fieldAddr (off' := 0) Try.underlying90 rfl Try.sizeOf88 (by decide) rfl rfl) ?_
  refine WL_step rfl (R_load (v := sl bs 0 4 cap) Try.isAgg88 rfl (H.get (.there .here)) rfl) ?_
  refine WL_stepM rfl (R_mv) ?_
  refine WL_step rfl (R_indexAddr (off' := 2) Try.underlying88 Try.sizeOf91 rfl rfl (by decide) (by decide) (by decide)) ?_
  refine WL_step rfl (R_load (v := ptr p2 0) Try.isAgg91 rfl (H.get (.there (.there .here))) rfl) ?_
  refine WL_stepM rfl (R_mv) ?_
  (refine WL_call rfl (R_call rfl Try.call47 rfl) (TabC.drop_yes (i := 0) (a := ⟨cp o2 r2 l2 n2 1 (0 + 256 * newPl.g : Nat), newPl.g, true⟩) (H.get (.there (.there (.there (.there (.there (.there (.there .here)))))))) (H.get (.there (.there (.there (.there (.there (.there (.there (.there .here))))))))) hcl (by decide) h2 (hcg _ (List.mem_of_getElem? h2)) rfl) ?_; rintro _ w87 ⟨rfl, H1⟩; replace H := H.seq H1 (okSeq_set (.there (.there (.there (.there (.there (.there (.there (.there .here)))))))) okSeq_nil); clear H1)
  refine WL_nil ?_
  refine W_seq ?_
  refine W_region_l ?_
  refine WL_stepM rfl (R_mv) ?_
  refine WL_step rfl (R_len_slice Try.underlying51 rfl) ?_
  refine WL_step rfl (R_add rfl rfl (w_i64 (by omega))) ?_
  refine WL_stepM rfl (R_as) ?_
  refine WL_stepM rfl (R_as) ?_
  refine WL_nil ?_
  refine W_ret ?_
  exact ⟨_, rfl, rfl, H.pop (by assumption)⟩

theorem revoke_4_3 {w0 w : World} {B : List (Nat × Obj)} {s bs cap p0 b0 p1 b1 p2 b2 p3 b3 : Nat} {sp : List Value} {ta tb tc td : List Pl} {o0 r0 l0 n0 o1 r1 l1 n1 o2 r2 l2 n2 o3 r3 l3 n3 : Int} (H : Hp w0 ((s, blk [sl bs 0 4 cap] 90) :: (bs, blk (ptrs [(p0, b0), (p1, b1), (p2, b2), (p3, b3)] ++ sp) 91) :: (p0, blk [sl b0 0 32 32] 135) :: (b0, blk (rows plc ta) 137) :: (p1, blk [sl b1 0 32 32] 135) :: (b1, blk (rows plc tb) 137) :: (p2, blk [sl b2 0 32 32] 135) :: (b2, blk (rows plc tc) 137) :: (p3, blk [sl b3 0 32 32] 135) :: (b3, blk (rows plc td) 137) :: B) w)
    (hal : ta.length = 32) (hag : ∀ a ∈ ta, a.g ≤ 1000001) (hbl : tb.length = 32) (hbg : ∀ a ∈ tb, a.g ≤ 1000001) (hcl : tc.length = 32) (hcg : ∀ a ∈ tc, a.g ≤ 1000001) (hdl : td.length = 32) (hdg : ∀ a ∈ td, a.g ≤ 1000001) (hn0 : namesFrom 0 ta = [((0 + 256 * newPl.g : Nat) : Int)]) (hn1 : namesFrom 0 tb = [((0 + 256 * newPl.g : Nat) : Int)]) (hn2 : namesFrom 0 tc = [((0 + 256 * newPl.g : Nat) : Int)]) (hn3 : namesFrom 0 td = [((0 + 256 * newPl.g : Nat) : Int)]) (h0 : ta[0]? = some ⟨cp o0 r0 l0 n0 0 0, newPl.g, true⟩) (h1 : tb[0]? = some ⟨cp o1 r1 l1 n1 0 (0 + 256 * newPl.g : Nat), newPl.g, true⟩) (h2 : tc[0]? = some ⟨cp o2 r2 l2 n2 1 (0 + 256 * newPl.g : Nat), newPl.g, true⟩) (h3 : td[0]? = some ⟨cp o3 r3 l3 n3 2 (0 + 256 * newPl.g : Nat), newPl.g, true⟩) :
    Ret Try.prog 24 #[ptr s 0, I 3, I (0 + 256 * newPl.g : Nat)] w fun v w' => v = .tuple #[I 1, I 0] ∧ Hp w0 ((s, blk [sl bs 0 4 cap] 90) :: (bs, blk (ptrs [(p0, b0), (p1, b1), (p2, b2), (p3, b3)] ++ sp) 91) :: (p0, blk [sl b0 0 32 32] 135) :: (b0, blk (rows plc ta) 137) :: (p1, blk [sl b1 0 32 32] 135) :: (b1, blk (rows plc tb) 137) :: (p2, blk [sl b2 0 32 32] 135) :: (b2, blk (rows plc tc) 137) :: (p3, blk [sl b3 0 32 32] 135) :: (b3, blk (rows plc (td.set 0 ⟨zk, newPl.g + 1, false⟩)) 137) :: B) w' := by
  refine Ret_of_W (args := [_, _, _]) Try.func24 rfl Try.ntmps24 Try.results24 (by simp) ?_
  refine W_seq ?_
  refine W_region_l ?_
  refine WL_stepM rfl (R_as) ?_
  refine WL_stepM rfl (R_as) ?_
  refine WL_nil ?_
  refine W_seq ?_
  refine W_region_l ?_
  refine WL_stepM rfl (R_mv) ?_
  refine WL_stepM rfl (R_mv) ?_
  refine WL_stepM rfl (R_mv) ?_
  (refine WL_call rfl (R_call rfl Try.call27 rfl) (under_4_3 (Sp.from H (PB := [(p0, b0), (p1, b1), (p2, b2), (p3, b3)]) (ts := [ta, tb, tc, td]) bs cap sp (inv4 hal hag hbl hbg hcl hcg hdl hdg) (fun _ hp => List.mem_append_left _ hp)) hn0 hn1 hn2 hn3 h0 h1 h2 h3) ?_; rintro _ w11 ⟨_, M, rfl, hO, H1⟩; obtain ⟨ua, uc, rfl⟩ := hO.form; replace H := H.seqD H1 hO.keys; clear H1 hO)
  refine WL_stepM rfl (R_mv) ?_
  refine WL_step rfl (R_extract rfl rfl) ?_
  refine WL_step rfl (R_extract rfl rfl) ?_
  refine WL_stepM rfl (R_as) ?_
  refine WL_stepM rfl (R_as) ?_
  refine WL_nil ?_
  refine W_seq ?_
  refine W_seq ?_
  refine W_region_l ?_
  refine WL_stepM rfl (R_mv) ?_
  refine WL_step rfl (R_ne_f rfl rfl (by omega)) ?_
  refine WL_nil ?_
  refine W_cond_f rfl ?_
  refine W_skip ?_
  refine W_seq ?_
  refine W_seq ?_
  refine W_region_l ?_
  refine WL_stepM rfl (R_mv) ?_
  refine WL_step rfl (R_len_slice Try.underlying51 rfl) ?_
  refine WL_stepM rfl (R_mv) ?_
  refine WL_nil ?_
  refine W_block ?_
  refine W_rounds 0 ?_
  refine W_seq ?_
  refine W_region_l ?_
  refine WL_step rfl (R_lt_f rfl rfl (by omega)) ?_
  refine WL_nil ?_
  refine W_seq ?_
  refine W_cond_f rfl ?_
  refine W_exit ?_
  refine (if_pos rfl).mpr ?_
  refine W_seq ?_
  refine W_region_l ?_
  refine WL_stepM rfl (R_mv) ?_
  refine WL_step rfl (R_nilCheck rfl) ?_
  refine WL_step rfl (R_fieldAddr (off' := 0) Try.underlying90 rfl Try.sizeOf88 (by decide) rfl rfl) ?_
  refine WL_step rfl (R_load (v := sl bs 0 4 cap) Try.isAgg88 rfl (H.get .here) rfl) ?_
  refine WL_stepM rfl (R_mv) ?_
  refine WL_step rfl (R_indexAddr (off' := 3) Try.underlying88 Try.sizeOf91 rfl rfl (by decide) (by decide) (by decide)) ?_
  refine WL_step rfl (R_load (v := ptr p3 0) Try.isAgg91 rfl (H.get (.there .here)) rfl) ?_
  refine WL_stepM rfl (R_mv) ?_
  (refine WL_call rfl (R_call rfl Try.call47 rfl) (TabC.drop_yes (i := 0) (a := ⟨cp o3 r3 l3 n3 2 (0 + 256 * newPl.g : Nat), newPl.g, true⟩) (H.get (.there (.there (.there (.there (.there (.there (.there (.there .here))))))))) (H.get (.there (.there (.there (.there (.there (.there (.there (.there (.there .here)))))))))) hdl (by decide) h3 (hdg _ (List.mem_of_getElem? h3)) rfl) ?_; rintro _ w52 ⟨rfl, H1⟩; replace H := H.seq H1 (okSeq_set (.there (.there (.there (.there (.there (.there (.there (.there (.there .here))))))))) okSeq_nil); clear H1)
  refine WL_nil ?_
  refine W_seq ?_
  refine W_region_l ?_
  refine WL_stepM rfl (R_mv) ?_
  refine WL_step rfl (R_len_slice Try.underlying51 rfl) ?_
  refine WL_step rfl (R_add rfl rfl (w_i64 (by omega))) ?_
  refine WL_stepM rfl (R_as) ?_
  refine WL_stepM rfl (R_as) ?_
  refine WL_nil ?_
  refine W_ret ?_
  exact ⟨_, rfl, rfl, H⟩
end Go.Proofs.Ythonajikgljgmaa.Reg

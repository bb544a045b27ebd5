/-
  What is under a cap, where each of a row was granted of the one ahead.
-/
import Derived.Test.YthonajikgljgmaaSortB
import Derived.Test.YthonajikgljgmaaUnderA
namespace Go.Proofs.Ythonajikgljgmaa.Caps
open Go Go.Proofs Go.Proofs.Ythonajikgljgmaa.Fx Go.Proofs.Ythonajikgljgmaa.TabC
set_option maxRecDepth 100000
set_option linter.unusedVariables false
set_option linter.unusedSimpArgs false
set_option maxHeartbeats 8000000

theorem under_3_0 {w : World} {s p0 b0 p1 b1 p2 b2 : Nat} {t0 t1 t2 : List Pl} {o0 r0 l0 n0 o1 r1 l1 n1 o2 r2 l2 n2 : Int} (hS : Sp w s [(p0, b0), (p1, b1), (p2, b2)] [t0, t1, t2])
    (hn0 : namesFrom 0 t0 = [((0 + 256 * newPl.g : Nat) : Int)]) (hn1 : namesFrom 0 t1 = [((0 + 256 * newPl.g : Nat) : Int)]) (hn2 : namesFrom 0 t2 = [((0 + 256 * newPl.g : Nat) : Int)]) (h0 : t0[0]? = some ⟨cp o0 r0 l0 n0 0 0, newPl.g, true⟩) (h1 : t1[0]? = some ⟨cp o1 r1 l1 n1 0 (0 + 256 * newPl.g : Nat), newPl.g, true⟩) (h2 : t2[0]? = some ⟨cp o2 r2 l2 n2 1 (0 + 256 * newPl.g : Nat), newPl.g, true⟩) :
    Ret Try.prog 27 #[ptr s 0, I 0, I (0 + 256 * newPl.g : Nat)] w fun v w' => ∃ u M, v = .tuple #[u, I 0] ∧ OwnS w.heap.size 36 2 u 2 [I 1, I (0 + 256 * newPl.g : Nat), I 2, I (0 + 256 * newPl.g : Nat)] M ∧ Hp w M w' := by
  obtain ⟨bs, cap, sp, hs, hbs⟩ := hS.ex
  replace hs : w.heap[s]? = some (blk [sl bs 0 3 cap] 90) := hs
  have htp0 : w.heap[p0]? = some (blk [sl b0 0 32 32] 135) := hS.tp 0 (p0, b0) rfl
  have htb0 : w.heap[b0]? = some (blk (rows plc t0) 137) := hS.tb 0 (p0, b0) t0 rfl rfl
  have hsz0 := hS.inv.sz t0 (by simp)
  have hgn0 := hS.inv.gn t0 (by simp)
  have htp1 : w.heap[p1]? = some (blk [sl b1 0 32 32] 135) := hS.tp 1 (p1, b1) rfl
  have htb1 : w.heap[b1]? = some (blk (rows plc t1) 137) := hS.tb 1 (p1, b1) t1 rfl rfl
  have hsz1 := hS.inv.sz t1 (by simp)
  have hgn1 := hS.inv.gn t1 (by simp)
  have htp2 : w.heap[p2]? = some (blk [sl b2 0 32 32] 135) := hS.tp 2 (p2, b2) rfl
  have htb2 : w.heap[b2]? = some (blk (rows plc t2) 137) := hS.tb 2 (p2, b2) t2 rfl rfl
  have hsz2 := hS.inv.sz t2 (by simp)
  have hgn2 := hS.inv.gn t2 (by simp)
  have hpos : (((0 + 256 * newPl.g : Nat) : Int)) ≠ 0 := by decide
  refine Ret_of_W (args := [_, _, _]) Try.func27 rfl Try.ntmps27 Try.results27 (by simp) ?_
  have H := Hp.refl w
  have hO := OwnS.nil w.heap.size 36 2
  refine W_seq ?_
  refine W_region_l ?_
  refine WL_stepM rfl (R_as) ?_
  refine WL_stepM rfl (R_as) ?_
  refine WL_nil ?_
  refine W_seq ?_
  refine W_seq ?_
  refine W_region_l ?_
  refine WL_stepM rfl (R_mv) ?_
  refine WL_stepM rfl (R_mv) ?_
  refine WL_stepM rfl (R_mv) ?_
  (refine WL_call rfl (R_call rfl Try.call26 rfl) (Caps.get_yes (j := 0) (i := 0) (a := ⟨cp o0 r0 l0 n0 0 0, newPl.g, true⟩) hS rfl rfl h0 rfl) ?_; rintro _ w12 ⟨rfl, H1⟩; replace H := H.seq0 H1; clear H1)
  refine WL_stepM rfl (R_mv) ?_
  refine WL_step rfl (R_extract rfl rfl) ?_
  refine WL_step rfl (R_extract rfl rfl) ?_
  (refine WL_effn rfl (E_alloc H Try.zeroValue38 rfl) ?_; clear H; intro b16 w16 hb16 H)
  (refine WL_effu rfl (E_storeA (vs := [(.int _ _), (.int _ _), (.int _ _), (.int _ _), (.int _ _), (.int _ _)]) H Try.sizeOf38 rfl rfl (by simp [Value.oneCell']) .here (by simp)) ?_; clear H; intro w17 H)
  refine WL_stepM rfl (R_as) ?_
  refine WL_nil ?_
  refine W_seq ?_
  refine W_region_l ?_
  refine WL_stepM rfl (R_mv) ?_
  refine WL_step rfl (R_ne_f rfl rfl (by omega)) ?_
  refine WL_nil ?_
  refine W_cond_f rfl ?_
  refine W_skip ?_
  refine W_seq ?_
  refine W_region_l ?_
  (replace H := H.pop (by assumption); refine WL_effn rfl (E_makeMap H) ?_; clear H; intro mp w29 hmp H)
  refine WL_stepM rfl (R_mv) ?_
  refine WL_stepM rfl (R_mv) ?_
  refine WL_step rfl (R_buildL (places := [(0, 1), (1, 1)]) (vs := [I 0, I (0 + 256 * newPl.g : Nat)]) Try.underlying36 Try.typeInfo36 rfl rfl (by kernel_rfl) rfl rfl rfl) ?_
  (refine WL_effu rfl (E_insert (r := ((0 : Int), ((0 + 256 * newPl.g : Nat) : Int))) H .here MapIs.nil rfl rfl rfl (by simp)) ?_; clear H; intro w33 H; obtain ⟨es, cl, hm, H⟩ : ∃ es cl, MapIs es [((0 : Int), ((0 + 256 * newPl.g : Nat) : Int))] ∧ Hp w [(mp, .map es cl)] w33 := ⟨_, _, MapIs.nil.push _ _, H⟩)
  refine WL_stepM rfl (R_mv) ?_
  refine WL_stepM rfl (R_as) ?_
  refine WL_nil ?_
  refine W_seq ?_
  refine W_seq ?_
  refine W_region_l ?_
  refine WL_stepM rfl (R_as) ?_
  refine WL_nil ?_
  refine W_block ?_
  refine W_rounds 2 ?_
  refine W_seq ?_
  refine W_seq ?_
  refine W_region_l ?_
  refine WL_stepM rfl (R_mv) ?_
  refine WL_nil ?_
  refine W_cond_t rfl ?_
  refine W_skip ?_
  refine W_block ?_
  refine W_seq ?_
  refine W_region_l ?_
  refine WL_stepM rfl (R_as) ?_
  refine WL_nil ?_
  refine W_seq ?_
  refine W_region_l ?_
  refine WL_stepM rfl (R_mv) ?_
  refine WL_step rfl (R_nilCheck rfl) ?_
  refine WL_step rfl (R_fieldAddr (off' := 0) Try.underlying90 rfl Try.sizeOf88 (by decide) rfl rfl) ?_
  refine WL_step rfl (R_load (v := sl bs 0 3 cap) Try.isAgg88 rfl (H.blockN hs (by repeat' first | exact kNil | apply kCons | apply kApp | assumption | exact OwnS.keys (by assumption))) rfl) ?_
  refine WL_step rfl (R_len_slice Try.underlying88 rfl) ?_
  refine WL_stepM rfl (R_mv) ?_
  refine WL_nil ?_
  refine W_block ?_
  refine W_rounds 3 ?_
  refine W_seq ?_
  refine W_region_l ?_
  refine WL_step rfl (R_lt_t rfl rfl (by omega)) ?_
  refine WL_nil ?_
  refine W_seq ?_
  refine W_cond_t rfl ?_
  refine W_skip ?_
  refine W_seq ?_
  refine W_block ?_
  refine W_seq ?_
  refine W_region_l ?_
  refine WL_stepM rfl (R_mv) ?_
  refine WL_step rfl (R_indexAddr (off' := 0) Try.underlying88 Try.sizeOf91 rfl rfl (by decide) (by decide) (by decide)) ?_
  refine WL_step rfl (R_load (v := ptr p0 0) Try.isAgg91 rfl (H.blockN hbs (by repeat' first | exact kNil | apply kCons | apply kApp | assumption | exact OwnS.keys (by assumption))) rfl) ?_
  refine WL_stepM rfl (R_as) ?_
  refine WL_stepM rfl (R_as) ?_
  refine WL_nil ?_
  refine W_seq ?_
  refine W_region_l ?_
  refine WL_stepM rfl (R_mv) ?_
  (refine WL_call rfl (R_call rfl Try.call49 rfl) (TabC.names_ret (H.blockN htp0 (by repeat' first | exact kNil | apply kCons | apply kApp | assumption | exact OwnS.keys (by assumption))) (H.blockN htb0 (by repeat' first | exact kNil | apply kCons | apply kApp | assumption | exact OwnS.keys (by assumption))) hsz0 (by decide) hgn0) ?_; rintro _ w85 ⟨M1, hO1, H1⟩; rw [hn0] at hO1; replace hO1 : OwnS _ 3 1 _ 1 _ M1 := hO1; have h85 := H.seqO hO1 H1; clear H H1 hO1; obtain ⟨hO1, H⟩ := h85; obtain ⟨nb, nc, nsp, rfl, hnb1, rfl, hnsp, hnc⟩ := OwnS.pos hO1 (by simp))
  refine WL_step rfl (R_len_slice Try.underlying59 rfl) ?_
  refine WL_stepM rfl (R_mv) ?_
  refine WL_nil ?_
  refine W_block ?_
  refine W_rounds 1 ?_
  refine W_seq ?_
  refine W_region_l ?_
  refine WL_step rfl (R_lt_t rfl rfl (by omega)) ?_
  refine WL_nil ?_
  refine W_seq ?_
  refine W_cond_t rfl ?_
  refine W_skip ?_
  refine W_seq ?_
  refine W_block ?_
  refine W_seq ?_
  refine W_region_l ?_
  refine WL_step rfl (R_indexAddr (off' := 0) Try.underlying59 Try.sizeOf3 rfl rfl (by decide) (by decide) (by decide)) ?_
  refine WL_step rfl (R_load (v := I (0 + 256 * newPl.g : Nat)) Try.isAgg3 rfl (H.get .here) rfl) ?_
  refine WL_stepM rfl (R_as) ?_
  refine WL_nil ?_
  refine W_seq ?_
  refine W_region_l ?_
  refine WL_stepM rfl (R_mv) ?_
  refine WL_stepM rfl (R_mv) ?_
  (refine WL_call rfl (R_call rfl Try.call48 rfl) (TabC.get_yes (i := 0) (a := ⟨cp o0 r0 l0 n0 0 0, newPl.g, true⟩) (H.blockN htp0 (by repeat' first | exact kNil | apply kCons | apply kApp | assumption | exact OwnS.keys (by assumption))) (H.blockN htb0 (by repeat' first | exact kNil | apply kCons | apply kApp | assumption | exact OwnS.keys (by assumption))) hsz0 (by decide) h0 (hgn0 _ (List.mem_of_getElem? h0)) rfl) ?_; rintro _ w109 ⟨rfl, H1⟩; replace H := H.seq0 H1; clear H1)
  refine WL_stepM rfl (R_mv) ?_
  refine WL_step rfl (R_extract rfl rfl) ?_
  refine WL_step rfl (R_extract rfl rfl) ?_
  (refine WL_effn rfl (E_allocK H) ?_; clear H; intro c16 w113 hc16 H)
  (refine WL_effu rfl (E_storeK H rfl rfl .here) ?_; clear H; intro w114 H)
  refine WL_stepM rfl (R_as) ?_
  refine WL_nil ?_
  refine W_seq ?_
  refine W_region_l ?_
  refine WL_stepM rfl (R_mv) ?_
  refine WL_stepM rfl (R_mv) ?_
  refine WL_step rfl (R_buildL (places := [(0, 1), (1, 1)]) (vs := [I 0, I (0 + 256 * newPl.g : Nat)]) Try.underlying36 Try.typeInfo36 rfl rfl (by kernel_rfl) rfl rfl rfl) ?_
  (refine WL_effn rfl (E_alloc (vs := [I 0, I 0]) H Try.zeroValue36 rfl) ?_; clear H; intro c18 w122 hc18 H)
  (refine WL_effu rfl (E_storeA (vs := [I 0, I (0 + 256 * newPl.g : Nat)]) H Try.sizeOf36 rfl rfl (by simp [Value.oneCell']) .here (by simp)) ?_; clear H; intro w123 H)
  refine WL_nil ?_
  refine W_seq ?_
  refine W_region_l ?_
  refine WL_stepM rfl (R_mv) ?_
  refine WL_step rfl (R_loadA (vs := [I 0, I (0 + 256 * newPl.g : Nat)]) Try.isAgg36 Try.sizeOf36 rfl (H.get .here) rfl (by simp)) ?_
  refine WL_step rfl (R_lookup_yes (r := ((0 : Int), ((0 + 256 * newPl.g : Nat) : Int))) (H.held (mp, .map es cl) (by simp)) hm rfl rfl (by simp)) ?_
  refine WL_step rfl (R_eq_f rfl rfl (by omega)) ?_
  refine WL_stepM rfl (R_mv) ?_
  refine WL_guard_f rfl rfl (by decide) ?_
  refine WL_guard_f rfl rfl (by decide) ?_
  refine WL_guard_f rfl rfl (by decide) ?_
  refine WL_guard_f rfl rfl (by decide) ?_
  refine WL_guard_f rfl rfl (by decide) ?_
  refine WL_stepM rfl (R_pk_f rfl) ?_
  refine WL_nil ?_
  refine W_cond_f rfl ?_
  refine W_skip ?_
  ((replace H : Hp w [(mp, .map es cl)] _ := Hp.dropK H (by repeat (first | exact List.Sublist.refl _ | apply List.Sublist.cons)) (by repeat' first | exact kNil | apply kCons | apply kApp | assumption | exact OwnS.keys (by assumption)))) <;> refine W_region_l ?_
  refine WL_step rfl (R_add (r := 1) rfl rfl (by decide)) ?_
  refine WL_stepM rfl (R_mv) ?_
  refine WL_nil ?_
  refine Rn_succ ?_
  refine W_seq ?_
  refine W_region_l ?_
  refine WL_step rfl (R_lt_f rfl rfl (by omega)) ?_
  refine WL_nil ?_
  refine W_seq ?_
  refine W_cond_f rfl ?_
  refine W_exit ?_
  refine (if_pos rfl).mpr ?_
  refine W_region_l ?_
  refine WL_step rfl (R_add (r := 1) rfl rfl (by decide)) ?_
  refine WL_stepM rfl (R_mv) ?_
  refine WL_nil ?_
  refine Rn_succ ?_
  refine W_seq ?_
  refine W_region_l ?_
  refine WL_step rfl (R_lt_t rfl rfl (by omega)) ?_
  refine WL_nil ?_
  refine W_seq ?_
  refine W_cond_t rfl ?_
  refine W_skip ?_
  refine W_seq ?_
  refine W_block ?_
  refine W_seq ?_
  refine W_region_l ?_
  refine WL_stepM rfl (R_mv) ?_
  refine WL_step rfl (R_indexAddr (off' := 1) Try.underlying88 Try.sizeOf91 rfl rfl (by decide) (by decide) (by decide)) ?_
  refine WL_step rfl (R_load (v := ptr p1 0) Try.isAgg91 rfl (H.blockN hbs (by repeat' first | exact kNil | apply kCons | apply kApp | assumption | exact OwnS.keys (by assumption))) rfl) ?_
  refine WL_stepM rfl (R_as) ?_
  refine WL_stepM rfl (R_as) ?_
  refine WL_nil ?_
  refine W_seq ?_
  refine W_region_l ?_
  refine WL_stepM rfl (R_mv) ?_
  (refine WL_call rfl (R_call rfl Try.call49 rfl) (TabC.names_ret (H.blockN htp1 (by repeat' first | exact kNil | apply kCons | apply kApp | assumption | exact OwnS.keys (by assumption))) (H.blockN htb1 (by repeat' first | exact kNil | apply kCons | apply kApp | assumption | exact OwnS.keys (by assumption))) hsz1 (by decide) hgn1) ?_; rintro _ w179 ⟨M1, hO1, H1⟩; rw [hn1] at hO1; replace hO1 : OwnS _ 3 1 _ 1 _ M1 := hO1; have h179 := H.seqO hO1 H1; clear H H1 hO1; obtain ⟨hO1, H⟩ := h179; obtain ⟨nb, nc, nsp, rfl, hnb1, rfl, hnsp, hnc⟩ := OwnS.pos hO1 (by simp))
  refine WL_step rfl (R_len_slice Try.underlying59 rfl) ?_
  refine WL_stepM rfl (R_mv) ?_
  refine WL_nil ?_
  refine W_block ?_
  refine W_rounds 1 ?_
  refine W_seq ?_
  refine W_region_l ?_
  refine WL_step rfl (R_lt_t rfl rfl (by omega)) ?_
  refine WL_nil ?_
  refine W_seq ?_
  refine W_cond_t rfl ?_
  refine W_skip ?_
  refine W_seq ?_
  refine W_block ?_
  refine W_seq ?_
  refine W_region_l ?_
  refine WL_step rfl (R_indexAddr (off' := 0) Try.underlying59 Try.sizeOf3 rfl rfl (by decide) (by decide) (by decide)) ?_
  refine WL_step rfl (R_load (v := I (0 + 256 * newPl.g : Nat)) Try.isAgg3 rfl (H.get .here) rfl) ?_
  refine WL_stepM rfl (R_as) ?_
  refine WL_nil ?_
  refine W_seq ?_
  refine W_region_l ?_
  refine WL_stepM rfl (R_mv) ?_
  refine WL_stepM rfl (R_mv) ?_
  (refine WL_call rfl (R_call rfl Try.call48 rfl) (TabC.get_yes (i := 0) (a := ⟨cp o1 r1 l1 n1 0 (0 + 256 * newPl.g : Nat), newPl.g, true⟩) (H.blockN htp1 (by repeat' first | exact kNil | apply kCons | apply kApp | assumption | exact OwnS.keys (by assumption))) (H.blockN htb1 (by repeat' first | exact kNil | apply kCons | apply kApp | assumption | exact OwnS.keys (by assumption))) hsz1 (by decide) h1 (hgn1 _ (List.mem_of_getElem? h1)) rfl) ?_; rintro _ w203 ⟨rfl, H1⟩; replace H := H.seq0 H1; clear H1)
  refine WL_stepM rfl (R_mv) ?_
  refine WL_step rfl (R_extract rfl rfl) ?_
  refine WL_step rfl (R_extract rfl rfl) ?_
  (refine WL_effn rfl (E_allocK H) ?_; clear H; intro c16 w207 hc16 H)
  (refine WL_effu rfl (E_storeK H rfl rfl .here) ?_; clear H; intro w208 H)
  refine WL_stepM rfl (R_as) ?_
  refine WL_nil ?_
  refine W_seq ?_
  refine W_region_l ?_
  refine WL_stepM rfl (R_mv) ?_
  refine WL_stepM rfl (R_mv) ?_
  refine WL_step rfl (R_buildL (places := [(0, 1), (1, 1)]) (vs := [I 1, I (0 + 256 * newPl.g : Nat)]) Try.underlying36 Try.typeInfo36 rfl rfl (by kernel_rfl) rfl rfl rfl) ?_
  (refine WL_effn rfl (E_alloc (vs := [I 0, I 0]) H Try.zeroValue36 rfl) ?_; clear H; intro c18 w216 hc18 H)
  (refine WL_effu rfl (E_storeA (vs := [I 1, I (0 + 256 * newPl.g : Nat)]) H Try.sizeOf36 rfl rfl (by simp [Value.oneCell']) .here (by simp)) ?_; clear H; intro w217 H)
  refine WL_nil ?_
  refine W_seq ?_
  refine W_region_l ?_
  refine WL_stepM rfl (R_mv) ?_
  refine WL_step rfl (R_loadA (vs := [I 1, I (0 + 256 * newPl.g : Nat)]) Try.isAgg36 Try.sizeOf36 rfl (H.get .here) rfl (by simp)) ?_
  refine WL_step rfl (R_lookup_no (r := ((1 : Int), ((0 + 256 * newPl.g : Nat) : Int))) (H.held (mp, .map es cl) (by simp)) hm rfl rfl (by simp)) ?_
  refine WL_step rfl (R_eq_t rfl rfl (by omega)) ?_
  refine WL_stepM rfl (R_mv) ?_
  refine WL_guard_t rfl rfl ?_
  refine WL_stepM rfl (R_mv) ?_
  refine WL_guard_t rfl rfl ?_
  refine WL_step rfl (R_fieldAddr (off' := 4) Try.underlying38 rfl Try.sizeOf36 (by decide) rfl rfl) ?_
  refine WL_guard_t rfl rfl ?_
  refine WL_step rfl (R_loadA (vs := [I 0, I (0 + 256 * newPl.g : Nat)]) Try.isAgg36 Try.sizeOf36 rfl (H.get (.there .here)) rfl (by simp [cp])) ?_
  refine WL_guard_t rfl rfl ?_
  refine WL_step rfl (R_lookup_yes (r := ((0 : Int), ((0 + 256 * newPl.g : Nat) : Int))) (H.held (mp, .map es cl) (by simp)) hm rfl rfl (by simp)) ?_
  refine WL_guard_t rfl rfl ?_
  refine WL_step rfl (R_gt_t rfl rfl (by omega)) ?_
  refine WL_stepM rfl (R_pk_t rfl) ?_
  refine WL_nil ?_
  refine W_cond_t rfl ?_
  refine W_region_l ?_
  refine WL_stepM rfl (R_mv) ?_
  refine WL_step rfl (R_loadA (vs := [I 1, I (0 + 256 * newPl.g : Nat)]) Try.isAgg36 Try.sizeOf36 rfl (H.get .here) rfl (by simp)) ?_
  (refine WL_effu rfl (E_mapUpdate (l := [((0 : Int), ((0 + 256 * newPl.g : Nat) : Int))]) (r := ((1 : Int), ((0 + 256 * newPl.g : Nat) : Int))) H (by repeat (first | exact At.here | apply At.there)) hm rfl rfl rfl (by simp)) ?_; clear H; intro w242 H; obtain ⟨es, cl, hm, H⟩ : ∃ es cl, MapIs es [((0 : Int), ((0 + 256 * newPl.g : Nat) : Int)), ((1 : Int), ((0 + 256 * newPl.g : Nat) : Int))] ∧ Hp w [(mp, .map es cl)] w242 := ⟨_, _, hm.push _ _, Hp.dropK H (by repeat (first | exact List.Sublist.refl _ | apply List.Sublist.cons)) (by repeat' first | exact kNil | apply kCons | apply kApp | assumption | exact OwnS.keys (by assumption))⟩)
  refine WL_stepM rfl (R_as) ?_
  refine WL_nil ?_
  ((replace H : Hp w [(mp, .map es cl)] _ := Hp.dropK H (by repeat (first | exact List.Sublist.refl _ | apply List.Sublist.cons)) (by repeat' first | exact kNil | apply kCons | apply kApp | assumption | exact OwnS.keys (by assumption)))) <;> refine W_region_l ?_
  refine WL_step rfl (R_add (r := 1) rfl rfl (by decide)) ?_
  refine WL_stepM rfl (R_mv) ?_
  refine WL_nil ?_
  refine Rn_succ ?_
  refine W_seq ?_
  refine W_region_l ?_
  refine WL_step rfl (R_lt_f rfl rfl (by omega)) ?_
  refine WL_nil ?_
  refine W_seq ?_
  refine W_cond_f rfl ?_
  refine W_exit ?_
  refine (if_pos rfl).mpr ?_
  refine W_region_l ?_
  refine WL_step rfl (R_add (r := 2) rfl rfl (by decide)) ?_
  refine WL_stepM rfl (R_mv) ?_
  refine WL_nil ?_
  refine Rn_succ ?_
  refine W_seq ?_
  refine W_region_l ?_
  refine WL_step rfl (R_lt_t rfl rfl (by omega)) ?_
  refine WL_nil ?_
  refine W_seq ?_
  refine W_cond_t rfl ?_
  refine W_skip ?_
  refine W_seq ?_
  refine W_block ?_
  refine W_seq ?_
  refine W_region_l ?_
  refine WL_stepM rfl (R_mv) ?_
  refine WL_step rfl (R_indexAddr (off' := 2) Try.underlying88 Try.sizeOf91 rfl rfl (by decide) (by decide) (by decide)) ?_
  refine WL_step rfl (R_load (v := ptr p2 0) Try.isAgg91 rfl (H.blockN hbs (by repeat' first | exact kNil | apply kCons | apply kApp | assumption | exact OwnS.keys (by assumption))) rfl) ?_
  refine WL_stepM rfl (R_as) ?_
  refine WL_stepM rfl (R_as) ?_
  refine WL_nil ?_
  refine W_seq ?_
  refine W_region_l ?_
  refine WL_stepM rfl (R_mv) ?_
  (refine WL_call rfl (R_call rfl Try.call49 rfl) (TabC.names_ret (H.blockN htp2 (by repeat' first | exact kNil | apply kCons | apply kApp | assumption | exact OwnS.keys (by assumption))) (H.blockN htb2 (by repeat' first | exact kNil | apply kCons | apply kApp | assumption | exact OwnS.keys (by assumption))) hsz2 (by decide) hgn2) ?_; rintro _ w283 ⟨M1, hO1, H1⟩; rw [hn2] at hO1; replace hO1 : OwnS _ 3 1 _ 1 _ M1 := hO1; have h283 := H.seqO hO1 H1; clear H H1 hO1; obtain ⟨hO1, H⟩ := h283; obtain ⟨nb, nc, nsp, rfl, hnb1, rfl, hnsp, hnc⟩ := OwnS.pos hO1 (by simp))
  refine WL_step rfl (R_len_slice Try.underlying59 rfl) ?_
  refine WL_stepM rfl (R_mv) ?_
  refine WL_nil ?_
  refine W_block ?_
  refine W_rounds 1 ?_
  refine W_seq ?_
  refine W_region_l ?_
  refine WL_step rfl (R_lt_t rfl rfl (by omega)) ?_
  refine WL_nil ?_
  refine W_seq ?_
  refine W_cond_t rfl ?_
  refine W_skip ?_
  refine W_seq ?_
  refine W_block ?_
  refine W_seq ?_
  refine W_region_l ?_
  refine WL_step rfl (R_indexAddr (off' := 0) Try.underlying59 Try.sizeOf3 rfl rfl (by decide) (by decide) (by decide)) ?_
  refine WL_step rfl (R_load (v := I (0 + 256 * newPl.g : Nat)) Try.isAgg3 rfl (H.get .here) rfl) ?_
  refine WL_stepM rfl (R_as) ?_
  refine WL_nil ?_
  refine W_seq ?_
  refine W_region_l ?_
  refine WL_stepM rfl (R_mv) ?_
  refine WL_stepM rfl (R_mv) ?_
  (refine WL_call rfl (R_call rfl Try.call48 rfl) (TabC.get_yes (i := 0) (a := ⟨cp o2 r2 l2 n2 1 (0 + 256 * newPl.g : Nat), newPl.g, true⟩) (H.blockN htp2 (by repeat' first | exact kNil | apply kCons | apply kApp | assumption | exact OwnS.keys (by assumption))) (H.blockN htb2 (by repeat' first | exact kNil | apply kCons | apply kApp | assumption | exact OwnS.keys (by assumption))) hsz2 (by decide) h2 (hgn2 _ (List.mem_of_getElem? h2)) rfl) ?_; rintro _ w307 ⟨rfl, H1⟩; replace H := H.seq0 H1; clear H1)
  refine WL_stepM rfl (R_mv) ?_
  refine WL_step rfl (R_extract rfl rfl) ?_
  refine WL_step rfl (R_extract rfl rfl) ?_
  (refine WL_effn rfl (E_allocK H) ?_; clear H; intro c16 w311 hc16 H)
  (refine WL_effu rfl (E_storeK H rfl rfl .here) ?_; clear H; intro w312 H)
  refine WL_stepM rfl (R_as) ?_
  refine WL_nil ?_
  refine W_seq ?_
  refine W_region_l ?_
  refine WL_stepM rfl (R_mv) ?_
  refine WL_stepM rfl (R_mv) ?_
  refine WL_step rfl (R_buildL (places := [(0, 1), (1, 1)]) (vs := [I 2, I (0 + 256 * newPl.g : Nat)]) Try.underlying36 Try.typeInfo36 rfl rfl (by kernel_rfl) rfl rfl rfl) ?_
  (refine WL_effn rfl (E_alloc (vs := [I 0, I 0]) H Try.zeroValue36 rfl) ?_; clear H; intro c18 w320 hc18 H)
  (refine WL_effu rfl (E_storeA (vs := [I 2, I (0 + 256 * newPl.g : Nat)]) H Try.sizeOf36 rfl rfl (by simp [Value.oneCell']) .here (by simp)) ?_; clear H; intro w321 H)
  refine WL_nil ?_
  refine W_seq ?_
  refine W_region_l ?_
  refine WL_stepM rfl (R_mv) ?_
  refine WL_step rfl (R_loadA (vs := [I 2, I (0 + 256 * newPl.g : Nat)]) Try.isAgg36 Try.sizeOf36 rfl (H.get .here) rfl (by simp)) ?_
  refine WL_step rfl (R_lookup_no (r := ((2 : Int), ((0 + 256 * newPl.g : Nat) : Int))) (H.held (mp, .map es cl) (by simp)) hm rfl rfl (by simp)) ?_
  refine WL_step rfl (R_eq_t rfl rfl (by omega)) ?_
  refine WL_stepM rfl (R_mv) ?_
  refine WL_guard_t rfl rfl ?_
  refine WL_stepM rfl (R_mv) ?_
  refine WL_guard_t rfl rfl ?_
  refine WL_step rfl (R_fieldAddr (off' := 4) Try.underlying38 rfl Try.sizeOf36 (by decide) rfl rfl) ?_
  refine WL_guard_t rfl rfl ?_
  refine WL_step rfl (R_loadA (vs := [I 1, I (0 + 256 * newPl.g : Nat)]) Try.isAgg36 Try.sizeOf36 rfl (H.get (.there .here)) rfl (by simp [cp])) ?_
  refine WL_guard_t rfl rfl ?_
  refine WL_step rfl (R_lookup_yes (r := ((1 : Int), ((0 + 256 * newPl.g : Nat) : Int))) (H.held (mp, .map es cl) (by simp)) hm rfl rfl (by simp)) ?_
  refine WL_guard_t rfl rfl ?_
  refine WL_step rfl (R_gt_t rfl rfl (by omega)) ?_
  refine WL_stepM rfl (R_pk_t rfl) ?_
  refine WL_nil ?_
  refine W_cond_t rfl ?_
  refine W_region_l ?_
  refine WL_stepM rfl (R_mv) ?_
  refine WL_step rfl (R_loadA (vs := [I 2, I (0 + 256 * newPl.g : Nat)]) Try.isAgg36 Try.sizeOf36 rfl (H.get .here) rfl (by simp)) ?_
  (refine WL_effu rfl (E_mapUpdate (l := [((0 : Int), ((0 + 256 * newPl.g : Nat) : Int)), ((1 : Int), ((0 + 256 * newPl.g : Nat) : Int))]) (r := ((2 : Int), ((0 + 256 * newPl.g : Nat) : Int))) H (by repeat (first | exact At.here | apply At.there)) hm rfl rfl rfl (by simp)) ?_; clear H; intro w346 H; obtain ⟨es, cl, hm, H⟩ : ∃ es cl, MapIs es [((0 : Int), ((0 + 256 * newPl.g : Nat) : Int)), ((1 : Int), ((0 + 256 * newPl.g : Nat) : Int)), ((2 : Int), ((0 + 256 * newPl.g : Nat) : Int))] ∧ Hp w [(mp, .map es cl)] w346 := ⟨_, _, hm.push _ _, Hp.dropK H (by repeat (first | exact List.Sublist.refl _ | apply List.Sublist.cons)) (by repeat' first | exact kNil | apply kCons | apply kApp | assumption | exact OwnS.keys (by assumption))⟩)
  refine WL_stepM rfl (R_as) ?_
  refine WL_nil ?_
  ((replace H : Hp w [(mp, .map es cl)] _ := Hp.dropK H (by repeat (first | exact List.Sublist.refl _ | apply List.Sublist.cons)) (by repeat' first | exact kNil | apply kCons | apply kApp | assumption | exact OwnS.keys (by assumption)))) <;> refine W_region_l ?_
  refine WL_step rfl (R_add (r := 1) rfl rfl (by decide)) ?_
  refine WL_stepM rfl (R_mv) ?_
  refine WL_nil ?_
  refine Rn_succ ?_
  refine W_seq ?_
  refine W_region_l ?_
  refine WL_step rfl (R_lt_f rfl rfl (by omega)) ?_
  refine WL_nil ?_
  refine W_seq ?_
  refine W_cond_f rfl ?_
  refine W_exit ?_
  refine (if_pos rfl).mpr ?_
  refine W_region_l ?_
  refine WL_step rfl (R_add (r := 3) rfl rfl (by decide)) ?_
  refine WL_stepM rfl (R_mv) ?_
  refine WL_nil ?_
  refine Rn_succ ?_
  refine W_seq ?_
  refine W_region_l ?_
  refine WL_step rfl (R_lt_f rfl rfl (by omega)) ?_
  refine WL_nil ?_
  refine W_seq ?_
  refine W_cond_f rfl ?_
  refine W_exit ?_
  refine (if_pos rfl).mpr ?_
  refine Rn_succ ?_
  refine W_seq ?_
  refine W_seq ?_
  refine W_region_l ?_
  refine WL_stepM rfl (R_mv) ?_
  refine WL_nil ?_
  refine W_cond_t rfl ?_
  refine W_skip ?_
  refine W_block ?_
  refine W_seq ?_
  refine W_region_l ?_
  refine WL_stepM rfl (R_as) ?_
  refine WL_nil ?_
  refine W_seq ?_
  refine W_region_l ?_
  refine WL_stepM rfl (R_mv) ?_
  refine WL_step rfl (R_nilCheck rfl) ?_
  refine WL_step rfl (R_fieldAddr (off' := 0) Try.underlying90 rfl Try.sizeOf88 (by decide) rfl rfl) ?_
  refine WL_step rfl (R_load (v := sl bs 0 3 cap) Try.isAgg88 rfl (H.blockN hs (by repeat' first | exact kNil | apply kCons | apply kApp | assumption | exact OwnS.keys (by assumption))) rfl) ?_
  refine WL_step rfl (R_len_slice Try.underlying88 rfl) ?_
  refine WL_stepM rfl (R_mv) ?_
  refine WL_nil ?_
  refine W_block ?_
  refine W_rounds 3 ?_
  refine W_seq ?_
  refine W_region_l ?_
  refine WL_step rfl (R_lt_t rfl rfl (by omega)) ?_
  refine WL_nil ?_
  refine W_seq ?_
  refine W_cond_t rfl ?_
  refine W_skip ?_
  refine W_seq ?_
  refine W_block ?_
  refine W_seq ?_
  refine W_region_l ?_
  refine WL_stepM rfl (R_mv) ?_
  refine WL_step rfl (R_indexAddr (off' := 0) Try.underlying88 Try.sizeOf91 rfl rfl (by decide) (by decide) (by decide)) ?_
  refine WL_step rfl (R_load (v := ptr p0 0) Try.isAgg91 rfl (H.blockN hbs (by repeat' first | exact kNil | apply kCons | apply kApp | assumption | exact OwnS.keys (by assumption))) rfl) ?_
  refine WL_stepM rfl (R_as) ?_
  refine WL_stepM rfl (R_as) ?_
  refine WL_nil ?_
  refine W_seq ?_
  refine W_region_l ?_
  refine WL_stepM rfl (R_mv) ?_
  (refine WL_call rfl (R_call rfl Try.call49 rfl) (TabC.names_ret (H.blockN htp0 (by repeat' first | exact kNil | apply kCons | apply kApp | assumption | exact OwnS.keys (by assumption))) (H.blockN htb0 (by repeat' first | exact kNil | apply kCons | apply kApp | assumption | exact OwnS.keys (by assumption))) hsz0 (by decide) hgn0) ?_; rintro _ w418 ⟨M1, hO1, H1⟩; rw [hn0] at hO1; replace hO1 : OwnS _ 3 1 _ 1 _ M1 := hO1; have h418 := H.seqO hO1 H1; clear H H1 hO1; obtain ⟨hO1, H⟩ := h418; obtain ⟨nb, nc, nsp, rfl, hnb1, rfl, hnsp, hnc⟩ := OwnS.pos hO1 (by simp))
  refine WL_step rfl (R_len_slice Try.underlying59 rfl) ?_
  refine WL_stepM rfl (R_mv) ?_
  refine WL_nil ?_
  refine W_block ?_
  refine W_rounds 1 ?_
  refine W_seq ?_
  refine W_region_l ?_
  refine WL_step rfl (R_lt_t rfl rfl (by omega)) ?_
  refine WL_nil ?_
  refine W_seq ?_
  refine W_cond_t rfl ?_
  refine W_skip ?_
  refine W_seq ?_
  refine W_block ?_
  refine W_seq ?_
  refine W_region_l ?_
  refine WL_step rfl (R_indexAddr (off' := 0) Try.underlying59 Try.sizeOf3 rfl rfl (by decide) (by decide) (by decide)) ?_
  refine WL_step rfl (R_load (v := I (0 + 256 * newPl.g : Nat)) Try.isAgg3 rfl (H.get .here) rfl) ?_
  refine WL_stepM rfl (R_as) ?_
  refine WL_nil ?_
  refine W_seq ?_
  refine W_region_l ?_
  refine WL_stepM rfl (R_mv) ?_
  refine WL_stepM rfl (R_mv) ?_
  (refine WL_call rfl (R_call rfl Try.call48 rfl) (TabC.get_yes (i := 0) (a := ⟨cp o0 r0 l0 n0 0 0, newPl.g, true⟩) (H.blockN htp0 (by repeat' first | exact kNil | apply kCons | apply kApp | assumption | exact OwnS.keys (by assumption))) (H.blockN htb0 (by repeat' first | exact kNil | apply kCons | apply kApp | assumption | exact OwnS.keys (by assumption))) hsz0 (by decide) h0 (hgn0 _ (List.mem_of_getElem? h0)) rfl) ?_; rintro _ w442 ⟨rfl, H1⟩; replace H := H.seq0 H1; clear H1)
  refine WL_stepM rfl (R_mv) ?_
  refine WL_step rfl (R_extract rfl rfl) ?_
  refine WL_step rfl (R_extract rfl rfl) ?_
  (refine WL_effn rfl (E_allocK H) ?_; clear H; intro c16 w446 hc16 H)
  (refine WL_effu rfl (E_storeK H rfl rfl .here) ?_; clear H; intro w447 H)
  refine WL_stepM rfl (R_as) ?_
  refine WL_nil ?_
  refine W_seq ?_
  refine W_region_l ?_
  refine WL_stepM rfl (R_mv) ?_
  refine WL_stepM rfl (R_mv) ?_
  refine WL_step rfl (R_buildL (places := [(0, 1), (1, 1)]) (vs := [I 0, I (0 + 256 * newPl.g : Nat)]) Try.underlying36 Try.typeInfo36 rfl rfl (by kernel_rfl) rfl rfl rfl) ?_
  (refine WL_effn rfl (E_alloc (vs := [I 0, I 0]) H Try.zeroValue36 rfl) ?_; clear H; intro c18 w455 hc18 H)
  (refine WL_effu rfl (E_storeA (vs := [I 0, I (0 + 256 * newPl.g : Nat)]) H Try.sizeOf36 rfl rfl (by simp [Value.oneCell']) .here (by simp)) ?_; clear H; intro w456 H)
  refine WL_nil ?_
  refine W_seq ?_
  refine W_region_l ?_
  refine WL_stepM rfl (R_mv) ?_
  refine WL_step rfl (R_loadA (vs := [I 0, I (0 + 256 * newPl.g : Nat)]) Try.isAgg36 Try.sizeOf36 rfl (H.get .here) rfl (by simp)) ?_
  refine WL_step rfl (R_lookup_yes (r := ((0 : Int), ((0 + 256 * newPl.g : Nat) : Int))) (H.held (mp, .map es cl) (by simp)) hm rfl rfl (by simp)) ?_
  refine WL_step rfl (R_eq_f rfl rfl (by omega)) ?_
  refine WL_stepM rfl (R_mv) ?_
  refine WL_guard_f rfl rfl (by decide) ?_
  refine WL_guard_f rfl rfl (by decide) ?_
  refine WL_guard_f rfl rfl (by decide) ?_
  refine WL_guard_f rfl rfl (by decide) ?_
  refine WL_guard_f rfl rfl (by decide) ?_
  refine WL_stepM rfl (R_pk_f rfl) ?_
  refine WL_nil ?_
  refine W_cond_f rfl ?_
  refine W_skip ?_
  ((replace H : Hp w [(mp, .map es cl)] _ := Hp.dropK H (by repeat (first | exact List.Sublist.refl _ | apply List.Sublist.cons)) (by repeat' first | exact kNil | apply kCons | apply kApp | assumption | exact OwnS.keys (by assumption)))) <;> refine W_region_l ?_
  refine WL_step rfl (R_add (r := 1) rfl rfl (by decide)) ?_
  refine WL_stepM rfl (R_mv) ?_
  refine WL_nil ?_
  refine Rn_succ ?_
  refine W_seq ?_
  refine W_region_l ?_
  refine WL_step rfl (R_lt_f rfl rfl (by omega)) ?_
  refine WL_nil ?_
  refine W_seq ?_
  refine W_cond_f rfl ?_
  refine W_exit ?_
  refine (if_pos rfl).mpr ?_
  refine W_region_l ?_
  refine WL_step rfl (R_add (r := 1) rfl rfl (by decide)) ?_
  refine WL_stepM rfl (R_mv) ?_
  refine WL_nil ?_
  refine Rn_succ ?_
  refine W_seq ?_
  refine W_region_l ?_
  refine WL_step rfl (R_lt_t rfl rfl (by omega)) ?_
  refine WL_nil ?_
  refine W_seq ?_
  refine W_cond_t rfl ?_
  refine W_skip ?_
  refine W_seq ?_
  refine W_block ?_
  refine W_seq ?_
  refine W_region_l ?_
  refine WL_stepM rfl (R_mv) ?_
  refine WL_step rfl (R_indexAddr (off' := 1) Try.underlying88 Try.sizeOf91 rfl rfl (by decide) (by decide) (by decide)) ?_
  refine WL_step rfl (R_load (v := ptr p1 0) Try.isAgg91 rfl (H.blockN hbs (by repeat' first | exact kNil | apply kCons | apply kApp | assumption | exact OwnS.keys (by assumption))) rfl) ?_
  refine WL_stepM rfl (R_as) ?_
  refine WL_stepM rfl (R_as) ?_
  refine WL_nil ?_
  refine W_seq ?_
  refine W_region_l ?_
  refine WL_stepM rfl (R_mv) ?_
  (refine WL_call rfl (R_call rfl Try.call49 rfl) (TabC.names_ret (H.blockN htp1 (by repeat' first | exact kNil | apply kCons | apply kApp | assumption | exact OwnS.keys (by assumption))) (H.blockN htb1 (by repeat' first | exact kNil | apply kCons | apply kApp | assumption | exact OwnS.keys (by assumption))) hsz1 (by decide) hgn1) ?_; rintro _ w512 ⟨M1, hO1, H1⟩; rw [hn1] at hO1; replace hO1 : OwnS _ 3 1 _ 1 _ M1 := hO1; have h512 := H.seqO hO1 H1; clear H H1 hO1; obtain ⟨hO1, H⟩ := h512; obtain ⟨nb, nc, nsp, rfl, hnb1, rfl, hnsp, hnc⟩ := OwnS.pos hO1 (by simp))
  refine WL_step rfl (R_len_slice Try.underlying59 rfl) ?_
  refine WL_stepM rfl (R_mv) ?_
  refine WL_nil ?_
  refine W_block ?_
  refine W_rounds 1 ?_
  refine W_seq ?_
  refine W_region_l ?_
  refine WL_step rfl (R_lt_t rfl rfl (by omega)) ?_
  refine WL_nil ?_
  refine W_seq ?_
  refine W_cond_t rfl ?_
  refine W_skip ?_
  refine W_seq ?_
  refine W_block ?_
  refine W_seq ?_
  refine W_region_l ?_
  refine WL_step rfl (R_indexAddr (off' := 0) Try.underlying59 Try.sizeOf3 rfl rfl (by decide) (by decide) (by decide)) ?_
  refine WL_step rfl (R_load (v := I (0 + 256 * newPl.g : Nat)) Try.isAgg3 rfl (H.get .here) rfl) ?_
  refine WL_stepM rfl (R_as) ?_
  refine WL_nil ?_
  refine W_seq ?_
  refine W_region_l ?_
  refine WL_stepM rfl (R_mv) ?_
  refine WL_stepM rfl (R_mv) ?_
  (refine WL_call rfl (R_call rfl Try.call48 rfl) (TabC.get_yes (i := 0) (a := ⟨cp o1 r1 l1 n1 0 (0 + 256 * newPl.g : Nat), newPl.g, true⟩) (H.blockN htp1 (by repeat' first | exact kNil | apply kCons | apply kApp | assumption | exact OwnS.keys (by assumption))) (H.blockN htb1 (by repeat' first | exact kNil | apply kCons | apply kApp | assumption | exact OwnS.keys (by assumption))) hsz1 (by decide) h1 (hgn1 _ (List.mem_of_getElem? h1)) rfl) ?_; rintro _ w536 ⟨rfl, H1⟩; replace H := H.seq0 H1; clear H1)
  refine WL_stepM rfl (R_mv) ?_
  refine WL_step rfl (R_extract rfl rfl) ?_
  refine WL_step rfl (R_extract rfl rfl) ?_
  (refine WL_effn rfl (E_allocK H) ?_; clear H; intro c16 w540 hc16 H)
  (refine WL_effu rfl (E_storeK H rfl rfl .here) ?_; clear H; intro w541 H)
  refine WL_stepM rfl (R_as) ?_
  refine WL_nil ?_
  refine W_seq ?_
  refine W_region_l ?_
  refine WL_stepM rfl (R_mv) ?_
  refine WL_stepM rfl (R_mv) ?_
  refine WL_step rfl (R_buildL (places := [(0, 1), (1, 1)]) (vs := [I 1, I (0 + 256 * newPl.g : Nat)]) Try.underlying36 Try.typeInfo36 rfl rfl (by kernel_rfl) rfl rfl rfl) ?_
  (refine WL_effn rfl (E_alloc (vs := [I 0, I 0]) H Try.zeroValue36 rfl) ?_; clear H; intro c18 w549 hc18 H)
  (refine WL_effu rfl (E_storeA (vs := [I 1, I (0 + 256 * newPl.g : Nat)]) H Try.sizeOf36 rfl rfl (by simp [Value.oneCell']) .here (by simp)) ?_; clear H; intro w550 H)
  refine WL_nil ?_
  refine W_seq ?_
  refine W_region_l ?_
  refine WL_stepM rfl (R_mv) ?_
  refine WL_step rfl (R_loadA (vs := [I 1, I (0 + 256 * newPl.g : Nat)]) Try.isAgg36 Try.sizeOf36 rfl (H.get .here) rfl (by simp)) ?_
  refine WL_step rfl (R_lookup_yes (r := ((1 : Int), ((0 + 256 * newPl.g : Nat) : Int))) (H.held (mp, .map es cl) (by simp)) hm rfl rfl (by simp)) ?_
  refine WL_step rfl (R_eq_f rfl rfl (by omega)) ?_
  refine WL_stepM rfl (R_mv) ?_
  refine WL_guard_f rfl rfl (by decide) ?_
  refine WL_guard_f rfl rfl (by decide) ?_
  refine WL_guard_f rfl rfl (by decide) ?_
  refine WL_guard_f rfl rfl (by decide) ?_
  refine WL_guard_f rfl rfl (by decide) ?_
  refine WL_stepM rfl (R_pk_f rfl) ?_
  refine WL_nil ?_
  refine W_cond_f rfl ?_
  refine W_skip ?_
  ((replace H : Hp w [(mp, .map es cl)] _ := Hp.dropK H (by repeat (first | exact List.Sublist.refl _ | apply List.Sublist.cons)) (by repeat' first | exact kNil | apply kCons | apply kApp | assumption | exact OwnS.keys (by assumption)))) <;> refine W_region_l ?_
  refine WL_step rfl (R_add (r := 1) rfl rfl (by decide)) ?_
  refine WL_stepM rfl (R_mv) ?_
  refine WL_nil ?_
  refine Rn_succ ?_
  refine W_seq ?_
  refine W_region_l ?_
  refine WL_step rfl (R_lt_f rfl rfl (by omega)) ?_
  refine WL_nil ?_
  refine W_seq ?_
  refine W_cond_f rfl ?_
  refine W_exit ?_
  refine (if_pos rfl).mpr ?_
  refine W_region_l ?_
  refine WL_step rfl (R_add (r := 2) rfl rfl (by decide)) ?_
  refine WL_stepM rfl (R_mv) ?_
  refine WL_nil ?_
  refine Rn_succ ?_
  refine W_seq ?_
  refine W_region_l ?_
  refine WL_step rfl (R_lt_t rfl rfl (by omega)) ?_
  refine WL_nil ?_
  refine W_seq ?_
  refine W_cond_t rfl ?_
  refine W_skip ?_
  refine W_seq ?_
  refine W_block ?_
  refine W_seq ?_
  refine W_region_l ?_
  refine WL_stepM rfl (R_mv) ?_
  refine WL_step rfl (R_indexAddr (off' := 2) Try.underlying88 Try.sizeOf91 rfl rfl (by decide) (by decide) (by decide)) ?_
  refine WL_step rfl (R_load (v := ptr p2 0) Try.isAgg91 rfl (H.blockN hbs (by repeat' first | exact kNil | apply kCons | apply kApp | assumption | exact OwnS.keys (by assumption))) rfl) ?_
  refine WL_stepM rfl (R_as) ?_
  refine WL_stepM rfl (R_as) ?_
  refine WL_nil ?_
  refine W_seq ?_
  refine W_region_l ?_
  refine WL_stepM rfl (R_mv) ?_
  (refine WL_call rfl (R_call rfl Try.call49 rfl) (TabC.names_ret (H.blockN htp2 (by repeat' first | exact kNil | apply kCons | apply kApp | assumption | exact OwnS.keys (by assumption))) (H.blockN htb2 (by repeat' first | exact kNil | apply kCons | apply kApp | assumption | exact OwnS.keys (by assumption))) hsz2 (by decide) hgn2) ?_; rintro _ w606 ⟨M1, hO1, H1⟩; rw [hn2] at hO1; replace hO1 : OwnS _ 3 1 _ 1 _ M1 := hO1; have h606 := H.seqO hO1 H1; clear H H1 hO1; obtain ⟨hO1, H⟩ := h606; obtain ⟨nb, nc, nsp, rfl, hnb1, rfl, hnsp, hnc⟩ := OwnS.pos hO1 (by simp))
  refine WL_step rfl (R_len_slice Try.underlying59 rfl) ?_
  refine WL_stepM rfl (R_mv) ?_
  refine WL_nil ?_
  refine W_block ?_
  refine W_rounds 1 ?_
  refine W_seq ?_
  refine W_region_l ?_
  refine WL_step rfl (R_lt_t rfl rfl (by omega)) ?_
  refine WL_nil ?_
  refine W_seq ?_
  refine W_cond_t rfl ?_
  refine W_skip ?_
  refine W_seq ?_
  refine W_block ?_
  refine W_seq ?_
  refine W_region_l ?_
  refine WL_step rfl (R_indexAddr (off' := 0) Try.underlying59 Try.sizeOf3 rfl rfl (by decide) (by decide) (by decide)) ?_
  refine WL_step rfl (R_load (v := I (0 + 256 * newPl.g : Nat)) Try.isAgg3 rfl (H.get .here) rfl) ?_
  refine WL_stepM rfl (R_as) ?_
  refine WL_nil ?_
  refine W_seq ?_
  refine W_region_l ?_
  refine WL_stepM rfl (R_mv) ?_
  refine WL_stepM rfl (R_mv) ?_
  (refine WL_call rfl (R_call rfl Try.call48 rfl) (TabC.get_yes (i := 0) (a := ⟨cp o2 r2 l2 n2 1 (0 + 256 * newPl.g : Nat), newPl.g, true⟩) (H.blockN htp2 (by repeat' first | exact kNil | apply kCons | apply kApp | assumption | exact OwnS.keys (by assumption))) (H.blockN htb2 (by repeat' first | exact kNil | apply kCons | apply kApp | assumption | exact OwnS.keys (by assumption))) hsz2 (by decide) h2 (hgn2 _ (List.mem_of_getElem? h2)) rfl) ?_; rintro _ w630 ⟨rfl, H1⟩; replace H := H.seq0 H1; clear H1)
  refine WL_stepM rfl (R_mv) ?_
  refine WL_step rfl (R_extract rfl rfl) ?_
  refine WL_step rfl (R_extract rfl rfl) ?_
  (refine WL_effn rfl (E_allocK H) ?_; clear H; intro c16 w634 hc16 H)
  (refine WL_effu rfl (E_storeK H rfl rfl .here) ?_; clear H; intro w635 H)
  refine WL_stepM rfl (R_as) ?_
  refine WL_nil ?_
  refine W_seq ?_
  refine W_region_l ?_
  refine WL_stepM rfl (R_mv) ?_
  refine WL_stepM rfl (R_mv) ?_
  refine WL_step rfl (R_buildL (places := [(0, 1), (1, 1)]) (vs := [I 2, I (0 + 256 * newPl.g : Nat)]) Try.underlying36 Try.typeInfo36 rfl rfl (by kernel_rfl) rfl rfl rfl) ?_
  (refine WL_effn rfl (E_alloc (vs := [I 0, I 0]) H Try.zeroValue36 rfl) ?_; clear H; intro c18 w643 hc18 H)
  (refine WL_effu rfl (E_storeA (vs := [I 2, I (0 + 256 * newPl.g : Nat)]) H Try.sizeOf36 rfl rfl (by simp [Value.oneCell']) .here (by simp)) ?_; clear H; intro w644 H)
  refine WL_nil ?_
  refine W_seq ?_
  refine W_region_l ?_
  refine WL_stepM rfl (R_mv) ?_
  refine WL_step rfl (R_loadA (vs := [I 2, I (0 + 256 * newPl.g : Nat)]) Try.isAgg36 Try.sizeOf36 rfl (H.get .here) rfl (by simp)) ?_
  refine WL_step rfl (R_lookup_yes (r := ((2 : Int), ((0 + 256 * newPl.g : Nat) : Int))) (H.held (mp, .map es cl) (by simp)) hm rfl rfl (by simp)) ?_
  refine WL_step rfl (R_eq_f rfl rfl (by omega)) ?_
  refine WL_stepM rfl (R_mv) ?_
  refine WL_guard_f rfl rfl (by decide) ?_
  refine WL_guard_f rfl rfl (by decide) ?_
  refine WL_guard_f rfl rfl (by decide) ?_
  refine WL_guard_f rfl rfl (by decide) ?_
  refine WL_guard_f rfl rfl (by decide) ?_
  refine WL_stepM rfl (R_pk_f rfl) ?_
  refine WL_nil ?_
  refine W_cond_f rfl ?_
  refine W_skip ?_
  ((replace H : Hp w [(mp, .map es cl)] _ := Hp.dropK H (by repeat (first | exact List.Sublist.refl _ | apply List.Sublist.cons)) (by repeat' first | exact kNil | apply kCons | apply kApp | assumption | exact OwnS.keys (by assumption)))) <;> refine W_region_l ?_
  refine WL_step rfl (R_add (r := 1) rfl rfl (by decide)) ?_
  refine WL_stepM rfl (R_mv) ?_
  refine WL_nil ?_
  refine Rn_succ ?_
  refine W_seq ?_
  refine W_region_l ?_
  refine WL_step rfl (R_lt_f rfl rfl (by omega)) ?_
  refine WL_nil ?_
  refine W_seq ?_
  refine W_cond_f rfl ?_
  refine W_exit ?_
  refine (if_pos rfl).mpr ?_
  refine W_region_l ?_
  refine WL_step rfl (R_add (r := 3) rfl rfl (by decide)) ?_
  refine WL_stepM rfl (R_mv) ?_
  refine WL_nil ?_
  refine Rn_succ ?_
  refine W_seq ?_
  refine W_region_l ?_
  refine WL_step rfl (R_lt_f rfl rfl (by omega)) ?_
  refine WL_nil ?_
  refine W_seq ?_
  refine W_cond_f rfl ?_
  refine W_exit ?_
  refine (if_pos rfl).mpr ?_
  refine Rn_succ ?_
  refine W_seq ?_
  refine W_seq ?_
  refine W_region_l ?_
  refine WL_stepM rfl (R_mv) ?_
  refine WL_nil ?_
  refine W_cond_f rfl ?_
  refine W_exit ?_
  refine (if_pos rfl).mpr ?_
  refine W_seq ?_
  refine W_region_l ?_
  refine WL_stepM rfl (R_as) ?_
  refine WL_nil ?_
  refine W_seq ?_
  refine W_seq ?_
  refine W_region_l ?_
  refine WL_stepM rfl (R_mv) ?_
  refine WL_step rfl (R_nilCheck rfl) ?_
  refine WL_step rfl (R_fieldAddr (off' := 0) Try.underlying90 rfl Try.sizeOf88 (by decide) rfl rfl) ?_
  refine WL_step rfl (R_load (v := sl bs 0 3 cap) Try.isAgg88 rfl (H.blockN hs (by repeat' first | exact kNil | apply kCons | apply kApp | assumption | exact OwnS.keys (by assumption))) rfl) ?_
  refine WL_step rfl (R_len_slice Try.underlying88 rfl) ?_
  refine WL_stepM rfl (R_mv) ?_
  refine WL_nil ?_
  refine W_block ?_
  refine W_rounds 3 ?_
  refine W_seq ?_
  refine W_region_l ?_
  refine WL_step rfl (R_lt_t rfl rfl (by omega)) ?_
  refine WL_nil ?_
  refine W_seq ?_
  refine W_cond_t rfl ?_
  refine W_skip ?_
  refine W_seq ?_
  refine W_block ?_
  refine W_seq ?_
  refine W_region_l ?_
  refine WL_stepM rfl (R_mv) ?_
  refine WL_step rfl (R_indexAddr (off' := 0) Try.underlying88 Try.sizeOf91 rfl rfl (by decide) (by decide) (by decide)) ?_
  refine WL_step rfl (R_load (v := ptr p0 0) Try.isAgg91 rfl (H.blockN hbs (by repeat' first | exact kNil | apply kCons | apply kApp | assumption | exact OwnS.keys (by assumption))) rfl) ?_
  refine WL_stepM rfl (R_as) ?_
  refine WL_stepM rfl (R_as) ?_
  refine WL_nil ?_
  refine W_seq ?_
  refine W_region_l ?_
  refine WL_stepM rfl (R_mv) ?_
  (refine WL_call rfl (R_call rfl Try.call49 rfl) (TabC.names_ret (H.blockN htp0 (by repeat' first | exact kNil | apply kCons | apply kApp | assumption | exact OwnS.keys (by assumption))) (H.blockN htb0 (by repeat' first | exact kNil | apply kCons | apply kApp | assumption | exact OwnS.keys (by assumption))) hsz0 (by decide) hgn0) ?_; rintro _ w732 ⟨M1, hO1, H1⟩; rw [hn0] at hO1; replace hO1 : OwnS _ 3 1 _ 1 _ M1 := hO1; have h732 := H.seqO hO1 H1; clear H H1 hO1; obtain ⟨hO1, H⟩ := h732; obtain ⟨nb, nc, nsp, rfl, hnb1, rfl, hnsp, hnc⟩ := OwnS.pos hO1 (by simp))
  refine WL_step rfl (R_len_slice Try.underlying59 rfl) ?_
  refine WL_stepM rfl (R_mv) ?_
  refine WL_nil ?_
  refine W_block ?_
  refine W_rounds 1 ?_
  refine W_seq ?_
  refine W_region_l ?_
  refine WL_step rfl (R_lt_t rfl rfl (by omega)) ?_
  refine WL_nil ?_
  refine W_seq ?_
  refine W_cond_t rfl ?_
  refine W_skip ?_
  refine W_seq ?_
  refine W_block ?_
  refine W_seq ?_
  refine W_region_l ?_
  refine WL_step rfl (R_indexAddr (off' := 0) Try.underlying59 Try.sizeOf3 rfl rfl (by decide) (by decide) (by decide)) ?_
  refine WL_step rfl (R_load (v := I (0 + 256 * newPl.g : Nat)) Try.isAgg3 rfl (H.get .here) rfl) ?_
  refine WL_stepM rfl (R_as) ?_
  refine WL_nil ?_
  refine W_seq ?_
  refine W_region_l ?_
  refine WL_stepM rfl (R_mv) ?_
  refine WL_stepM rfl (R_mv) ?_
  refine WL_step rfl (R_buildL (places := [(0, 1), (1, 1)]) (vs := [I 0, I (0 + 256 * newPl.g : Nat)]) Try.underlying36 Try.typeInfo36 rfl rfl (by kernel_rfl) rfl rfl rfl) ?_
  (refine WL_effn rfl (E_alloc (vs := [I 0, I 0]) H Try.zeroValue36 rfl) ?_; clear H; intro c24 w757 hc24 H)
  (refine WL_effu rfl (E_storeA (vs := [I 0, I (0 + 256 * newPl.g : Nat)]) H Try.sizeOf36 rfl rfl (by simp [Value.oneCell']) .here (by simp)) ?_; clear H; intro w758 H)
  refine WL_nil ?_
  refine W_seq ?_
  refine W_region_l ?_
  refine WL_stepM rfl (R_mv) ?_
  refine WL_step rfl (R_loadA (vs := [I 0, I (0 + 256 * newPl.g : Nat)]) Try.isAgg36 Try.sizeOf36 rfl (H.get .here) rfl (by simp)) ?_
  refine WL_step rfl (R_lookup_yes (r := ((0 : Int), ((0 + 256 * newPl.g : Nat) : Int))) (H.held (mp, .map es cl) (by simp)) hm rfl rfl (by simp)) ?_
  refine WL_step rfl (R_gt_t rfl rfl (by omega)) ?_
  refine WL_stepM rfl (R_mv) ?_
  refine WL_guard_t rfl rfl ?_
  refine WL_stepM rfl (R_mv) ?_
  refine WL_guard_t rfl rfl ?_
  refine WL_stepM rfl (R_mv) ?_
  refine WL_guard_t rfl rfl ?_
  refine WL_step rfl (R_ne_f rfl rfl (by omega)) ?_
  refine WL_guard_t rfl rfl ?_
  refine WL_stepM rfl (R_mv) ?_
  refine WL_guard_t rfl rfl ?_
  refine WL_stepM rfl (R_mv) ?_
  refine WL_guard_t rfl rfl ?_
  refine WL_stepM rfl (R_mv) ?_
  refine WL_guard_t rfl rfl ?_
  refine WL_step rfl (R_ne_f rfl rfl (by omega)) ?_
  refine WL_guard_t rfl rfl ?_
  refine WL_stepM rfl (R_pk_f rfl) ?_
  refine WL_stepM rfl (R_pk_t rfl) ?_
  refine WL_nil ?_
  refine W_cond_f rfl ?_
  refine W_skip ?_
  ((replace H : Hp w [(mp, .map es cl)] _ := Hp.dropK H (by repeat (first | exact List.Sublist.refl _ | apply List.Sublist.cons)) (by repeat' first | exact kNil | apply kCons | apply kApp | assumption | exact OwnS.keys (by assumption)))) <;> refine W_region_l ?_
  refine WL_step rfl (R_add (r := 1) rfl rfl (by decide)) ?_
  refine WL_stepM rfl (R_mv) ?_
  refine WL_nil ?_
  refine Rn_succ ?_
  refine W_seq ?_
  refine W_region_l ?_
  refine WL_step rfl (R_lt_f rfl rfl (by omega)) ?_
  refine WL_nil ?_
  refine W_seq ?_
  refine W_cond_f rfl ?_
  refine W_exit ?_
  refine (if_pos rfl).mpr ?_
  refine W_region_l ?_
  refine WL_step rfl (R_add (r := 1) rfl rfl (by decide)) ?_
  refine WL_stepM rfl (R_mv) ?_
  refine WL_nil ?_
  refine Rn_succ ?_
  refine W_seq ?_
  refine W_region_l ?_
  refine WL_step rfl (R_lt_t rfl rfl (by omega)) ?_
  refine WL_nil ?_
  refine W_seq ?_
  refine W_cond_t rfl ?_
  refine W_skip ?_
  refine W_seq ?_
  refine W_block ?_
  refine W_seq ?_
  refine W_region_l ?_
  refine WL_stepM rfl (R_mv) ?_
  refine WL_step rfl (R_indexAddr (off' := 1) Try.underlying88 Try.sizeOf91 rfl rfl (by decide) (by decide) (by decide)) ?_
  refine WL_step rfl (R_load (v := ptr p1 0) Try.isAgg91 rfl (H.blockN hbs (by repeat' first | exact kNil | apply kCons | apply kApp | assumption | exact OwnS.keys (by assumption))) rfl) ?_
  refine WL_stepM rfl (R_as) ?_
  refine WL_stepM rfl (R_as) ?_
  refine WL_nil ?_
  refine W_seq ?_
  refine W_region_l ?_
  refine WL_stepM rfl (R_mv) ?_
  (refine WL_call rfl (R_call rfl Try.call49 rfl) (TabC.names_ret (H.blockN htp1 (by repeat' first | exact kNil | apply kCons | apply kApp | assumption | exact OwnS.keys (by assumption))) (H.blockN htb1 (by repeat' first | exact kNil | apply kCons | apply kApp | assumption | exact OwnS.keys (by assumption))) hsz1 (by decide) hgn1) ?_; rintro _ w825 ⟨M1, hO1, H1⟩; rw [hn1] at hO1; replace hO1 : OwnS _ 3 1 _ 1 _ M1 := hO1; have h825 := H.seqO hO1 H1; clear H H1 hO1; obtain ⟨hO1, H⟩ := h825; obtain ⟨nb, nc, nsp, rfl, hnb1, rfl, hnsp, hnc⟩ := OwnS.pos hO1 (by simp))
  refine WL_step rfl (R_len_slice Try.underlying59 rfl) ?_
  refine WL_stepM rfl (R_mv) ?_
  refine WL_nil ?_
  refine W_block ?_
  refine W_rounds 1 ?_
  refine W_seq ?_
  refine W_region_l ?_
  refine WL_step rfl (R_lt_t rfl rfl (by omega)) ?_
  refine WL_nil ?_
  refine W_seq ?_
  refine W_cond_t rfl ?_
  refine W_skip ?_
  refine W_seq ?_
  refine W_block ?_
  refine W_seq ?_
  refine W_region_l ?_
  refine WL_step rfl (R_indexAddr (off' := 0) Try.underlying59 Try.sizeOf3 rfl rfl (by decide) (by decide) (by decide)) ?_
  refine WL_step rfl (R_load (v := I (0 + 256 * newPl.g : Nat)) Try.isAgg3 rfl (H.get .here) rfl) ?_
  refine WL_stepM rfl (R_as) ?_
  refine WL_nil ?_
  refine W_seq ?_
  refine W_region_l ?_
  refine WL_stepM rfl (R_mv) ?_
  refine WL_stepM rfl (R_mv) ?_
  refine WL_step rfl (R_buildL (places := [(0, 1), (1, 1)]) (vs := [I 1, I (0 + 256 * newPl.g : Nat)]) Try.underlying36 Try.typeInfo36 rfl rfl (by kernel_rfl) rfl rfl rfl) ?_
  (refine WL_effn rfl (E_alloc (vs := [I 0, I 0]) H Try.zeroValue36 rfl) ?_; clear H; intro c24 w850 hc24 H)
  (refine WL_effu rfl (E_storeA (vs := [I 1, I (0 + 256 * newPl.g : Nat)]) H Try.sizeOf36 rfl rfl (by simp [Value.oneCell']) .here (by simp)) ?_; clear H; intro w851 H)
  refine WL_nil ?_
  refine W_seq ?_
  refine W_region_l ?_
  refine WL_stepM rfl (R_mv) ?_
  refine WL_step rfl (R_loadA (vs := [I 1, I (0 + 256 * newPl.g : Nat)]) Try.isAgg36 Try.sizeOf36 rfl (H.get .here) rfl (by simp)) ?_
  refine WL_step rfl (R_lookup_yes (r := ((1 : Int), ((0 + 256 * newPl.g : Nat) : Int))) (H.held (mp, .map es cl) (by simp)) hm rfl rfl (by simp)) ?_
  refine WL_step rfl (R_gt_t rfl rfl (by omega)) ?_
  refine WL_stepM rfl (R_mv) ?_
  refine WL_guard_t rfl rfl ?_
  refine WL_stepM rfl (R_mv) ?_
  refine WL_guard_t rfl rfl ?_
  refine WL_stepM rfl (R_mv) ?_
  refine WL_guard_t rfl rfl ?_
  refine WL_step rfl (R_ne_t rfl rfl (by omega)) ?_
  refine WL_guard_t rfl rfl ?_
  refine WL_stepM rfl (R_mv) ?_
  refine WL_guard_f rfl rfl (by decide) ?_
  refine WL_guard_f rfl rfl (by decide) ?_
  refine WL_guard_f rfl rfl (by decide) ?_
  refine WL_guard_t rfl rfl ?_
  refine WL_stepM rfl (R_pk_t rfl) ?_
  refine WL_stepM rfl (R_pk_t rfl) ?_
  refine WL_nil ?_
  refine W_cond_t rfl ?_
  refine W_region_l ?_
  refine WL_stepM rfl (R_mv) ?_
  refine WL_step rfl (R_loadA (vs := [I 1, I (0 + 256 * newPl.g : Nat)]) Try.isAgg36 Try.sizeOf36 rfl (H.get .here) rfl (by simp)) ?_
  (refine WL_effn rfl (E_buildRows (vss := [[I 1, I (0 + 256 * newPl.g : Nat)]]) H Try.underlying51 Try.sizeOf36 Try.zeroValue36 rfl rfl (by decide) rfl rfl (by simp)) ?_; clear H; intro b118 w879 hb118 H)
  (refine WL_effm rfl (E_append (news := [I 1, I (0 + 256 * newPl.g : Nat)]) H (by repeat (first | exact AtM.last | apply AtM.there)) hO Try.underlying51 Try.typeInfo36 rfl rfl rfl rfl rfl rfl (src_blk (m := 1) (sp := []) Try.underlying51 (by rw [List.append_nil]; exact H.get .here) rfl (by simp [Value.oneCell'])) (by omega) (by simp only [Try.t36]; omega)) ?_; clear H hO; intro vO MO w880 hO H; replace H : Hp w ((mp, .map es cl) :: MO) w880 := Hp.dropK H (by repeat (first | exact List.Sublist.refl _ | apply List.Sublist.cons)) (by repeat' first | exact kNil | apply kCons | apply kApp | assumption | exact OwnS.keys (by assumption)))
  refine WL_stepM rfl (R_as) ?_
  refine WL_nil ?_
  ((replace H : Hp w ((mp, .map es cl) :: MO) _ := Hp.dropK H (by repeat (first | exact List.Sublist.refl _ | apply List.Sublist.cons)) (by repeat' first | exact kNil | apply kCons | apply kApp | assumption | exact OwnS.keys (by assumption)))) <;> refine W_region_l ?_
  refine WL_step rfl (R_add (r := 1) rfl rfl (by decide)) ?_
  refine WL_stepM rfl (R_mv) ?_
  refine WL_nil ?_
  refine Rn_succ ?_
  refine W_seq ?_
  refine W_region_l ?_
  refine WL_step rfl (R_lt_f rfl rfl (by omega)) ?_
  refine WL_nil ?_
  refine W_seq ?_
  refine W_cond_f rfl ?_
  refine W_exit ?_
  refine (if_pos rfl).mpr ?_
  refine W_region_l ?_
  refine WL_step rfl (R_add (r := 2) rfl rfl (by decide)) ?_
  refine WL_stepM rfl (R_mv) ?_
  refine WL_nil ?_
  refine Rn_succ ?_
  refine W_seq ?_
  refine W_region_l ?_
  refine WL_step rfl (R_lt_t rfl rfl (by omega)) ?_
  refine WL_nil ?_
  refine W_seq ?_
  refine W_cond_t rfl ?_
  refine W_skip ?_
  refine W_seq ?_
  refine W_block ?_
  refine W_seq ?_
  refine W_region_l ?_
  refine WL_stepM rfl (R_mv) ?_
  refine WL_step rfl (R_indexAddr (off' := 2) Try.underlying88 Try.sizeOf91 rfl rfl (by decide) (by decide) (by decide)) ?_
  refine WL_step rfl (R_load (v := ptr p2 0) Try.isAgg91 rfl (H.blockN hbs (by repeat' first | exact kNil | apply kCons | apply kApp | assumption | exact OwnS.keys (by assumption))) rfl) ?_
  refine WL_stepM rfl (R_as) ?_
  refine WL_stepM rfl (R_as) ?_
  refine WL_nil ?_
  refine W_seq ?_
  refine W_region_l ?_
  refine WL_stepM rfl (R_mv) ?_
  (refine WL_call rfl (R_call rfl Try.call49 rfl) (TabC.names_ret (H.blockN htp2 (by repeat' first | exact kNil | apply kCons | apply kApp | assumption | exact OwnS.keys (by assumption))) (H.blockN htb2 (by repeat' first | exact kNil | apply kCons | apply kApp | assumption | exact OwnS.keys (by assumption))) hsz2 (by decide) hgn2) ?_; rintro _ w921 ⟨M1, hO1, H1⟩; rw [hn2] at hO1; replace hO1 : OwnS _ 3 1 _ 1 _ M1 := hO1; have h921 := H.seqO hO1 H1; clear H H1 hO1; obtain ⟨hO1, H⟩ := h921; obtain ⟨nb, nc, nsp, rfl, hnb1, rfl, hnsp, hnc⟩ := OwnS.pos hO1 (by simp))
  refine WL_step rfl (R_len_slice Try.underlying59 rfl) ?_
  refine WL_stepM rfl (R_mv) ?_
  refine WL_nil ?_
  refine W_block ?_
  refine W_rounds 1 ?_
  refine W_seq ?_
  refine W_region_l ?_
  refine WL_step rfl (R_lt_t rfl rfl (by omega)) ?_
  refine WL_nil ?_
  refine W_seq ?_
  refine W_cond_t rfl ?_
  refine W_skip ?_
  refine W_seq ?_
  refine W_block ?_
  refine W_seq ?_
  refine W_region_l ?_
  refine WL_step rfl (R_indexAddr (off' := 0) Try.underlying59 Try.sizeOf3 rfl rfl (by decide) (by decide) (by decide)) ?_
  refine WL_step rfl (R_load (v := I (0 + 256 * newPl.g : Nat)) Try.isAgg3 rfl (H.get .here) rfl) ?_
  refine WL_stepM rfl (R_as) ?_
  refine WL_nil ?_
  refine W_seq ?_
  refine W_region_l ?_
  refine WL_stepM rfl (R_mv) ?_
  refine WL_stepM rfl (R_mv) ?_
  refine WL_step rfl (R_buildL (places := [(0, 1), (1, 1)]) (vs := [I 2, I (0 + 256 * newPl.g : Nat)]) Try.underlying36 Try.typeInfo36 rfl rfl (by kernel_rfl) rfl rfl rfl) ?_
  (refine WL_effn rfl (E_alloc (vs := [I 0, I 0]) H Try.zeroValue36 rfl) ?_; clear H; intro c24 w946 hc24 H)
  (refine WL_effu rfl (E_storeA (vs := [I 2, I (0 + 256 * newPl.g : Nat)]) H Try.sizeOf36 rfl rfl (by simp [Value.oneCell']) .here (by simp)) ?_; clear H; intro w947 H)
  refine WL_nil ?_
  refine W_seq ?_
  refine W_region_l ?_
  refine WL_stepM rfl (R_mv) ?_
  refine WL_step rfl (R_loadA (vs := [I 2, I (0 + 256 * newPl.g : Nat)]) Try.isAgg36 Try.sizeOf36 rfl (H.get .here) rfl (by simp)) ?_
  refine WL_step rfl (R_lookup_yes (r := ((2 : Int), ((0 + 256 * newPl.g : Nat) : Int))) (H.held (mp, .map es cl) (by simp)) hm rfl rfl (by simp)) ?_
  refine WL_step rfl (R_gt_t rfl rfl (by omega)) ?_
  refine WL_stepM rfl (R_mv) ?_
  refine WL_guard_t rfl rfl ?_
  refine WL_stepM rfl (R_mv) ?_
  refine WL_guard_t rfl rfl ?_
  refine WL_stepM rfl (R_mv) ?_
  refine WL_guard_t rfl rfl ?_
  refine WL_step rfl (R_ne_t rfl rfl (by omega)) ?_
  refine WL_guard_t rfl rfl ?_
  refine WL_stepM rfl (R_mv) ?_
  refine WL_guard_f rfl rfl (by decide) ?_
  refine WL_guard_f rfl rfl (by decide) ?_
  refine WL_guard_f rfl rfl (by decide) ?_
  refine WL_guard_t rfl rfl ?_
  refine WL_stepM rfl (R_pk_t rfl) ?_
  refine WL_stepM rfl (R_pk_t rfl) ?_
  refine WL_nil ?_
  refine W_cond_t rfl ?_
  refine W_region_l ?_
  refine WL_stepM rfl (R_mv) ?_
  refine WL_step rfl (R_loadA (vs := [I 2, I (0 + 256 * newPl.g : Nat)]) Try.isAgg36 Try.sizeOf36 rfl (H.get .here) rfl (by simp)) ?_
  (refine WL_effn rfl (E_buildRows (vss := [[I 2, I (0 + 256 * newPl.g : Nat)]]) H Try.underlying51 Try.sizeOf36 Try.zeroValue36 rfl rfl (by decide) rfl rfl (by simp)) ?_; clear H; intro b118 w975 hb118 H)
  (refine WL_effm rfl (E_append (news := [I 2, I (0 + 256 * newPl.g : Nat)]) H (by repeat (first | exact AtM.last | apply AtM.there)) hO Try.underlying51 Try.typeInfo36 rfl rfl rfl rfl rfl rfl (src_blk (m := 1) (sp := []) Try.underlying51 (by rw [List.append_nil]; exact H.get .here) rfl (by simp [Value.oneCell'])) (by omega) (by simp only [Try.t36]; omega)) ?_; clear H hO; intro vO MO w976 hO H; replace H : Hp w ((mp, .map es cl) :: MO) w976 := Hp.dropK H (by repeat (first | exact List.Sublist.refl _ | apply List.Sublist.cons)) (by repeat' first | exact kNil | apply kCons | apply kApp | assumption | exact OwnS.keys (by assumption)))
  refine WL_stepM rfl (R_as) ?_
  refine WL_nil ?_
  ((replace H : Hp w ((mp, .map es cl) :: MO) _ := Hp.dropK H (by repeat (first | exact List.Sublist.refl _ | apply List.Sublist.cons)) (by repeat' first | exact kNil | apply kCons | apply kApp | assumption | exact OwnS.keys (by assumption)))) <;> refine W_region_l ?_
  refine WL_step rfl (R_add (r := 1) rfl rfl (by decide)) ?_
  refine WL_stepM rfl (R_mv) ?_
  refine WL_nil ?_
  refine Rn_succ ?_
  refine W_seq ?_
  refine W_region_l ?_
  refine WL_step rfl (R_lt_f rfl rfl (by omega)) ?_
  refine WL_nil ?_
  refine W_seq ?_
  refine W_cond_f rfl ?_
  refine W_exit ?_
  refine (if_pos rfl).mpr ?_
  refine W_region_l ?_
  refine WL_step rfl (R_add (r := 3) rfl rfl (by decide)) ?_
  refine WL_stepM rfl (R_mv) ?_
  refine WL_nil ?_
  refine Rn_succ ?_
  refine W_seq ?_
  refine W_region_l ?_
  refine WL_step rfl (R_lt_f rfl rfl (by omega)) ?_
  refine WL_nil ?_
  refine W_seq ?_
  refine W_cond_f rfl ?_
  refine W_exit ?_
  refine (if_pos rfl).mpr ?_
  refine W_seq ?_
  refine W_region_l ?_
  refine WL_stepM rfl (R_mv) ?_
  (have hO9 := hO; obtain ⟨ub, uc, usp, rfl, hub, rfl, husp, huc⟩ := OwnS.pos hO (by decide); refine WL_call rfl (R_call rfl Try.call50 rfl) (sort_2 (e := 1) (nm := (0 + 256 * newPl.g : Nat)) (H.get (.there .here)) (by decide) huc) ?_; rintro _ w1008 H1; replace H := H.seq0 H1; clear H1)
  refine WL_nil ?_
  refine W_seq ?_
  refine W_region_l ?_
  refine WL_stepM rfl (R_mv) ?_
  refine WL_stepM rfl (R_as) ?_
  refine WL_stepM rfl (R_as) ?_
  refine WL_nil ?_
  refine W_ret ?_
  exact ⟨_, rfl, _, _, rfl, hO9, H.pop (by assumption)⟩
end Go.Proofs.Ythonajikgljgmaa.Caps

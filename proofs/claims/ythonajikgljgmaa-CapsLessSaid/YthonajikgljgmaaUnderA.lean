/-
  What is under a cap, where one other was granted of it.
-/
import Derived.Test.YthonajikgljgmaaSortA
namespace Go.Proofs.Ythonajikgljgmaa.Caps
open Go Go.Proofs Go.Proofs.Ythonajikgljgmaa.Fx Go.Proofs.Ythonajikgljgmaa.TabC
set_option maxRecDepth 100000
set_option linter.unusedVariables false
set_option linter.unusedSimpArgs false
set_option maxHeartbeats 8000000

theorem Hp.dropK {w0 w : World} {L M : List (Nat × Obj)} (H : Hp w0 L w) (hs : M.Sublist L) (hk : ∀ p ∈ L, w0.heap.size ≤ p.1) : Hp w0 M w := Fx.Hp.drop H hs (fun p hp _ => hk p hp)
theorem under_one {w : World} {s p0 b0 p1 b1 : Nat} {ta tb : List Pl} {o r lo n o2 r2 lo2 n2 : Int} {g0 g1 : Nat} (hS : Sp w s [(p0, b0), (p1, b1)] [ta, tb])
    (hna : namesFrom 0 ta = [((0 + 256 * g0 : Nat) : Int)]) (hnb : namesFrom 0 tb = [((0 + 256 * g1 : Nat) : Int)]) (ha : ta[0]? = some ⟨cp o r lo n 0 0, g0, true⟩) (hb : tb[0]? = some ⟨cp o2 r2 lo2 n2 (0 : Nat) (0 + 256 * g0 : Nat), g1, true⟩) (h0 : 0 < g0) :
    Ret Try.prog 27 #[ptr s 0, I (0 : Nat), I (0 + 256 * g0 : Nat)] w fun v w' => ∃ u M, v = .tuple #[u, I 0] ∧ OwnS w.heap.size 36 2 u 1 [I 1, I (0 + 256 * g1 : Nat)] M ∧ Hp w M w' := by
  obtain ⟨bs, cap, sp, hs, hbs⟩ := hS.ex
  replace hs : w.heap[s]? = some (blk [sl bs 0 2 cap] 90) := hs
  have htp0 := hS.tp 0 (p0, b0) rfl
  have htp1 := hS.tp 1 (p1, b1) rfl
  have htb0 := hS.tb 0 (p0, b0) ta rfl rfl
  have htb1 := hS.tb 1 (p1, b1) tb rfl rfl
  have hsz0 := hS.inv.sz ta (by simp)
  have hsz1 := hS.inv.sz tb (by simp)
  have hgn0 := hS.inv.gn ta (by simp)
  have hgn1 := hS.inv.gn tb (by simp)
  refine Ret_of_W (args := [_, _, _]) Try.func27 rfl Try.ntmps27 Try.results27 (by simp) ?_
  have H := Hp.refl w
  have hO := OwnS.nil w.heap.size 36 2
  refine W_seq ?_
  refine W_region_l ?_
  refine WL_stepM rfl (R_as) ?_
  refine WL_stepM rfl (R_as) ?_
  refine WL_nil ?_
  refine W_seq ?_
  refine W_seq ?_
  refine W_region_l ?_
  refine WL_stepM rfl (R_mv) ?_
  refine WL_stepM rfl (R_mv) ?_
  refine WL_stepM rfl (R_mv) ?_
  (refine WL_call rfl (R_call rfl Try.call26 rfl) (get_yes (j := 0) (i := 0) hS rfl rfl ha rfl) ?_; rintro _ w12 ⟨rfl, H1⟩; replace H := H.seq0 H1; clear H1)
  refine WL_stepM rfl (R_mv) ?_
  refine WL_step rfl (R_extract rfl rfl) ?_
  refine WL_step rfl (R_extract rfl rfl) ?_
  (refine WL_effn rfl (E_alloc H Try.zeroValue38 rfl) ?_; clear H; intro b16 w16 hb16 H)
  (refine WL_effu rfl (E_storeA (vs := [(.int _ _), (.int _ _), (.int _ _), (.int _ _), (.int _ _), (.int _ _)]) H Try.sizeOf38 rfl rfl (by simp [Value.oneCell']) .here (by simp)) ?_; clear H; intro w17 H)
  refine WL_stepM rfl (R_as) ?_
  refine WL_nil ?_
  refine W_seq ?_
  refine W_region_l ?_
  refine WL_stepM rfl (R_mv) ?_
  refine WL_step rfl (R_ne_f rfl rfl (by omega)) ?_
  refine WL_nil ?_
  refine W_cond_f rfl ?_
  refine W_skip ?_
  refine W_seq ?_
  refine W_region_l ?_
  (replace H := H.pop (by assumption); refine WL_effn rfl (E_makeMap H) ?_; clear H; intro mp w29 hmp H)
  refine WL_stepM rfl (R_mv) ?_
  refine WL_stepM rfl (R_mv) ?_
  refine WL_step rfl (R_buildL (places := [(0, 1), (1, 1)]) (vs := [I (0 : Nat), I (0 + 256 * g0 : Nat)]) Try.underlying36 Try.typeInfo36 rfl rfl (by kernel_rfl) rfl rfl rfl) ?_
  (refine WL_effu rfl (E_insert (r := ((0 : Nat), (0 + 256 * g0 : Nat))) H .here MapIs.nil rfl rfl rfl (by simp)) ?_; clear H; intro w33 H; obtain ⟨es, cl, hm, H⟩ : ∃ es cl, MapIs es [(((0 : Nat) : Int), ((0 + 256 * g0 : Nat) : Int))] ∧ Hp w [(mp, .map es cl)] w33 := ⟨_, _, MapIs.nil.push _ _, H⟩)
  refine WL_stepM rfl (R_mv) ?_
  refine WL_stepM rfl (R_as) ?_
  refine WL_nil ?_
  refine W_seq ?_
  refine W_seq ?_
  refine W_region_l ?_
  refine WL_stepM rfl (R_as) ?_
  refine WL_nil ?_
  refine W_block ?_
  refine W_rounds 2 ?_
  refine W_seq ?_
  refine W_seq ?_
  refine W_region_l ?_
  refine WL_stepM rfl (R_mv) ?_
  refine WL_nil ?_
  refine W_cond_t rfl ?_
  refine W_skip ?_
  refine W_block ?_
  refine W_seq ?_
  refine W_region_l ?_
  refine WL_stepM rfl (R_as) ?_
  refine WL_nil ?_
  refine W_seq ?_
  refine W_region_l ?_
  refine WL_stepM rfl (R_mv) ?_
  refine WL_step rfl (R_nilCheck rfl) ?_
  refine WL_step rfl (R_fieldAddr (off' := 0) Try.underlying90 rfl Try.sizeOf88 (by decide) rfl rfl) ?_
  refine WL_step rfl (R_load (v := sl bs 0 2 cap) Try.isAgg88 rfl (H.blockN hs (by repeat' first | exact kNil | apply kCons | apply kApp | assumption | exact OwnS.keys (by assumption))) rfl) ?_
  refine WL_step rfl (R_len_slice Try.underlying88 rfl) ?_
  refine WL_stepM rfl (R_mv) ?_
  refine WL_nil ?_
  refine W_block ?_
  refine W_rounds 2 ?_
  refine W_seq ?_
  refine W_region_l ?_
  refine WL_step rfl (R_lt_t rfl rfl (by omega)) ?_
  refine WL_nil ?_
  refine W_seq ?_
  refine W_cond_t rfl ?_
  refine W_skip ?_
  refine W_seq ?_
  refine W_block ?_
  refine W_seq ?_
  refine W_region_l ?_
  refine WL_stepM rfl (R_mv) ?_
  refine WL_step rfl (R_indexAddr (off' := 0) Try.underlying88 Try.sizeOf91 rfl rfl (by decide) (by decide) (by decide)) ?_
  refine WL_step rfl (R_load (v := ptr p0 0) Try.isAgg91 rfl (H.blockN hbs (by repeat' first | exact kNil | apply kCons | apply kApp | assumption | exact OwnS.keys (by assumption))) rfl) ?_
  refine WL_stepM rfl (R_as) ?_
  refine WL_stepM rfl (R_as) ?_
  refine WL_nil ?_
  refine W_seq ?_
  refine W_region_l ?_
  refine WL_stepM rfl (R_mv) ?_
  (refine WL_call rfl (R_call rfl Try.call49 rfl) (TabC.names_ret (H.blockN htp0 (by repeat' first | exact kNil | apply kCons | apply kApp | assumption | exact OwnS.keys (by assumption))) (H.blockN htb0 (by repeat' first | exact kNil | apply kCons | apply kApp | assumption | exact OwnS.keys (by assumption))) hsz0 (by decide) hgn0) ?_; rintro _ w85 ⟨M1, hO1, H1⟩; rw [hna] at hO1; replace hO1 : OwnS _ 3 1 _ 1 _ M1 := hO1; have h85 := H.seqO hO1 H1; clear H H1 hO1; obtain ⟨hO1, H⟩ := h85; obtain ⟨nb, nc, nsp, rfl, hnb1, rfl, hnsp, hnc⟩ := OwnS.pos hO1 (by simp))
  refine WL_step rfl (R_len_slice Try.underlying59 rfl) ?_
  refine WL_stepM rfl (R_mv) ?_
  refine WL_nil ?_
  refine W_block ?_
  refine W_rounds 1 ?_
  refine W_seq ?_
  refine W_region_l ?_
  refine WL_step rfl (R_lt_t rfl rfl (by omega)) ?_
  refine WL_nil ?_
  refine W_seq ?_
  refine W_cond_t rfl ?_
  refine W_skip ?_
  refine W_seq ?_
  refine W_block ?_
  refine W_seq ?_
  refine W_region_l ?_
  refine WL_step rfl (R_indexAddr (off' := 0) Try.underlying59 Try.sizeOf3 rfl rfl (by decide) (by decide) (by decide)) ?_
  refine WL_step rfl (R_load (v := I (0 + 256 * g0 : Nat)) Try.isAgg3 rfl (H.get .here) rfl) ?_
  refine WL_stepM rfl (R_as) ?_
  refine WL_nil ?_
  refine W_seq ?_
  refine W_region_l ?_
  refine WL_stepM rfl (R_mv) ?_
  refine WL_stepM rfl (R_mv) ?_
  (refine WL_call rfl (R_call rfl Try.call48 rfl) (TabC.get_yes (i := 0) (H.blockN htp0 (by repeat' first | exact kNil | apply kCons | apply kApp | assumption | exact OwnS.keys (by assumption))) (H.blockN htb0 (by repeat' first | exact kNil | apply kCons | apply kApp | assumption | exact OwnS.keys (by assumption))) hsz0 (by decide) ha (hgn0 _ (List.mem_of_getElem? ha)) rfl) ?_; rintro _ w109 ⟨rfl, H1⟩; replace H := H.seq0 H1; clear H1)
  refine WL_stepM rfl (R_mv) ?_
  refine WL_step rfl (R_extract rfl rfl) ?_
  refine WL_step rfl (R_extract rfl rfl) ?_
  (refine WL_effn rfl (E_allocK H) ?_; clear H; intro c16 w113 hc16 H)
  (refine WL_effu rfl (E_storeK H rfl rfl .here) ?_; clear H; intro w114 H)
  refine WL_stepM rfl (R_as) ?_
  refine WL_nil ?_
  refine W_seq ?_
  refine W_region_l ?_
  refine WL_stepM rfl (R_mv) ?_
  refine WL_stepM rfl (R_mv) ?_
  refine WL_step rfl (R_buildL (places := [(0, 1), (1, 1)]) (vs := [I 0, I (0 + 256 * g0 : Nat)]) Try.underlying36 Try.typeInfo36 rfl rfl (by kernel_rfl) rfl rfl rfl) ?_
  (refine WL_effn rfl (E_alloc (vs := [I 0, I 0]) H Try.zeroValue36 rfl) ?_; clear H; intro c18 w122 hc18 H)
  (refine WL_effu rfl (E_storeA (vs := [I 0, I (0 + 256 * g0 : Nat)]) H Try.sizeOf36 rfl rfl (by simp [Value.oneCell']) .here (by simp)) ?_; clear H; intro w123 H)
  refine WL_nil ?_
  refine W_seq ?_
  refine W_region_l ?_
  refine WL_stepM rfl (R_mv) ?_
  refine WL_step rfl (R_loadA (vs := [I 0, I (0 + 256 * g0 : Nat)]) Try.isAgg36 Try.sizeOf36 rfl (H.get .here) rfl (by simp)) ?_
  refine WL_step rfl (R_lookup_yes (r := (0, ((0 + 256 * g0 : Nat) : Int))) (H.held (mp, .map es cl) (by simp)) hm rfl rfl (by simp)) ?_
  refine WL_step rfl (R_eq_f rfl rfl (by omega)) ?_
  refine WL_stepM rfl (R_mv) ?_
  refine WL_guard_f rfl rfl (by decide) ?_
  refine WL_guard_f rfl rfl (by decide) ?_
  refine WL_guard_f rfl rfl (by decide) ?_
  refine WL_guard_f rfl rfl (by decide) ?_
  refine WL_guard_f rfl rfl (by decide) ?_
  refine WL_stepM rfl (R_pk_f rfl) ?_
  refine WL_nil ?_
  refine W_cond_f rfl ?_
  refine W_skip ?_
  ((replace H : Hp w [(mp, .map es cl)] _ := Hp.dropK H (by repeat (first | exact List.Sublist.refl _ | apply List.Sublist.cons)) (by repeat' first | exact kNil | apply kCons | apply kApp | assumption | exact OwnS.keys (by assumption)))) <;> refine W_region_l ?_
  refine WL_step rfl (R_add (r := 1) rfl rfl (by decide)) ?_
  refine WL_stepM rfl (R_mv) ?_
  refine WL_nil ?_
  refine Rn_succ ?_
  refine W_seq ?_
  refine W_region_l ?_
  refine WL_step rfl (R_lt_f rfl rfl (by omega)) ?_
  refine WL_nil ?_
  refine W_seq ?_
  refine W_cond_f rfl ?_
  refine W_exit ?_
  refine (if_pos rfl).mpr ?_
  refine W_region_l ?_
  refine WL_step rfl (R_add (r := 1) rfl rfl (by decide)) ?_
  refine WL_stepM rfl (R_mv) ?_
  refine WL_nil ?_
  refine Rn_succ ?_
  refine W_seq ?_
  refine W_region_l ?_
  refine WL_step rfl (R_lt_t rfl rfl (by omega)) ?_
  refine WL_nil ?_
  refine W_seq ?_
  refine W_cond_t rfl ?_
  refine W_skip ?_
  refine W_seq ?_
  refine W_block ?_
  refine W_seq ?_
  refine W_region_l ?_
  refine WL_stepM rfl (R_mv) ?_
  refine WL_step rfl (R_indexAddr (off' := 1) Try.underlying88 Try.sizeOf91 rfl rfl (by decide) (by decide) (by decide)) ?_
  refine WL_step rfl (R_load (v := ptr p1 0) Try.isAgg91 rfl (H.blockN hbs (by repeat' first | exact kNil | apply kCons | apply kApp | assumption | exact OwnS.keys (by assumption))) rfl) ?_
  refine WL_stepM rfl (R_as) ?_
  refine WL_stepM rfl (R_as) ?_
  refine WL_nil ?_
  refine W_seq ?_
  refine W_region_l ?_
  refine WL_stepM rfl (R_mv) ?_
  (refine WL_call rfl (R_call rfl Try.call49 rfl) (TabC.names_ret (H.blockN htp1 (by repeat' first | exact kNil | apply kCons | apply kApp | assumption | exact OwnS.keys (by assumption))) (H.blockN htb1 (by repeat' first | exact kNil | apply kCons | apply kApp | assumption | exact OwnS.keys (by assumption))) hsz1 (by decide) hgn1) ?_; rintro _ w179 ⟨M1, hO1, H1⟩; rw [hnb] at hO1; replace hO1 : OwnS _ 3 1 _ 1 _ M1 := hO1; have h179 := H.seqO hO1 H1; clear H H1 hO1; obtain ⟨hO1, H⟩ := h179; obtain ⟨nb, nc, nsp, rfl, hnb1, rfl, hnsp, hnc⟩ := OwnS.pos hO1 (by simp))
  refine WL_step rfl (R_len_slice Try.underlying59 rfl) ?_
  refine WL_stepM rfl (R_mv) ?_
  refine WL_nil ?_
  refine W_block ?_
  refine W_rounds 1 ?_
  refine W_seq ?_
  refine W_region_l ?_
  refine WL_step rfl (R_lt_t rfl rfl (by omega)) ?_
  refine WL_nil ?_
  refine W_seq ?_
  refine W_cond_t rfl ?_
  refine W_skip ?_
  refine W_seq ?_
  refine W_block ?_
  refine W_seq ?_
  refine W_region_l ?_
  refine WL_step rfl (R_indexAddr (off' := 0) Try.underlying59 Try.sizeOf3 rfl rfl (by decide) (by decide) (by decide)) ?_
  refine WL_step rfl (R_load (v := I (0 + 256 * g1 : Nat)) Try.isAgg3 rfl (H.get .here) rfl) ?_
  refine WL_stepM rfl (R_as) ?_
  refine WL_nil ?_
  refine W_seq ?_
  refine W_region_l ?_
  refine WL_stepM rfl (R_mv) ?_
  refine WL_stepM rfl (R_mv) ?_
  (refine WL_call rfl (R_call rfl Try.call48 rfl) (TabC.get_yes (i := 0) (H.blockN htp1 (by repeat' first | exact kNil | apply kCons | apply kApp | assumption | exact OwnS.keys (by assumption))) (H.blockN htb1 (by repeat' first | exact kNil | apply kCons | apply kApp | assumption | exact OwnS.keys (by assumption))) hsz1 (by decide) hb (hgn1 _ (List.mem_of_getElem? hb)) rfl) ?_; rintro _ w203 ⟨rfl, H1⟩; replace H := H.seq0 H1; clear H1)
  refine WL_stepM rfl (R_mv) ?_
  refine WL_step rfl (R_extract rfl rfl) ?_
  refine WL_step rfl (R_extract rfl rfl) ?_
  (refine WL_effn rfl (E_allocK H) ?_; clear H; intro c16 w207 hc16 H)
  (refine WL_effu rfl (E_storeK H rfl rfl .here) ?_; clear H; intro w208 H)
  refine WL_stepM rfl (R_as) ?_
  refine WL_nil ?_
  refine W_seq ?_
  refine W_region_l ?_
  refine WL_stepM rfl (R_mv) ?_
  refine WL_stepM rfl (R_mv) ?_
  refine WL_step rfl (R_buildL (places := [(0, 1), (1, 1)]) (vs := [I 1, I (0 + 256 * g1 : Nat)]) Try.underlying36 Try.typeInfo36 rfl rfl (by kernel_rfl) rfl rfl rfl) ?_
  (refine WL_effn rfl (E_alloc (vs := [I 0, I 0]) H Try.zeroValue36 rfl) ?_; clear H; intro c18 w216 hc18 H)
  (refine WL_effu rfl (E_storeA (vs := [I 1, I (0 + 256 * g1 : Nat)]) H Try.sizeOf36 rfl rfl (by simp [Value.oneCell']) .here (by simp)) ?_; clear H; intro w217 H)
  refine WL_nil ?_
  refine W_seq ?_
  refine W_region_l ?_
  refine WL_stepM rfl (R_mv) ?_
  refine WL_step rfl (R_loadA (vs := [I 1, I (0 + 256 * g1 : Nat)]) Try.isAgg36 Try.sizeOf36 rfl (H.get .here) rfl (by simp)) ?_
  refine WL_step rfl (R_lookup_no (r := (1, ((0 + 256 * g1 : Nat) : Int))) (H.held (mp, .map es cl) (by simp)) hm rfl rfl (by simp)) ?_
  refine WL_step rfl (R_eq_t rfl rfl (by omega)) ?_
  refine WL_stepM rfl (R_mv) ?_
  refine WL_guard_t rfl rfl ?_
  refine WL_stepM rfl (R_mv) ?_
  refine WL_guard_t rfl rfl ?_
  refine WL_step rfl (R_fieldAddr (off' := 4) Try.underlying38 rfl Try.sizeOf36 (by decide) rfl rfl) ?_
  refine WL_guard_t rfl rfl ?_
  refine WL_step rfl (R_loadA (vs := [I (0 : Nat), I (0 + 256 * g0 : Nat)]) Try.isAgg36 Try.sizeOf36 rfl (H.get (.there .here)) rfl (by simp [cp])) ?_
  refine WL_guard_t rfl rfl ?_
  refine WL_step rfl (R_lookup_yes (r := (((0 : Nat) : Int), ((0 + 256 * g0 : Nat) : Int))) (H.held (mp, .map es cl) (by simp)) hm rfl rfl (by simp)) ?_
  refine WL_guard_t rfl rfl ?_
  refine WL_step rfl (R_gt_t rfl rfl (by omega)) ?_
  refine WL_stepM rfl (R_pk_t rfl) ?_
  refine WL_nil ?_
  refine W_cond_t rfl ?_
  refine W_region_l ?_
  refine WL_stepM rfl (R_mv) ?_
  refine WL_step rfl (R_loadA (vs := [I 1, I (0 + 256 * g1 : Nat)]) Try.isAgg36 Try.sizeOf36 rfl (H.get .here) rfl (by simp)) ?_
  (refine WL_effu rfl (E_mapUpdate (r := (1, ((0 + 256 * g1 : Nat) : Int))) H (by repeat (first | exact At.here | apply At.there)) hm rfl rfl rfl (by simp)) ?_; clear H; intro w242 H; obtain ⟨es, cl, hm, H⟩ : ∃ es cl, MapIs es [(((0 : Nat) : Int), ((0 + 256 * g0 : Nat) : Int)), (1, ((0 + 256 * g1 : Nat) : Int))] ∧ Hp w [(mp, .map es cl)] w242 := ⟨_, _, hm.push _ _, Hp.dropK H (by repeat (first | exact List.Sublist.refl _ | apply List.Sublist.cons)) (by repeat' first | exact kNil | apply kCons | apply kApp | assumption | exact OwnS.keys (by assumption))⟩)
  refine WL_stepM rfl (R_as) ?_
  refine WL_nil ?_
  ((replace H : Hp w [(mp, .map es cl)] _ := Hp.dropK H (by repeat (first | exact List.Sublist.refl _ | apply List.Sublist.cons)) (by repeat' first | exact kNil | apply kCons | apply kApp | assumption | exact OwnS.keys (by assumption)))) <;> refine W_region_l ?_
  refine WL_step rfl (R_add (r := 1) rfl rfl (by decide)) ?_
  refine WL_stepM rfl (R_mv) ?_
  refine WL_nil ?_
  refine Rn_succ ?_
  refine W_seq ?_
  refine W_region_l ?_
  refine WL_step rfl (R_lt_f rfl rfl (by omega)) ?_
  refine WL_nil ?_
  refine W_seq ?_
  refine W_cond_f rfl ?_
  refine W_exit ?_
  refine (if_pos rfl).mpr ?_
  refine W_region_l ?_
  refine WL_step rfl (R_add (r := 2) rfl rfl (by decide)) ?_
  refine WL_stepM rfl (R_mv) ?_
  refine WL_nil ?_
  refine Rn_succ ?_
  refine W_seq ?_
  refine W_region_l ?_
  refine WL_step rfl (R_lt_f rfl rfl (by omega)) ?_
  refine WL_nil ?_
  refine W_seq ?_
  refine W_cond_f rfl ?_
  refine W_exit ?_
  refine (if_pos rfl).mpr ?_
  refine Rn_succ ?_
  refine W_seq ?_
  refine W_seq ?_
  refine W_region_l ?_
  refine WL_stepM rfl (R_mv) ?_
  refine WL_nil ?_
  refine W_cond_t rfl ?_
  refine W_skip ?_
  refine W_block ?_
  refine W_seq ?_
  refine W_region_l ?_
  refine WL_stepM rfl (R_as) ?_
  refine WL_nil ?_
  refine W_seq ?_
  refine W_region_l ?_
  refine WL_stepM rfl (R_mv) ?_
  refine WL_step rfl (R_nilCheck rfl) ?_
  refine WL_step rfl (R_fieldAddr (off' := 0) Try.underlying90 rfl Try.sizeOf88 (by decide) rfl rfl) ?_
  refine WL_step rfl (R_load (v := sl bs 0 2 cap) Try.isAgg88 rfl (H.blockN hs (by repeat' first | exact kNil | apply kCons | apply kApp | assumption | exact OwnS.keys (by assumption))) rfl) ?_
  refine WL_step rfl (R_len_slice Try.underlying88 rfl) ?_
  refine WL_stepM rfl (R_mv) ?_
  refine WL_nil ?_
  refine W_block ?_
  refine W_rounds 2 ?_
  refine W_seq ?_
  refine W_region_l ?_
  refine WL_step rfl (R_lt_t rfl rfl (by omega)) ?_
  refine WL_nil ?_
  refine W_seq ?_
  refine W_cond_t rfl ?_
  refine W_skip ?_
  refine W_seq ?_
  refine W_block ?_
  refine W_seq ?_
  refine W_region_l ?_
  refine WL_stepM rfl (R_mv) ?_
  refine WL_step rfl (R_indexAddr (off' := 0) Try.underlying88 Try.sizeOf91 rfl rfl (by decide) (by decide) (by decide)) ?_
  refine WL_step rfl (R_load (v := ptr p0 0) Try.isAgg91 rfl (H.blockN hbs (by repeat' first | exact kNil | apply kCons | apply kApp | assumption | exact OwnS.keys (by assumption))) rfl) ?_
  refine WL_stepM rfl (R_as) ?_
  refine WL_stepM rfl (R_as) ?_
  refine WL_nil ?_
  refine W_seq ?_
  refine W_region_l ?_
  refine WL_stepM rfl (R_mv) ?_
  (refine WL_call rfl (R_call rfl Try.call49 rfl) (TabC.names_ret (H.blockN htp0 (by repeat' first | exact kNil | apply kCons | apply kApp | assumption | exact OwnS.keys (by assumption))) (H.blockN htb0 (by repeat' first | exact kNil | apply kCons | apply kApp | assumption | exact OwnS.keys (by assumption))) hsz0 (by decide) hgn0) ?_; rintro _ w314 ⟨M1, hO1, H1⟩; rw [hna] at hO1; replace hO1 : OwnS _ 3 1 _ 1 _ M1 := hO1; have h314 := H.seqO hO1 H1; clear H H1 hO1; obtain ⟨hO1, H⟩ := h314; obtain ⟨nb, nc, nsp, rfl, hnb1, rfl, hnsp, hnc⟩ := OwnS.pos hO1 (by simp))
  refine WL_step rfl (R_len_slice Try.underlying59 rfl) ?_
  refine WL_stepM rfl (R_mv) ?_
  refine WL_nil ?_
  refine W_block ?_
  refine W_rounds 1 ?_
  refine W_seq ?_
  refine W_region_l ?_
  refine WL_step rfl (R_lt_t rfl rfl (by omega)) ?_
  refine WL_nil ?_
  refine W_seq ?_
  refine W_cond_t rfl ?_
  refine W_skip ?_
  refine W_seq ?_
  refine W_block ?_
  refine W_seq ?_
  refine W_region_l ?_
  refine WL_step rfl (R_indexAddr (off' := 0) Try.underlying59 Try.sizeOf3 rfl rfl (by decide) (by decide) (by decide)) ?_
  refine WL_step rfl (R_load (v := I (0 + 256 * g0 : Nat)) Try.isAgg3 rfl (H.get .here) rfl) ?_
  refine WL_stepM rfl (R_as) ?_
  refine WL_nil ?_
  refine W_seq ?_
  refine W_region_l ?_
  refine WL_stepM rfl (R_mv) ?_
  refine WL_stepM rfl (R_mv) ?_
  (refine WL_call rfl (R_call rfl Try.call48 rfl) (TabC.get_yes (i := 0) (H.blockN htp0 (by repeat' first | exact kNil | apply kCons | apply kApp | assumption | exact OwnS.keys (by assumption))) (H.blockN htb0 (by repeat' first | exact kNil | apply kCons | apply kApp | assumption | exact OwnS.keys (by assumption))) hsz0 (by decide) ha (hgn0 _ (List.mem_of_getElem? ha)) rfl) ?_; rintro _ w338 ⟨rfl, H1⟩; replace H := H.seq0 H1; clear H1)
  refine WL_stepM rfl (R_mv) ?_
  refine WL_step rfl (R_extract rfl rfl) ?_
  refine WL_step rfl (R_extract rfl rfl) ?_
  (refine WL_effn rfl (E_allocK H) ?_; clear H; intro c16 w342 hc16 H)
  (refine WL_effu rfl (E_storeK H rfl rfl .here) ?_; clear H; intro w343 H)
  refine WL_stepM rfl (R_as) ?_
  refine WL_nil ?_
  refine W_seq ?_
  refine W_region_l ?_
  refine WL_stepM rfl (R_mv) ?_
  refine WL_stepM rfl (R_mv) ?_
  refine WL_step rfl (R_buildL (places := [(0, 1), (1, 1)]) (vs := [I 0, I (0 + 256 * g0 : Nat)]) Try.underlying36 Try.typeInfo36 rfl rfl (by kernel_rfl) rfl rfl rfl) ?_
  (refine WL_effn rfl (E_alloc (vs := [I 0, I 0]) H Try.zeroValue36 rfl) ?_; clear H; intro c18 w351 hc18 H)
  (refine WL_effu rfl (E_storeA (vs := [I 0, I (0 + 256 * g0 : Nat)]) H Try.sizeOf36 rfl rfl (by simp [Value.oneCell']) .here (by simp)) ?_; clear H; intro w352 H)
  refine WL_nil ?_
  refine W_seq ?_
  refine W_region_l ?_
  refine WL_stepM rfl (R_mv) ?_
  refine WL_step rfl (R_loadA (vs := [I 0, I (0 + 256 * g0 : Nat)]) Try.isAgg36 Try.sizeOf36 rfl (H.get .here) rfl (by simp)) ?_
  refine WL_step rfl (R_lookup_yes (r := (0, ((0 + 256 * g0 : Nat) : Int))) (H.held (mp, .map es cl) (by simp)) hm rfl rfl (by simp)) ?_
  refine WL_step rfl (R_eq_f rfl rfl (by omega)) ?_
  refine WL_stepM rfl (R_mv) ?_
  refine WL_guard_f rfl rfl (by decide) ?_
  refine WL_guard_f rfl rfl (by decide) ?_
  refine WL_guard_f rfl rfl (by decide) ?_
  refine WL_guard_f rfl rfl (by decide) ?_
  refine WL_guard_f rfl rfl (by decide) ?_
  refine WL_stepM rfl (R_pk_f rfl) ?_
  refine WL_nil ?_
  refine W_cond_f rfl ?_
  refine W_skip ?_
  ((replace H : Hp w [(mp, .map es cl)] _ := Hp.dropK H (by repeat (first | exact List.Sublist.refl _ | apply List.Sublist.cons)) (by repeat' first | exact kNil | apply kCons | apply kApp | assumption | exact OwnS.keys (by assumption)))) <;> refine W_region_l ?_
  refine WL_step rfl (R_add (r := 1) rfl rfl (by decide)) ?_
  refine WL_stepM rfl (R_mv) ?_
  refine WL_nil ?_
  refine Rn_succ ?_
  refine W_seq ?_
  refine W_region_l ?_
  refine WL_step rfl (R_lt_f rfl rfl (by omega)) ?_
  refine WL_nil ?_
  refine W_seq ?_
  refine W_cond_f rfl ?_
  refine W_exit ?_
  refine (if_pos rfl).mpr ?_
  refine W_region_l ?_
  refine WL_step rfl (R_add (r := 1) rfl rfl (by decide)) ?_
  refine WL_stepM rfl (R_mv) ?_
  refine WL_nil ?_
  refine Rn_succ ?_
  refine W_seq ?_
  refine W_region_l ?_
  refine WL_step rfl (R_lt_t rfl rfl (by omega)) ?_
  refine WL_nil ?_
  refine W_seq ?_
  refine W_cond_t rfl ?_
  refine W_skip ?_
  refine W_seq ?_
  refine W_block ?_
  refine W_seq ?_
  refine W_region_l ?_
  refine WL_stepM rfl (R_mv) ?_
  refine WL_step rfl (R_indexAddr (off' := 1) Try.underlying88 Try.sizeOf91 rfl rfl (by decide) (by decide) (by decide)) ?_
  refine WL_step rfl (R_load (v := ptr p1 0) Try.isAgg91 rfl (H.blockN hbs (by repeat' first | exact kNil | apply kCons | apply kApp | assumption | exact OwnS.keys (by assumption))) rfl) ?_
  refine WL_stepM rfl (R_as) ?_
  refine WL_stepM rfl (R_as) ?_
  refine WL_nil ?_
  refine W_seq ?_
  refine W_region_l ?_
  refine WL_stepM rfl (R_mv) ?_
  (refine WL_call rfl (R_call rfl Try.call49 rfl) (TabC.names_ret (H.blockN htp1 (by repeat' first | exact kNil | apply kCons | apply kApp | assumption | exact OwnS.keys (by assumption))) (H.blockN htb1 (by repeat' first | exact kNil | apply kCons | apply kApp | assumption | exact OwnS.keys (by assumption))) hsz1 (by decide) hgn1) ?_; rintro _ w408 ⟨M1, hO1, H1⟩; rw [hnb] at hO1; replace hO1 : OwnS _ 3 1 _ 1 _ M1 := hO1; have h408 := H.seqO hO1 H1; clear H H1 hO1; obtain ⟨hO1, H⟩ := h408; obtain ⟨nb, nc, nsp, rfl, hnb1, rfl, hnsp, hnc⟩ := OwnS.pos hO1 (by simp))
  refine WL_step rfl (R_len_slice Try.underlying59 rfl) ?_
  refine WL_stepM rfl (R_mv) ?_
  refine WL_nil ?_
  refine W_block ?_
  refine W_rounds 1 ?_
  refine W_seq ?_
  refine W_region_l ?_
  refine WL_step rfl (R_lt_t rfl rfl (by omega)) ?_
  refine WL_nil ?_
  refine W_seq ?_
  refine W_cond_t rfl ?_
  refine W_skip ?_
  refine W_seq ?_
  refine W_block ?_
  refine W_seq ?_
  refine W_region_l ?_
  refine WL_step rfl (R_indexAddr (off' := 0) Try.underlying59 Try.sizeOf3 rfl rfl (by decide) (by decide) (by decide)) ?_
  refine WL_step rfl (R_load (v := I (0 + 256 * g1 : Nat)) Try.isAgg3 rfl (H.get .here) rfl) ?_
  refine WL_stepM rfl (R_as) ?_
  refine WL_nil ?_
  refine W_seq ?_
  refine W_region_l ?_
  refine WL_stepM rfl (R_mv) ?_
  refine WL_stepM rfl (R_mv) ?_
  (refine WL_call rfl (R_call rfl Try.call48 rfl) (TabC.get_yes (i := 0) (H.blockN htp1 (by repeat' first | exact kNil | apply kCons | apply kApp | assumption | exact OwnS.keys (by assumption))) (H.blockN htb1 (by repeat' first | exact kNil | apply kCons | apply kApp | assumption | exact OwnS.keys (by assumption))) hsz1 (by decide) hb (hgn1 _ (List.mem_of_getElem? hb)) rfl) ?_; rintro _ w432 ⟨rfl, H1⟩; replace H := H.seq0 H1; clear H1)
  refine WL_stepM rfl (R_mv) ?_
  refine WL_step rfl (R_extract rfl rfl) ?_
  refine WL_step rfl (R_extract rfl rfl) ?_
  (refine WL_effn rfl (E_allocK H) ?_; clear H; intro c16 w436 hc16 H)
  (refine WL_effu rfl (E_storeK H rfl rfl .here) ?_; clear H; intro w437 H)
  refine WL_stepM rfl (R_as) ?_
  refine WL_nil ?_
  refine W_seq ?_
  refine W_region_l ?_
  refine WL_stepM rfl (R_mv) ?_
  refine WL_stepM rfl (R_mv) ?_
  refine WL_step rfl (R_buildL (places := [(0, 1), (1, 1)]) (vs := [I 1, I (0 + 256 * g1 : Nat)]) Try.underlying36 Try.typeInfo36 rfl rfl (by kernel_rfl) rfl rfl rfl) ?_
  (refine WL_effn rfl (E_alloc (vs := [I 0, I 0]) H Try.zeroValue36 rfl) ?_; clear H; intro c18 w445 hc18 H)
  (refine WL_effu rfl (E_storeA (vs := [I 1, I (0 + 256 * g1 : Nat)]) H Try.sizeOf36 rfl rfl (by simp [Value.oneCell']) .here (by simp)) ?_; clear H; intro w446 H)
  refine WL_nil ?_
  refine W_seq ?_
  refine W_region_l ?_
  refine WL_stepM rfl (R_mv) ?_
  refine WL_step rfl (R_loadA (vs := [I 1, I (0 + 256 * g1 : Nat)]) Try.isAgg36 Try.sizeOf36 rfl (H.get .here) rfl (by simp)) ?_
  refine WL_step rfl (R_lookup_yes (r := (1, ((0 + 256 * g1 : Nat) : Int))) (H.held (mp, .map es cl) (by simp)) hm rfl rfl (by simp)) ?_
  refine WL_step rfl (R_eq_f rfl rfl (by omega)) ?_
  refine WL_stepM rfl (R_mv) ?_
  refine WL_guard_f rfl rfl (by decide) ?_
  refine WL_guard_f rfl rfl (by decide) ?_
  refine WL_guard_f rfl rfl (by decide) ?_
  refine WL_guard_f rfl rfl (by decide) ?_
  refine WL_guard_f rfl rfl (by decide) ?_
  refine WL_stepM rfl (R_pk_f rfl) ?_
  refine WL_nil ?_
  refine W_cond_f rfl ?_
  refine W_skip ?_
  ((replace H : Hp w [(mp, .map es cl)] _ := Hp.dropK H (by repeat (first | exact List.Sublist.refl _ | apply List.Sublist.cons)) (by repeat' first | exact kNil | apply kCons | apply kApp | assumption | exact OwnS.keys (by assumption)))) <;> refine W_region_l ?_
  refine WL_step rfl (R_add (r := 1) rfl rfl (by decide)) ?_
  refine WL_stepM rfl (R_mv) ?_
  refine WL_nil ?_
  refine Rn_succ ?_
  refine W_seq ?_
  refine W_region_l ?_
  refine WL_step rfl (R_lt_f rfl rfl (by omega)) ?_
  refine WL_nil ?_
  refine W_seq ?_
  refine W_cond_f rfl ?_
  refine W_exit ?_
  refine (if_pos rfl).mpr ?_
  refine W_region_l ?_
  refine WL_step rfl (R_add (r := 2) rfl rfl (by decide)) ?_
  refine WL_stepM rfl (R_mv) ?_
  refine WL_nil ?_
  refine Rn_succ ?_
  refine W_seq ?_
  refine W_region_l ?_
  refine WL_step rfl (R_lt_f rfl rfl (by omega)) ?_
  refine WL_nil ?_
  refine W_seq ?_
  refine W_cond_f rfl ?_
  refine W_exit ?_
  refine (if_pos rfl).mpr ?_
  refine Rn_succ ?_
  refine W_seq ?_
  refine W_seq ?_
  refine W_region_l ?_
  refine WL_stepM rfl (R_mv) ?_
  refine WL_nil ?_
  refine W_cond_f rfl ?_
  refine W_exit ?_
  refine (if_pos rfl).mpr ?_
  refine W_seq ?_
  refine W_region_l ?_
  refine WL_stepM rfl (R_as) ?_
  refine WL_nil ?_
  refine W_seq ?_
  refine W_seq ?_
  refine W_region_l ?_
  refine WL_stepM rfl (R_mv) ?_
  refine WL_step rfl (R_nilCheck rfl) ?_
  refine WL_step rfl (R_fieldAddr (off' := 0) Try.underlying90 rfl Try.sizeOf88 (by decide) rfl rfl) ?_
  refine WL_step rfl (R_load (v := sl bs 0 2 cap) Try.isAgg88 rfl (H.blockN hs (by repeat' first | exact kNil | apply kCons | apply kApp | assumption | exact OwnS.keys (by assumption))) rfl) ?_
  refine WL_step rfl (R_len_slice Try.underlying88 rfl) ?_
  refine WL_stepM rfl (R_mv) ?_
  refine WL_nil ?_
  refine W_block ?_
  refine W_rounds 2 ?_
  refine W_seq ?_
  refine W_region_l ?_
  refine WL_step rfl (R_lt_t rfl rfl (by omega)) ?_
  refine WL_nil ?_
  refine W_seq ?_
  refine W_cond_t rfl ?_
  refine W_skip ?_
  refine W_seq ?_
  refine W_block ?_
  refine W_seq ?_
  refine W_region_l ?_
  refine WL_stepM rfl (R_mv) ?_
  refine WL_step rfl (R_indexAddr (off' := 0) Try.underlying88 Try.sizeOf91 rfl rfl (by decide) (by decide) (by decide)) ?_
  refine WL_step rfl (R_load (v := ptr p0 0) Try.isAgg91 rfl (H.blockN hbs (by repeat' first | exact kNil | apply kCons | apply kApp | assumption | exact OwnS.keys (by assumption))) rfl) ?_
  refine WL_stepM rfl (R_as) ?_
  refine WL_stepM rfl (R_as) ?_
  refine WL_nil ?_
  refine W_seq ?_
  refine W_region_l ?_
  refine WL_stepM rfl (R_mv) ?_
  (refine WL_call rfl (R_call rfl Try.call49 rfl) (TabC.names_ret (H.blockN htp0 (by repeat' first | exact kNil | apply kCons | apply kApp | assumption | exact OwnS.keys (by assumption))) (H.blockN htb0 (by repeat' first | exact kNil | apply kCons | apply kApp | assumption | exact OwnS.keys (by assumption))) hsz0 (by decide) hgn0) ?_; rintro _ w534 ⟨M1, hO1, H1⟩; rw [hna] at hO1; replace hO1 : OwnS _ 3 1 _ 1 _ M1 := hO1; have h534 := H.seqO hO1 H1; clear H H1 hO1; obtain ⟨hO1, H⟩ := h534; obtain ⟨nb, nc, nsp, rfl, hnb1, rfl, hnsp, hnc⟩ := OwnS.pos hO1 (by simp))
  refine WL_step rfl (R_len_slice Try.underlying59 rfl) ?_
  refine WL_stepM rfl (R_mv) ?_
  refine WL_nil ?_
  refine W_block ?_
  refine W_rounds 1 ?_
  refine W_seq ?_
  refine W_region_l ?_
  refine WL_step rfl (R_lt_t rfl rfl (by omega)) ?_
  refine WL_nil ?_
  refine W_seq ?_
  refine W_cond_t rfl ?_
  refine W_skip ?_
  refine W_seq ?_
  refine W_block ?_
  refine W_seq ?_
  refine W_region_l ?_
  refine WL_step rfl (R_indexAddr (off' := 0) Try.underlying59 Try.sizeOf3 rfl rfl (by decide) (by decide) (by decide)) ?_
  refine WL_step rfl (R_load (v := I (0 + 256 * g0 : Nat)) Try.isAgg3 rfl (H.get .here) rfl) ?_
  refine WL_stepM rfl (R_as) ?_
  refine WL_nil ?_
  refine W_seq ?_
  refine W_region_l ?_
  refine WL_stepM rfl (R_mv) ?_
  refine WL_stepM rfl (R_mv) ?_
  refine WL_step rfl (R_buildL (places := [(0, 1), (1, 1)]) (vs := [I 0, I (0 + 256 * g0 : Nat)]) Try.underlying36 Try.typeInfo36 rfl rfl (by kernel_rfl) rfl rfl rfl) ?_
  (refine WL_effn rfl (E_alloc (vs := [I 0, I 0]) H Try.zeroValue36 rfl) ?_; clear H; intro c24 w559 hc24 H)
  (refine WL_effu rfl (E_storeA (vs := [I 0, I (0 + 256 * g0 : Nat)]) H Try.sizeOf36 rfl rfl (by simp [Value.oneCell']) .here (by simp)) ?_; clear H; intro w560 H)
  refine WL_nil ?_
  refine W_seq ?_
  refine W_region_l ?_
  refine WL_stepM rfl (R_mv) ?_
  refine WL_step rfl (R_loadA (vs := [I 0, I (0 + 256 * g0 : Nat)]) Try.isAgg36 Try.sizeOf36 rfl (H.get .here) rfl (by simp)) ?_
  refine WL_step rfl (R_lookup_yes (r := (0, ((0 + 256 * g0 : Nat) : Int))) (H.held (mp, .map es cl) (by simp)) hm rfl rfl (by simp)) ?_
  refine WL_step rfl (R_gt_t rfl rfl (by omega)) ?_
  refine WL_stepM rfl (R_mv) ?_
  refine WL_guard_t rfl rfl ?_
  refine WL_stepM rfl (R_mv) ?_
  refine WL_guard_t rfl rfl ?_
  refine WL_stepM rfl (R_mv) ?_
  refine WL_guard_t rfl rfl ?_
  refine WL_step rfl (R_ne_f rfl rfl (by omega)) ?_
  refine WL_guard_t rfl rfl ?_
  refine WL_stepM rfl (R_mv) ?_
  refine WL_guard_t rfl rfl ?_
  refine WL_stepM rfl (R_mv) ?_
  refine WL_guard_t rfl rfl ?_
  refine WL_stepM rfl (R_mv) ?_
  refine WL_guard_t rfl rfl ?_
  refine WL_step rfl (R_ne_f rfl rfl (by omega)) ?_
  refine WL_guard_t rfl rfl ?_
  refine WL_stepM rfl (R_pk_f rfl) ?_
  refine WL_stepM rfl (R_pk_t rfl) ?_
  refine WL_nil ?_
  refine W_cond_f rfl ?_
  refine W_skip ?_
  ((replace H : Hp w [(mp, .map es cl)] _ := Hp.dropK H (by repeat (first | exact List.Sublist.refl _ | apply List.Sublist.cons)) (by repeat' first | exact kNil | apply kCons | apply kApp | assumption | exact OwnS.keys (by assumption)))) <;> refine W_region_l ?_
  refine WL_step rfl (R_add (r := 1) rfl rfl (by decide)) ?_
  refine WL_stepM rfl (R_mv) ?_
  refine WL_nil ?_
  refine Rn_succ ?_
  refine W_seq ?_
  refine W_region_l ?_
  refine WL_step rfl (R_lt_f rfl rfl (by omega)) ?_
  refine WL_nil ?_
  refine W_seq ?_
  refine W_cond_f rfl ?_
  refine W_exit ?_
  refine (if_pos rfl).mpr ?_
  refine W_region_l ?_
  refine WL_step rfl (R_add (r := 1) rfl rfl (by decide)) ?_
  refine WL_stepM rfl (R_mv) ?_
  refine WL_nil ?_
  refine Rn_succ ?_
  refine W_seq ?_
  refine W_region_l ?_
  refine WL_step rfl (R_lt_t rfl rfl (by omega)) ?_
  refine WL_nil ?_
  refine W_seq ?_
  refine W_cond_t rfl ?_
  refine W_skip ?_
  refine W_seq ?_
  refine W_block ?_
  refine W_seq ?_
  refine W_region_l ?_
  refine WL_stepM rfl (R_mv) ?_
  refine WL_step rfl (R_indexAddr (off' := 1) Try.underlying88 Try.sizeOf91 rfl rfl (by decide) (by decide) (by decide)) ?_
  refine WL_step rfl (R_load (v := ptr p1 0) Try.isAgg91 rfl (H.blockN hbs (by repeat' first | exact kNil | apply kCons | apply kApp | assumption | exact OwnS.keys (by assumption))) rfl) ?_
  refine WL_stepM rfl (R_as) ?_
  refine WL_stepM rfl (R_as) ?_
  refine WL_nil ?_
  refine W_seq ?_
  refine W_region_l ?_
  refine WL_stepM rfl (R_mv) ?_
  (refine WL_call rfl (R_call rfl Try.call49 rfl) (TabC.names_ret (H.blockN htp1 (by repeat' first | exact kNil | apply kCons | apply kApp | assumption | exact OwnS.keys (by assumption))) (H.blockN htb1 (by repeat' first | exact kNil | apply kCons | apply kApp | assumption | exact OwnS.keys (by assumption))) hsz1 (by decide) hgn1) ?_; rintro _ w627 ⟨M1, hO1, H1⟩; rw [hnb] at hO1; replace hO1 : OwnS _ 3 1 _ 1 _ M1 := hO1; have h627 := H.seqO hO1 H1; clear H H1 hO1; obtain ⟨hO1, H⟩ := h627; obtain ⟨nb, nc, nsp, rfl, hnb1, rfl, hnsp, hnc⟩ := OwnS.pos hO1 (by simp))
  refine WL_step rfl (R_len_slice Try.underlying59 rfl) ?_
  refine WL_stepM rfl (R_mv) ?_
  refine WL_nil ?_
  refine W_block ?_
  refine W_rounds 1 ?_
  refine W_seq ?_
  refine W_region_l ?_
  refine WL_step rfl (R_lt_t rfl rfl (by omega)) ?_
  refine WL_nil ?_
  refine W_seq ?_
  refine W_cond_t rfl ?_
  refine W_skip ?_
  refine W_seq ?_
  refine W_block ?_
  refine W_seq ?_
  refine W_region_l ?_
  refine WL_step rfl (R_indexAddr (off' := 0) Try.underlying59 Try.sizeOf3 rfl rfl (by decide) (by decide) (by decide)) ?_
  refine WL_step rfl (R_load (v := I (0 + 256 * g1 : Nat)) Try.isAgg3 rfl (H.get .here) rfl) ?_
  refine WL_stepM rfl (R_as) ?_
  refine WL_nil ?_
  refine W_seq ?_
  refine W_region_l ?_
  refine WL_stepM rfl (R_mv) ?_
  refine WL_stepM rfl (R_mv) ?_
  refine WL_step rfl (R_buildL (places := [(0, 1), (1, 1)]) (vs := [I 1, I (0 + 256 * g1 : Nat)]) Try.underlying36 Try.typeInfo36 rfl rfl (by kernel_rfl) rfl rfl rfl) ?_
  (refine WL_effn rfl (E_alloc (vs := [I 0, I 0]) H Try.zeroValue36 rfl) ?_; clear H; intro c24 w652 hc24 H)
  (refine WL_effu rfl (E_storeA (vs := [I 1, I (0 + 256 * g1 : Nat)]) H Try.sizeOf36 rfl rfl (by simp [Value.oneCell']) .here (by simp)) ?_; clear H; intro w653 H)
  refine WL_nil ?_
  refine W_seq ?_
  refine W_region_l ?_
  refine WL_stepM rfl (R_mv) ?_
  refine WL_step rfl (R_loadA (vs := [I 1, I (0 + 256 * g1 : Nat)]) Try.isAgg36 Try.sizeOf36 rfl (H.get .here) rfl (by simp)) ?_
  refine WL_step rfl (R_lookup_yes (r := (1, ((0 + 256 * g1 : Nat) : Int))) (H.held (mp, .map es cl) (by simp)) hm rfl rfl (by simp)) ?_
  refine WL_step rfl (R_gt_t rfl rfl (by omega)) ?_
  refine WL_stepM rfl (R_mv) ?_
  refine WL_guard_t rfl rfl ?_
  refine WL_stepM rfl (R_mv) ?_
  refine WL_guard_t rfl rfl ?_
  refine WL_stepM rfl (R_mv) ?_
  refine WL_guard_t rfl rfl ?_
  refine WL_step rfl (R_ne_t rfl rfl (by omega)) ?_
  refine WL_guard_t rfl rfl ?_
  refine WL_stepM rfl (R_mv) ?_
  refine WL_guard_f rfl rfl (by decide) ?_
  refine WL_guard_f rfl rfl (by decide) ?_
  refine WL_guard_f rfl rfl (by decide) ?_
  refine WL_guard_t rfl rfl ?_
  refine WL_stepM rfl (R_pk_t rfl) ?_
  refine WL_stepM rfl (R_pk_t rfl) ?_
  refine WL_nil ?_
  refine W_cond_t rfl ?_
  refine W_region_l ?_
  refine WL_stepM rfl (R_mv) ?_
  refine WL_step rfl (R_loadA (vs := [I 1, I (0 + 256 * g1 : Nat)]) Try.isAgg36 Try.sizeOf36 rfl (H.get .here) rfl (by simp)) ?_
  (refine WL_effn rfl (E_buildRows (vss := [[I 1, I (0 + 256 * g1 : Nat)]]) H Try.underlying51 Try.sizeOf36 Try.zeroValue36 rfl rfl (by decide) rfl rfl (by simp)) ?_; clear H; intro b118 w681 hb118 H)
  (refine WL_effm rfl (E_append (news := [I 1, I (0 + 256 * g1 : Nat)]) H (by repeat (first | exact AtM.last | apply AtM.there)) hO Try.underlying51 Try.typeInfo36 rfl rfl rfl rfl rfl rfl (src_blk (m := 1) (sp := []) Try.underlying51 (by rw [List.append_nil]; exact H.get .here) rfl (by simp [Value.oneCell'])) (by omega) (by simp only [Try.t36]; omega)) ?_; clear H hO; intro vN MN w682 hO H; replace H : Hp w MN w682 := Hp.dropK H (by repeat (first | exact List.Sublist.refl _ | apply List.Sublist.cons)) (by repeat' first | exact kNil | apply kCons | apply kApp | assumption | exact OwnS.keys (by assumption)); obtain ⟨ub, uc, usp, rfl, hub, hMN, husp, huc⟩ := OwnS.pos hO (by omega))
  refine WL_stepM rfl (R_as) ?_
  refine WL_nil ?_
  (have mk30 : True := trivial) <;> refine W_region_l ?_
  refine WL_step rfl (R_add (r := 1) rfl rfl (by decide)) ?_
  refine WL_stepM rfl (R_mv) ?_
  refine WL_nil ?_
  refine Rn_succ ?_
  refine W_seq ?_
  refine W_region_l ?_
  refine WL_step rfl (R_lt_f rfl rfl (by omega)) ?_
  refine WL_nil ?_
  refine W_seq ?_
  refine W_cond_f rfl ?_
  refine W_exit ?_
  refine (if_pos rfl).mpr ?_
  refine W_region_l ?_
  refine WL_step rfl (R_add (r := 2) rfl rfl (by decide)) ?_
  refine WL_stepM rfl (R_mv) ?_
  refine WL_nil ?_
  refine Rn_succ ?_
  refine W_seq ?_
  refine W_region_l ?_
  refine WL_step rfl (R_lt_f rfl rfl (by omega)) ?_
  refine WL_nil ?_
  refine W_seq ?_
  refine W_cond_f rfl ?_
  refine W_exit ?_
  refine (if_pos rfl).mpr ?_
  refine W_seq ?_
  refine W_region_l ?_
  refine WL_stepM rfl (R_mv) ?_
  (refine WL_call rfl (R_call rfl Try.call50 rfl) (sort_1 _ _ _ _) ?_; rintro _ w714 H1; replace H := H.seq0 H1; clear H1)
  refine WL_nil ?_
  refine W_seq ?_
  refine W_region_l ?_
  refine WL_stepM rfl (R_mv) ?_
  refine WL_stepM rfl (R_as) ?_
  refine WL_stepM rfl (R_as) ?_
  refine WL_nil ?_
  refine W_ret ?_
  exact ⟨_, rfl, _, MN, rfl, hO, H⟩
end Go.Proofs.Ythonajikgljgmaa.Caps

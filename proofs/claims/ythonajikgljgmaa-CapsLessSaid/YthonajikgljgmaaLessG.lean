/-
  The law CapsLess.
-/
import Derived.Test.YthonajikgljgmaaLessM
namespace Go.Proofs.Ythonajikgljgmaa.Caps
open Go Go.Proofs Go.Proofs.Ythonajikgljgmaa.Fx Go.Proofs.Ythonajikgljgmaa.TabC Go.Proofs.Ythonajikgljgmaa.Reg
set_option maxRecDepth 100000
set_option linter.unusedVariables false
set_option linter.unusedSimpArgs false
set_option maxHeartbeats 40000000

section
variable {w : World} {s : Nat} {PB : List (Nat × Nat)} {ts : List (List Pl)} {j i g0 : Nat} {q : Nat × Nat} {t : List Pl} {o r lo n re rn : Int}
theorem grant_nogive {to : Int} {l1 n1 gv : Int} (hS : Sp w s PB ts) (hq : PB[j]? = some q) (ht : ts[j]? = some t) (h : t[i]? = some ⟨cp o r lo n re rn, g0, true⟩)
    (b4 : bitsOf .and .i64 r 4 = 0) :
    Ret Try.prog 19 #[ptr s 0, I j, I (i + 256 * g0 : Nat), I to, I gv, I l1, I n1] w fun v w' => v = .tuple #[I 0, I 3] ∧ Hp w [] w' := by
  refine Ret_of_W (args := [_, _, _, _, _, _, _]) Try.func19 rfl Try.ntmps19 Try.results19 (by simp) ?_
  have H := Hp.refl w
  refine W_seq ?_
  refine W_region_l ?_
  refine WL_stepM rfl (R_as) ?_
  refine WL_stepM rfl (R_as) ?_
  refine WL_nil ?_
  refine W_seq ?_
  refine W_region_l ?_
  refine WL_stepM rfl (R_mv) ?_
  refine WL_stepM rfl (R_mv) ?_
  refine WL_stepM rfl (R_mv) ?_
  (refine WL_call rfl (R_call rfl Try.call26 rfl) (Caps.get_yes hS hq ht h rfl) ?_; rintro _ w11 ⟨rfl, H1⟩; replace H := H.seq0 H1; clear H1)
  refine WL_stepM rfl (R_mv) ?_
  refine WL_step rfl (R_extract rfl rfl) ?_
  refine WL_step rfl (R_extract rfl rfl) ?_
  (refine WL_effn rfl (E_allocK H) ?_; clear H; intro c15 w15 hc15 H)
  (refine WL_effu rfl (E_storeA (vs := [(.int _ _), (.int _ _), (.int _ _), (.int _ _), (.int _ _), (.int _ _)]) H Try.sizeOf38 rfl rfl (by simp [Value.oneCell']) .here (Nat.le_of_ble_eq_true rfl)) ?_; clear H; intro w16 H)
  refine WL_stepM rfl (R_as) ?_
  refine WL_nil ?_
  refine W_seq ?_
  refine W_block ?_
  refine W_seq ?_
  refine W_region_l ?_
  refine WL_stepM rfl (R_mv) ?_
  refine WL_step rfl (R_ne_f rfl rfl (by omega)) ?_
  refine WL_stepM rfl (R_as) ?_
  refine WL_nil ?_
  refine W_cond_f rfl ?_
  refine W_seq ?_
  refine W_region_l ?_
  refine WL_step rfl (R_fieldAddr (off' := 1) Try.underlying38 rfl Try.sizeOf3 (by decide) rfl rfl) ?_
  refine WL_step rfl (R_load Try.isAgg3 rfl (H.get .here) rfl) ?_
  refine WL_step rfl (R_bits (r := 0) rfl rfl (by simp) b4) ?_
  refine WL_step rfl (R_eq_t rfl rfl (by omega)) ?_
  refine WL_stepM rfl (R_mv) ?_
  refine WL_guard_f rfl rfl (by decide) ?_
  refine WL_guard_f rfl rfl (by decide) ?_
  refine WL_guard_f rfl rfl (by decide) ?_
  refine WL_guard_f rfl rfl (by decide) ?_
  refine WL_guard_f rfl rfl (by decide) ?_
  refine WL_stepM rfl (R_pk_t rfl) ?_
  refine WL_stepM rfl (R_as) ?_
  refine WL_nil ?_
  refine W_cond_t rfl ?_
  refine W_seq ?_
  refine W_region_l ?_
  refine WL_stepM rfl (R_as) ?_
  refine WL_stepM rfl (R_as) ?_
  refine WL_nil ?_
  refine W_ret ?_
  exact ⟨_, rfl, rfl, H.none (by repeat' first | exact kNil | apply kCons | apply kApp | assumption | exact OwnS.keys (by assumption))⟩
end
theorem R_ne_ref_f {E : Env} {w : World} {d : Option Nat} {ty : TypeId} {pos : String} {after : Array Edge} {t' : TypeId} {x y : Operand} {a b : Int} (hx : ev E x = .agg #[I a, I b]) (hy : ev E y = .agg #[I a, I b]) :
    (execOp (ev E) (mk d (.binOp .neq 36 x y t') ty pos after)).run Try.prog w = .ok (.value (.bool false)) w := by
  rw [R_ne_C eq_ref (ns := [a, b]) (ms := [a, b]) (xs := [I a, I b]) (ys := [I a, I b]) (by decide) (by kernel_rfl) hx hy rfl rfl rfl rfl, decide_eq_false (fun h => h rfl)]

theorem rows_c0 {R : List (Int × Int)} {sp : List Value} {i : Nat} {a b : Int} (h : R[i]? = some (a, b)) : (rows rc R ++ sp)[i * 2 + 0]? = some (I a) := by
  have hl := (List.getElem?_eq_some_iff.1 h).1
  rw [List.getElem?_append_left (by rw [rows_length rc_len]; omega), rows_get rc_len h (by decide)]; rfl
theorem rows_c1 {R : List (Int × Int)} {sp : List Value} {i : Nat} {a b : Int} (h : R[i]? = some (a, b)) : (rows rc R ++ sp)[i * 2 + 1]? = some (I b) := by
  have hl := (List.getElem?_eq_some_iff.1 h).1
  rw [List.getElem?_append_left (by rw [rows_length rc_len]; omega), rows_get rc_len h (by decide)]; rfl

theorem less_ret {os : List COp} {w : World} {lo : Value} {at_ : Int} (ho : RdR coC w lo os) (hob : os.length ≤ 9223372036854775807) : Ret Try.prog 7 #[lo, I at_] w fun v w' => v = .bool true ∧ Hp w [] w' := by
  refine Ret_of_W (args := [_, _]) Try.func7 rfl Try.ntmps7 Try.results7 (by simp) ?_
  have H := Hp.refl w
  obtain ⟨ao, co, rfl⟩ := ho.form
  refine W_seq ?_
  refine W_region_l ?_
  refine WL_stepM rfl (R_as) ?_
  refine WL_nil ?_
  refine W_seq ?_
  refine W_region_l ?_
  (refine WL_call rfl (R_call rfl Try.call13 rfl) (Caps.new_ret (E := 5) (by decide) (by decide) _) ?_; rintro _ w7 ⟨s, bs, cap, sp, PB, rfl, hPl, hs, hbs, hPB, H1⟩; have hsz := H.size; replace H := H.seqN H1 (spB_keys hs hbs hPB); clear H1; have hks := spB_keys (ts := List.replicate 5 t0) (cap := cap) (sp := sp) hs hbs hPB; replace hs := Nat.le_trans hsz hs; replace hbs := Nat.le_trans hsz hbs; have hkP : ∀ ts, ∀ p ∈ spB s bs cap sp PB ts, w.heap.size ≤ p.1 := fun ts => spB_keys hs hbs (fun q hq => ⟨Nat.le_trans hsz (hPB q hq).1, Nat.le_trans hsz (hPB q hq).2⟩); clear hPB hsz hks; obtain ⟨q0, hq0⟩ : ∃ q0, PB[0]? = some q0 := ⟨_, List.getElem?_eq_getElem (by omega)⟩; replace H : Hp w ([] ++ (spB s bs cap sp PB [t0, t0, t0, t0, t0] ++ [])) w7 := H)
  refine WL_stepM rfl (R_as) ?_
  refine WL_nil ?_
  refine W_seq ?_
  refine W_seq ?_
  refine W_region_l ?_
  refine WL_stepM rfl (R_mv) ?_
  refine WL_step rfl (R_eq_ptr_nil Try.underlying25 rfl rfl) ?_
  refine WL_nil ?_
  refine W_cond_f rfl ?_
  refine W_skip ?_
  refine W_seq ?_
  refine W_region_l ?_
  refine WL_stepM rfl (R_mv) ?_
  refine WL_step rfl (R_buildL (places := [(0, 1), (1, 1), (2, 1), (3, 1), (4, 2)]) (vs := (cp 9 (7 : Nat) 100 1000 0 0).c) Try.underlying38 Try.typeInfo38 rfl rfl (by kernel_rfl) rfl rfl rfl) ?_
  (refine WL_call rfl (R_call rfl Try.call18 rfl) (put_yes (j := 0) (i := 0) (r := 7) (o := 9) (lo := 100) (n := 1000) (re := 0) (rn := 0) (t := t0) (ts := [t0, t0, t0, t0, t0]) (Sp.of (fun p hp => H.held p (List.mem_append_right [] (List.mem_append_left _ hp))) ⟨by simp [hPl], by simp [t0], by simp only [List.mem_cons, List.not_mem_nil, or_false]; rintro t (rfl | rfl | rfl | rfl | rfl) <;> exact t0_g⟩) hq0 rfl (by decide) (by decide) (by decide) t0_at new_free (fun _ _ h => absurd h (Nat.not_lt_zero _))) ?_; rintro _ w22 ⟨rfl, H1⟩; replace H := seqSp (A := []) (t := t0) H hq0 rfl H1; clear H1; have hL := Lk.start; obtain ⟨ts, hts⟩ : ∃ ts, [t0, t0, t0, t0, t0].set 0 (t0.set 0 ⟨cp 9 (7 : Nat) 100 1000 0 0, newPl.g, true⟩) = ts := ⟨_, rfl⟩; replace H : Hp w (spB s bs cap sp PB ([t0, t0, t0, t0, t0].set 0 (t0.set 0 ⟨cp 9 (7 : Nat) 100 1000 0 0, newPl.g, true⟩)) ++ []) w22 := H; rw [hts] at H hL; clear hts)
  refine WL_stepM rfl (R_mv) ?_
  refine WL_step rfl (R_extract rfl rfl) ?_
  refine WL_step rfl (R_extract rfl rfl) ?_
  refine WL_stepM rfl (R_as) ?_
  refine WL_stepM rfl (R_as) ?_
  refine WL_nil ?_
  refine W_seq ?_
  refine W_seq ?_
  refine W_region_l ?_
  refine WL_stepM rfl (R_mv) ?_
  refine WL_step rfl (R_ne_f rfl rfl (by omega)) ?_
  refine WL_nil ?_
  refine W_cond_f rfl ?_
  refine W_skip ?_
  refine W_seq ?_
  refine W_region_l ?_
  refine WL_stepM rfl (R_mv) ?_
  refine WL_step rfl (R_buildL (places := [(0, 1), (1, 1)]) (vs := [I 0, I (0 + 256 * newPl.g : Nat)]) Try.underlying36 Try.typeInfo36 rfl rfl (by kernel_rfl) rfl rfl rfl) ?_
  (refine WL_effn rfl (E_buildRows (vss := [rc ((0 : Int), ((0 + 256 * newPl.g : Nat) : Int))]) H Try.underlying51 Try.sizeOf36 Try.zeroValue36 rfl rfl (by decide) rfl rfl (by simp [rc])) ?_; clear H; intro b41 w41 hb41 H; have hO : OwnS w.heap.size 36 2 (sl b41 0 1 1) 1 (rows rc [((0 : Int), ((0 + 256 * newPl.g : Nat) : Int))]) [(b41, blk (rows rc [((0 : Int), ((0 + 256 * newPl.g : Nat) : Int))] ++ []) 36)] := OwnS.new hb41 rfl rfl (by decide); replace H : Hp w ([(b41, blk (rows rc [((0 : Int), ((0 + 256 * newPl.g : Nat) : Int))] ++ []) 36)] ++ (spB s bs cap sp PB ts ++ [])) w41 := H; replace H := H.perm (M := spB s bs cap sp PB ts ++ [(b41, blk (rows rc [((0 : Int), ((0 + 256 * newPl.g : Nat) : Int))] ++ []) 36)]) (by rw [List.append_nil (spB s bs cap sp PB ts)]; exact List.perm_append_comm))
  refine WL_stepM rfl (R_as) ?_
  refine WL_nil ?_
  refine W_seq ?_
  refine W_seq ?_
  refine W_region_l ?_
  refine WL_stepM rfl (R_as) ?_
  refine WL_nil ?_
  refine W_block ?_
  refine W_loopS [(4, 4), (8, 19), (42, 158)] (fun (i : Nat) E w' => ∃ (C : List (Int × Int)) (ts : List (List Pl)) (r : Nat) (lo n : Int) (vr : Value) (MR : List (Nat × Obj)), i ≤ os.length ∧ i ≤ 25 ∧ Lk ts C r lo n ∧ C.length ≤ i + 1 ∧ E 8 = vr ∧ E 9 = I i ∧ OwnS w.heap.size 36 2 vr C.length (rows rc C) MR ∧ Hp w (spB s bs cap sp PB ts ++ MR) w') (fun i => 25 - i) 0 ?e0 ?r0
  · exact ⟨_, ts, 7, 100, 1000, _, _, by omega, by omega, hL, by simp, rfl, rfl, hO, H⟩
  · (clear H hL; rintro i E w1 ⟨C, ts, r, lo, n, vr, MR, hi, hi2, hL, hCl, h8, h9, hO, H⟩; obtain ⟨ub, uc, usp, rfl, hub, rfl, husp, huc⟩ := OwnS.pos hO hL.pos; have hCp := hL.pos; refine W_kn2 h8 h9 ?_)
    refine W_seq ?_
    refine W_seq ?_
    refine W_region_l ?_
    refine WL_stepM rfl (R_mv) ?_
    refine WL_stepM rfl (R_mv) ?_
    refine WL_step rfl (R_len_slice Try.underlying55 rfl) ?_
    refine WL_step rfl (R_lt rfl rfl) ?_
    refine WL_stepM rfl (R_mv) ?_
    apply WL_andK 3 46 49 [(47, 49)] H
    case hc => rfl
    case h1 =>
      intro h60
      refine WL_guard_t rfl rfl ?_
      refine WL_stepM rfl (R_mv) ?_
      refine WL_guard_t rfl rfl ?_
      refine WL_step rfl (R_lt rfl rfl) ?_
      refine WL_stepM rfl (R_pk_t rfl) ?_
      refine WL_nil ?_
      exact ⟨(same_mov rfl (same_updo rfl (same_mov rfl Same.refl))), rfl, H⟩
    case h0 =>
      intro h60
      refine WL_guard_f rfl rfl (by decide) ?_
      refine WL_guard_f rfl rfl (by decide) ?_
      refine WL_stepM rfl (R_pk_f rfl) ?_
      refine WL_nil ?_
      exact ⟨(same_mov rfl (same_updo rfl (same_updo rfl Same.refl))), rfl, H⟩
    case h2 =>
      (clear H; intro E60 w60 H)
      refine WL_nil ?_
      refine W_if rfl (fun h74 => ?_) (fun h74 => ?_)
      · refine W_skip ?_
        refine W_seq ?_
        refine W_block ?_
        refine W_seq ?_
        ((obtain ⟨⟨ok, oh, oto, ori, olo, onn, x1, x2, x3, x4, x5, x6, x7, x8⟩, ho1⟩ : ∃ o, os[i]? = some o := ⟨_, List.getElem?_eq_getElem (by omega)⟩; obtain ⟨bz, oz, rfl, hc⟩ := ho.cell coC_len ho1; obtain ⟨R, hR, hR8⟩ : ∃ N : Nat, ori % 8 = (N : Int) ∧ N < 8 := ⟨(ori % 8).toNat, by omega, by omega⟩; obtain ⟨T, hT, hT5⟩ : ∃ N : Nat, (oto % 256) % 5 = (N : Int) ∧ N < 5 := ⟨((oto % 256) % 5).toNat, by omega, by omega⟩; obtain ⟨L, hLo, hLo2⟩ : ∃ N : Nat, olo % 64 = (N : Int) ∧ N < 64 := ⟨(olo % 64).toNat, by omega, by omega⟩; obtain ⟨N, hN, hN2⟩ : ∃ N : Nat, onn % 1024 = (N : Int) ∧ N < 1024 := ⟨(onn % 1024).toNat, by omega, by omega⟩; obtain ⟨e, x, te, re, rn, hte, hx, hlast⟩ := hL.last; obtain ⟨NM, hNM⟩ : ∃ NM : Nat, x + 256 * newPl.g = NM := ⟨_, rfl⟩; rw [hNM] at hlast; have hrr := hL.hr; have hll := hL.hl; have hnn := hL.hn; have hln := hL.hln; have hel := (List.getElem?_eq_some_iff.1 hte).1; rw [hL.len] at hel; have hI := hL.inv hPl; obtain ⟨qe, hqe⟩ : ∃ q, PB[e]? = some q := ⟨_, List.getElem?_eq_getElem (by omega)⟩; obtain ⟨qT, hqT⟩ : ∃ q, PB[T]? = some q := ⟨_, List.getElem?_eq_getElem (by omega)⟩; obtain ⟨tT, htT⟩ : ∃ t, ts[T]? = some t := ⟨_, List.getElem?_eq_getElem (by have := hL.len; omega)⟩; obtain ⟨y, ⟨yv, yg, yu⟩, hy, hfy, hgy, hy32, hly⟩ := hL.room (by omega) htT; obtain rfl : yg = newPl.g := hgy)) <;> refine W_region_l ?_
        refine WL_stepM rfl (R_mv) ?_
        refine WL_stepM rfl (R_mv) ?_
        refine WL_step rfl (R_indexAddr Try.underlying55 Try.sizeOf57 rfl rfl (by omega) (by omega) idx_castn) ?_
        refine WL_step rfl (R_loadA_cell (vs := [I ok, I oh, I oto, I ori, I olo, I onn, I x1, I x2, I x3, I x4, I x5, I x6, I x7, I x8]) Try.isAgg57 Try.sizeOf57 rfl (fun j v hj => H.cellN (hc j v hj) (fun p hp => (List.mem_append.1 hp).elim (hkP _ p) (hO.keys p))) rfl) ?_
        (refine WL_effn rfl (E_alloc H Try.zeroValue57 rfl) ?_; clear H; intro c10 w84 hc10 H)
        (refine WL_effu rfl (E_storeA (vs := [I ok, I oh, I oto, I ori, I olo, I onn, I x1, I x2, I x3, I x4, I x5, I x6, I x7, I x8]) H Try.sizeOf57 rfl rfl (by simp [Value.oneCell']) .here (by simp)) ?_; clear H; intro w85 H; replace H : Hp w ((c10, blk [I ok, I oh, I oto, I ori, I olo, I onn, I x1, I x2, I x3, I x4, I x5, I x6, I x7, I x8] 57) :: (spB s bs cap sp PB ts ++ [(ub, blk (rows rc C ++ usp) 36)])) w85 := H)
        refine WL_nil ?_
        refine W_seq ?_
        refine W_region_l ?_
        refine WL_stepM rfl (R_mv) ?_
        refine WL_stepM rfl (R_mv) ?_
        refine WL_step rfl (R_len_slice Try.underlying51 rfl) ?_
        refine WL_step rfl (R_sub rfl rfl (w_i64 (by omega))) ?_
        refine WL_step rfl (R_indexAddr (off' := (C.length - 1) * 2) Try.underlying51 Try.sizeOf36 rfl rfl (by omega) (by omega) (by omega)) ?_
        refine WL_step rfl (R_loadA (vs := rc ((e : Int), (NM : Int))) Try.isAgg36 Try.sizeOf36 rfl (H.get (.there (.app _ .here))) (rows_at hlast) (by rw [List.length_append, rows_length rc_len]; show (C.length - 1) * 2 + 2 ≤ _; omega)) ?_
        (refine WL_effn rfl (E_alloc (vs := [I 0, I 0]) H Try.zeroValue36 rfl) ?_; clear H; intro c11 w95 hc11 H)
        (refine WL_effu rfl (E_storeA (vs := [I e, I NM]) H Try.sizeOf36 rfl rfl (by simp [Value.oneCell']) .here (by simp)) ?_; clear H; intro w96 H; replace H : Hp w ((c11, blk [I e, I NM] 36) :: (c10, blk [I ok, I oh, I oto, I ori, I olo, I onn, I x1, I x2, I x3, I x4, I x5, I x6, I x7, I x8] 57) :: (spB s bs cap sp PB ts ++ [(ub, blk (rows rc C ++ usp) 36)])) w96 := H)
        refine WL_nil ?_
        refine W_seq ?_
        refine W_region_l ?_
        refine WL_stepM rfl (R_mv) ?_
        refine WL_step rfl (R_fieldAddr (off' := 0) Try.underlying36 rfl Try.sizeOf3 (by decide) rfl rfl) ?_
        refine WL_step rfl (R_load Try.isAgg3 rfl (H.get .here) rfl) ?_
        refine WL_step rfl (R_fieldAddr (off' := 1) Try.underlying36 rfl Try.sizeOf3 (by decide) rfl rfl) ?_
        refine WL_step rfl (R_load Try.isAgg3 rfl (H.get .here) rfl) ?_
        (refine WL_call rfl (R_call rfl Try.call26 rfl) (show Ret Try.prog 26 #[ptr s 0, I e, I NM] _ (fun v w' => v = .tuple #[vk (cp 9 (r : Int) lo n re rn), I 0] ∧ Hp _ [] w') from by rw [← hNM]; exact Caps.get_yes (Sp.of (fun p hp => H.held p (.tail _ (.tail _ (List.mem_append_left _ hp)))) hI) hqe hte hx rfl) ?_; rintro _ w105 ⟨rfl, H1⟩; replace H := H.seq0 H1; clear H1)
        refine WL_stepM rfl (R_mv) ?_
        refine WL_step rfl (R_extract rfl rfl) ?_
        refine WL_step rfl (R_extract rfl rfl) ?_
        (refine WL_effn rfl (E_allocK H) ?_; clear H; intro c12 w109 hc12 H)
        (refine WL_effu rfl (E_storeK (q := cp 9 (r : Int) lo n re rn) H rfl rfl .here) ?_; clear H; intro w110 H; replace H : Hp w ((c12, blk [I 9, I (r : Int), I lo, I n, I re, I rn] 38) :: (c11, blk [I e, I NM] 36) :: (c10, blk [I ok, I oh, I oto, I ori, I olo, I onn, I x1, I x2, I x3, I x4, I x5, I x6, I x7, I x8] 57) :: (spB s bs cap sp PB ts ++ [(ub, blk (rows rc C ++ usp) 36)])) w110 := H)
        refine WL_stepM rfl (R_as) ?_
        refine WL_nil ?_
        refine W_seq ?_
        refine W_seq ?_
        refine W_region_l ?_
        refine WL_stepM rfl (R_mv) ?_
        refine WL_step rfl (R_ne_f rfl rfl (by omega)) ?_
        refine WL_nil ?_
        refine W_cond_f rfl ?_
        refine W_skip ?_
        refine W_seq ?_
        (refine W_drawH (fun _ => false) (by kernel_rfl) H ?_; clear H; intro w122 H)
        refine WA_take 0 rfl rfl rfl (by kernel_rfl) (by kernel_rfl) H (fun _ hC => R_fieldAddr (off' := 2) Try.underlying57 rfl Try.sizeOf3 (by decide) rfl rfl) ?_
        refine WA_take 1 rfl rfl rfl (by kernel_rfl) (by kernel_rfl) H (fun _ hC => R_load Try.isAgg3 rfl (hC.get (.there (.there .here))) rfl) ?_
        refine WA_take 2 rfl rfl rfl (by kernel_rfl) (by kernel_rfl) H (fun _ hC => R_bits (r := oto % 256) rfl rfl (by simp) (and_mask_i64 8 256 (by decide) rfl (by decide))) ?_
        refine WA_take 3 rfl rfl rfl (by kernel_rfl) (by kernel_rfl) H (fun _ hC => R_rem rfl rfl (by omega) ((rem_pos (by omega)).trans hT)) ?_
        refine WA_take 4 rfl rfl rfl (by kernel_rfl) (by kernel_rfl) H (fun _ hC => R_fieldAddr (off' := 4) Try.underlying57 rfl Try.sizeOf3 (by decide) rfl rfl) ?_
        refine WA_take 5 rfl rfl rfl (by kernel_rfl) (by kernel_rfl) H (fun _ hC => R_load Try.isAgg3 rfl (hC.get (.there (.there .here))) rfl) ?_
        refine WA_take 6 rfl rfl rfl (by kernel_rfl) (by kernel_rfl) H (fun _ hC => R_bits (r := (L : Int)) rfl rfl (by simp) ((and_mask_i64 6 64 (by decide) rfl (by decide)).trans hLo)) ?_
        refine WA_takeM 7 rfl rfl rfl (by kernel_rfl) (by kernel_rfl) H (fun _ hC => R_as) ?_
        refine WA_takeM 8 rfl rfl rfl (by kernel_rfl) (by kernel_rfl) H (fun _ hC => R_as) ?_
        refine WA_done (by kernel_rfl) ?_
        refine W_seq ?_
        ((obtain ⟨z4, hz4⟩ : ∃ z, r &&& 4 = z := ⟨_, rfl⟩; obtain ⟨z7, hz7⟩ : ∃ z, R &&& (7 - r) = z := ⟨_, rfl⟩; have b4 : bitsOf .and .i64 (r : Int) 4 = ((z4 : Nat) : Int) := (b_and hrr (by decide : (4 : Nat) < 8)).trans (by rw [hz4]); have b7 : bitsOf .andNot .i64 (R : Int) (r : Int) = ((z7 : Nat) : Int) := (b_andNot hR8 hrr).trans (by rw [hz7]); clear hz4 hz7; rcases (by omega : z4 = 0 ∨ (z4 ≠ 0 ∧ z7 ≠ 0) ∨ (z4 ≠ 0 ∧ z7 = 0 ∧ (n < L ∨ (L ≤ n ∧ n - L < N))) ∨ (z4 ≠ 0 ∧ z7 = 0 ∧ L ≤ n ∧ N ≤ n - L)) with h4 | ⟨h4, h7⟩ | ⟨h4, h7, hno⟩ | ⟨h4, h7, hl1, hl2⟩)) <;> refine W_region_l ?_
        · refine WL_stepM rfl (R_mv) ?_
          refine WL_step rfl (R_fieldAddr (off' := 0) Try.underlying36 rfl Try.sizeOf3 (by decide) rfl rfl) ?_
          refine WL_step rfl (R_load Try.isAgg3 rfl (H.get (.there .here)) rfl) ?_
          refine WL_step rfl (R_fieldAddr (off' := 1) Try.underlying36 rfl Try.sizeOf3 (by decide) rfl rfl) ?_
          refine WL_step rfl (R_load Try.isAgg3 rfl (H.get (.there .here)) rfl) ?_
          refine WL_stepM rfl (R_mv) ?_
          refine WL_step rfl (R_fieldAddr (off' := 3) Try.underlying57 rfl Try.sizeOf3 (by decide) rfl rfl) ?_
          refine WL_step rfl (R_load Try.isAgg3 rfl (H.get (.there (.there .here))) rfl) ?_
          refine WL_step rfl (R_bits (r := (R : Int)) rfl rfl (by simp) ((and_mask_i64 3 8 (by decide) rfl (by decide)).trans hR)) ?_
          refine WL_stepM rfl (R_mv) ?_
          refine WL_step rfl (R_fieldAddr (off' := 5) Try.underlying57 rfl Try.sizeOf3 (by decide) rfl rfl) ?_
          refine WL_step rfl (R_load Try.isAgg3 rfl (H.get (.there (.there .here))) rfl) ?_
          refine WL_step rfl (R_bits (r := (N : Int)) rfl rfl (by simp) ((and_mask_i64 10 1024 (by decide) rfl (by decide)).trans hN)) ?_
          (refine WL_call rfl (R_call rfl Try.call19 rfl) (show Ret Try.prog 19 #[ptr s 0, I e, I NM, I T, I R, I L, I N] _ (fun v w' => v = .tuple #[I 0, I 3] ∧ Hp _ [] w') from by rw [← hNM]; exact grant_nogive (Sp.of (fun p hp => H.held p (.tail _ (.tail _ (.tail _ (List.mem_append_left _ hp))))) hI) hqe hte hx (b4.trans (by rw [h4]; rfl))) ?_; rintro _ w148 ⟨rfl, H1⟩; replace H := H.seq0 H1; clear H1)
          refine WL_stepM rfl (R_mv) ?_
          refine WL_step rfl (R_extract rfl rfl) ?_
          refine WL_step rfl (R_extract rfl rfl) ?_
          refine WL_stepM rfl (R_as) ?_
          refine WL_stepM rfl (R_as) ?_
          refine WL_nil ?_
          refine W_seq ?_
          refine W_seq ?_
          refine W_region_l ?_
          refine WL_stepM rfl (R_mv) ?_
          refine WL_step rfl (R_ne_t rfl rfl (by omega)) ?_
          refine WL_nil ?_
          refine W_cond_t rfl ?_
          refine W_exit ?_
          refine (if_pos rfl).mpr ?_
          refine W_region_l ?_
          refine WL_stepM rfl (R_mv) ?_
          refine WL_step rfl (R_add rfl rfl (w_i64 (by omega))) ?_
          refine WL_stepM rfl (R_as) ?_
          refine WL_nil ?_
          exact ⟨(same_mov rfl (same_updo rfl (same_mov rfl (same_updo rfl (same_mov rfl (same_mov rfl (same_mov rfl (same_updo rfl (same_updo rfl (same_mov rfl (same_updo rfl (same_updo rfl (same_updo rfl (same_updo rfl (same_mov rfl (same_updo rfl (same_updo rfl (same_updo rfl (same_mov rfl (same_updo rfl (same_updo rfl (same_updo rfl (same_updo rfl (same_mov rfl (same_mov rfl (same_mov rfl (same_updo rfl (same_updo rfl (same_updo rfl (same_updo rfl (same_updo rfl (same_updo rfl (same_updo rfl (same_updo rfl (same_mov rfl (same_mov rfl (same_updn (same_updo rfl (same_updo rfl (same_updo rfl (same_mov rfl (same_updo rfl (same_updo rfl (same_updo rfl (same_updo rfl (same_updo rfl (same_mov rfl (same_updn (same_updo rfl (same_updo rfl (same_updo rfl (same_updo rfl (same_updo rfl (same_mov rfl (same_mov rfl (same_updn (same_updo rfl (same_updo rfl (same_updo rfl (same_mov rfl (same_mov rfl (same_know rfl (same_in rfl (same_mov rfl (same_updo rfl (same_updo rfl (same_mov rfl (same_mov rfl same_ovr)))))))))))))))))))))))))))))))))))))))))))))))))))))))))))))))))))), i + 1, by omega, C, ts, r, lo, n, _, _, by omega, by omega, hL, by omega, rfl, rfl, hO, ((H.pop (by assumption)).pop (by assumption)).pop (by assumption)⟩
        · refine WL_stepM rfl (R_mv) ?_
          refine WL_step rfl (R_fieldAddr (off' := 0) Try.underlying36 rfl Try.sizeOf3 (by decide) rfl rfl) ?_
          refine WL_step rfl (R_load Try.isAgg3 rfl (H.get (.there .here)) rfl) ?_
          refine WL_step rfl (R_fieldAddr (off' := 1) Try.underlying36 rfl Try.sizeOf3 (by decide) rfl rfl) ?_
          refine WL_step rfl (R_load Try.isAgg3 rfl (H.get (.there .here)) rfl) ?_
          refine WL_stepM rfl (R_mv) ?_
          refine WL_step rfl (R_fieldAddr (off' := 3) Try.underlying57 rfl Try.sizeOf3 (by decide) rfl rfl) ?_
          refine WL_step rfl (R_load Try.isAgg3 rfl (H.get (.there (.there .here))) rfl) ?_
          refine WL_step rfl (R_bits (r := (R : Int)) rfl rfl (by simp) ((and_mask_i64 3 8 (by decide) rfl (by decide)).trans hR)) ?_
          refine WL_stepM rfl (R_mv) ?_
          refine WL_step rfl (R_fieldAddr (off' := 5) Try.underlying57 rfl Try.sizeOf3 (by decide) rfl rfl) ?_
          refine WL_step rfl (R_load Try.isAgg3 rfl (H.get (.there (.there .here))) rfl) ?_
          refine WL_step rfl (R_bits (r := (N : Int)) rfl rfl (by simp) ((and_mask_i64 10 1024 (by decide) rfl (by decide)).trans hN)) ?_
          (refine WL_call rfl (R_call rfl Try.call19 rfl) (show Ret Try.prog 19 #[ptr s 0, I e, I NM, I T, I R, I L, I N] _ (fun v w' => v = .tuple #[I 0, I 3] ∧ Hp _ [] w') from by rw [← hNM]; exact grant_right (Sp.of (fun p hp => H.held p (.tail _ (.tail _ (.tail _ (List.mem_append_left _ hp))))) hI) hqe hte hx b4 (by omega) b7 (by omega)) ?_; rintro _ w183 ⟨rfl, H1⟩; replace H := H.seq0 H1; clear H1)
          refine WL_stepM rfl (R_mv) ?_
          refine WL_step rfl (R_extract rfl rfl) ?_
          refine WL_step rfl (R_extract rfl rfl) ?_
          refine WL_stepM rfl (R_as) ?_
          refine WL_stepM rfl (R_as) ?_
          refine WL_nil ?_
          refine W_seq ?_
          refine W_seq ?_
          refine W_region_l ?_
          refine WL_stepM rfl (R_mv) ?_
          refine WL_step rfl (R_ne_t rfl rfl (by omega)) ?_
          refine WL_nil ?_
          refine W_cond_t rfl ?_
          refine W_exit ?_
          refine (if_pos rfl).mpr ?_
          refine W_region_l ?_
          refine WL_stepM rfl (R_mv) ?_
          refine WL_step rfl (R_add rfl rfl (w_i64 (by omega))) ?_
          refine WL_stepM rfl (R_as) ?_
          refine WL_nil ?_
          exact ⟨(same_mov rfl (same_updo rfl (same_mov rfl (same_updo rfl (same_mov rfl (same_mov rfl (same_mov rfl (same_updo rfl (same_updo rfl (same_mov rfl (same_updo rfl (same_updo rfl (same_updo rfl (same_updo rfl (same_mov rfl (same_updo rfl (same_updo rfl (same_updo rfl (same_mov rfl (same_updo rfl (same_updo rfl (same_updo rfl (same_updo rfl (same_mov rfl (same_mov rfl (same_mov rfl (same_updo rfl (same_updo rfl (same_updo rfl (same_updo rfl (same_updo rfl (same_updo rfl (same_updo rfl (same_updo rfl (same_mov rfl (same_mov rfl (same_updn (same_updo rfl (same_updo rfl (same_updo rfl (same_mov rfl (same_updo rfl (same_updo rfl (same_updo rfl (same_updo rfl (same_updo rfl (same_mov rfl (same_updn (same_updo rfl (same_updo rfl (same_updo rfl (same_updo rfl (same_updo rfl (same_mov rfl (same_mov rfl (same_updn (same_updo rfl (same_updo rfl (same_updo rfl (same_mov rfl (same_mov rfl (same_know rfl (same_in rfl (same_mov rfl (same_updo rfl (same_updo rfl (same_mov rfl (same_mov rfl same_ovr)))))))))))))))))))))))))))))))))))))))))))))))))))))))))))))))))))), i + 1, by omega, C, ts, r, lo, n, _, _, by omega, by omega, hL, by omega, rfl, rfl, hO, ((H.pop (by assumption)).pop (by assumption)).pop (by assumption)⟩
        · refine WL_stepM rfl (R_mv) ?_
          refine WL_step rfl (R_fieldAddr (off' := 0) Try.underlying36 rfl Try.sizeOf3 (by decide) rfl rfl) ?_
          refine WL_step rfl (R_load Try.isAgg3 rfl (H.get (.there .here)) rfl) ?_
          refine WL_step rfl (R_fieldAddr (off' := 1) Try.underlying36 rfl Try.sizeOf3 (by decide) rfl rfl) ?_
          refine WL_step rfl (R_load Try.isAgg3 rfl (H.get (.there .here)) rfl) ?_
          refine WL_stepM rfl (R_mv) ?_
          refine WL_step rfl (R_fieldAddr (off' := 3) Try.underlying57 rfl Try.sizeOf3 (by decide) rfl rfl) ?_
          refine WL_step rfl (R_load Try.isAgg3 rfl (H.get (.there (.there .here))) rfl) ?_
          refine WL_step rfl (R_bits (r := (R : Int)) rfl rfl (by simp) ((and_mask_i64 3 8 (by decide) rfl (by decide)).trans hR)) ?_
          refine WL_stepM rfl (R_mv) ?_
          refine WL_step rfl (R_fieldAddr (off' := 5) Try.underlying57 rfl Try.sizeOf3 (by decide) rfl rfl) ?_
          refine WL_step rfl (R_load Try.isAgg3 rfl (H.get (.there (.there .here))) rfl) ?_
          refine WL_step rfl (R_bits (r := (N : Int)) rfl rfl (by simp) ((and_mask_i64 10 1024 (by decide) rfl (by decide)).trans hN)) ?_
          (refine WL_call rfl (R_call rfl Try.call19 rfl) (show Ret Try.prog 19 #[ptr s 0, I e, I NM, I T, I R, I L, I N] _ (fun v w' => v = .tuple #[I 0, I 1] ∧ Hp _ [] w') from by rw [← hNM]; exact grant_arg (Sp.of (fun p hp => H.held p (.tail _ (.tail _ (.tail _ (List.mem_append_left _ hp))))) hI) hqe hte hx (by omega) b4 (by omega) (b7.trans (by rw [h7]; rfl)) (by omega) (by omega) (by omega) (by omega)) ?_; rintro _ w218 ⟨rfl, H1⟩; replace H := H.seq0 H1; clear H1)
          refine WL_stepM rfl (R_mv) ?_
          refine WL_step rfl (R_extract rfl rfl) ?_
          refine WL_step rfl (R_extract rfl rfl) ?_
          refine WL_stepM rfl (R_as) ?_
          refine WL_stepM rfl (R_as) ?_
          refine WL_nil ?_
          refine W_seq ?_
          refine W_seq ?_
          refine W_region_l ?_
          refine WL_stepM rfl (R_mv) ?_
          refine WL_step rfl (R_ne_t rfl rfl (by omega)) ?_
          refine WL_nil ?_
          refine W_cond_t rfl ?_
          refine W_exit ?_
          refine (if_pos rfl).mpr ?_
          refine W_region_l ?_
          refine WL_stepM rfl (R_mv) ?_
          refine WL_step rfl (R_add rfl rfl (w_i64 (by omega))) ?_
          refine WL_stepM rfl (R_as) ?_
          refine WL_nil ?_
          exact ⟨(same_mov rfl (same_updo rfl (same_mov rfl (same_updo rfl (same_mov rfl (same_mov rfl (same_mov rfl (same_updo rfl (same_updo rfl (same_mov rfl (same_updo rfl (same_updo rfl (same_updo rfl (same_updo rfl (same_mov rfl (same_updo rfl (same_updo rfl (same_updo rfl (same_mov rfl (same_updo rfl (same_updo rfl (same_updo rfl (same_updo rfl (same_mov rfl (same_mov rfl (same_mov rfl (same_updo rfl (same_updo rfl (same_updo rfl (same_updo rfl (same_updo rfl (same_updo rfl (same_updo rfl (same_updo rfl (same_mov rfl (same_mov rfl (same_updn (same_updo rfl (same_updo rfl (same_updo rfl (same_mov rfl (same_updo rfl (same_updo rfl (same_updo rfl (same_updo rfl (same_updo rfl (same_mov rfl (same_updn (same_updo rfl (same_updo rfl (same_updo rfl (same_updo rfl (same_updo rfl (same_mov rfl (same_mov rfl (same_updn (same_updo rfl (same_updo rfl (same_updo rfl (same_mov rfl (same_mov rfl (same_know rfl (same_in rfl (same_mov rfl (same_updo rfl (same_updo rfl (same_mov rfl (same_mov rfl same_ovr)))))))))))))))))))))))))))))))))))))))))))))))))))))))))))))))))))), i + 1, by omega, C, ts, r, lo, n, _, _, by omega, by omega, hL, by omega, rfl, rfl, hO, ((H.pop (by assumption)).pop (by assumption)).pop (by assumption)⟩
        · refine WL_stepM rfl (R_mv) ?_
          refine WL_step rfl (R_fieldAddr (off' := 0) Try.underlying36 rfl Try.sizeOf3 (by decide) rfl rfl) ?_
          refine WL_step rfl (R_load Try.isAgg3 rfl (H.get (.there .here)) rfl) ?_
          refine WL_step rfl (R_fieldAddr (off' := 1) Try.underlying36 rfl Try.sizeOf3 (by decide) rfl rfl) ?_
          refine WL_step rfl (R_load Try.isAgg3 rfl (H.get (.there .here)) rfl) ?_
          refine WL_stepM rfl (R_mv) ?_
          refine WL_step rfl (R_fieldAddr (off' := 3) Try.underlying57 rfl Try.sizeOf3 (by decide) rfl rfl) ?_
          refine WL_step rfl (R_load Try.isAgg3 rfl (H.get (.there (.there .here))) rfl) ?_
          refine WL_step rfl (R_bits (r := (R : Int)) rfl rfl (by simp) ((and_mask_i64 3 8 (by decide) rfl (by decide)).trans hR)) ?_
          refine WL_stepM rfl (R_mv) ?_
          refine WL_step rfl (R_fieldAddr (off' := 5) Try.underlying57 rfl Try.sizeOf3 (by decide) rfl rfl) ?_
          refine WL_step rfl (R_load Try.isAgg3 rfl (H.get (.there (.there .here))) rfl) ?_
          refine WL_step rfl (R_bits (r := (N : Int)) rfl rfl (by simp) ((and_mask_i64 10 1024 (by decide) rfl (by decide)).trans hN)) ?_
          (refine WL_call rfl (R_call rfl Try.call19 rfl) (show Ret Try.prog 19 #[ptr s 0, I e, I NM, I T, I R, I L, I N] _ (fun v w' => v = .tuple #[I (y + 256 * newPl.g : Nat), I 0] ∧ Hp _ [(qT.2, blk (rows plc (tT.set y ⟨cp 9 (R : Int) (lo + L) N e NM, newPl.g, true⟩)) 137)] w') from by rw [← hNM]; exact grant_yes (a := ⟨yv, newPl.g, yu⟩) (Sp.of (fun p hp => H.held p (.tail _ (.tail _ (.tail _ (List.mem_append_left _ hp))))) hI) hqe hte hx hqT htT hy hfy hly b4 (by omega) (b7.trans (by rw [h7]; rfl)) (by omega) (by omega) (by omega) (by omega)) ?_; rintro _ w253 ⟨rfl, H1⟩; replace H := seqSp (A := [(c12, blk [I 9, I (r : Int), I lo, I n, I re, I rn] 38), (c11, blk [I e, I NM] 36), (c10, blk [I ok, I oh, I oto, I ori, I olo, I onn, I x1, I x2, I x3, I x4, I x5, I x6, I x7, I x8] 57)]) H hqT htT H1; clear H1; have hL2 := hL.grow hlast htT hy hfy hR8 (by omega : (0 : Int) ≤ L) (by omega : (0 : Int) ≤ N) hl1 hl2; have hI2 := hL2.inv hPl; have hat2 : (ts.set T (tT.set y ⟨cp 9 (R : Int) (lo + L) N e NM, newPl.g, true⟩))[T]? = some (tT.set y ⟨cp 9 (R : Int) (lo + L) N e NM, newPl.g, true⟩) := List.getElem?_set_self (List.getElem?_eq_some_iff.1 htT).1; have hay2 : (tT.set y ⟨cp 9 (R : Int) (lo + L) N e NM, newPl.g, true⟩)[y]? = some ⟨cp 9 (R : Int) (lo + L) N e NM, newPl.g, true⟩ := List.getElem?_set_self (List.getElem?_eq_some_iff.1 hy).1; obtain ⟨ts2, hts2⟩ : ∃ z, ts.set T (tT.set y ⟨cp 9 (R : Int) (lo + L) N e NM, newPl.g, true⟩) = z := ⟨_, rfl⟩; rw [hts2] at hat2; replace hL2 : Lk (ts.set T (tT.set y ⟨cp 9 (R : Int) (lo + L) N e NM, newPl.g, true⟩)) _ R (lo + L) N := hL2; replace hI2 : Inv PB (ts.set T (tT.set y ⟨cp 9 (R : Int) (lo + L) N e NM, newPl.g, true⟩)) := hI2; rw [hts2] at hL2 hI2; replace H : Hp w ((c12, blk [I 9, I (r : Int), I lo, I n, I re, I rn] 38) :: (c11, blk [I e, I NM] 36) :: (c10, blk [I ok, I oh, I oto, I ori, I olo, I onn, I x1, I x2, I x3, I x4, I x5, I x6, I x7, I x8] 57) :: (spB s bs cap sp PB (ts.set T (tT.set y ⟨cp 9 (R : Int) (lo + L) N e NM, newPl.g, true⟩)) ++ [(ub, blk (rows rc C ++ usp) 36)])) w253 := H; rw [hts2] at H)
          refine WL_stepM rfl (R_mv) ?_
          refine WL_step rfl (R_extract rfl rfl) ?_
          refine WL_step rfl (R_extract rfl rfl) ?_
          refine WL_stepM rfl (R_as) ?_
          refine WL_stepM rfl (R_as) ?_
          refine WL_nil ?_
          refine W_seq ?_
          refine W_seq ?_
          refine W_region_l ?_
          refine WL_stepM rfl (R_mv) ?_
          refine WL_step rfl (R_ne_f rfl rfl (by omega)) ?_
          refine WL_nil ?_
          refine W_cond_f rfl ?_
          refine W_skip ?_
          refine W_seq ?_
          refine W_region_l ?_
          refine WL_stepM rfl (R_mv) ?_
          refine WL_stepM rfl (R_mv) ?_
          refine WL_stepM rfl (R_mv) ?_
          (refine WL_call rfl (R_call rfl Try.call26 rfl) (Caps.get_yes (j := T) (i := y) (a := ⟨cp 9 (R : Int) (lo + L) N e NM, newPl.g, true⟩) (Sp.of (fun p hp => H.held p (.tail _ (.tail _ (.tail _ (List.mem_append_left _ hp))))) hI2) hqT hat2 hay2 rfl) ?_; rintro _ w273 ⟨rfl, H1⟩; replace H := H.seq0 H1; clear H1)
          refine WL_stepM rfl (R_mv) ?_
          refine WL_step rfl (R_extract rfl rfl) ?_
          refine WL_step rfl (R_extract rfl rfl) ?_
          (refine WL_effn rfl (E_allocK H) ?_; clear H; intro c18 w277 hc18 H)
          (refine WL_effu rfl (E_storeK (q := cp 9 (R : Int) (lo + L) N e NM) H rfl rfl .here) ?_; clear H; intro w278 H; replace H : Hp w ((c18, blk [I 9, I (R : Int), I (lo + L), I N, I e, I NM] 38) :: (c12, blk [I 9, I (r : Int), I lo, I n, I re, I rn] 38) :: (c11, blk [I e, I NM] 36) :: (c10, blk [I ok, I oh, I oto, I ori, I olo, I onn, I x1, I x2, I x3, I x4, I x5, I x6, I x7, I x8] 57) :: (spB s bs cap sp PB ts2 ++ [(ub, blk (rows rc C ++ usp) 36)])) w278 := H)
          refine WL_stepM rfl (R_as) ?_
          refine WL_nil ?_
          refine W_seq ?_
          refine W_seq ?_
          refine W_region_l ?_
          refine WL_stepM rfl (R_mv) ?_
          refine WL_step rfl (R_ne_f rfl rfl (by omega)) ?_
          refine WL_stepM rfl (R_mv) ?_
          refine WL_guard_t rfl rfl ?_
          refine WL_step rfl (R_fieldAddr (off' := 1) Try.underlying38 rfl Try.sizeOf3 (by decide) rfl rfl) ?_
          refine WL_guard_t rfl rfl ?_
          refine WL_step rfl (R_load Try.isAgg3 rfl (H.get .here) rfl) ?_
          refine WL_guard_t rfl rfl ?_
          refine WL_step rfl (R_fieldAddr (off' := 1) Try.underlying38 rfl Try.sizeOf3 (by decide) rfl rfl) ?_
          refine WL_guard_t rfl rfl ?_
          refine WL_step rfl (R_load Try.isAgg3 rfl (H.get (.there .here)) rfl) ?_
          refine WL_guard_t rfl rfl ?_
          refine WL_step rfl (R_bits (r := 0) rfl rfl (by simp) (b7.trans (by rw [h7]; rfl))) ?_
          refine WL_guard_t rfl rfl ?_
          refine WL_step rfl (R_ne_f rfl rfl (by omega)) ?_
          refine WL_stepM rfl (R_pk_f rfl) ?_
          refine WL_stepM rfl (R_mv) ?_
          refine WL_guard_t rfl rfl ?_
          refine WL_step rfl (R_fieldAddr (off' := 1) Try.underlying38 rfl Try.sizeOf3 (by decide) rfl rfl) ?_
          refine WL_guard_t rfl rfl ?_
          refine WL_step rfl (R_load Try.isAgg3 rfl (H.get (.there .here)) rfl) ?_
          refine WL_guard_t rfl rfl ?_
          refine WL_step rfl (R_bits (r := ((z4 : Nat) : Int)) rfl rfl (by simp) b4) ?_
          refine WL_guard_t rfl rfl ?_
          refine WL_step rfl (R_eq_f rfl rfl (by omega)) ?_
          refine WL_stepM rfl (R_pk_f rfl) ?_
          refine WL_stepM rfl (R_mv) ?_
          refine WL_guard_t rfl rfl ?_
          refine WL_step rfl (R_fieldAddr (off' := 2) Try.underlying38 rfl Try.sizeOf3 (by decide) rfl rfl) ?_
          refine WL_guard_t rfl rfl ?_
          refine WL_step rfl (R_load Try.isAgg3 rfl (H.get .here) rfl) ?_
          refine WL_guard_t rfl rfl ?_
          refine WL_step rfl (R_fieldAddr (off' := 2) Try.underlying38 rfl Try.sizeOf3 (by decide) rfl rfl) ?_
          refine WL_guard_t rfl rfl ?_
          refine WL_step rfl (R_load Try.isAgg3 rfl (H.get (.there .here)) rfl) ?_
          refine WL_guard_t rfl rfl ?_
          refine WL_step rfl (R_lt_f rfl rfl (by omega)) ?_
          refine WL_stepM rfl (R_pk_f rfl) ?_
          refine WL_stepM rfl (R_mv) ?_
          refine WL_guard_t rfl rfl ?_
          refine WL_step rfl (R_fieldAddr (off' := 2) Try.underlying38 rfl Try.sizeOf3 (by decide) rfl rfl) ?_
          refine WL_guard_t rfl rfl ?_
          refine WL_step rfl (R_load Try.isAgg3 rfl (H.get .here) rfl) ?_
          refine WL_guard_t rfl rfl ?_
          refine WL_step rfl (R_fieldAddr (off' := 3) Try.underlying38 rfl Try.sizeOf3 (by decide) rfl rfl) ?_
          refine WL_guard_t rfl rfl ?_
          refine WL_step rfl (R_load Try.isAgg3 rfl (H.get .here) rfl) ?_
          refine WL_guard_t rfl rfl ?_
          refine WL_step rfl (R_add rfl rfl (w_i64 (by omega))) ?_
          refine WL_guard_t rfl rfl ?_
          refine WL_step rfl (R_fieldAddr (off' := 2) Try.underlying38 rfl Try.sizeOf3 (by decide) rfl rfl) ?_
          refine WL_guard_t rfl rfl ?_
          refine WL_step rfl (R_load Try.isAgg3 rfl (H.get (.there .here)) rfl) ?_
          refine WL_guard_t rfl rfl ?_
          refine WL_step rfl (R_fieldAddr (off' := 3) Try.underlying38 rfl Try.sizeOf3 (by decide) rfl rfl) ?_
          refine WL_guard_t rfl rfl ?_
          refine WL_step rfl (R_load Try.isAgg3 rfl (H.get (.there .here)) rfl) ?_
          refine WL_guard_t rfl rfl ?_
          refine WL_step rfl (R_add rfl rfl (w_i64 (by omega))) ?_
          refine WL_guard_t rfl rfl ?_
          refine WL_step rfl (R_gt_f rfl rfl (by omega)) ?_
          refine WL_stepM rfl (R_pk_f rfl) ?_
          refine WL_stepM rfl (R_mv) ?_
          refine WL_guard_t rfl rfl ?_
          refine WL_step rfl (R_fieldAddr (off' := 0) Try.underlying38 rfl Try.sizeOf3 (by decide) rfl rfl) ?_
          refine WL_guard_t rfl rfl ?_
          refine WL_step rfl (R_load Try.isAgg3 rfl (H.get .here) rfl) ?_
          refine WL_guard_t rfl rfl ?_
          refine WL_step rfl (R_ne_f rfl rfl (by omega)) ?_
          refine WL_stepM rfl (R_pk_f rfl) ?_
          refine WL_stepM rfl (R_mv) ?_
          refine WL_guard_t rfl rfl ?_
          refine WL_step rfl (R_fieldAddr (off' := 4) Try.underlying38 rfl Try.sizeOf36 (by decide) rfl rfl) ?_
          refine WL_guard_t rfl rfl ?_
          refine WL_step rfl (R_loadA (vs := [I e, I NM]) Try.isAgg36 Try.sizeOf36 rfl (H.get .here) rfl (by simp)) ?_
          refine WL_guard_t rfl rfl ?_
          refine WL_step rfl (R_loadA (vs := [I e, I NM]) Try.isAgg36 Try.sizeOf36 rfl (H.get (.there (.there .here))) rfl (by simp)) ?_
          refine WL_guard_t rfl rfl ?_
          refine WL_step rfl (R_ne_ref_f (a := e) (b := NM) rfl rfl) ?_
          refine WL_stepM rfl (R_pk_f rfl) ?_
          refine WL_nil ?_
          refine W_cond_f rfl ?_
          refine W_skip ?_
          refine W_region_l ?_
          refine WL_stepM rfl (R_mv) ?_
          refine WL_stepM rfl (R_mv) ?_
          refine WL_stepM rfl (R_mv) ?_
          refine WL_step rfl (R_buildL (places := [(0, 1), (1, 1)]) (vs := [I T, I (y + 256 * newPl.g : Nat)]) Try.underlying36 Try.typeInfo36 rfl rfl (by kernel_rfl) rfl rfl rfl) ?_
          (refine WL_effn rfl (E_buildRows (vss := [rc ((T : Int), ((y + 256 * newPl.g : Nat) : Int))]) H Try.underlying51 Try.sizeOf36 Try.zeroValue36 rfl rfl (by decide) rfl rfl (by simp [rc])) ?_; clear H; intro b157 w372 hb157 H)
          (refine WL_effm rfl (E_append (news := rc ((T : Int), ((y + 256 * newPl.g : Nat) : Int))) H (.there (.there (.there (.there (.there (.app _ .last)))))) hO Try.underlying51 Try.typeInfo36 rfl rfl rfl rfl rfl rfl (src_blk (m := 1) (sp := []) Try.underlying51 (by rw [List.append_nil]; exact H.get .here) rfl (by simp [rc, Value.oneCell'])) (by omega) (by simp only [Try.t36]; omega)) ?_; clear H; intro vN MN w373 hON H)
          refine WL_stepM rfl (R_as) ?_
          refine WL_nil ?_
          refine W_region_l ?_
          refine WL_stepM rfl (R_mv) ?_
          refine WL_step rfl (R_add rfl rfl (w_i64 (by omega))) ?_
          refine WL_stepM rfl (R_as) ?_
          refine WL_nil ?_
          (have _g := hl2; exact ⟨(same_mov rfl (same_updo rfl (same_mov rfl (same_mov rfl (same_updo rfl (same_updo rfl (same_updo rfl (same_mov rfl (same_mov rfl (same_mov rfl (same_mov rfl (same_updo rfl (same_updo rfl (same_updo rfl (same_updo rfl (same_mov rfl (same_mov rfl (same_updo rfl (same_updo rfl (same_updo rfl (same_mov rfl (same_mov rfl (same_updo rfl (same_updo rfl (same_updo rfl (same_updo rfl (same_updo rfl (same_updo rfl (same_updo rfl (same_updo rfl (same_updo rfl (same_updo rfl (same_updo rfl (same_mov rfl (same_mov rfl (same_updo rfl (same_updo rfl (same_updo rfl (same_updo rfl (same_updo rfl (same_mov rfl (same_mov rfl (same_updo rfl (same_updo rfl (same_updo rfl (same_updo rfl (same_mov rfl (same_mov rfl (same_updo rfl (same_updo rfl (same_updo rfl (same_updo rfl (same_updo rfl (same_updo rfl (same_mov rfl (same_updo rfl (same_mov rfl (same_mov rfl (same_updn (same_updo rfl (same_updo rfl (same_updo rfl (same_mov rfl (same_updo rfl (same_mov rfl (same_mov rfl (same_mov rfl (same_updo rfl (same_mov rfl (same_mov rfl (same_mov rfl (same_updo rfl (same_updo rfl (same_mov rfl (same_updo rfl (same_updo rfl (same_updo rfl (same_updo rfl (same_mov rfl (same_updo rfl (same_updo rfl (same_updo rfl (same_mov rfl (same_updo rfl (same_updo rfl (same_updo rfl (same_updo rfl (same_mov rfl (same_mov rfl (same_mov rfl (same_updo rfl (same_updo rfl (same_updo rfl (same_updo rfl (same_updo rfl (same_updo rfl (same_updo rfl (same_updo rfl (same_mov rfl (same_mov rfl (same_updn (same_updo rfl (same_updo rfl (same_updo rfl (same_mov rfl (same_updo rfl (same_updo rfl (same_updo rfl (same_updo rfl (same_updo rfl (same_mov rfl (same_updn (same_updo rfl (same_updo rfl (same_updo rfl (same_updo rfl (same_updo rfl (same_mov rfl (same_mov rfl (same_updn (same_updo rfl (same_updo rfl (same_updo rfl (same_mov rfl (same_mov rfl (same_know rfl (same_in rfl (same_mov rfl (same_updo rfl (same_updo rfl (same_mov rfl (same_mov rfl same_ovr)))))))))))))))))))))))))))))))))))))))))))))))))))))))))))))))))))))))))))))))))))))))))))))))))))))))))))))))))))))))))))))))))))), i + 1, by omega, C ++ [((T : Int), ((y + 256 * newPl.g : Nat) : Int))], ts2, R, lo + L, N, vN, MN, by omega, by omega, hL2, by rw [List.length_append]; simp; omega, rfl, rfl, (by have hz := hON; rw [List.length_append]; rw [rows_append]; simpa [rows] using hz), ((((H.pop (by assumption)).pop (by assumption)).pop (by assumption)).pop (by assumption)).pop (by assumption)⟩)
      · refine W_exit ?_
        refine (if_pos rfl).mpr ?_
        refine W_seq ?_
        ((obtain ⟨K, hK, hKl⟩ : ∃ N : Nat, (at_ % 256) % (C.length : Int) = (N : Int) ∧ N < C.length := ⟨((at_ % 256) % (C.length : Int)).toNat, (Int.toNat_of_nonneg (Int.emod_nonneg _ (by omega))).symm, by have := Int.emod_lt_of_pos (at_ % 256) (b := (C.length : Int)) (by omega); have h2 := Int.emod_nonneg (at_ % 256) (b := (C.length : Int)) (by omega); omega⟩; obtain ⟨e, x, te, ae, hte, hx, hue, he5, hx32, hge, hat⟩ := hL.at hKl; have hNMa : ((x + 256 * ae.g : Nat) : Int) = ((x + 256 * newPl.g : Nat) : Int) := (by rw [hge]); obtain ⟨NM, hNM⟩ : ∃ NM : Int, ((x + 256 * newPl.g : Nat) : Int) = NM := ⟨_, rfl⟩; rw [hNM] at hNMa hat; have hI := hL.inv hPl; obtain ⟨qe, hqe⟩ : ∃ q, PB[e]? = some q := ⟨_, List.getElem?_eq_getElem (by omega)⟩; obtain ⟨U, hU⟩ : ∃ U, und C K (scan 0 ts) = U := ⟨_, rfl⟩; have hnd0 := rise_nodup (scan_rise ts 0 hL.g1); have hUl : U.length = C.length - (K + 1) := (by rw [← hU]; exact und_length hL.ch hnd0); have hUu : Up U := hU ▸ und_up hL; have hUn : U.Nodup := hU ▸ und_nodup hnd0; have hUs : ((e : Int), NM) ∉ U := hU ▸ self_notin hL.ch hat; have hG1000 : ∀ t ∈ ts, ∀ a ∈ t, a.g ≤ 1000 := fun t ht a ha => (by rw [hL.g1 t ht a ha]; decide))) <;> refine W_region_l ?_
        refine WL_stepM rfl (R_mv) ?_
        refine WL_step rfl (R_bits (r := at_ % 256) rfl rfl (by simp) (and_mask_i64 8 256 (by decide) rfl (by decide))) ?_
        refine WL_stepM rfl (R_mv) ?_
        refine WL_step rfl (R_len_slice Try.underlying51 rfl) ?_
        refine WL_step rfl (R_rem rfl rfl (by omega) ((rem_pos (by omega)).trans hK)) ?_
        refine WL_stepM rfl (R_as) ?_
        refine WL_nil ?_
        refine W_seq ?_
        (refine W_draw (Kp [(ub, blk (rows rc C ++ usp) 36)]) (fun _ => false) (by kernel_rfl) H ?_; clear H; intro w394 H)
        refine WA_takeM 0 rfl rfl rfl (by kernel_rfl) (by kernel_rfl) (H.kp.sub (by simp)) (fun _ hC => R_mv) ?_
        refine WA_takeM 1 rfl rfl rfl (by kernel_rfl) (by kernel_rfl) (H.kp.sub (by simp)) (fun _ hC => R_mv) ?_
        refine WA_takeM 2 rfl rfl rfl (by kernel_rfl) (by kernel_rfl) (H.kp.sub (by simp)) (fun _ hC => R_mv) ?_
        refine WA_take 3 rfl rfl rfl (by kernel_rfl) (by kernel_rfl) (H.kp.sub (by simp)) (fun _ hC => R_indexAddr (off' := K * 2) Try.underlying51 Try.sizeOf36 rfl rfl (by omega) (by omega) (by omega)) ?_
        refine WA_take 4 rfl rfl rfl (by kernel_rfl) (by kernel_rfl) (H.kp.sub (by simp)) (fun _ hC => R_fieldAddr Try.underlying36 rfl Try.sizeOf3 (by decide) rfl rfl) ?_
        refine WA_take 5 rfl rfl rfl (by kernel_rfl) (by kernel_rfl) (H.kp.sub (by simp)) (fun _ hC => R_load (v := I e) Try.isAgg3 rfl (hC.get .here) (rows_c0 hat)) ?_
        refine WA_takeM 6 rfl rfl rfl (by kernel_rfl) (by kernel_rfl) (H.kp.sub (by simp)) (fun _ hC => R_mv) ?_
        refine WA_takeM 7 rfl rfl rfl (by kernel_rfl) (by kernel_rfl) (H.kp.sub (by simp)) (fun _ hC => R_mv) ?_
        refine WA_take 8 rfl rfl rfl (by kernel_rfl) (by kernel_rfl) (H.kp.sub (by simp)) (fun _ hC => R_indexAddr (off' := K * 2) Try.underlying51 Try.sizeOf36 rfl rfl (by omega) (by omega) (by omega)) ?_
        refine WA_take 9 rfl rfl rfl (by kernel_rfl) (by kernel_rfl) (H.kp.sub (by simp)) (fun _ hC => R_fieldAddr (off' := _ + 1) Try.underlying36 rfl Try.sizeOf3 (by decide) rfl rfl) ?_
        refine WA_take 10 rfl rfl rfl (by kernel_rfl) (by kernel_rfl) (H.kp.sub (by simp)) (fun _ hC => R_load (v := I NM) Try.isAgg3 rfl (hC.get .here) (rows_c1 hat)) ?_
        refine WA_one (i := 11) (by kernel_rfl) ?_
        (refine WI_call rfl (.inl rfl) (R_call rfl Try.call27 rfl) (under_chain (Sp.of (fun p hp => H.held p (List.mem_append_left _ hp)) hI) (by omega) hL.ch (by omega) hat hNMa hqe hte hx hue (by rw [hU]; omega) (by rw [hU]; exact hUu)) (fun _ _ hR _ => by obtain ⟨_, _, _, hO', H'⟩ := hR; exact (H.seqO hO' H').2.kp.sub (by simp)) ?_; rintro _ w407 ⟨_, MU, rfl, hOU, H1⟩; rw [hU] at hOU; have h407 := H.seqO hOU H1; clear H H1 hOU; obtain ⟨hOU, H⟩ := h407; obtain ⟨ua, uca, rfl⟩ := hOU.form; replace H := Hp.dropN (M := MU) H hOU.keys)
        refine WA_takeM 12 rfl rfl rfl (by kernel_rfl) (by kernel_rfl) (H.kp.sub (by simp)) (fun _ hC => R_mv) ?_
        refine WA_take 13 rfl rfl rfl (by kernel_rfl) (by kernel_rfl) (H.kp.sub (by simp)) (fun _ hC => R_extract rfl rfl) ?_
        refine WA_take 14 rfl rfl rfl (by kernel_rfl) (by kernel_rfl) (H.kp.sub (by simp)) (fun _ hC => R_extract rfl rfl) ?_
        refine WA_takeM 15 rfl rfl rfl (by kernel_rfl) (by kernel_rfl) (H.kp.sub (by simp)) (fun _ hC => R_as) ?_
        refine WA_takeM 16 rfl rfl rfl (by kernel_rfl) (by kernel_rfl) (H.kp.sub (by simp)) (fun _ hC => R_as) ?_
        refine WA_done (by kernel_rfl) ?_
        refine W_seq ?_
        (refine W_draw (Kp [(ub, blk (rows rc C ++ usp) 36)]) (fun _ => false) (by kernel_rfl) H ?_; clear H; intro w415 H)
        refine WA_takeM 0 rfl rfl rfl (by kernel_rfl) (by kernel_rfl) (H.kp.sub (by simp)) (fun _ hC => R_mv) ?_
        refine WA_takeM 1 rfl rfl rfl (by kernel_rfl) (by kernel_rfl) (H.kp.sub (by simp)) (fun _ hC => R_mv) ?_
        refine WA_takeM 2 rfl rfl rfl (by kernel_rfl) (by kernel_rfl) (H.kp.sub (by simp)) (fun _ hC => R_mv) ?_
        refine WA_take 3 rfl rfl rfl (by kernel_rfl) (by kernel_rfl) (H.kp.sub (by simp)) (fun _ hC => R_indexAddr (off' := K * 2) Try.underlying51 Try.sizeOf36 rfl rfl (by omega) (by omega) (by omega)) ?_
        refine WA_take 4 rfl rfl rfl (by kernel_rfl) (by kernel_rfl) (H.kp.sub (by simp)) (fun _ hC => R_fieldAddr Try.underlying36 rfl Try.sizeOf3 (by decide) rfl rfl) ?_
        refine WA_take 5 rfl rfl rfl (by kernel_rfl) (by kernel_rfl) (H.kp.sub (by simp)) (fun _ hC => R_load (v := I e) Try.isAgg3 rfl (hC.get .here) (rows_c0 hat)) ?_
        refine WA_takeM 6 rfl rfl rfl (by kernel_rfl) (by kernel_rfl) (H.kp.sub (by simp)) (fun _ hC => R_mv) ?_
        refine WA_takeM 7 rfl rfl rfl (by kernel_rfl) (by kernel_rfl) (H.kp.sub (by simp)) (fun _ hC => R_mv) ?_
        refine WA_take 8 rfl rfl rfl (by kernel_rfl) (by kernel_rfl) (H.kp.sub (by simp)) (fun _ hC => R_indexAddr (off' := K * 2) Try.underlying51 Try.sizeOf36 rfl rfl (by omega) (by omega) (by omega)) ?_
        refine WA_take 9 rfl rfl rfl (by kernel_rfl) (by kernel_rfl) (H.kp.sub (by simp)) (fun _ hC => R_fieldAddr (off' := _ + 1) Try.underlying36 rfl Try.sizeOf3 (by decide) rfl rfl) ?_
        refine WA_take 10 rfl rfl rfl (by kernel_rfl) (by kernel_rfl) (H.kp.sub (by simp)) (fun _ hC => R_load (v := I NM) Try.isAgg3 rfl (hC.get .here) (rows_c1 hat)) ?_
        refine WA_one (i := 11) (by kernel_rfl) ?_
        (refine WI_call rfl (.inl rfl) (R_call rfl Try.call24 rfl) (revoke_chain H hI hG1000 (by omega) hL.ch (by omega) hat hNMa hqe hte hx hue hU (by omega) hUu hUn hUs) (fun _ _ hR _ => by obtain ⟨_, _, _, _, H'⟩ := hR; exact H'.kp.sub (by simp)) ?_; rintro _ w428 ⟨rfl, ts', hD, hI', H⟩)
        refine WA_takeM 12 rfl rfl rfl (by kernel_rfl) (by kernel_rfl) (H.kp.sub (by simp)) (fun _ hC => R_mv) ?_
        refine WA_take 13 rfl rfl rfl (by kernel_rfl) (by kernel_rfl) (H.kp.sub (by simp)) (fun _ hC => R_extract rfl rfl) ?_
        refine WA_take 14 rfl rfl rfl (by kernel_rfl) (by kernel_rfl) (H.kp.sub (by simp)) (fun _ hC => R_extract rfl rfl) ?_
        refine WA_takeM 15 rfl rfl rfl (by kernel_rfl) (by kernel_rfl) (H.kp.sub (by simp)) (fun _ hC => R_as) ?_
        refine WA_takeM 16 rfl rfl rfl (by kernel_rfl) (by kernel_rfl) (H.kp.sub (by simp)) (fun _ hC => R_as) ?_
        refine WA_done (by kernel_rfl) ?_
        refine W_seq ?_
        refine W_seq ?_
        refine W_region_l ?_
        refine WL_stepM rfl (R_mv) ?_
        refine WL_step rfl (R_ne_f rfl rfl (by omega)) ?_
        refine WL_stepM rfl (R_mv) ?_
        refine WL_guard_t rfl rfl ?_
        refine WL_stepM rfl (R_mv) ?_
        refine WL_guard_t rfl rfl ?_
        refine WL_step rfl (R_ne_f rfl rfl (by omega)) ?_
        refine WL_stepM rfl (R_pk_f rfl) ?_
        refine WL_stepM rfl (R_mv) ?_
        refine WL_guard_t rfl rfl ?_
        refine WL_stepM rfl (R_mv) ?_
        refine WL_guard_t rfl rfl ?_
        refine WL_stepM rfl (R_mv) ?_
        refine WL_guard_t rfl rfl ?_
        refine WL_step rfl (R_len_slice Try.underlying51 rfl) ?_
        refine WL_guard_t rfl rfl ?_
        refine WL_stepM rfl (R_mv) ?_
        refine WL_guard_t rfl rfl ?_
        refine WL_step rfl (R_sub rfl rfl (w_i64 (by omega))) ?_
        refine WL_guard_t rfl rfl ?_
        refine WL_step rfl (R_ne_f rfl rfl (by omega)) ?_
        refine WL_stepM rfl (R_pk_f rfl) ?_
        refine WL_stepM rfl (R_mv) ?_
        refine WL_guard_t rfl rfl ?_
        refine WL_stepM rfl (R_mv) ?_
        refine WL_guard_t rfl rfl ?_
        refine WL_step rfl (R_len_slice Try.underlying51 rfl) ?_
        refine WL_guard_t rfl rfl ?_
        refine WL_stepM rfl (R_mv) ?_
        refine WL_guard_t rfl rfl ?_
        refine WL_step rfl (R_sub rfl rfl (w_i64 (by omega))) ?_
        refine WL_guard_t rfl rfl ?_
        refine WL_step rfl (R_ne_f rfl rfl (by omega)) ?_
        refine WL_stepM rfl (R_pk_f rfl) ?_
        refine WL_nil ?_
        refine W_cond_f rfl ?_
        refine W_skip ?_
        refine W_seq ?_
        refine W_seq ?_
        refine W_region_l ?_
        refine WL_stepM rfl (R_as) ?_
        refine WL_nil ?_
        refine W_block ?_
        refine W_loopS [(4, 4), (25, 27), (215, 241)] (fun (i : Nat) E w' => i ≤ C.length ∧ E 25 = I i ∧ Hp w (spB s bs cap sp PB ts' ++ [(ub, blk (rows rc C ++ usp) 36)]) w') (fun i => C.length - i) 0 ?e2 ?r2
        · exact ⟨by omega, rfl, H⟩
        · (clear H; rintro i E w1 ⟨hi, h25, H⟩; refine W_kn h25 ?_; rcases (by omega : i < K ∨ (K ≤ i ∧ i < C.length) ∨ C.length ≤ i) with hiK | ⟨hiK, hiC⟩ | hiC)
          · refine W_seq ?_
            refine W_seq ?_
            refine W_region_l ?_
            refine WL_stepM rfl (R_mv) ?_
            refine WL_stepM rfl (R_mv) ?_
            refine WL_step rfl (R_len_slice Try.underlying51 rfl) ?_
            refine WL_step rfl (R_lt_t rfl rfl (by omega)) ?_
            refine WL_nil ?_
            refine W_cond_t rfl ?_
            refine W_skip ?_
            refine W_seq ?_
            refine W_block ?_
            refine W_seq ?_
            (have _g : i < K := hiK; obtain ⟨e1, x1, t1, a1, ht1, hx1, hu1, he1, hx132, hg1, hat1⟩ := hL.at (show i < C.length by omega); obtain ⟨NM1, hNM1⟩ : ∃ NM : Int, ((x1 + 256 * newPl.g : Nat) : Int) = NM := ⟨_, rfl⟩; rw [hNM1] at hat1; have hb := hL.behind hat (by rw [hU]; exact hD) hat1; obtain ⟨q1, hq1⟩ : ∃ q, PB[e1]? = some q := ⟨_, List.getElem?_eq_getElem (by omega)⟩; obtain ⟨t1', ht1'⟩ : ∃ t, ts'[e1]? = some t := ⟨_, List.getElem?_eq_getElem (by rw [hI'.len]; omega)⟩; obtain ⟨e3, t3, x3, a3, g1, g2, g3, g4⟩ := hb.1 hiK; obtain ⟨g5, g6⟩ := Prod.mk.inj g4; obtain rfl : e1 = e3 := (by omega); obtain rfl : t1' = t3 := Option.some.inj (ht1'.symm.trans g1); refine W_draw (Kp [(ub, blk (rows rc C ++ usp) 36)]) (fun _ => false) (by kernel_rfl) H ?_; clear H; intro w496 H)
            refine WA_takeM 0 rfl rfl rfl (by kernel_rfl) (by kernel_rfl) (H.kp.sub (by simp)) (fun _ hC => R_mv) ?_
            refine WA_takeM 1 rfl rfl rfl (by kernel_rfl) (by kernel_rfl) (H.kp.sub (by simp)) (fun _ hC => R_mv) ?_
            refine WA_takeM 2 rfl rfl rfl (by kernel_rfl) (by kernel_rfl) (H.kp.sub (by simp)) (fun _ hC => R_mv) ?_
            refine WA_take 3 rfl rfl rfl (by kernel_rfl) (by kernel_rfl) (H.kp.sub (by simp)) (fun _ hC => R_indexAddr (off' := i * 2) Try.underlying51 Try.sizeOf36 rfl rfl (by omega) (by omega) (by omega)) ?_
            refine WA_take 4 rfl rfl rfl (by kernel_rfl) (by kernel_rfl) (H.kp.sub (by simp)) (fun _ hC => R_fieldAddr Try.underlying36 rfl Try.sizeOf3 (by decide) rfl rfl) ?_
            refine WA_take 5 rfl rfl rfl (by kernel_rfl) (by kernel_rfl) (H.kp.sub (by simp)) (fun _ hC => R_load (v := I e1) Try.isAgg3 rfl (hC.get .here) (rows_c0 hat1)) ?_
            refine WA_takeM 6 rfl rfl rfl (by kernel_rfl) (by kernel_rfl) (H.kp.sub (by simp)) (fun _ hC => R_mv) ?_
            refine WA_takeM 7 rfl rfl rfl (by kernel_rfl) (by kernel_rfl) (H.kp.sub (by simp)) (fun _ hC => R_mv) ?_
            refine WA_take 8 rfl rfl rfl (by kernel_rfl) (by kernel_rfl) (H.kp.sub (by simp)) (fun _ hC => R_indexAddr (off' := i * 2) Try.underlying51 Try.sizeOf36 rfl rfl (by omega) (by omega) (by omega)) ?_
            refine WA_take 9 rfl rfl rfl (by kernel_rfl) (by kernel_rfl) (H.kp.sub (by simp)) (fun _ hC => R_fieldAddr (off' := _ + 1) Try.underlying36 rfl Try.sizeOf3 (by decide) rfl rfl) ?_
            refine WA_take 10 rfl rfl rfl (by kernel_rfl) (by kernel_rfl) (H.kp.sub (by simp)) (fun _ hC => R_load (v := I NM1) Try.isAgg3 rfl (hC.get .here) (rows_c1 hat1)) ?_
            refine WA_two (i := 11) (j := 15) (by kernel_rfl) ?_ ?_
            · (have _g : i < K := hiK; refine WI_call rfl (.inl rfl) (R_call rfl Try.call26 rfl) (show Ret Try.prog 26 #[ptr s 0, I e1, I NM1] _ (fun v w' => v = .tuple #[vk a3.v, I 0] ∧ Hp _ [] w') from by rw [g6]; exact Caps.get_yes (Sp.of (fun p hp => H.held p (by first | exact List.mem_append_left _ hp | exact .tail _ (List.mem_append_left _ hp))) hI') hq1 g1 g2 g3) (fun _ _ hR _ => (H.seq0 hR.2).kp.sub (by simp)) ?_; rintro _ w509 ⟨rfl, H1⟩; replace H := H.seq0 H1; clear H1)
              refine WA_takeM 12 rfl rfl rfl (by kernel_rfl) (by kernel_rfl) (H.kp.sub (by simp)) (fun _ hC => R_mv) ?_
              refine WA_take 13 rfl rfl rfl (by kernel_rfl) (by kernel_rfl) (H.kp.sub (by simp)) (fun _ hC => R_extract rfl rfl) ?_
              refine WA_take 14 rfl rfl rfl (by kernel_rfl) (by kernel_rfl) (H.kp.sub (by simp)) (fun _ hC => R_extract rfl rfl) ?_
              refine WA_one (i := 15) (by kernel_rfl) ?_
              (refine WI_effnA rfl (.inl rfl) (E_allocK H) (fun _ _ _ H _ => H.kp.sub (by simp)) ?_; clear H; intro c26 w514 hc26 H)
              refine WA_one (i := 16) (by kernel_rfl) ?_
              (refine WI_effu rfl (.inl rfl) (E_storeK (q := a3.v) H rfl rfl .here) (fun _ H _ => H.kp.sub (by simp)) ?_; clear H; intro w516 H)
              refine WA_takeM 17 rfl rfl rfl (by kernel_rfl) (by kernel_rfl) (H.kp.sub (by simp)) (fun _ hC => R_as) ?_
              refine WA_done (by kernel_rfl) ?_
              refine W_seq ?_
              refine W_region_l ?_
              refine WL_stepM rfl (R_mv) ?_
              refine WL_step rfl (R_eq_t rfl rfl (by omega)) ?_
              refine WL_stepM rfl (R_mv) ?_
              refine WL_stepM rfl (R_mv) ?_
              refine WL_step rfl (R_lt_t rfl rfl (by omega)) ?_
              refine WL_step rfl (R_ne_bool_f Try.underlying4 rfl rfl (by decide)) ?_
              refine WL_nil ?_
              refine W_cond_f rfl ?_
              refine W_skip ?_
              refine W_region_l ?_
              refine WL_stepM rfl (R_mv) ?_
              refine WL_step rfl (R_add rfl rfl (w_i64 (by omega))) ?_
              refine WL_stepM rfl (R_as) ?_
              refine WL_nil ?_
              exact ⟨(same_mov rfl (same_updo rfl (same_mov rfl (same_updo rfl (same_updo rfl (same_mov rfl (same_mov rfl (same_updo rfl (same_mov rfl (same_mov rfl (same_updn (same_updo rfl (same_updo rfl (same_updo rfl (same_mov rfl (same_updo rfl (same_updo rfl (same_updo rfl (same_updo rfl (same_mov rfl (same_mov rfl (same_updo rfl (same_updo rfl (same_updo rfl (same_mov rfl (same_mov rfl (same_mov rfl (same_updo rfl (same_updo rfl (same_mov rfl (same_mov rfl same_ovr))))))))))))))))))))))))))))))), i + 1, by omega, by omega, rfl, H.pop (by assumption)⟩
            · (refine WI_effnA rfl (.inl rfl) (E_allocK H) (fun _ _ _ H _ => H.kp.sub (by simp)) ?_; clear H; intro c26 w536 hc26 H)
              refine WA_one (i := 11) (by kernel_rfl) ?_
              (have _g : i < K := hiK; refine WI_call rfl (.inl rfl) (R_call rfl Try.call26 rfl) (show Ret Try.prog 26 #[ptr s 0, I e1, I NM1] _ (fun v w' => v = .tuple #[vk a3.v, I 0] ∧ Hp _ [] w') from by rw [g6]; exact Caps.get_yes (Sp.of (fun p hp => H.held p (by first | exact List.mem_append_left _ hp | exact .tail _ (List.mem_append_left _ hp))) hI') hq1 g1 g2 g3) (fun _ _ hR _ => (H.seq0 hR.2).kp.sub (by simp)) ?_; rintro _ w538 ⟨rfl, H1⟩; replace H := H.seq0 H1; clear H1)
              refine WA_takeM 12 rfl rfl rfl (by kernel_rfl) (by kernel_rfl) (H.kp.sub (by simp)) (fun _ hC => R_mv) ?_
              refine WA_take 13 rfl rfl rfl (by kernel_rfl) (by kernel_rfl) (H.kp.sub (by simp)) (fun _ hC => R_extract rfl rfl) ?_
              refine WA_take 14 rfl rfl rfl (by kernel_rfl) (by kernel_rfl) (H.kp.sub (by simp)) (fun _ hC => R_extract rfl rfl) ?_
              refine WA_one (i := 16) (by kernel_rfl) ?_
              (refine WI_effu rfl (.inl rfl) (E_storeK (q := a3.v) H rfl rfl .here) (fun _ H _ => H.kp.sub (by simp)) ?_; clear H; intro w543 H)
              refine WA_takeM 17 rfl rfl rfl (by kernel_rfl) (by kernel_rfl) (H.kp.sub (by simp)) (fun _ hC => R_as) ?_
              refine WA_done (by kernel_rfl) ?_
              refine W_seq ?_
              refine W_region_l ?_
              refine WL_stepM rfl (R_mv) ?_
              refine WL_step rfl (R_eq_t rfl rfl (by omega)) ?_
              refine WL_stepM rfl (R_mv) ?_
              refine WL_stepM rfl (R_mv) ?_
              refine WL_step rfl (R_lt_t rfl rfl (by omega)) ?_
              refine WL_step rfl (R_ne_bool_f Try.underlying4 rfl rfl (by decide)) ?_
              refine WL_nil ?_
              refine W_cond_f rfl ?_
              refine W_skip ?_
              refine W_region_l ?_
              refine WL_stepM rfl (R_mv) ?_
              refine WL_step rfl (R_add rfl rfl (w_i64 (by omega))) ?_
              refine WL_stepM rfl (R_as) ?_
              refine WL_nil ?_
              exact ⟨(same_mov rfl (same_updo rfl (same_mov rfl (same_updo rfl (same_updo rfl (same_mov rfl (same_mov rfl (same_updo rfl (same_mov rfl (same_mov rfl (same_updn (same_updo rfl (same_updo rfl (same_mov rfl (same_updo rfl (same_updo rfl (same_updo rfl (same_updo rfl (same_updo rfl (same_mov rfl (same_mov rfl (same_updo rfl (same_updo rfl (same_updo rfl (same_mov rfl (same_mov rfl (same_mov rfl (same_updo rfl (same_updo rfl (same_mov rfl (same_mov rfl same_ovr))))))))))))))))))))))))))))))), i + 1, by omega, by omega, rfl, H.pop (by assumption)⟩
          · refine W_seq ?_
            refine W_seq ?_
            refine W_region_l ?_
            refine WL_stepM rfl (R_mv) ?_
            refine WL_stepM rfl (R_mv) ?_
            refine WL_step rfl (R_len_slice Try.underlying51 rfl) ?_
            refine WL_step rfl (R_lt_t rfl rfl (by omega)) ?_
            refine WL_nil ?_
            refine W_cond_t rfl ?_
            refine W_skip ?_
            refine W_seq ?_
            refine W_block ?_
            refine W_seq ?_
            (have _g : K ≤ i := hiK; obtain ⟨e1, x1, t1, a1, ht1, hx1, hu1, he1, hx132, hg1, hat1⟩ := hL.at (show i < C.length by omega); obtain ⟨NM1, hNM1⟩ : ∃ NM : Int, ((x1 + 256 * newPl.g : Nat) : Int) = NM := ⟨_, rfl⟩; rw [hNM1] at hat1; have hb := hL.behind hat (by rw [hU]; exact hD) hat1; obtain ⟨q1, hq1⟩ : ∃ q, PB[e1]? = some q := ⟨_, List.getElem?_eq_getElem (by omega)⟩; obtain ⟨t1', ht1'⟩ : ∃ t, ts'[e1]? = some t := ⟨_, List.getElem?_eq_getElem (by rw [hI'.len]; omega)⟩; have hgone := hb.2 hiK; refine W_draw (Kp [(ub, blk (rows rc C ++ usp) 36)]) (fun _ => false) (by kernel_rfl) H ?_; clear H; intro w576 H)
            refine WA_takeM 0 rfl rfl rfl (by kernel_rfl) (by kernel_rfl) (H.kp.sub (by simp)) (fun _ hC => R_mv) ?_
            refine WA_takeM 1 rfl rfl rfl (by kernel_rfl) (by kernel_rfl) (H.kp.sub (by simp)) (fun _ hC => R_mv) ?_
            refine WA_takeM 2 rfl rfl rfl (by kernel_rfl) (by kernel_rfl) (H.kp.sub (by simp)) (fun _ hC => R_mv) ?_
            refine WA_take 3 rfl rfl rfl (by kernel_rfl) (by kernel_rfl) (H.kp.sub (by simp)) (fun _ hC => R_indexAddr (off' := i * 2) Try.underlying51 Try.sizeOf36 rfl rfl (by omega) (by omega) (by omega)) ?_
            refine WA_take 4 rfl rfl rfl (by kernel_rfl) (by kernel_rfl) (H.kp.sub (by simp)) (fun _ hC => R_fieldAddr Try.underlying36 rfl Try.sizeOf3 (by decide) rfl rfl) ?_
            refine WA_take 5 rfl rfl rfl (by kernel_rfl) (by kernel_rfl) (H.kp.sub (by simp)) (fun _ hC => R_load (v := I e1) Try.isAgg3 rfl (hC.get .here) (rows_c0 hat1)) ?_
            refine WA_takeM 6 rfl rfl rfl (by kernel_rfl) (by kernel_rfl) (H.kp.sub (by simp)) (fun _ hC => R_mv) ?_
            refine WA_takeM 7 rfl rfl rfl (by kernel_rfl) (by kernel_rfl) (H.kp.sub (by simp)) (fun _ hC => R_mv) ?_
            refine WA_take 8 rfl rfl rfl (by kernel_rfl) (by kernel_rfl) (H.kp.sub (by simp)) (fun _ hC => R_indexAddr (off' := i * 2) Try.underlying51 Try.sizeOf36 rfl rfl (by omega) (by omega) (by omega)) ?_
            refine WA_take 9 rfl rfl rfl (by kernel_rfl) (by kernel_rfl) (H.kp.sub (by simp)) (fun _ hC => R_fieldAddr (off' := _ + 1) Try.underlying36 rfl Try.sizeOf3 (by decide) rfl rfl) ?_
            refine WA_take 10 rfl rfl rfl (by kernel_rfl) (by kernel_rfl) (H.kp.sub (by simp)) (fun _ hC => R_load (v := I NM1) Try.isAgg3 rfl (hC.get .here) (rows_c1 hat1)) ?_
            refine WA_two (i := 11) (j := 15) (by kernel_rfl) ?_ ?_
            · (have _g : K ≤ i := hiK; refine WI_call rfl (.inl rfl) (R_call rfl Try.call26 rfl) (Caps.get_no (Sp.of (fun p hp => H.held p (by first | exact List.mem_append_left _ hp | exact .tail _ (List.mem_append_left _ hp))) hI') hq1 ht1' NM1 (fun z a h hu hh => hgone e1 t1' z a ht1' h hu (by rw [hh]))) (fun _ _ hR _ => (H.seq0 hR.2).kp.sub (by simp)) ?_; rintro _ w589 ⟨rfl, H1⟩; replace H := H.seq0 H1; clear H1)
              refine WA_takeM 12 rfl rfl rfl (by kernel_rfl) (by kernel_rfl) (H.kp.sub (by simp)) (fun _ hC => R_mv) ?_
              refine WA_take 13 rfl rfl rfl (by kernel_rfl) (by kernel_rfl) (H.kp.sub (by simp)) (fun _ hC => R_extract rfl rfl) ?_
              refine WA_take 14 rfl rfl rfl (by kernel_rfl) (by kernel_rfl) (H.kp.sub (by simp)) (fun _ hC => R_extract rfl rfl) ?_
              refine WA_one (i := 15) (by kernel_rfl) ?_
              (refine WI_effnA rfl (.inl rfl) (E_allocK H) (fun _ _ _ H _ => H.kp.sub (by simp)) ?_; clear H; intro c26 w594 hc26 H)
              refine WA_one (i := 16) (by kernel_rfl) ?_
              (refine WI_effu rfl (.inl rfl) (E_storeK (q := zk) H rfl rfl .here) (fun _ H _ => H.kp.sub (by simp)) ?_; clear H; intro w596 H)
              refine WA_takeM 17 rfl rfl rfl (by kernel_rfl) (by kernel_rfl) (H.kp.sub (by simp)) (fun _ hC => R_as) ?_
              refine WA_done (by kernel_rfl) ?_
              refine W_seq ?_
              refine W_region_l ?_
              refine WL_stepM rfl (R_mv) ?_
              refine WL_step rfl (R_eq_f rfl rfl (by omega)) ?_
              refine WL_stepM rfl (R_mv) ?_
              refine WL_stepM rfl (R_mv) ?_
              refine WL_step rfl (R_lt_f rfl rfl (by omega)) ?_
              refine WL_step rfl (R_ne_bool_f Try.underlying4 rfl rfl (by decide)) ?_
              refine WL_nil ?_
              refine W_cond_f rfl ?_
              refine W_skip ?_
              refine W_region_l ?_
              refine WL_stepM rfl (R_mv) ?_
              refine WL_step rfl (R_add rfl rfl (w_i64 (by omega))) ?_
              refine WL_stepM rfl (R_as) ?_
              refine WL_nil ?_
              exact ⟨(same_mov rfl (same_updo rfl (same_mov rfl (same_updo rfl (same_updo rfl (same_mov rfl (same_mov rfl (same_updo rfl (same_mov rfl (same_mov rfl (same_updn (same_updo rfl (same_updo rfl (same_updo rfl (same_mov rfl (same_updo rfl (same_updo rfl (same_updo rfl (same_updo rfl (same_mov rfl (same_mov rfl (same_updo rfl (same_updo rfl (same_updo rfl (same_mov rfl (same_mov rfl (same_mov rfl (same_updo rfl (same_updo rfl (same_mov rfl (same_mov rfl same_ovr))))))))))))))))))))))))))))))), i + 1, by omega, by omega, rfl, H.pop (by assumption)⟩
            · (refine WI_effnA rfl (.inl rfl) (E_allocK H) (fun _ _ _ H _ => H.kp.sub (by simp)) ?_; clear H; intro c26 w616 hc26 H)
              refine WA_one (i := 11) (by kernel_rfl) ?_
              (have _g : K ≤ i := hiK; refine WI_call rfl (.inl rfl) (R_call rfl Try.call26 rfl) (Caps.get_no (Sp.of (fun p hp => H.held p (by first | exact List.mem_append_left _ hp | exact .tail _ (List.mem_append_left _ hp))) hI') hq1 ht1' NM1 (fun z a h hu hh => hgone e1 t1' z a ht1' h hu (by rw [hh]))) (fun _ _ hR _ => (H.seq0 hR.2).kp.sub (by simp)) ?_; rintro _ w618 ⟨rfl, H1⟩; replace H := H.seq0 H1; clear H1)
              refine WA_takeM 12 rfl rfl rfl (by kernel_rfl) (by kernel_rfl) (H.kp.sub (by simp)) (fun _ hC => R_mv) ?_
              refine WA_take 13 rfl rfl rfl (by kernel_rfl) (by kernel_rfl) (H.kp.sub (by simp)) (fun _ hC => R_extract rfl rfl) ?_
              refine WA_take 14 rfl rfl rfl (by kernel_rfl) (by kernel_rfl) (H.kp.sub (by simp)) (fun _ hC => R_extract rfl rfl) ?_
              refine WA_one (i := 16) (by kernel_rfl) ?_
              (refine WI_effu rfl (.inl rfl) (E_storeK (q := zk) H rfl rfl .here) (fun _ H _ => H.kp.sub (by simp)) ?_; clear H; intro w623 H)
              refine WA_takeM 17 rfl rfl rfl (by kernel_rfl) (by kernel_rfl) (H.kp.sub (by simp)) (fun _ hC => R_as) ?_
              refine WA_done (by kernel_rfl) ?_
              refine W_seq ?_
              refine W_region_l ?_
              refine WL_stepM rfl (R_mv) ?_
              refine WL_step rfl (R_eq_f rfl rfl (by omega)) ?_
              refine WL_stepM rfl (R_mv) ?_
              refine WL_stepM rfl (R_mv) ?_
              refine WL_step rfl (R_lt_f rfl rfl (by omega)) ?_
              refine WL_step rfl (R_ne_bool_f Try.underlying4 rfl rfl (by decide)) ?_
              refine WL_nil ?_
              refine W_cond_f rfl ?_
              refine W_skip ?_
              refine W_region_l ?_
              refine WL_stepM rfl (R_mv) ?_
              refine WL_step rfl (R_add rfl rfl (w_i64 (by omega))) ?_
              refine WL_stepM rfl (R_as) ?_
              refine WL_nil ?_
              exact ⟨(same_mov rfl (same_updo rfl (same_mov rfl (same_updo rfl (same_updo rfl (same_mov rfl (same_mov rfl (same_updo rfl (same_mov rfl (same_mov rfl (same_updn (same_updo rfl (same_updo rfl (same_mov rfl (same_updo rfl (same_updo rfl (same_updo rfl (same_updo rfl (same_updo rfl (same_mov rfl (same_mov rfl (same_updo rfl (same_updo rfl (same_updo rfl (same_mov rfl (same_mov rfl (same_mov rfl (same_updo rfl (same_updo rfl (same_mov rfl (same_mov rfl same_ovr))))))))))))))))))))))))))))))), i + 1, by omega, by omega, rfl, H.pop (by assumption)⟩
          · refine W_seq ?_
            refine W_seq ?_
            refine W_region_l ?_
            refine WL_stepM rfl (R_mv) ?_
            refine WL_stepM rfl (R_mv) ?_
            refine WL_step rfl (R_len_slice Try.underlying51 rfl) ?_
            refine WL_step rfl (R_lt_f rfl rfl (by omega)) ?_
            refine WL_nil ?_
            refine W_cond_f rfl ?_
            refine W_exit ?_
            refine (if_pos rfl).mpr ?_
            refine W_seq ?_
            refine W_region_l ?_
            (refine WL_call rfl (R_call rfl Try.call25 rfl) (awake3_ret _) ?_; rintro _ w656 ⟨rfl, H1⟩; replace H := H.seq0 H1; clear H1)
            refine WL_stepM rfl (R_as) ?_
            refine WL_nil ?_
            refine W_ret ?_
            exact ⟨_, rfl, rfl, H.none (fun p hp => (List.mem_append.1 hp).elim (hkP _ p) (hO.keys p))⟩
end Go.Proofs.Ythonajikgljgmaa.Caps

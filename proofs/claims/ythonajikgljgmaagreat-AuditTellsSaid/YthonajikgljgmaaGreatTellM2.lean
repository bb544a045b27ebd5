/-
  Two lists of records that are the same; what comes in for Bytes.
-/
import Derived.Test.YthonajikgljgmaaGreatTellC
import Derived.Test.YthonajikgljgmaaGreatSlotM3
namespace Go.Proofs.YthonajikgljgmaaGreat.Aud
open Go Go.Proofs Go.Proofs.YthonajikgljgmaaGreat.Fx
set_option maxRecDepth 100000
set_option linter.unusedVariables false
set_option linter.unusedSimpArgs false
set_option maxHeartbeats 16000000

def recKZ : List IntKind := [.i64] ++ ([.i64] ++ [])
theorem eq_recZ : EqC Tryz.prog 32 recKZ true 2 := by
  have hi := EqC.int Tryz.isAgg3 Tryz.sizeOf3 Tryz.underlying3
  refine EqC.struct (d0 := 1) Tryz.isAgg32 Tryz.sizeOf32 Tryz.underlying32 (by kernel_rfl) ?_
  unfold recKZ
  refine FieldsC.cons (by decide) rfl hi (by decide) ?_
  exact FieldsC.cons (by decide) rfl hi (by decide) .nil
theorem R_ne_rec {E : Env} {w : World} {d : Option Nat} {ty : TypeId} {pos : String} {after : Array Edge} {t' : TypeId} {x y : Operand} {a b : Int} (hx : ev E x = .agg #[I a, I b]) (hy : ev E y = .agg #[I a, I b]) :
    (execOp (ev E) (mk d (.binOp .neq 32 x y t') ty pos after)).run Tryz.prog w = .ok (.value (.bool false)) w := by
  rw [R_ne_C eq_recZ (ns := [a, b]) (ms := [a, b]) (xs := [I a, I b]) (ys := [I a, I b]) (by decide) (by kernel_rfl) hx hy rfl rfl rfl rfl, decide_eq_false (fun h => h rfl)]

theorem same_ret {A : List (Int × Int)} {w : World} {a b : Value} (ha : RdR recC w a A) (hb : RdR recC w b A) (hA : A.length ≤ 100000) :
    Ret Tryz.prog 10 #[a, b] w fun v w' => v = .bool true ∧ Hp w [] w' := by
  refine Ret_of_W (args := [_, _]) Tryz.func10 rfl Tryz.ntmps10 Tryz.results10 (by simp) ?_
  have H := Hp.refl w
  obtain ⟨ao, ca, rfl⟩ := ha.form
  obtain ⟨bo, cb, rfl⟩ := hb.form
  refine W_seq ?_
  refine W_region_l ?_
  refine WL_stepM rfl (R_as) ?_
  refine WL_nil ?_
  refine W_seq ?_
  refine W_seq ?_
  refine W_region_l ?_
  refine WL_stepM rfl (R_mv) ?_
  refine WL_step rfl (R_len_slice Tryz.underlying33 rfl) ?_
  refine WL_stepM rfl (R_mv) ?_
  refine WL_step rfl (R_len_slice Tryz.underlying33 rfl) ?_
  refine WL_step rfl (R_ne_f rfl rfl (by omega)) ?_
  refine WL_nil ?_
  refine W_cond_f rfl ?_
  refine W_skip ?_
  refine W_seq ?_
  refine W_seq ?_
  refine W_region_l ?_
  refine WL_stepM rfl (R_as) ?_
  refine WL_nil ?_
  refine W_block ?_
  refine W_loopS [(4, 5), (11, 25)] (fun (i : Nat) E w' => i ≤ A.length ∧ E 5 = I i ∧ Hp w [] w') (fun i => A.length - i) 0 ?e0 ?r0
  · exact ⟨by omega, rfl, H⟩
  · (clear H; rintro i E w1 ⟨hi, h5, H⟩; refine W_kn h5 ?_)
    refine W_seq ?_
    refine W_seq ?_
    refine W_region_l ?_
    refine WL_stepM rfl (R_mv) ?_
    refine WL_stepM rfl (R_mv) ?_
    refine WL_step rfl (R_len_slice Tryz.underlying33 rfl) ?_
    refine WL_step rfl (R_lt rfl rfl) ?_
    refine WL_nil ?_
    refine W_if rfl (fun h32 => ?_) (fun h32 => ?_)
    · refine W_skip ?_
      refine W_seq ?_
      refine W_block ?_
      refine W_seq ?_
      (obtain ⟨⟨x, y⟩, hr⟩ : ∃ r, A[i]? = some r := ⟨_, List.getElem?_eq_getElem (by omega)⟩; obtain ⟨b1, o1, rfl, hc1⟩ := ha.cell recC_len hr; obtain ⟨b2, o2, rfl, hc2⟩ := hb.cell recC_len hr; refine W_drawH (fun _ => false) (by kernel_rfl) H ?_; clear H; intro w37 H)
      refine WA_takeM 0 rfl rfl rfl (by kernel_rfl) (by kernel_rfl) H (fun _ hC => R_mv) ?_
      refine WA_takeM 1 rfl rfl rfl (by kernel_rfl) (by kernel_rfl) H (fun _ hC => R_mv) ?_
      refine WA_take 2 rfl rfl rfl (by kernel_rfl) (by kernel_rfl) H (fun _ hC => R_indexAddr (off' := o1 + i * 2) Tryz.underlying33 Tryz.sizeOf32 rfl rfl (by omega) (by omega) (by omega)) ?_
      refine WA_take 3 rfl rfl rfl (by kernel_rfl) (by kernel_rfl) H (fun _ hC => R_loadA_cell (vs := recC (x, y)) Tryz.isAgg32 Tryz.sizeOf32 rfl (fun j v hj => hC.cell (hc1 j v hj) (by simp)) (recC_len _)) ?_
      refine WA_takeM 4 rfl rfl rfl (by kernel_rfl) (by kernel_rfl) H (fun _ hC => R_mv) ?_
      refine WA_takeM 5 rfl rfl rfl (by kernel_rfl) (by kernel_rfl) H (fun _ hC => R_mv) ?_
      refine WA_take 6 rfl rfl rfl (by kernel_rfl) (by kernel_rfl) H (fun _ hC => R_indexAddr (off' := o2 + i * 2) Tryz.underlying33 Tryz.sizeOf32 rfl rfl (by omega) (by omega) (by omega)) ?_
      refine WA_take 7 rfl rfl rfl (by kernel_rfl) (by kernel_rfl) H (fun _ hC => R_loadA_cell (vs := recC (x, y)) Tryz.isAgg32 Tryz.sizeOf32 rfl (fun j v hj => hC.cell (hc2 j v hj) (by simp)) (recC_len _)) ?_
      refine WA_take 8 rfl rfl rfl (by kernel_rfl) (by kernel_rfl) H (fun _ hC => R_ne_rec rfl rfl) ?_
      refine WA_done (by kernel_rfl) ?_
      refine W_cond_f rfl ?_
      refine W_skip ?_
      refine W_region_l ?_
      refine WL_stepM rfl (R_mv) ?_
      refine WL_step rfl (R_add rfl rfl (w_i64 (by omega))) ?_
      refine WL_stepM rfl (R_as) ?_
      refine WL_nil ?_
      exact ⟨(same_mov rfl (same_updo rfl (same_mov rfl (same_updo rfl (same_updo rfl (same_updo rfl (same_mov rfl (same_mov rfl (same_updo rfl (same_updo rfl (same_mov rfl (same_mov rfl (same_know rfl (same_updo rfl (same_updo rfl (same_mov rfl (same_mov rfl same_ovr))))))))))))))))), i + 1, by omega, by omega, rfl, H⟩
    · refine W_exit ?_
      refine (if_pos rfl).mpr ?_
      refine W_seq ?_
      refine W_region_l ?_
      refine WL_stepM rfl (R_as) ?_
      refine WL_nil ?_
      refine W_ret ?_
      exact ⟨_, rfl, rfl, H⟩
end Go.Proofs.YthonajikgljgmaaGreat.Aud

/-
  The document's Bytes.
-/
namespace Go.Proofs.YthonajikgljgmaaGreat.Aud
open Go Go.Proofs Go.Proofs.YthonajikgljgmaaGreat.Fx
set_option maxRecDepth 100000
set_option linter.unusedVariables false
set_option linter.unusedSimpArgs false
set_option maxHeartbeats 16000000

theorem run_storeCells_atL (P : Program) (g o : Nat) (t : TypeId) (fz : Nat × Nat) : ∀ (vs : List Value) (i : Nat) (cur : Array Value) (w : World), w.heap[g]? = some (.cells cur t fz) → o + i + vs.length ≤ fz.1 → o + i + vs.length ≤ cur.size → (∀ v ∈ vs, v.oneCell' = true) →
    (storeCells ⟨g, o, none⟩ vs i).run P w = .ok () (w.setRow g (cur.toList.take (o + i) ++ vs ++ cur.toList.drop (o + i + vs.length)).toArray)
  | [], i, cur, w, hg, _, _, _ => by
    simp only [storeCells, List.append_nil, List.length_nil, Nat.add_zero, List.take_append_drop, Array.toArray_toList]
    rw [setRow_self w g cur t fz hg]
    rfl
  | v :: rest, i, cur, w, hg, hf, hl, h1 => by
    have hi : o + i < cur.size := by simp at hl; omega
    have hfi : o + i < fz.1 := by simp at hf; omega
    have hadd : (⟨g, o, none⟩ : Addr).add i = ⟨g, o + i, none⟩ := by unfold Addr.add; split <;> simp_all
    have hcell : w.cell? ⟨g, o + i, none⟩ = some cur[o + i] := by simp [World.cell?, hg, hi]
    have hfro : w.frozen? ⟨g, o + i, none⟩ = false := by simp [World.frozen?, hg]; omega
    have hst : (store ((⟨g, o, none⟩ : Addr).add i) v).run P w = .ok () (w.setRow g (cur.setIfInBounds (o + i) v)) := by
      rw [hadd, run_store P w _ v _ (h1 v (by simp)), hcell]
      simp [hfro, setCell_eq_setRow w g (o + i) cur t fz v hg]
    have ih := run_storeCells_atL P g o t fz rest (i + 1) (cur.setIfInBounds (o + i) v) (w.setRow g (cur.setIfInBounds (o + i) v)) (setRow_heap w g cur _ t _ hg) (by simp at hf ⊢; omega) (by simp at hl ⊢; omega) (fun x hx => h1 x (by simp [hx]))
    simp only [storeCells, Sem.run_bind, hst, Result.andThen_ok, ih, setRow_setRow]
    congr 3
    have e := list_seg_step cur.toList (o + i) v rest (by simp at hl ⊢; omega)
    simpa [Array.toList_setIfInBounds, Nat.add_assoc] using e
section
variable {P : Program} {E : Env} {w0 w : World} {L : List (Nat × Obj)} {d : Option Nat} {ty : TypeId} {pos : String} {after : Array Edge}
theorem setRowF {b : Nat} {c c' : List Value} {e : TypeId} {fz : Nat × Nat} {f} (H : Hp w0 L w) (hL : At L b (.cells c.toArray e fz) f) : Hp w0 (f (.cells c'.toArray e fz)) (w.setRow b c'.toArray) := by
  refine H.put hL rfl rfl rfl (by simp) (fun k _ hk => ?_) ?_
  · simp only [World.setRow, Array.getElem?_modify]
    rw [if_neg (by omega)]
  · have hb := H.get hL
    simp [World.setRow, Array.getElem?_modify, hb]
theorem E_copyF {dT sT elem : TypeId} {b off len cap : Nat} {c xs : List Value} {e : TypeId} {fz : Nat × Nat} {f} {u : Value} {x y : Operand} (H : Hp w0 L w) (hL : At L b (.cells c.toArray e fz) f) (ht : P.underlying dT = some (.slice elem)) (hS : ∀ w, (sizeOf elem).run P w = .ok 1 w)
    (hx : ev E x = sl b off len cap) (hy : ev E y = u) (hu : CopySrc P w u xs) (hfit : off + len ≤ c.length) (hfz : off + len ≤ fz.1) (h1 : ∀ v ∈ xs, v.oneCell' = true) :
    ∃ (v : Value) (w' : World), v = I (min xs.length len : Nat) ∧ Hp w0 (f (.cells (c.take off ++ xs.take len ++ c.drop (off + min xs.length len)).toArray e fz)) w' ∧
      (execOp (ev E) (mk d (bi .copy #[x, y] #[dT, sT]) ty pos after)).run P w = .ok (.value v) w' := by
  have hg := H.get hL
  have e1 : xs.take len = xs.take (min xs.length len) := by
    rcases Nat.le_total xs.length len with h | h
    · rw [Nat.min_eq_left h, List.take_of_length_le h, List.take_length]
    · rw [Nat.min_eq_right h]
  have hlen : (xs.take len).length = min xs.length len := by rw [List.length_take, Nat.min_comm]
  have hst := run_storeCells_atL P b off e fz (xs.take len) 0 c.toArray w hg (by rw [hlen]; omega) (by rw [hlen]; simp; omega) (fun v hv => h1 v (List.mem_of_mem_take hv))
  simp only [Nat.add_zero, hlen] at hst
  have hfc := hu.2 (min xs.length len) (Nat.min_le_left _ _)
  rw [← e1] at hfc
  refine ⟨_, _, rfl, setRowF H hL (c' := c.take off ++ xs.take len ++ c.drop (off + min xs.length len)), ?_⟩
  · have hnm : Nat.min xs.length len = min xs.length len := rfl
    simp [execOp, resolve, invoke, builtin, hx, hy, Builtin.copy_, run_underlying ht, hu.1, hS, hnm, hfc, hst, goInt]
/-- bytes laid over a part of a row, whatever they are -/
theorem E_putAny {dT sT elem : TypeId} {b a len cap : Nat} {xs ys : List UInt8} {sp : List Value} {e : TypeId} {fz : Nat × Nat} {f} {u : Value} {x y : Operand}
    (H : Hp w0 L w) (hL : At L b (.cells (xs.map U ++ sp).toArray e fz) f) (ht : P.underlying dT = some (.slice elem)) (hS : ∀ w, (sizeOf elem).run P w = .ok 1 w)
    (hx : ev E x = sl b a len cap) (hy : ev E y = u) (hu : CopySrc P w u (ys.map U)) (hlen : a + len = xs.length) (hfz : xs.length ≤ fz.1) :
    ∃ (v : Value) (zs : List UInt8) (w' : World), ((∃ n : Nat, v = I n) ∧ zs.length = xs.length) ∧ Hp w0 (f (.cells (zs.map U ++ sp).toArray e fz)) w' ∧
      (execOp (ev E) (mk d (bi .copy #[x, y] #[dT, sT]) ty pos after)).run P w = .ok (.value v) w' := by
  obtain ⟨v, w', hv, H', hr⟩ := E_copyF (d := d) (ty := ty) (pos := pos) (after := after) (sT := sT) (len := len) H hL ht hS hx hy hu (by rw [List.length_append, List.length_map]; omega) (by omega) (by intro v hv; obtain ⟨z, _, rfl⟩ := List.mem_map.1 hv; rfl)
  refine ⟨v, xs.take a ++ ys.take len ++ xs.drop (a + min ys.length len), w', ⟨⟨_, hv⟩, ?_⟩, ?_, hr⟩
  · simp only [List.length_append, List.length_take, List.length_drop]; omega
  · have e1 : (xs.map U ++ sp).take a ++ (ys.map U).take len ++ (xs.map U ++ sp).drop (a + min (ys.map U).length len) = (xs.take a ++ ys.take len ++ xs.drop (a + min ys.length len)).map U ++ sp := by
      rw [List.take_append_of_le_length (by rw [List.length_map]; omega), List.drop_append_of_le_length (by rw [List.length_map, List.length_map]; omega)]
      simp [List.map_take, List.map_drop]
    rw [e1] at H'
    exact H'
end

/-- a record that comes in -/
structure RecV where
  k : Int
  i : Int
  x : Int
  lv : Value
  bv : Value
  ls : List Int
  bs : List UInt8
def recV (o : RecV) : List Value := [I o.k, I o.i, I o.x, o.lv, o.bv]
theorem recV_len (o : RecV) : (recV o).length = 5 := rfl
def RecV.ok (w : World) (o : RecV) : Prop := RdS w o.lv (o.ls.map fun x => I x) ∧ o.ls.length ≤ 9223372036854775807 ∧ RdS w o.bv (o.bs.map U) ∧ o.bs.length ≤ 9223372036854775807

theorem Bytes_ret {rs : List RecV} {w : World} {l : Value} (hl : RdR recV w l rs) (hb : rs.length ≤ 9223372036854775807) (hg : ∀ o ∈ rs, o.ok w) :
    Ret Tryz.prog 5 #[l] w fun v w' => ∃ (xs : List UInt8) (b cap : Nat) (sp : List Value) (fz : Nat × Nat), xs.length = 492 ∧ v = sl b 0 492 cap ∧ 492 ≤ cap ∧ w.heap.size ≤ b ∧ Hp w [(b, .cells (xs.map U ++ sp).toArray 5 fz)] w' := by
  refine Ret_of_W (args := [_]) Tryz.func5 rfl Tryz.ntmps5 Tryz.results5 (by simp) ?_
  have H := Hp.refl w
  obtain ⟨la, lc, rfl⟩ := hl.form
  refine W_seq ?_
  refine W_region_l ?_
  refine WL_stepM rfl (R_as) ?_
  refine WL_nil ?_
  refine W_seq ?_
  refine W_region_l ?_
  (refine WL_call rfl (R_call rfl Tryz.call13 rfl) (refBlank_ret _) ?_; rintro _ w7 ⟨rfl, H1⟩; replace H := H.seq0 H1; clear H1)
  (refine WL_effm rfl (E_conv_sb (xs := blankB) H Tryz.underlying9 Tryz.underlying22 Tryz.underlying5 rfl) ?_; clear H; rintro _ ⟨c3, _⟩ w8 ⟨cc, sp, rfl, rfl, hcc, hc3⟩ H; rw [blankB_len]; rw [blankB_len] at hcc; obtain ⟨z0, hz0⟩ : ∃ z, blankB = z := ⟨_, rfl⟩; have hzl : z0.length = 492 := (by rw [← hz0]; exact blankB_len); rw [hz0] at H; obtain ⟨fz, hfz⟩ : ∃ fz : Nat × Nat, ((z0.map U ++ sp).length, (z0.map U ++ sp).length + 1) = fz := ⟨_, rfl⟩; have hf1 : 492 ≤ fz.1 := (by rw [← hfz]; simp; omega); replace H : Hp w [(c3, .cells (z0.map U ++ sp).toArray 5 fz)] _ := (by rw [← hfz]; exact H))
  refine WL_stepM rfl (R_as) ?_
  refine WL_nil ?_
  refine W_seq ?_
  refine W_seq ?_
  refine W_region_l ?_
  refine WL_stepM rfl (R_as) ?_
  refine WL_nil ?_
  refine W_block ?_
  refine W_loopS [(4, 5), (8, 76)] (fun (i : Nat) E w' => ∃ xs : List UInt8, xs.length = 492 ∧ i ≤ rs.length ∧ E 4 = I i ∧ Hp w [(c3, .cells (xs.map U ++ sp).toArray 5 fz)] w') (fun i => rs.length - i) 0 ?e0 ?r0
  · exact ⟨z0, hzl, by omega, rfl, H⟩
  · (clear H; rintro i E w1 ⟨xs, hxl, hi, h4, H⟩; refine W_kn h4 ?_)
    refine W_seq ?_
    refine W_seq ?_
    refine W_region_l ?_
    refine WL_stepM rfl (R_mv) ?_
    refine WL_stepM rfl (R_mv) ?_
    refine WL_step rfl (R_len_slice Tryz.underlying23 rfl) ?_
    refine WL_step rfl (R_lt rfl rfl) ?_
    refine WL_stepM rfl (R_mv) ?_
    apply WL_andK 3 12 15 [(13, 15)] H
    case hc => rfl
    case h1 =>
      intro h27
      refine WL_guard_t rfl rfl ?_
      refine WL_stepM rfl (R_mv) ?_
      refine WL_guard_t rfl rfl ?_
      refine WL_step rfl (R_lt rfl rfl) ?_
      refine WL_stepM rfl (R_pk_t rfl) ?_
      refine WL_nil ?_
      exact ⟨(same_mov rfl (same_updo rfl (same_mov rfl Same.refl))), rfl, H⟩
    case h0 =>
      intro h27
      refine WL_guard_f rfl rfl (by decide) ?_
      refine WL_guard_f rfl rfl (by decide) ?_
      refine WL_stepM rfl (R_pk_f rfl) ?_
      refine WL_nil ?_
      exact ⟨(same_mov rfl (same_updo rfl (same_updo rfl Same.refl))), rfl, H⟩
    case h2 =>
      (clear H; intro E27 w27 H)
      refine WL_nil ?_
      refine W_if rfl (fun h41 => ?_) (fun h41 => ?_)
      · refine W_skip ?_
        refine W_seq ?_
        refine W_block ?_
        refine W_seq ?_
        ((obtain ⟨⟨rk, ri, rx, lv, bv, ls, bs⟩, hr⟩ : ∃ r, rs[i]? = some r := ⟨_, List.getElem?_eq_getElem (by omega)⟩; obtain ⟨hrl, hll, hrb, hlb⟩ := hg _ (List.mem_of_getElem? hr); simp only at hrl hll hrb hlb; obtain ⟨l1, l2, hlv⟩ := hrl.form; obtain ⟨b1, b2, hbv⟩ := hrb.form; rw [List.length_map] at hlv hbv; subst hlv hbv; obtain ⟨rb, ro, rfl, hc⟩ := hl.cell recV_len hr)) <;> refine W_region_l ?_
        refine WL_stepM rfl (R_mv) ?_
        refine WL_stepM rfl (R_mv) ?_
        refine WL_step rfl (R_indexAddr (off' := ro + i * 5) Tryz.underlying23 Tryz.sizeOf54 rfl rfl (by omega) (by omega) (by omega)) ?_
        refine WL_step rfl (R_loadA_cell (vs := [I rk, I ri, I rx, .slice l1 ls.length l2, .slice b1 bs.length b2]) Tryz.isAgg54 Tryz.sizeOf54 rfl (fun j v hj => H.cellN (hc j v hj) (by repeat' first | exact kNil | apply kCons | apply kApp | assumption | exact OwnS.keys (by assumption))) rfl) ?_
        (refine WL_effn rfl (E_alloc (vs := [I 0, I 0, I 0, nilS, nilS]) H Tryz.zeroValue54 (by kernel_rfl)) ?_; clear H; intro c5 w51 hc5 H)
        (refine WL_effu rfl (E_storeA (vs := [I rk, I ri, I rx, .slice l1 ls.length l2, .slice b1 bs.length b2]) H Tryz.sizeOf54 rfl rfl (by simp [Value.oneCell']) .here (by simp)) ?_; clear H; intro w52 H; replace H : Hp w [(c5, blk [I rk, I ri, I rx, .slice l1 ls.length l2, .slice b1 bs.length b2] 54), (c3, .cells (xs.map U ++ sp).toArray 5 fz)] w52 := H)
        refine WL_nil ?_
        refine W_seq ?_
        refine W_region_l ?_
        refine WL_step rfl (R_fieldAddr (off' := 0) Tryz.underlying54 rfl Tryz.sizeOf3 (by decide) rfl rfl) ?_
        refine WL_step rfl (R_load Tryz.isAgg3 rfl (H.get .here) rfl) ?_
        refine WL_nil ?_
        refine W_block ?_
        refine W_seq ?_
        refine W_region_l ?_
        refine WL_step rfl (R_eq rfl rfl) ?_
        refine WL_stepM rfl (R_as) ?_
        refine WL_nil ?_
        refine W_if rfl (fun h65 => ?_) (fun h65 => ?_)
        · (obtain ⟨G, hG, hGm⟩ : ∃ G : Nat, ri % 8 = (G : Int) ∧ G < 8 := ⟨(ri % 8).toNat, by omega, by omega⟩; refine W_draw (Kp [(c5, blk [I rk, I ri, I rx, .slice l1 ls.length l2, .slice b1 bs.length b2] 54)]) (fun _ => false) (by kernel_rfl) H ?_; clear H; intro w66 H)
          refine WA_takeM 0 rfl rfl rfl (by kernel_rfl) (by kernel_rfl) (H.kp.sub (by simp)) (fun _ hC => R_mv) ?_
          refine WA_take 1 rfl rfl rfl (by kernel_rfl) (by kernel_rfl) (H.kp.sub (by simp)) (fun _ hC => R_fieldAddr (off' := 1) Tryz.underlying54 rfl Tryz.sizeOf3 (by decide) rfl rfl) ?_
          refine WA_take 2 rfl rfl rfl (by kernel_rfl) (by kernel_rfl) (H.kp.sub (by simp)) (fun _ hC => R_load Tryz.isAgg3 rfl (hC.get .here) rfl) ?_
          refine WA_take 3 rfl rfl rfl (by kernel_rfl) (by kernel_rfl) (H.kp.sub (by simp)) (fun _ hC => R_bits (r := (G : Int)) rfl rfl (by simp) ((and_mask_i64 3 8 (by decide) rfl (by decide)).trans hG)) ?_
          refine WA_take 4 rfl rfl rfl (by kernel_rfl) (by kernel_rfl) (H.kp.sub (by simp)) (fun _ hC => R_mul (r := ((24 * G : Nat) : Int)) rfl rfl (by rw [w_i64 (by omega)]; omega)) ?_
          refine WA_take 5 rfl rfl rfl (by kernel_rfl) (by kernel_rfl) (H.kp.sub (by simp)) (fun _ hC => R_from (k := 24 * G) (m := 492 - (24 * G)) (k' := ((24 * G : Nat) : Int)) Tryz.underlying22 Tryz.sizeOf5 rfl rfl rfl (by omega) (by omega) (by omega)) ?_
          refine WA_take 6 rfl rfl rfl (by kernel_rfl) (by kernel_rfl) (H.kp.sub (by simp)) (fun _ hC => R_fieldAddr (off' := 3) Tryz.underlying54 rfl Tryz.sizeOf52 (by decide) rfl rfl) ?_
          refine WA_take 7 rfl rfl rfl (by kernel_rfl) (by kernel_rfl) (H.kp.sub (by simp)) (fun _ hC => R_load Tryz.isAgg52 rfl (hC.get .here) rfl) ?_
          refine WA_one (i := 8) (by kernel_rfl) ?_
          (refine WI_call rfl (.inl rfl) (R_call rfl Tryz.call15 rfl) (Slot.proc_ret (hrl.monoN H (by repeat' first | exact kNil | apply kCons | apply kApp | assumption | exact OwnS.keys (by assumption))) hll) (fun _ _ hR _ => by obtain ⟨_, _, _, H'⟩ := hR; exact (H.seq0 H').kp.sub (by simp)) ?_; rintro _ w76 ⟨p, hok, rfl, H1⟩; replace H := H.seq0 H1; clear H1)
          refine WA_one (i := 9) (by kernel_rfl) ?_
          (refine WI_call rfl (.inl rfl) (R_call rfl Tryz.call14 rfl) (Slot.refBytes_ret p hok _) (fun _ _ hR _ => (H.seq0 hR.2).kp.sub (by simp)) ?_; rintro _ w78 ⟨rfl, H1⟩; replace H := H.seq0 H1; clear H1; have mkP : True := trivial)
          refine WA_one (i := 10) (by kernel_rfl) ?_
          (refine WI_effm rfl (.inl rfl) (E_putAny (ys := Slot.bytesP p) H (.there .here) Tryz.underlying22 Tryz.sizeOf5 rfl rfl S_csrc (by omega) (by omega)) (fun _ _ H => (by first | exact fun h => absurd h (by decide) | exact fun _ => H | exact fun _ => H.none (by repeat' first | exact kNil | apply kCons | apply kApp | assumption | exact OwnS.keys (by assumption)) | exact fun _ => H.dropN (by repeat' first | exact kNil | apply kCons | apply kApp | assumption | exact OwnS.keys (by assumption)) | exact fun _ => H.pop (by assumption) | exact fun _ => (H.pop (by assumption)).pop (by assumption) | exact fun _ => H.kp | exact fun _ => H.kp.tail | exact fun _ => H.kp.tail.tail | exact fun _ => H.kp.tail.tail.tail | exact fun _ => H.kp.sub (by simp) | exact fun _ => Kp.nil | exact fun _ => H.kh (by simp) (by repeat' first | exact kNil | apply kCons | apply kApp | assumption | exact OwnS.keys (by assumption)))) ?_; clear H; rintro _ zs w80 ⟨⟨nz, rfl⟩, hzs⟩ H)
          refine WA_done (by kernel_rfl) ?_
          refine W_region_l ?_
          refine WL_stepM rfl (R_mv) ?_
          refine WL_step rfl (R_add rfl rfl (w_i64 (by omega))) ?_
          refine WL_stepM rfl (R_as) ?_
          refine WL_nil ?_
          exact ⟨(same_mov rfl (same_updo rfl (same_mov rfl (same_updo rfl (same_updo rfl (same_updo rfl (same_updo rfl (same_updo rfl (same_updo rfl (same_updo rfl (same_updo rfl (same_updo rfl (same_updo rfl (same_mov rfl (same_know rfl (same_mov rfl (same_updo rfl (same_updo rfl (same_updo rfl (same_updn (same_updo rfl (same_updo rfl (same_updo rfl (same_mov rfl (same_mov rfl (same_know rfl (same_in rfl (same_mov rfl (same_updo rfl (same_updo rfl (same_mov rfl (same_mov rfl same_ovr)))))))))))))))))))))))))))))))), i + 1, by omega, zs, by omega, by omega, rfl, H.pop (by assumption)⟩
        · refine W_seq ?_
          refine W_region_l ?_
          refine WL_step rfl (R_eq rfl rfl) ?_
          refine WL_stepM rfl (R_as) ?_
          refine WL_nil ?_
          refine W_if rfl (fun h93 => ?_) (fun h93 => ?_)
          · (obtain ⟨G, hG, hGm⟩ : ∃ G : Nat, ri % 256 = (G : Int) ∧ G < 256 := ⟨(ri % 256).toNat, by omega, by omega⟩; obtain ⟨K, hK, hKm⟩ : ∃ K : Nat, G % 12 = K ∧ K < 12 := ⟨_, rfl, Nat.mod_lt _ (by decide)⟩; refine W_draw (Kp [(c5, blk [I rk, I ri, I rx, .slice l1 ls.length l2, .slice b1 bs.length b2] 54)]) (fun _ => false) (by kernel_rfl) H ?_; clear H; intro w94 H)
            refine WA_takeM 0 rfl rfl rfl (by kernel_rfl) (by kernel_rfl) (H.kp.sub (by simp)) (fun _ hC => R_mv) ?_
            refine WA_take 1 rfl rfl rfl (by kernel_rfl) (by kernel_rfl) (H.kp.sub (by simp)) (fun _ hC => R_fieldAddr (off' := 1) Tryz.underlying54 rfl Tryz.sizeOf3 (by decide) rfl rfl) ?_
            refine WA_take 2 rfl rfl rfl (by kernel_rfl) (by kernel_rfl) (H.kp.sub (by simp)) (fun _ hC => R_load Tryz.isAgg3 rfl (hC.get .here) rfl) ?_
            refine WA_take 3 rfl rfl rfl (by kernel_rfl) (by kernel_rfl) (H.kp.sub (by simp)) (fun _ hC => R_bits (r := (G : Int)) rfl rfl (by simp) ((and_mask_i64 8 256 (by decide) rfl (by decide)).trans hG)) ?_
            refine WA_take 4 rfl rfl rfl (by kernel_rfl) (by kernel_rfl) (H.kp.sub (by simp)) (fun _ hC => R_rem (r := (K : Int)) rfl rfl (by decide) (by rw [Int.tmod_eq_emod_of_nonneg (by omega)]; omega)) ?_
            refine WA_take 5 rfl rfl rfl (by kernel_rfl) (by kernel_rfl) (H.kp.sub (by simp)) (fun _ hC => R_mul (r := ((8 * K : Nat) : Int)) rfl rfl (by rw [w_i64 (by omega)]; omega)) ?_
            refine WA_take 6 rfl rfl rfl (by kernel_rfl) (by kernel_rfl) (H.kp.sub (by simp)) (fun _ hC => R_add (r := ((192 + 8 * K : Nat) : Int)) rfl rfl (by rw [w_i64 (by omega)]; omega)) ?_
            refine WA_take 7 rfl rfl rfl (by kernel_rfl) (by kernel_rfl) (H.kp.sub (by simp)) (fun _ hC => R_from (k := 192 + 8 * K) (m := 492 - (192 + 8 * K)) (k' := ((192 + 8 * K : Nat) : Int)) Tryz.underlying22 Tryz.sizeOf5 rfl rfl rfl (by omega) (by omega) (by omega)) ?_
            refine WA_take 8 rfl rfl rfl (by kernel_rfl) (by kernel_rfl) (H.kp.sub (by simp)) (fun _ hC => R_fieldAddr (off' := 2) Tryz.underlying54 rfl Tryz.sizeOf3 (by decide) rfl rfl) ?_
            refine WA_take 9 rfl rfl rfl (by kernel_rfl) (by kernel_rfl) (H.kp.sub (by simp)) (fun _ hC => R_load Tryz.isAgg3 rfl (hC.get .here) rfl) ?_
            refine WA_one (i := 10) (by kernel_rfl) ?_
            (refine WI_call rfl (.inl rfl) (R_call rfl Tryz.call17 rfl) (File.file_ret rx _) (fun _ _ hR _ => (H.seq0 hR.2).kp.sub (by simp)) ?_; rintro _ w106 ⟨rfl, H1⟩; replace H := H.seq0 H1; clear H1)
            refine WA_one (i := 11) (by kernel_rfl) ?_
            (refine WI_call rfl (.inl rfl) (R_call rfl Tryz.call16 rfl) (File.refBytes_ret (File.fileN rx) (File.fileN_ok rx) _) (fun _ _ hR _ => (H.seq0 hR.2).kp.sub (by simp)) ?_; rintro _ w108 ⟨rfl, H1⟩; replace H := H.seq0 H1; clear H1; have mkF : True := trivial)
            refine WA_one (i := 12) (by kernel_rfl) ?_
            (refine WI_effm rfl (.inl rfl) (E_putAny (ys := File.fileBytes (File.fileN rx)) H (.there .here) Tryz.underlying22 Tryz.sizeOf5 rfl rfl S_csrc (by omega) (by omega)) (fun _ _ H => (by first | exact fun h => absurd h (by decide) | exact fun _ => H | exact fun _ => H.none (by repeat' first | exact kNil | apply kCons | apply kApp | assumption | exact OwnS.keys (by assumption)) | exact fun _ => H.dropN (by repeat' first | exact kNil | apply kCons | apply kApp | assumption | exact OwnS.keys (by assumption)) | exact fun _ => H.pop (by assumption) | exact fun _ => (H.pop (by assumption)).pop (by assumption) | exact fun _ => H.kp | exact fun _ => H.kp.tail | exact fun _ => H.kp.tail.tail | exact fun _ => H.kp.tail.tail.tail | exact fun _ => H.kp.sub (by simp) | exact fun _ => Kp.nil | exact fun _ => H.kh (by simp) (by repeat' first | exact kNil | apply kCons | apply kApp | assumption | exact OwnS.keys (by assumption)))) ?_; clear H; rintro _ zs w110 ⟨⟨nz, rfl⟩, hzs⟩ H)
            refine WA_done (by kernel_rfl) ?_
            refine W_region_l ?_
            refine WL_stepM rfl (R_mv) ?_
            refine WL_step rfl (R_add rfl rfl (w_i64 (by omega))) ?_
            refine WL_stepM rfl (R_as) ?_
            refine WL_nil ?_
            exact ⟨(same_mov rfl (same_updo rfl (same_mov rfl (same_updo rfl (same_updo rfl (same_updo rfl (same_updo rfl (same_updo rfl (same_updo rfl (same_updo rfl (same_updo rfl (same_updo rfl (same_updo rfl (same_updo rfl (same_updo rfl (same_mov rfl (same_know rfl (same_mov rfl (same_updo rfl (same_know rfl (same_mov rfl (same_updo rfl (same_updo rfl (same_updo rfl (same_updn (same_updo rfl (same_updo rfl (same_updo rfl (same_mov rfl (same_mov rfl (same_know rfl (same_in rfl (same_mov rfl (same_updo rfl (same_updo rfl (same_mov rfl (same_mov rfl same_ovr))))))))))))))))))))))))))))))))))))), i + 1, by omega, zs, by omega, by omega, rfl, H.pop (by assumption)⟩
          · refine W_seq ?_
            refine W_region_l ?_
            refine WL_step rfl (R_eq rfl rfl) ?_
            refine WL_stepM rfl (R_as) ?_
            refine WL_nil ?_
            refine W_if rfl (fun h123 => ?_) (fun h123 => ?_)
            · (obtain ⟨G, hG, hGm⟩ : ∃ G : Nat, ri % 4 = (G : Int) ∧ G < 4 := ⟨(ri % 4).toNat, by omega, by omega⟩; refine W_draw (Kp [(c5, blk [I rk, I ri, I rx, .slice l1 ls.length l2, .slice b1 bs.length b2] 54)]) (fun _ => false) (by kernel_rfl) H ?_; clear H; intro w124 H)
              refine WA_takeM 0 rfl rfl rfl (by kernel_rfl) (by kernel_rfl) (H.kp.sub (by simp)) (fun _ hC => R_mv) ?_
              refine WA_take 1 rfl rfl rfl (by kernel_rfl) (by kernel_rfl) (H.kp.sub (by simp)) (fun _ hC => R_fieldAddr (off' := 1) Tryz.underlying54 rfl Tryz.sizeOf3 (by decide) rfl rfl) ?_
              refine WA_take 2 rfl rfl rfl (by kernel_rfl) (by kernel_rfl) (H.kp.sub (by simp)) (fun _ hC => R_load Tryz.isAgg3 rfl (hC.get .here) rfl) ?_
              refine WA_take 3 rfl rfl rfl (by kernel_rfl) (by kernel_rfl) (H.kp.sub (by simp)) (fun _ hC => R_bits (r := (G : Int)) rfl rfl (by simp) ((and_mask_i64 2 4 (by decide) rfl (by decide)).trans hG)) ?_
              refine WA_take 4 rfl rfl rfl (by kernel_rfl) (by kernel_rfl) (H.kp.sub (by simp)) (fun _ hC => R_mul (r := ((40 * G : Nat) : Int)) rfl rfl (by rw [w_i64 (by omega)]; omega)) ?_
              refine WA_take 5 rfl rfl rfl (by kernel_rfl) (by kernel_rfl) (H.kp.sub (by simp)) (fun _ hC => R_add (r := ((288 + 40 * G : Nat) : Int)) rfl rfl (by rw [w_i64 (by omega)]; omega)) ?_
              refine WA_take 6 rfl rfl rfl (by kernel_rfl) (by kernel_rfl) (H.kp.sub (by simp)) (fun _ hC => R_from (k := 288 + 40 * G) (m := 492 - (288 + 40 * G)) (k' := ((288 + 40 * G : Nat) : Int)) Tryz.underlying22 Tryz.sizeOf5 rfl rfl rfl (by omega) (by omega) (by omega)) ?_
              refine WA_take 7 rfl rfl rfl (by kernel_rfl) (by kernel_rfl) (H.kp.sub (by simp)) (fun _ hC => R_fieldAddr (off' := 2) Tryz.underlying54 rfl Tryz.sizeOf3 (by decide) rfl rfl) ?_
              refine WA_take 8 rfl rfl rfl (by kernel_rfl) (by kernel_rfl) (H.kp.sub (by simp)) (fun _ hC => R_load Tryz.isAgg3 rfl (hC.get .here) rfl) ?_
              refine WA_take 9 rfl rfl rfl (by kernel_rfl) (by kernel_rfl) (H.kp.sub (by simp)) (fun _ hC => R_fieldAddr (off' := 4) Tryz.underlying54 rfl Tryz.sizeOf22 (by decide) rfl rfl) ?_
              refine WA_take 10 rfl rfl rfl (by kernel_rfl) (by kernel_rfl) (H.kp.sub (by simp)) (fun _ hC => R_load Tryz.isAgg22 rfl (hC.get .here) rfl) ?_
              refine WA_one (i := 11) (by kernel_rfl) ?_
              (refine WI_call rfl (.inl rfl) (R_call rfl Tryz.call19 rfl) (Ring.pipe_ret rx (hrb.monoN H (by repeat' first | exact kNil | apply kCons | apply kApp | assumption | exact OwnS.keys (by assumption))) hlb) (fun _ _ hR _ => (H.seq0 hR.2).kp.sub (by simp)) ?_; rintro _ w137 ⟨rfl, H1⟩; replace H := H.seq0 H1; clear H1)
              refine WA_one (i := 12) (by kernel_rfl) ?_
              (refine WI_call rfl (.inl rfl) (R_call rfl Tryz.call18 rfl) (Ring.refBytes_ret (Ring.pipeN rx bs) (Ring.pipeN_ok rx bs) _) (fun _ _ hR _ => (H.seq0 hR.2).kp.sub (by simp)) ?_; rintro _ w139 ⟨rfl, H1⟩; replace H := H.seq0 H1; clear H1; have mkQ : True := trivial)
              refine WA_one (i := 13) (by kernel_rfl) ?_
              (refine WI_effm rfl (.inl rfl) (E_putAny (ys := Ring.bytesP (Ring.pipeN rx bs)) H (.there .here) Tryz.underlying22 Tryz.sizeOf5 rfl rfl S_csrc (by omega) (by omega)) (fun _ _ H => (by first | exact fun h => absurd h (by decide) | exact fun _ => H | exact fun _ => H.none (by repeat' first | exact kNil | apply kCons | apply kApp | assumption | exact OwnS.keys (by assumption)) | exact fun _ => H.dropN (by repeat' first | exact kNil | apply kCons | apply kApp | assumption | exact OwnS.keys (by assumption)) | exact fun _ => H.pop (by assumption) | exact fun _ => (H.pop (by assumption)).pop (by assumption) | exact fun _ => H.kp | exact fun _ => H.kp.tail | exact fun _ => H.kp.tail.tail | exact fun _ => H.kp.tail.tail.tail | exact fun _ => H.kp.sub (by simp) | exact fun _ => Kp.nil | exact fun _ => H.kh (by simp) (by repeat' first | exact kNil | apply kCons | apply kApp | assumption | exact OwnS.keys (by assumption)))) ?_; clear H; rintro _ zs w141 ⟨⟨nz, rfl⟩, hzs⟩ H)
              refine WA_done (by kernel_rfl) ?_
              refine W_region_l ?_
              refine WL_stepM rfl (R_mv) ?_
              refine WL_step rfl (R_add rfl rfl (w_i64 (by omega))) ?_
              refine WL_stepM rfl (R_as) ?_
              refine WL_nil ?_
              exact ⟨(same_mov rfl (same_updo rfl (same_mov rfl (same_updo rfl (same_updo rfl (same_updo rfl (same_updo rfl (same_updo rfl (same_updo rfl (same_updo rfl (same_updo rfl (same_updo rfl (same_updo rfl (same_updo rfl (same_updo rfl (same_updo rfl (same_mov rfl (same_know rfl (same_mov rfl (same_updo rfl (same_know rfl (same_mov rfl (same_updo rfl (same_know rfl (same_mov rfl (same_updo rfl (same_updo rfl (same_updo rfl (same_updn (same_updo rfl (same_updo rfl (same_updo rfl (same_mov rfl (same_mov rfl (same_know rfl (same_in rfl (same_mov rfl (same_updo rfl (same_updo rfl (same_mov rfl (same_mov rfl same_ovr))))))))))))))))))))))))))))))))))))))))), i + 1, by omega, zs, by omega, by omega, rfl, H.pop (by assumption)⟩
            · (obtain ⟨G, hG, hGm⟩ : ∃ G : Nat, rx % 512 = (G : Int) ∧ G < 512 := ⟨(rx % 512).toNat, by omega, by omega⟩; obtain ⟨K, hK, hKm⟩ : ∃ K : Nat, G % 492 = K ∧ K < 492 := ⟨_, rfl, Nat.mod_lt _ (by decide)⟩; refine W_draw (Kp [(c5, blk [I rk, I ri, I rx, .slice l1 ls.length l2, .slice b1 bs.length b2] 54)]) (fun _ => false) (by kernel_rfl) H ?_; clear H; intro w149 H)
              refine WA_takeM 0 rfl rfl rfl (by kernel_rfl) (by kernel_rfl) (H.kp.sub (by simp)) (fun _ hC => R_mv) ?_
              refine WA_take 1 rfl rfl rfl (by kernel_rfl) (by kernel_rfl) (H.kp.sub (by simp)) (fun _ hC => R_fieldAddr (off' := 2) Tryz.underlying54 rfl Tryz.sizeOf3 (by decide) rfl rfl) ?_
              refine WA_take 2 rfl rfl rfl (by kernel_rfl) (by kernel_rfl) (H.kp.sub (by simp)) (fun _ hC => R_load Tryz.isAgg3 rfl (hC.get .here) rfl) ?_
              refine WA_take 3 rfl rfl rfl (by kernel_rfl) (by kernel_rfl) (H.kp.sub (by simp)) (fun _ hC => R_bits (r := (G : Int)) rfl rfl (by simp) ((and_mask_i64 9 512 (by decide) rfl (by decide)).trans hG)) ?_
              refine WA_take 4 rfl rfl rfl (by kernel_rfl) (by kernel_rfl) (H.kp.sub (by simp)) (fun _ hC => R_rem (r := (K : Int)) rfl rfl (by decide) (by rw [Int.tmod_eq_emod_of_nonneg (by omega)]; omega)) ?_
              refine WA_take 5 rfl rfl rfl (by kernel_rfl) (by kernel_rfl) (H.kp.sub (by simp)) (fun _ hC => R_from (k := K) (m := 492 - (K)) (k' := ((K : Nat) : Int)) Tryz.underlying22 Tryz.sizeOf5 rfl rfl rfl (by omega) (by omega) (by omega)) ?_
              refine WA_take 6 rfl rfl rfl (by kernel_rfl) (by kernel_rfl) (H.kp.sub (by simp)) (fun _ hC => R_fieldAddr (off' := 4) Tryz.underlying54 rfl Tryz.sizeOf22 (by decide) rfl rfl) ?_
              refine WA_take 7 rfl rfl rfl (by kernel_rfl) (by kernel_rfl) (H.kp.sub (by simp)) (fun _ hC => R_load Tryz.isAgg22 rfl (hC.get .here) rfl) ?_
              refine WA_one (i := 8) (by kernel_rfl) ?_
              (refine WI_effm rfl (.inl rfl) (E_putAny (ys := bs) H (.there .here) Tryz.underlying22 Tryz.sizeOf5 rfl rfl (hrb.monoN H (by repeat' first | exact kNil | apply kCons | apply kApp | assumption | exact OwnS.keys (by assumption))).csrc (by omega) (by omega)) (fun _ _ H => (by first | exact fun h => absurd h (by decide) | exact fun _ => H | exact fun _ => H.none (by repeat' first | exact kNil | apply kCons | apply kApp | assumption | exact OwnS.keys (by assumption)) | exact fun _ => H.dropN (by repeat' first | exact kNil | apply kCons | apply kApp | assumption | exact OwnS.keys (by assumption)) | exact fun _ => H.pop (by assumption) | exact fun _ => (H.pop (by assumption)).pop (by assumption) | exact fun _ => H.kp | exact fun _ => H.kp.tail | exact fun _ => H.kp.tail.tail | exact fun _ => H.kp.tail.tail.tail | exact fun _ => H.kp.sub (by simp) | exact fun _ => Kp.nil | exact fun _ => H.kh (by simp) (by repeat' first | exact kNil | apply kCons | apply kApp | assumption | exact OwnS.keys (by assumption)))) ?_; clear H; rintro _ zs w159 ⟨⟨nz, rfl⟩, hzs⟩ H)
              refine WA_done (by kernel_rfl) ?_
              refine W_region_l ?_
              refine WL_stepM rfl (R_mv) ?_
              refine WL_step rfl (R_add rfl rfl (w_i64 (by omega))) ?_
              refine WL_stepM rfl (R_as) ?_
              refine WL_nil ?_
              exact ⟨(same_mov rfl (same_updo rfl (same_mov rfl (same_updo rfl (same_updo rfl (same_updo rfl (same_updo rfl (same_updo rfl (same_updo rfl (same_updo rfl (same_updo rfl (same_mov rfl (same_know rfl (same_mov rfl (same_updo rfl (same_know rfl (same_mov rfl (same_updo rfl (same_know rfl (same_mov rfl (same_updo rfl (same_updo rfl (same_updo rfl (same_updn (same_updo rfl (same_updo rfl (same_updo rfl (same_mov rfl (same_mov rfl (same_know rfl (same_in rfl (same_mov rfl (same_updo rfl (same_updo rfl (same_mov rfl (same_mov rfl same_ovr)))))))))))))))))))))))))))))))))))), i + 1, by omega, zs, by omega, by omega, rfl, H.pop (by assumption)⟩
      · refine W_exit ?_
        refine (if_pos rfl).mpr ?_
        refine W_seq ?_
        refine W_region_l ?_
        refine WL_stepM rfl (R_mv) ?_
        refine WL_stepM rfl (R_as) ?_
        refine WL_nil ?_
        refine W_ret ?_
        exact ⟨_, rfl, xs, c3, cc, sp, fz, hxl, rfl, hcc, hc3, H⟩
end Go.Proofs.YthonajikgljgmaaGreat.Aud

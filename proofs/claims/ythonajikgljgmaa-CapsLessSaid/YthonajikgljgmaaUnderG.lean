/-
  What is under a cap of a chain: each was granted of the one ahead.
-/
import Derived.Test.YthonajikgljgmaaSortC
import Derived.Test.YthonajikgljgmaaUnderN
namespace Go.Proofs.Ythonajikgljgmaa.Caps
open Go Go.Proofs Go.Proofs.Ythonajikgljgmaa.Fx Go.Proofs.Ythonajikgljgmaa.TabC
set_option maxRecDepth 100000
set_option linter.unusedVariables false
set_option linter.unusedSimpArgs false
set_option maxHeartbeats 16000000

/-- the refs of one environment -/
def rowOf (e : Nat) (t : List Pl) : List (Int × Int) := (namesFrom 0 t).map fun m => ((e : Int), m)
/-- all refs, from environment e on -/
def scan : Nat → List (List Pl) → List (Int × Int)
  | _, [] => []
  | e, t :: ts => rowOf e t ++ scan (e + 1) ts
theorem scan_append : ∀ (e : Nat) (ts us : List (List Pl)), scan e (ts ++ us) = scan e ts ++ scan (e + ts.length) us
  | e, [], us => by simp [scan]
  | e, t :: ts, us => by
    rw [List.cons_append, scan, scan, scan_append (e + 1) ts us, List.append_assoc, List.length_cons, show e + 1 + ts.length = e + (ts.length + 1) from by omega]
theorem scan_take {ts : List (List Pl)} {e : Nat} {t : List Pl} (h : ts[e]? = some t) : scan 0 (ts.take (e + 1)) = scan 0 (ts.take e) ++ rowOf e t := by
  have he := (List.getElem?_eq_some_iff.1 h).1
  have hg := (List.getElem?_eq_some_iff.1 h).2
  rw [List.take_succ_eq_append_getElem he, scan_append, hg, List.length_take, Nat.min_eq_left (by omega), Nat.zero_add]
  simp [scan]
theorem row_take {e x : Nat} {t : List Pl} {m : Int} (h : (namesFrom 0 t)[x]? = some m) : (rowOf e t).take (x + 1) = (rowOf e t).take x ++ [((e : Int), m)] := by
  have h2 : (rowOf e t)[x]? = some ((e : Int), m) := by unfold rowOf; rw [List.getElem?_map, h]; rfl
  have hx := (List.getElem?_eq_some_iff.1 h2).1
  rw [List.take_succ_eq_append_getElem hx, (List.getElem?_eq_some_iff.1 h2).2]
/-- a part of the chain -/
def seg (C : List (Int × Int)) (k d : Nat) : List (Int × Int) := (C.take d).drop k
theorem seg_mem {C : List (Int × Int)} (hN : C.Nodup) {k d i : Nat} {r : Int × Int} (h : C[i]? = some r) : r ∈ seg C k d ↔ k ≤ i ∧ i < d := by
  have hi := (List.getElem?_eq_some_iff.1 h).1
  unfold seg
  rw [List.mem_iff_getElem?]
  constructor
  · rintro ⟨j, hj⟩
    rw [List.getElem?_drop] at hj
    by_cases hd : k + j < d
    · rw [List.getElem?_take_of_lt hd] at hj
      have hkj := (List.getElem?_eq_some_iff.1 hj).1
      have : k + j = i := by
        have e1 := (List.getElem?_eq_some_iff.1 hj).2
        have e2 := (List.getElem?_eq_some_iff.1 h).2
        rcases Nat.lt_trichotomy (k + j) i with h' | h' | h'
        · exact absurd (e1.trans e2.symm) (List.pairwise_iff_getElem.1 hN _ _ hkj hi h')
        · exact h'
        · exact absurd (e2.trans e1.symm) (List.pairwise_iff_getElem.1 hN _ _ hi hkj h')
      omega
    · rw [List.getElem?_eq_none (by rw [List.length_take]; omega)] at hj
      cases hj
  · rintro ⟨h1, h2⟩
    exact ⟨i - k, by rw [List.getElem?_drop, show k + (i - k) = i from by omega, List.getElem?_take_of_lt h2]; exact h⟩
theorem seg_out {C : List (Int × Int)} {k d : Nat} {r : Int × Int} (h : r ∉ C) : r ∉ seg C k d := fun hm => h (List.mem_of_mem_take (List.mem_of_mem_drop hm))
theorem seg_succ {C : List (Int × Int)} {k d : Nat} {r : Int × Int} (hk : k ≤ d) (h : C[d]? = some r) : seg C k (d + 1) = seg C k d ++ [r] := by
  have hd := (List.getElem?_eq_some_iff.1 h).1
  unfold seg
  rw [List.take_succ_eq_append_getElem hd, (List.getElem?_eq_some_iff.1 h).2, List.drop_append_of_le_length (by rw [List.length_take]; omega)]
theorem seg_one {C : List (Int × Int)} {k : Nat} {r : Int × Int} (h : C[k]? = some r) : seg C k (k + 1) = [r] := by
  rw [seg_succ (Nat.le_refl k) h]
  unfold seg
  rw [List.drop_of_length_le (by rw [List.length_take]; omega)]; rfl

/-- a chain of refs lies in the tables -/
structure Chain (ts : List (List Pl)) (C : List (Int × Int)) : Prop where
  nd : C.Nodup
  all : ∀ r, r ∈ C ↔ r ∈ scan 0 ts
  pos : ∀ r ∈ C, 0 < r.2
  root : ∀ (e : Nat) (t : List Pl) (i : Nat) (a : Pl), ts[e]? = some t → t[i]? = some a → a.u = true → ∃ o r l n x, a.v = cp o r l n x.1 x.2 ∧
    ∃ j : Nat, C[j]? = some ((e : Int), ((i + 256 * a.g : Nat) : Int)) ∧ ((j = 0 ∧ x = (0, 0)) ∨ (0 < j ∧ C[j - 1]? = some x))

theorem root_seg {ts : List (List Pl)} {C : List (Int × Int)} (hC : Chain ts C) {k d jj : Nat} {xr : Int × Int} (hkd : k < d) (hr : (jj = 0 ∧ xr = (0, 0)) ∨ (0 < jj ∧ C[jj - 1]? = some xr)) : (jj = d → xr ∈ seg C k d) ∧ ((jj < k ∨ d < jj) → xr ∉ seg C k d) := by
  rcases hr with ⟨h0, rfl⟩ | ⟨h0, h1⟩
  · exact ⟨fun h => by omega, fun _ => seg_out (fun h => by have := hC.pos _ h; simp at this)⟩
  · exact ⟨fun h => (seg_mem hC.nd h1).2 (by omega), fun h hh => by have := (seg_mem hC.nd h1).1 hh; omega⟩
theorem chain_ne {ts : List (List Pl)} {C : List (Int × Int)} (hC : Chain ts C) {a b : Nat} {r : Int × Int} (h1 : C[a]? = some r) (h2 : C[b]? = some r) (hab : a ≠ b) : False := by
  have ha := (List.getElem?_eq_some_iff.1 h1)
  have hb := (List.getElem?_eq_some_iff.1 h2)
  rcases Nat.lt_or_gt_of_ne hab with h | h
  · exact List.pairwise_iff_getElem.1 hC.nd _ _ ha.1 hb.1 h (ha.2.trans hb.2.symm)
  · exact List.pairwise_iff_getElem.1 hC.nd _ _ hb.1 ha.1 h (hb.2.trans ha.2.symm)
theorem chain_end {ts : List (List Pl)} {C : List (Int × Int)} {n d : Nat} (hC : Chain ts C) (_ : ts.length = n) (hd : d ≤ C.length) (h : ∀ r ∈ scan 0 ts, C[d]? ≠ some r) : d = C.length := by
  rcases Nat.lt_or_ge d C.length with h1 | h1
  · exact absurd (List.getElem?_eq_getElem h1) (h _ ((hC.all _).1 (List.getElem_mem h1)))
  · omega
/-- those of a list that are under -/
def und (C : List (Int × Int)) (k : Nat) (l : List (Int × Int)) : List (Int × Int) := l.filter fun r => decide (r ∈ seg C (k + 1) C.length)
theorem und_app {C : List (Int × Int)} {k : Nat} (l m : List (Int × Int)) : und C k (l ++ m) = und C k l ++ und C k m := List.filter_append ..
theorem und_one {C : List (Int × Int)} {k : Nat} {r : Int × Int} (h : r ∈ seg C (k + 1) C.length) : und C k [r] = [r] := by simp [und, h]
theorem und_none {C : List (Int × Int)} {k : Nat} {r : Int × Int} (h : r ∉ seg C (k + 1) C.length) : und C k [r] = [] := by simp [und, h]
theorem split3 {ts : List (List Pl)} {C : List (Int × Int)} (hC : Chain ts C) {jj k : Nat} {a b c d : Int} (h1 : C[jj]? = some (a, b)) (h2 : C[k]? = some (c, d)) : jj < k ∨ (jj = k ∧ a = c ∧ b = d) ∨ (k < jj ∧ (a ≠ c ∨ b ≠ d)) := by
  rcases Nat.lt_trichotomy jj k with h | h | h
  · exact .inl h
  · subst h
    have := Prod.mk.inj (Option.some.inj (h1.symm.trans h2))
    exact .inr (.inl ⟨rfl, this.1, this.2⟩)
  · refine .inr (.inr ⟨h, ?_⟩)
    by_cases e1 : a = c
    · by_cases e2 : b = d
      · subst e1; subst e2
        exact (chain_ne hC h1 h2 (by omega)).elim
      · exact .inr e2
    · exact .inl e1
theorem scan_len : ∀ (e : Nat) (ts : List (List Pl)), (∀ t ∈ ts, t.length = 32) → (scan e ts).length ≤ 32 * ts.length
  | _, [], _ => by simp [scan]
  | e, t :: ts, h => by
    have h1 := scan_len (e + 1) ts (fun t ht => h t (.tail _ ht))
    have h2 := namesFrom_le t 0
    rw [h t (.head _)] at h2
    rw [scan, List.length_append, rowOf, List.length_map, List.length_cons]; omega
theorem und_len {C : List (Int × Int)} {k e x : Nat} {ts : List (List Pl)} {t : List Pl} (h : ∀ t ∈ ts, t.length = 32) (he : e ≤ 40) (hx : x ≤ 32) : (und C k (scan 0 (ts.take e) ++ (rowOf e t).take x)).length ≤ 1312 := by
  have h1 := scan_len 0 (ts.take e) (fun t ht => h t (List.mem_of_mem_take ht))
  have h2 : (und C k (scan 0 (ts.take e) ++ (rowOf e t).take x)).length ≤ (scan 0 (ts.take e) ++ (rowOf e t).take x).length := List.length_filter_le ..
  rw [List.length_append] at h2
  have h3 : ((rowOf e t).take x).length ≤ x := by rw [List.length_take]; omega
  have h4 : (ts.take e).length ≤ e := by rw [List.length_take]; omega
  omega

section
variable {w : World} {s : Nat} {PB : List (Nat × Nat)} {ts : List (List Pl)} {j i k : Nat} {q : Nat × Nat} {t : List Pl} {a : Pl} {C : List (Int × Int)}
theorem under_chain {NM : Int} (hS : Sp w s PB ts) (hE : PB.length ≤ 40) (hC : Chain ts C) (hlen : C.length ≤ 30) (hk : C[k]? = some ((j : Int), NM)) (hNM : ((i + 256 * a.g : Nat) : Int) = NM)
    (hq : PB[j]? = some q) (ht : ts[j]? = some t) (h : t[i]? = some a) (hu : a.u = true) (hul : (und C k (scan 0 ts)).length ≤ 25) (hUp : Up (und C k (scan 0 ts))) :
    Ret Try.prog 27 #[ptr s 0, I j, I NM] w fun v w' => ∃ u M, v = .tuple #[u, I 0] ∧ OwnS w.heap.size 36 2 u (und C k (scan 0 ts)).length (rows rc (und C k (scan 0 ts))) M ∧ Hp w M w' := by
  obtain ⟨bs, cap, sp, hs, hbs⟩ := hS.ex
  have hj := (List.getElem?_eq_some_iff.1 hq).1
  have hkl := (List.getElem?_eq_some_iff.1 hk).1
  refine Ret_of_W (args := [_, _, _]) Try.func27 rfl Try.ntmps27 Try.results27 (by simp) ?_
  have H := Hp.refl w
  refine W_seq ?_
  refine W_region_l ?_
  refine WL_stepM rfl (R_as) ?_
  refine WL_stepM rfl (R_as) ?_
  refine WL_nil ?_
  refine W_seq ?_
  refine W_seq ?_
  refine W_region_l ?_
  refine WL_stepM rfl (R_mv) ?_
  refine WL_stepM rfl (R_mv) ?_
  refine WL_stepM rfl (R_mv) ?_
  (refine WL_call rfl (R_call rfl Try.call26 rfl) (show Ret Try.prog 26 #[ptr s 0, I j, I NM] _ _ from hNM ▸ Caps.get_yes hS hq ht h hu) ?_; rintro _ w12 ⟨rfl, H1⟩; replace H := H.seq0 H1; clear H1)
  refine WL_stepM rfl (R_mv) ?_
  refine WL_step rfl (R_extract rfl rfl) ?_
  refine WL_step rfl (R_extract rfl rfl) ?_
  (refine WL_effn rfl (E_allocK H) ?_; clear H; intro c7 w16 hc7 H)
  (refine WL_effu rfl (E_storeK (q := a.v) H rfl rfl .here) ?_; clear H; intro w17 H)
  refine WL_stepM rfl (R_as) ?_
  refine WL_nil ?_
  refine W_seq ?_
  refine W_region_l ?_
  refine WL_stepM rfl (R_mv) ?_
  refine WL_step rfl (R_ne_f rfl rfl (by omega)) ?_
  refine WL_nil ?_
  refine W_cond_f rfl ?_
  refine W_skip ?_
  refine W_seq ?_
  refine W_region_l ?_
  (replace H := H.pop (by assumption); refine WL_effn rfl (E_makeMap H) ?_; clear H; intro mp w29 hmp H)
  refine WL_stepM rfl (R_mv) ?_
  refine WL_stepM rfl (R_mv) ?_
  refine WL_step rfl (R_buildL (places := [(0, 1), (1, 1)]) (vs := [I j, I NM]) Try.underlying36 Try.typeInfo36 rfl rfl (by kernel_rfl) rfl rfl rfl) ?_
  (refine WL_effu rfl (E_insert (r := ((j : Int), NM)) H .here MapIs.nil rfl rfl rfl (by simp)) ?_; clear H; intro w33 H; obtain ⟨es, cl, hm, H⟩ : ∃ es cl, MapIs es (seg C k (k + 1)) ∧ Hp w [(mp, .map es cl)] w33 := ⟨_, _, by rw [seg_one hk]; exact MapIs.nil.push _ _, H⟩)
  refine WL_stepM rfl (R_mv) ?_
  refine WL_stepM rfl (R_as) ?_
  refine WL_nil ?_
  refine W_seq ?_
  refine W_seq ?_
  refine W_region_l ?_
  refine WL_stepM rfl (R_as) ?_
  refine WL_nil ?_
  refine W_block ?_
  refine W_loopS [(11, 13), (15, 18), (40, 81)] (fun (z : Nat) E w' => ∃ (d : Nat) (es : Array MapEntry) (cl : Nat) (g : Bool), k < d ∧ d ≤ C.length ∧ z = 2 * (C.length - d) + (if g = true then 1 else 0) ∧ (g = false → d = C.length) ∧ E 11 = .bool g ∧ MapIs es (seg C k d) ∧ Hp w [(mp, .map es cl)] w') (fun z => z) (2 * (C.length - (k + 1)) + 1) ?e0 ?r0
  · exact ⟨k + 1, es, cl, true, by omega, by omega, rfl, (fun h => nomatch h), rfl, hm, H⟩
  · (clear H hm; rintro z E w1 ⟨d, es, cl, g, hkd, hdl, hz0, hgd, h11, hm, H⟩; refine W_kn h11 ?_; cases g)
    · refine W_seq ?_
      refine W_seq ?_
      refine W_region_l ?_
      refine WL_stepM rfl (R_mv) ?_
      refine WL_nil ?_
      refine W_cond_f rfl ?_
      refine W_exit ?_
      refine (if_pos rfl).mpr ?_
      refine W_seq ?_
      refine W_region_l ?_
      refine WL_stepM rfl (R_as) ?_
      refine WL_nil ?_
      refine W_seq ?_
      refine W_seq ?_
      refine W_region_l ?_
      refine WL_stepM rfl (R_mv) ?_
      refine WL_step rfl (R_nilCheck rfl) ?_
      refine WL_step rfl (R_fieldAddr (off' := 0) Try.underlying90 rfl Try.sizeOf88 (by decide) rfl rfl) ?_
      refine WL_step rfl (R_load (v := sl bs 0 PB.length cap) Try.isAgg88 rfl (H.blockN hs (by repeat' first | exact kNil | apply kCons | apply kApp | assumption | exact OwnS.keys (by assumption))) rfl) ?_
      refine WL_step rfl (R_len_slice Try.underlying88 rfl) ?_
      refine WL_stepM rfl (R_mv) ?_
      refine WL_nil ?_
      refine W_block ?_
      refine W_loopS [(19, 21), (23, 24), (87, 121)] (fun (e : Nat) E w' => ∃ (v9 : Value) (M9 : List (Nat × Obj)), e ≤ PB.length ∧ E 87 = I e ∧ E 19 = v9 ∧ OwnS w.heap.size 36 2 v9 (und C k (scan 0 (ts.take e))).length (rows rc (und C k (scan 0 (ts.take e)))) M9 ∧ Hp w ((mp, .map es cl) :: M9) w') (fun e => PB.length - e) 0 ?e6 ?r6
      · exact ⟨nilS, [], by omega, rfl, rfl, OwnS.nil _ _ _, H⟩
      · (clear H; rintro e E w1 ⟨v9, M9, he, h46, h19, hO9, H⟩; refine W_kn2 h46 h19 ?_)
        refine W_seq ?_
        refine W_region_l ?_
        refine WL_step rfl (R_lt rfl rfl) ?_
        refine WL_nil ?_
        refine W_seq ?_
        refine W_if rfl (fun h75 => ?_) (fun h75 => ?_)
        · refine W_skip ?_
          refine W_seq ?_
          refine W_block ?_
          refine W_seq ?_
          ((obtain ⟨q1, hq1⟩ : ∃ q1, PB[e]? = some q1 := ⟨_, List.getElem?_eq_getElem (by omega)⟩; obtain ⟨t1, ht1⟩ : ∃ t1, ts[e]? = some t1 := ⟨_, List.getElem?_eq_getElem (by have := hS.inv.len; omega)⟩; have htp := hS.tp e q1 hq1; have htb := hS.tb e q1 t1 hq1 ht1; have hsz := hS.inv.sz t1 (List.mem_of_getElem? ht1); have hgn := hS.inv.gn t1 (List.mem_of_getElem? ht1))) <;> refine W_region_l ?_
          refine WL_stepM rfl (R_mv) ?_
          refine WL_step rfl (R_indexAddr (off' := e) Try.underlying88 Try.sizeOf91 rfl rfl (by omega) (by omega) (by omega)) ?_
          refine WL_step rfl (R_load (v := ptr q1.1 0) Try.isAgg91 rfl (H.blockN hbs (by repeat' first | exact kNil | apply kCons | apply kApp | assumption | exact OwnS.keys (by assumption))) (ptrs_get hq1)) ?_
          refine WL_stepM rfl (R_as) ?_
          refine WL_stepM rfl (R_as) ?_
          refine WL_nil ?_
          refine W_seq ?_
          refine W_region_l ?_
          refine WL_stepM rfl (R_mv) ?_
          (refine WL_call rfl (R_call rfl Try.call49 rfl) (TabC.names_ret (H.blockN htp (by repeat' first | exact kNil | apply kCons | apply kApp | assumption | exact OwnS.keys (by assumption))) (H.blockN htb (by repeat' first | exact kNil | apply kCons | apply kApp | assumption | exact OwnS.keys (by assumption))) hsz (by decide) hgn) ?_; rintro _ w90 ⟨M1, hO1, H1⟩; have h90 := H.seqO hO1 H1; clear H H1 hO1; obtain ⟨hO1, H⟩ := h90; obtain ⟨na, nc, rfl⟩ := hO1.form; have hnl := namesFrom_le t1 0; rw [hsz] at hnl)
          refine WL_step rfl (R_len_slice Try.underlying59 rfl) ?_
          refine WL_stepM rfl (R_mv) ?_
          refine WL_nil ?_
          refine W_block ?_
          refine W_loopS [(19, 19), (23, 24), (95, 120)] (fun (x : Nat) E w' => ∃ (v9 : Value) (M9 : List (Nat × Obj)), x ≤ (namesFrom 0 t1).length ∧ E 95 = I x ∧ E 19 = v9 ∧ OwnS w.heap.size 36 2 v9 (und C k (scan 0 (ts.take e) ++ (rowOf e t1).take x)).length (rows rc (und C k (scan 0 (ts.take e) ++ (rowOf e t1).take x))) M9 ∧ Hp w (M1 ++ ((mp, .map es cl) :: M9)) w') (fun x => (namesFrom 0 t1).length - x) 0 ?e8 ?r8
          · exact ⟨v9, M9, by omega, rfl, rfl, (by rw [List.take_zero, List.append_nil]; exact hO9), H⟩
          · (clear H hO9; rintro x E w1 ⟨v9, M9, hx, h54, h19, hO9, H⟩; refine W_kn2 h54 h19 ?_)
            refine W_seq ?_
            refine W_region_l ?_
            refine WL_step rfl (R_lt rfl rfl) ?_
            refine WL_nil ?_
            refine W_seq ?_
            refine W_if rfl (fun h102 => ?_) (fun h102 => ?_)
            · refine W_skip ?_
              refine W_seq ?_
              refine W_block ?_
              refine W_seq ?_
              ((obtain ⟨m, hm1⟩ : ∃ m, (namesFrom 0 t1)[x]? = some m := ⟨_, List.getElem?_eq_getElem (by omega)⟩; obtain ⟨i2, a2, ha2, hu2, hm2x⟩ := namesFrom_get t1 0 x m hm1; rw [Nat.zero_add] at hm2x; obtain ⟨o2, r2, l2, n2, xr, hv2, jj, hjj, hroot⟩ := hC.root e t1 i2 a2 ht1 ha2 hu2; rw [← hm2x] at hjj; have hrt := row_take (e := e) hm1; obtain ⟨b1, o1, rfl, hc1⟩ := (RdS.own hO1 (fun q hq => H.held q (by simp [hq]))).cell (i := x) (u := I m) (by rw [List.getElem?_map, hm1]; rfl); have hlk : und C k (scan 0 (ts.take e) ++ (rowOf e t1).take (x + 1)) = und C k (scan 0 (ts.take e) ++ (rowOf e t1).take x) ++ und C k [((e : Int), m)] := (by rw [hrt, ← List.append_assoc, und_app]); have hb9 := und_len (C := C) (k := k) (e := e) (x := x) (t := t1) hS.inv.sz (by omega) (by omega); rcases split3 hC hjj hk with hc | ⟨hc, hs1, hs2⟩ | ⟨hc, hs1⟩)) <;> refine W_region_l ?_
              · refine WL_step rfl (R_indexAddr Try.underlying59 Try.sizeOf3 rfl rfl (by omega) (by omega) idx_cast1) ?_
                refine WL_step rfl (R_load_cell Try.isAgg3 rfl hc1) ?_
                refine WL_stepM rfl (R_as) ?_
                refine WL_nil ?_
                refine W_seq ?_
                refine W_region_l ?_
                refine WL_stepM rfl (R_mv) ?_
                refine WL_stepM rfl (R_mv) ?_
                refine WL_step rfl (R_buildL (places := [(0, 1), (1, 1)]) (vs := [I e, I m]) Try.underlying36 Try.typeInfo36 rfl rfl (by kernel_rfl) rfl rfl rfl) ?_
                (refine WL_effn rfl (E_alloc (vs := [I 0, I 0]) H Try.zeroValue36 rfl) ?_; clear H; intro c24 w117 hc24 H)
                (refine WL_effu rfl (E_storeA (vs := [I e, I m]) H Try.sizeOf36 rfl rfl (by simp [Value.oneCell']) .here (by simp)) ?_; clear H; intro w118 H)
                refine WL_nil ?_
                refine W_seq ?_
                refine W_region_l ?_
                refine WL_stepM rfl (R_mv) ?_
                refine WL_step rfl (R_loadA (vs := [I e, I m]) Try.isAgg36 Try.sizeOf36 rfl (H.get .here) rfl (by simp)) ?_
                refine WL_step rfl (R_lookup_no (r := ((e : Int), m)) (H.held (mp, .map es cl) (by simp)) hm rfl rfl (fun hh => by have := (seg_mem hC.nd hjj).1 hh; omega)) ?_
                refine WL_step rfl (R_gt_f rfl rfl (by omega)) ?_
                refine WL_stepM rfl (R_mv) ?_
                refine WL_guard_f rfl rfl (by decide) ?_
                refine WL_guard_f rfl rfl (by decide) ?_
                refine WL_guard_f rfl rfl (by decide) ?_
                refine WL_guard_f rfl rfl (by decide) ?_
                refine WL_guard_n rfl rfl ?_
                refine WL_guard_n rfl rfl ?_
                refine WL_guard_n rfl rfl ?_
                refine WL_guard_f rfl rfl (by decide) ?_
                refine WL_stepM rfl (R_pk_f rfl) ?_
                refine WL_nil ?_
                refine W_cond_f rfl ?_
                refine W_skip ?_
                refine W_region_l ?_
                refine WL_step rfl (R_add rfl rfl (w_i64 (by omega))) ?_
                refine WL_stepM rfl (R_mv) ?_
                refine WL_nil ?_
                exact ⟨(same_mov rfl (same_updo rfl (same_mov rfl (same_updo rfl (same_updo rfl (same_updo rfl (same_updo rfl (same_updo rfl (same_updo rfl (same_updo rfl (same_updo rfl (same_mov rfl (same_updo rfl (same_updo rfl (same_updo rfl (same_mov rfl (same_updn (same_updo rfl (same_updo rfl (same_mov rfl (same_mov rfl (same_mov rfl (same_updo rfl (same_updo rfl (same_know rfl (same_updo rfl same_ovr)))))))))))))))))))))))))), x + 1, by omega, v9, M9, by omega, rfl, rfl, (by rw [hlk, und_none (fun hh => by have := (seg_mem hC.nd hjj).1 hh; omega), List.append_nil]; exact hO9), H.pop (by assumption)⟩
              · refine WL_step rfl (R_indexAddr Try.underlying59 Try.sizeOf3 rfl rfl (by omega) (by omega) idx_cast1) ?_
                refine WL_step rfl (R_load_cell Try.isAgg3 rfl hc1) ?_
                refine WL_stepM rfl (R_as) ?_
                refine WL_nil ?_
                refine W_seq ?_
                refine W_region_l ?_
                refine WL_stepM rfl (R_mv) ?_
                refine WL_stepM rfl (R_mv) ?_
                refine WL_step rfl (R_buildL (places := [(0, 1), (1, 1)]) (vs := [I e, I m]) Try.underlying36 Try.typeInfo36 rfl rfl (by kernel_rfl) rfl rfl rfl) ?_
                (refine WL_effn rfl (E_alloc (vs := [I 0, I 0]) H Try.zeroValue36 rfl) ?_; clear H; intro c24 w153 hc24 H)
                (refine WL_effu rfl (E_storeA (vs := [I e, I m]) H Try.sizeOf36 rfl rfl (by simp [Value.oneCell']) .here (by simp)) ?_; clear H; intro w154 H)
                refine WL_nil ?_
                refine W_seq ?_
                refine W_region_l ?_
                refine WL_stepM rfl (R_mv) ?_
                refine WL_step rfl (R_loadA (vs := [I e, I m]) Try.isAgg36 Try.sizeOf36 rfl (H.get .here) rfl (by simp)) ?_
                refine WL_step rfl (R_lookup_yes (r := ((e : Int), m)) (H.held (mp, .map es cl) (by simp)) hm rfl rfl ((seg_mem hC.nd hjj).2 (by have := (List.getElem?_eq_some_iff.1 hjj).1; have := hgd rfl; omega))) ?_
                refine WL_step rfl (R_gt_t rfl rfl (by omega)) ?_
                refine WL_stepM rfl (R_mv) ?_
                refine WL_guard_t rfl rfl ?_
                refine WL_stepM rfl (R_mv) ?_
                refine WL_guard_t rfl rfl ?_
                refine WL_stepM rfl (R_mv) ?_
                refine WL_guard_t rfl rfl ?_
                refine WL_step rfl (R_ne_f rfl rfl (by omega)) ?_
                refine WL_guard_t rfl rfl ?_
                refine WL_stepM rfl (R_mv) ?_
                refine WL_guard_t rfl rfl ?_
                refine WL_stepM rfl (R_mv) ?_
                refine WL_guard_t rfl rfl ?_
                refine WL_stepM rfl (R_mv) ?_
                refine WL_guard_t rfl rfl ?_
                refine WL_step rfl (R_ne_f rfl rfl (by omega)) ?_
                refine WL_guard_t rfl rfl ?_
                refine WL_stepM rfl (R_pk_f rfl) ?_
                refine WL_stepM rfl (R_pk_t rfl) ?_
                refine WL_nil ?_
                refine W_cond_f rfl ?_
                refine W_skip ?_
                refine W_region_l ?_
                refine WL_step rfl (R_add rfl rfl (w_i64 (by omega))) ?_
                refine WL_stepM rfl (R_mv) ?_
                refine WL_nil ?_
                exact ⟨(same_mov rfl (same_updo rfl (same_mov rfl (same_mov rfl (same_updo rfl (same_mov rfl (same_mov rfl (same_mov rfl (same_updo rfl (same_mov rfl (same_mov rfl (same_mov rfl (same_updo rfl (same_updo rfl (same_updo rfl (same_mov rfl (same_updn (same_updo rfl (same_updo rfl (same_mov rfl (same_mov rfl (same_mov rfl (same_updo rfl (same_updo rfl (same_know rfl (same_updo rfl same_ovr)))))))))))))))))))))))))), x + 1, by omega, v9, M9, by omega, rfl, rfl, (by rw [hlk, und_none (fun hh => by have := (seg_mem hC.nd hjj).1 hh; omega), List.append_nil]; exact hO9), H.pop (by assumption)⟩
              · refine WL_step rfl (R_indexAddr Try.underlying59 Try.sizeOf3 rfl rfl (by omega) (by omega) idx_cast1) ?_
                refine WL_step rfl (R_load_cell Try.isAgg3 rfl hc1) ?_
                refine WL_stepM rfl (R_as) ?_
                refine WL_nil ?_
                refine W_seq ?_
                refine W_region_l ?_
                refine WL_stepM rfl (R_mv) ?_
                refine WL_stepM rfl (R_mv) ?_
                refine WL_step rfl (R_buildL (places := [(0, 1), (1, 1)]) (vs := [I e, I m]) Try.underlying36 Try.typeInfo36 rfl rfl (by kernel_rfl) rfl rfl rfl) ?_
                (refine WL_effn rfl (E_alloc (vs := [I 0, I 0]) H Try.zeroValue36 rfl) ?_; clear H; intro c24 w197 hc24 H)
                (refine WL_effu rfl (E_storeA (vs := [I e, I m]) H Try.sizeOf36 rfl rfl (by simp [Value.oneCell']) .here (by simp)) ?_; clear H; intro w198 H)
                refine WL_nil ?_
                refine W_seq ?_
                refine W_region_l ?_
                refine WL_stepM rfl (R_mv) ?_
                refine WL_step rfl (R_loadA (vs := [I e, I m]) Try.isAgg36 Try.sizeOf36 rfl (H.get .here) rfl (by simp)) ?_
                refine WL_step rfl (R_lookup_yes (r := ((e : Int), m)) (H.held (mp, .map es cl) (by simp)) hm rfl rfl ((seg_mem hC.nd hjj).2 (by have := (List.getElem?_eq_some_iff.1 hjj).1; have := hgd rfl; omega))) ?_
                refine WL_step rfl (R_gt_t rfl rfl (by omega)) ?_
                refine WL_stepM rfl (R_mv) ?_
                refine WL_guard_t rfl rfl ?_
                refine WL_stepM rfl (R_mv) ?_
                refine WL_guard_t rfl rfl ?_
                refine WL_stepM rfl (R_mv) ?_
                refine WL_guard_t rfl rfl ?_
                refine WL_step rfl (R_ne rfl rfl) ?_
                refine WL_guard_t rfl rfl ?_
                refine WL_stepM rfl (R_mv) ?_
                apply WL_orK 4 110 114 [(111, 114)] H
                case hc => rfl
                case h1 =>
                  intro h215
                  refine WL_guard_t rfl rfl ?_
                  refine WL_stepM rfl (R_mv) ?_
                  refine WL_guard_t rfl rfl ?_
                  refine WL_stepM rfl (R_mv) ?_
                  refine WL_guard_t rfl rfl ?_
                  refine WL_step rfl (R_ne rfl rfl) ?_
                  refine WL_guard_t rfl rfl ?_
                  refine WL_stepM rfl (R_pk_f rfl) ?_
                  refine WL_nil ?_
                  exact ⟨(same_mov rfl (same_updo rfl (same_mov rfl (same_mov rfl Same.refl)))), rfl, H⟩
                case h0 =>
                  intro h215
                  refine WL_guard_f rfl rfl (by decide) ?_
                  refine WL_guard_f rfl rfl (by decide) ?_
                  refine WL_guard_f rfl rfl (by decide) ?_
                  refine WL_guard_t rfl rfl ?_
                  refine WL_stepM rfl (R_pk_t rfl) ?_
                  refine WL_nil ?_
                  exact ⟨(same_mov rfl (same_updo rfl (same_updo rfl (same_updo rfl Same.refl)))), rfl, H⟩
                case h2 =>
                  (clear H; intro E215 w215 H)
                  refine WL_stepM rfl (R_pk_t rfl) ?_
                  refine WL_nil ?_
                  refine W_if rfl (fun h235 => ?_) (fun h235 => ?_)
                  · refine W_region_l ?_
                    refine WL_stepM rfl (R_mv) ?_
                    refine WL_step rfl (R_loadA (vs := rc ((e : Int), m)) Try.isAgg36 Try.sizeOf36 rfl (H.get .here) rfl (by simp [rc])) ?_
                    (refine WL_effn rfl (E_buildRows (vss := [rc ((e : Int), m)]) H Try.underlying51 Try.sizeOf36 Try.zeroValue36 rfl rfl (by decide) rfl rfl (by simp [rc])) ?_; clear H; intro b118 w239 hb118 H)
                    (refine WL_effm rfl (E_append (news := rc ((e : Int), m)) H (.there (.there (.app _ (.there .last)))) hO9 Try.underlying51 Try.typeInfo36 rfl rfl rfl rfl rfl rfl (src_blk (m := 1) (sp := []) Try.underlying51 (by rw [List.append_nil]; exact H.get .here) rfl (by simp [rc, Value.oneCell'])) (by omega) (by simp only [Try.t36]; omega)) ?_; clear H; intro vN MN w240 hON H)
                    refine WL_stepM rfl (R_as) ?_
                    refine WL_nil ?_
                    refine W_region_l ?_
                    refine WL_step rfl (R_add rfl rfl (w_i64 (by omega))) ?_
                    refine WL_stepM rfl (R_mv) ?_
                    refine WL_nil ?_
                    (have _g := hON; exact ⟨(same_mov rfl (same_updo rfl (same_mov rfl (same_updo rfl (same_updo rfl (same_updo rfl (same_mov rfl (same_know rfl (same_mov rfl (same_in rfl (same_mov rfl (same_updo rfl (same_mov rfl (same_mov rfl (same_mov rfl (same_updo rfl (same_updo rfl (same_updo rfl (same_mov rfl (same_updn (same_updo rfl (same_updo rfl (same_mov rfl (same_mov rfl (same_mov rfl (same_updo rfl (same_updo rfl (same_know rfl (same_updo rfl same_ovr))))))))))))))))))))))))))))), x + 1, by omega, vN, MN, by omega, rfl, rfl, (by rw [hlk, und_one ((seg_mem hC.nd hjj).2 (by have := (List.getElem?_eq_some_iff.1 hjj).1; omega)), List.length_append, rows_append]; simpa [rows] using hON), (H.pop (by assumption)).pop (by assumption)⟩)
                  · refine W_skip ?_
                    refine W_region_l ?_
                    refine WL_step rfl (R_add rfl rfl (w_i64 (by omega))) ?_
                    refine WL_stepM rfl (R_mv) ?_
                    refine WL_nil ?_
                    exact ⟨(same_mov rfl (same_updo rfl (same_know rfl (same_mov rfl (same_in rfl (same_mov rfl (same_updo rfl (same_mov rfl (same_mov rfl (same_mov rfl (same_updo rfl (same_updo rfl (same_updo rfl (same_mov rfl (same_updn (same_updo rfl (same_updo rfl (same_mov rfl (same_mov rfl (same_mov rfl (same_updo rfl (same_updo rfl (same_know rfl (same_updo rfl same_ovr)))))))))))))))))))))))), x + 1, by omega, v9, M9, by omega, rfl, rfl, (by rw [hlk, und_none (fun hh => by have := (seg_mem hC.nd hjj).1 hh; omega), List.append_nil]; exact hO9), H.pop (by assumption)⟩
            · refine W_exit ?_
              refine (if_pos rfl).mpr ?_
              refine W_region_l ?_
              refine WL_step rfl (R_add rfl rfl (w_i64 (by omega))) ?_
              refine WL_stepM rfl (R_mv) ?_
              refine WL_nil ?_
              exact ⟨(same_mov rfl (same_updo rfl (same_know rfl (same_updo rfl (same_in rfl (same_mov rfl (same_updo rfl (same_updo rfl (same_mov rfl (same_mov rfl (same_mov rfl (same_updo rfl (same_updo rfl (same_mov rfl (same_know rfl (same_updo rfl same_ovr)))))))))))))))), e + 1, by omega, v9, M9, by omega, rfl, rfl, (by rw [scan_take ht1]; rw [List.take_of_length_le (l := rowOf e t1) (by unfold rowOf; rw [List.length_map]; omega)] at hO9; exact hO9), Hp.dropN (M := M1) H hO1.keys⟩
        · refine W_exit ?_
          refine (if_pos rfl).mpr ?_
          refine W_seq ?_
          ((rw [List.take_of_length_le (by rw [hS.inv.len]; omega)] at hO9; rcases Nat.eq_zero_or_pos (und C k (scan 0 ts)).length with h0 | h0)) <;> refine W_region_l ?_
          · refine WL_stepM rfl (R_mv) ?_
            (have hO8 := hO9; obtain ⟨ua, uc, rfl⟩ := hO9.form; refine WL_call rfl (R_call rfl Try.call50 rfl) (show Ret Try.prog 50 #[.slice ua (und C k (scan 0 ts)).length uc, .func (.func 51) #[] #[]] _ _ from by rw [h0]; exact sort_0 _ _ _) ?_; rintro _ w266 H1; replace H := H.seq0 H1; clear H1)
            refine WL_nil ?_
            refine W_seq ?_
            refine W_region_l ?_
            refine WL_stepM rfl (R_mv) ?_
            refine WL_stepM rfl (R_as) ?_
            refine WL_stepM rfl (R_as) ?_
            refine WL_nil ?_
            refine W_ret ?_
            exact ⟨_, rfl, _, _, rfl, hO8, H.pop (by assumption)⟩
          · refine WL_stepM rfl (R_mv) ?_
            (have hO8 := hO9; obtain ⟨ub, uc, usp, rfl, hub, rfl, husp, huc⟩ := OwnS.pos hO9 h0; refine WL_call rfl (R_call rfl Try.call50 rfl) (sort_up (R := und C k (scan 0 ts)) (H.get (.there .here)) hUp rfl huc h0 hul) ?_; rintro _ w277 H1; replace H := H.seq0 H1; clear H1)
            refine WL_nil ?_
            refine W_seq ?_
            refine W_region_l ?_
            refine WL_stepM rfl (R_mv) ?_
            refine WL_stepM rfl (R_as) ?_
            refine WL_stepM rfl (R_as) ?_
            refine WL_nil ?_
            refine W_ret ?_
            exact ⟨_, rfl, _, _, rfl, hO8, H.pop (by assumption)⟩
    · refine W_seq ?_
      refine W_seq ?_
      refine W_region_l ?_
      refine WL_stepM rfl (R_mv) ?_
      refine WL_nil ?_
      refine W_cond_t rfl ?_
      refine W_skip ?_
      refine W_block ?_
      refine W_seq ?_
      refine W_region_l ?_
      refine WL_stepM rfl (R_as) ?_
      refine WL_nil ?_
      refine W_seq ?_
      refine W_region_l ?_
      refine WL_stepM rfl (R_mv) ?_
      refine WL_step rfl (R_nilCheck rfl) ?_
      refine WL_step rfl (R_fieldAddr (off' := 0) Try.underlying90 rfl Try.sizeOf88 (by decide) rfl rfl) ?_
      refine WL_step rfl (R_load (v := sl bs 0 PB.length cap) Try.isAgg88 rfl (H.blockN hs (by repeat' first | exact kNil | apply kCons | apply kApp | assumption | exact OwnS.keys (by assumption))) rfl) ?_
      refine WL_step rfl (R_len_slice Try.underlying88 rfl) ?_
      refine WL_stepM rfl (R_mv) ?_
      refine WL_nil ?_
      refine W_block ?_
      refine W_loopS [(11, 13), (15, 18), (46, 81)] (fun (e : Nat) E w' => ∃ (d2 : Nat) (es2 : Array MapEntry) (cl2 : Nat) (g2 : Bool), d ≤ d2 ∧ d2 ≤ C.length ∧ (g2 = false → d2 = d ∧ ∀ r ∈ scan 0 (ts.take e), C[d]? ≠ some r) ∧ (g2 = true → d < d2) ∧ E 11 = .bool g2 ∧ MapIs es2 (seg C k d2) ∧ e ≤ PB.length ∧ E 46 = I e ∧ Hp w [(mp, .map es2 cl2)] w') (fun e => PB.length - e) 0 ?e2 ?r2
      · exact ⟨d, es, cl, false, by omega, by omega, (fun _ => ⟨rfl, fun r hr => absurd hr (by simp [scan])⟩), (fun h => nomatch h), rfl, hm, by omega, rfl, H⟩
      · (clear H; rintro e E w1 ⟨d2, es2, cl2, g2, hd2, hd3, hg2, hg3, h11, hm2, he, h46, H⟩; refine W_kn2 h46 h11 ?_)
        refine W_seq ?_
        refine W_region_l ?_
        refine WL_step rfl (R_lt rfl rfl) ?_
        refine WL_nil ?_
        refine W_seq ?_
        refine W_if rfl (fun h316 => ?_) (fun h316 => ?_)
        · refine W_skip ?_
          refine W_seq ?_
          refine W_block ?_
          refine W_seq ?_
          ((obtain ⟨q1, hq1⟩ : ∃ q1, PB[e]? = some q1 := ⟨_, List.getElem?_eq_getElem (by omega)⟩; obtain ⟨t1, ht1⟩ : ∃ t1, ts[e]? = some t1 := ⟨_, List.getElem?_eq_getElem (by have := hS.inv.len; omega)⟩; have htp := hS.tp e q1 hq1; have htb := hS.tb e q1 t1 hq1 ht1; have hsz := hS.inv.sz t1 (List.mem_of_getElem? ht1); have hgn := hS.inv.gn t1 (List.mem_of_getElem? ht1))) <;> refine W_region_l ?_
          refine WL_stepM rfl (R_mv) ?_
          refine WL_step rfl (R_indexAddr (off' := e) Try.underlying88 Try.sizeOf91 rfl rfl (by omega) (by omega) (by omega)) ?_
          refine WL_step rfl (R_load (v := ptr q1.1 0) Try.isAgg91 rfl (H.blockN hbs (by repeat' first | exact kNil | apply kCons | apply kApp | assumption | exact OwnS.keys (by assumption))) (ptrs_get hq1)) ?_
          refine WL_stepM rfl (R_as) ?_
          refine WL_stepM rfl (R_as) ?_
          refine WL_nil ?_
          refine W_seq ?_
          refine W_region_l ?_
          refine WL_stepM rfl (R_mv) ?_
          (refine WL_call rfl (R_call rfl Try.call49 rfl) (TabC.names_ret (H.blockN htp (by repeat' first | exact kNil | apply kCons | apply kApp | assumption | exact OwnS.keys (by assumption))) (H.blockN htb (by repeat' first | exact kNil | apply kCons | apply kApp | assumption | exact OwnS.keys (by assumption))) hsz (by decide) hgn) ?_; rintro _ w331 ⟨M1, hO1, H1⟩; have h331 := H.seqO hO1 H1; clear H H1 hO1; obtain ⟨hO1, H⟩ := h331; obtain ⟨na, nc, rfl⟩ := hO1.form; have hnl := namesFrom_le t1 0; rw [hsz] at hnl)
          refine WL_step rfl (R_len_slice Try.underlying59 rfl) ?_
          refine WL_stepM rfl (R_mv) ?_
          refine WL_nil ?_
          refine W_block ?_
          refine W_loopS [(11, 11), (15, 18), (54, 80)] (fun (x : Nat) E w' => ∃ (d2 : Nat) (es2 : Array MapEntry) (cl2 : Nat) (g2 : Bool), d ≤ d2 ∧ d2 ≤ C.length ∧ (g2 = false → d2 = d ∧ ∀ r ∈ scan 0 (ts.take e) ++ (rowOf e t1).take x, C[d]? ≠ some r) ∧ (g2 = true → d < d2) ∧ E 11 = .bool g2 ∧ MapIs es2 (seg C k d2) ∧ x ≤ (namesFrom 0 t1).length ∧ E 54 = I x ∧ Hp w (M1 ++ [(mp, .map es2 cl2)]) w') (fun x => (namesFrom 0 t1).length - x) 0 ?e4 ?r4
          · exact ⟨d2, es2, cl2, g2, hd2, hd3, (by rw [List.take_zero, List.append_nil]; exact hg2), hg3, rfl, hm2, by omega, rfl, H⟩
          · (clear H hm2 hg2 hg3 hd2 hd3; rintro x E w1 ⟨d2, es2, cl2, g2, hd2, hd3, hg2, hg3, h11, hm2, hx, h54, H⟩; refine W_kn2 h54 h11 ?_)
            refine W_seq ?_
            refine W_region_l ?_
            refine WL_step rfl (R_lt rfl rfl) ?_
            refine WL_nil ?_
            refine W_seq ?_
            refine W_if rfl (fun h343 => ?_) (fun h343 => ?_)
            · refine W_skip ?_
              refine W_seq ?_
              refine W_block ?_
              refine W_seq ?_
              ((obtain ⟨m, hm1⟩ : ∃ m, (namesFrom 0 t1)[x]? = some m := ⟨_, List.getElem?_eq_getElem (by omega)⟩; obtain ⟨i2, a2, ha2, hu2, hm2x⟩ := namesFrom_get t1 0 x m hm1; rw [Nat.zero_add] at hm2x; obtain ⟨o2, r2, l2, n2, xr, hv2, jj, hjj, hroot⟩ := hC.root e t1 i2 a2 ht1 ha2 hu2; rw [← hm2x] at hjj; have hrt := row_take (e := e) hm1; obtain ⟨b1, o1, rfl, hc1⟩ := (RdS.own hO1 (fun q hq => H.held q (by simp [hq]))).cell (i := x) (u := I m) (by rw [List.getElem?_map, hm1]; rfl); obtain ⟨hr1, hr2⟩ := root_seg hC (show k < d2 by omega) hroot; rcases (by omega : (k ≤ jj ∧ jj < d2) ∨ jj = d2 ∨ (jj < k ∨ d2 < jj)) with hc | hc | hc)) <;> refine W_region_l ?_
              · refine WL_step rfl (R_indexAddr Try.underlying59 Try.sizeOf3 rfl rfl (by omega) (by omega) idx_cast1) ?_
                refine WL_step rfl (R_load_cell Try.isAgg3 rfl hc1) ?_
                refine WL_stepM rfl (R_as) ?_
                refine WL_nil ?_
                refine W_seq ?_
                refine W_region_l ?_
                refine WL_stepM rfl (R_mv) ?_
                refine WL_stepM rfl (R_mv) ?_
                (refine WL_call rfl (R_call rfl Try.call48 rfl) (show Ret Try.prog 48 #[ptr q1.1 0, I m] _ (fun v w' => v = .tuple #[vk (cp o2 r2 l2 n2 xr.1 xr.2), .bool true] ∧ Hp _ [] w') from by rw [hm2x, ← hv2]; exact TabC.get_yes (H.blockN htp (by repeat' first | exact kNil | apply kCons | apply kApp | assumption | exact OwnS.keys (by assumption))) (H.blockN htb (by repeat' first | exact kNil | apply kCons | apply kApp | assumption | exact OwnS.keys (by assumption))) hsz (by decide) ha2 (hgn _ (List.mem_of_getElem? ha2)) hu2) ?_; rintro _ w357 ⟨rfl, H1⟩; replace H := H.seq0 H1; clear H1)
                refine WL_stepM rfl (R_mv) ?_
                refine WL_step rfl (R_extract rfl rfl) ?_
                refine WL_step rfl (R_extract rfl rfl) ?_
                (refine WL_effn rfl (E_allocK H) ?_; clear H; intro c16 w361 hc16 H)
                (refine WL_effu rfl (E_storeK (q := cp o2 r2 l2 n2 xr.1 xr.2) H rfl rfl .here) ?_; clear H; intro w362 H)
                refine WL_stepM rfl (R_as) ?_
                refine WL_nil ?_
                refine W_seq ?_
                refine W_region_l ?_
                refine WL_stepM rfl (R_mv) ?_
                refine WL_stepM rfl (R_mv) ?_
                refine WL_step rfl (R_buildL (places := [(0, 1), (1, 1)]) (vs := [I e, I m]) Try.underlying36 Try.typeInfo36 rfl rfl (by kernel_rfl) rfl rfl rfl) ?_
                (refine WL_effn rfl (E_alloc (vs := [I 0, I 0]) H Try.zeroValue36 rfl) ?_; clear H; intro c18 w370 hc18 H)
                (refine WL_effu rfl (E_storeA (vs := [I e, I m]) H Try.sizeOf36 rfl rfl (by simp [Value.oneCell']) .here (by simp)) ?_; clear H; intro w371 H)
                refine WL_nil ?_
                refine W_seq ?_
                refine W_region_l ?_
                refine WL_stepM rfl (R_mv) ?_
                refine WL_step rfl (R_loadA (vs := [I e, I m]) Try.isAgg36 Try.sizeOf36 rfl (H.get .here) rfl (by simp)) ?_
                refine WL_step rfl (R_lookup_yes (r := ((e : Int), m)) (H.held (mp, .map es2 cl2) (by simp)) hm2 rfl rfl ((seg_mem hC.nd hjj).2 (by omega))) ?_
                refine WL_step rfl (R_eq_f rfl rfl (by omega)) ?_
                refine WL_stepM rfl (R_mv) ?_
                refine WL_guard_f rfl rfl (by decide) ?_
                refine WL_guard_f rfl rfl (by decide) ?_
                refine WL_guard_f rfl rfl (by decide) ?_
                refine WL_guard_f rfl rfl (by decide) ?_
                refine WL_guard_f rfl rfl (by decide) ?_
                refine WL_stepM rfl (R_pk_f rfl) ?_
                refine WL_nil ?_
                refine W_cond_f rfl ?_
                refine W_skip ?_
                refine W_region_l ?_
                refine WL_step rfl (R_add rfl rfl (w_i64 (by omega))) ?_
                refine WL_stepM rfl (R_mv) ?_
                refine WL_nil ?_
                exact ⟨(same_mov rfl (same_updo rfl (same_mov rfl (same_updo rfl (same_updo rfl (same_updo rfl (same_updo rfl (same_updo rfl (same_mov rfl (same_updo rfl (same_updo rfl (same_updo rfl (same_mov rfl (same_updn (same_updo rfl (same_updo rfl (same_mov rfl (same_mov rfl (same_mov rfl (same_updn (same_updo rfl (same_updo rfl (same_updo rfl (same_mov rfl (same_updo rfl (same_mov rfl (same_mov rfl (same_mov rfl (same_updo rfl (same_updo rfl (same_know rfl (same_updo rfl same_ovr)))))))))))))))))))))))))))))))), x + 1, by omega, d2, es2, cl2, g2, hd2, hd3, (fun hg => ⟨(hg2 hg).1, fun r hr => by rw [hrt, ← List.append_assoc] at hr; rcases List.mem_append.1 hr with h1 | h1; exact (hg2 hg).2 r h1; rw [List.mem_singleton.1 h1]; intro h2; have e2 := (hg2 hg).1; exact chain_ne hC hjj h2 (by omega)⟩), hg3, rfl, hm2, by omega, rfl, (H.pop (by assumption)).pop (by assumption)⟩
              · refine WL_step rfl (R_indexAddr Try.underlying59 Try.sizeOf3 rfl rfl (by omega) (by omega) idx_cast1) ?_
                refine WL_step rfl (R_load_cell Try.isAgg3 rfl hc1) ?_
                refine WL_stepM rfl (R_as) ?_
                refine WL_nil ?_
                refine W_seq ?_
                refine W_region_l ?_
                refine WL_stepM rfl (R_mv) ?_
                refine WL_stepM rfl (R_mv) ?_
                (refine WL_call rfl (R_call rfl Try.call48 rfl) (show Ret Try.prog 48 #[ptr q1.1 0, I m] _ (fun v w' => v = .tuple #[vk (cp o2 r2 l2 n2 xr.1 xr.2), .bool true] ∧ Hp _ [] w') from by rw [hm2x, ← hv2]; exact TabC.get_yes (H.blockN htp (by repeat' first | exact kNil | apply kCons | apply kApp | assumption | exact OwnS.keys (by assumption))) (H.blockN htb (by repeat' first | exact kNil | apply kCons | apply kApp | assumption | exact OwnS.keys (by assumption))) hsz (by decide) ha2 (hgn _ (List.mem_of_getElem? ha2)) hu2) ?_; rintro _ w402 ⟨rfl, H1⟩; replace H := H.seq0 H1; clear H1)
                refine WL_stepM rfl (R_mv) ?_
                refine WL_step rfl (R_extract rfl rfl) ?_
                refine WL_step rfl (R_extract rfl rfl) ?_
                (refine WL_effn rfl (E_allocK H) ?_; clear H; intro c16 w406 hc16 H)
                (refine WL_effu rfl (E_storeK (q := cp o2 r2 l2 n2 xr.1 xr.2) H rfl rfl .here) ?_; clear H; intro w407 H)
                refine WL_stepM rfl (R_as) ?_
                refine WL_nil ?_
                refine W_seq ?_
                refine W_region_l ?_
                refine WL_stepM rfl (R_mv) ?_
                refine WL_stepM rfl (R_mv) ?_
                refine WL_step rfl (R_buildL (places := [(0, 1), (1, 1)]) (vs := [I e, I m]) Try.underlying36 Try.typeInfo36 rfl rfl (by kernel_rfl) rfl rfl rfl) ?_
                (refine WL_effn rfl (E_alloc (vs := [I 0, I 0]) H Try.zeroValue36 rfl) ?_; clear H; intro c18 w415 hc18 H)
                (refine WL_effu rfl (E_storeA (vs := [I e, I m]) H Try.sizeOf36 rfl rfl (by simp [Value.oneCell']) .here (by simp)) ?_; clear H; intro w416 H)
                refine WL_nil ?_
                refine W_seq ?_
                refine W_region_l ?_
                refine WL_stepM rfl (R_mv) ?_
                refine WL_step rfl (R_loadA (vs := [I e, I m]) Try.isAgg36 Try.sizeOf36 rfl (H.get .here) rfl (by simp)) ?_
                refine WL_step rfl (R_lookup_no (r := ((e : Int), m)) (H.held (mp, .map es2 cl2) (by simp)) hm2 rfl rfl (fun hh => by have := (seg_mem hC.nd hjj).1 hh; omega)) ?_
                refine WL_step rfl (R_eq_t rfl rfl (by omega)) ?_
                refine WL_stepM rfl (R_mv) ?_
                refine WL_guard_t rfl rfl ?_
                refine WL_stepM rfl (R_mv) ?_
                refine WL_guard_t rfl rfl ?_
                refine WL_step rfl (R_fieldAddr (off' := 4) Try.underlying38 rfl Try.sizeOf36 (by decide) rfl rfl) ?_
                refine WL_guard_t rfl rfl ?_
                refine WL_step rfl (R_loadA (vs := [I xr.1, I xr.2]) Try.isAgg36 Try.sizeOf36 rfl (H.get (.there .here)) rfl (by simp [cp])) ?_
                refine WL_guard_t rfl rfl ?_
                refine WL_step rfl (R_lookup_yes (r := xr) (H.held (mp, .map es2 cl2) (by simp)) hm2 rfl rfl (hr1 hc)) ?_
                refine WL_guard_t rfl rfl ?_
                refine WL_step rfl (R_gt_t rfl rfl (by omega)) ?_
                refine WL_stepM rfl (R_pk_t rfl) ?_
                refine WL_nil ?_
                refine W_cond_t rfl ?_
                refine W_region_l ?_
                refine WL_stepM rfl (R_mv) ?_
                refine WL_step rfl (R_loadA (vs := [I e, I m]) Try.isAgg36 Try.sizeOf36 rfl (H.get .here) rfl (by simp)) ?_
                (refine WL_effu rfl (E_mapUpdate (l := seg C k d2) (r := ((e : Int), m)) H (.there (.there (.app _ .here))) hm2 rfl rfl rfl (fun hh => by have := (seg_mem hC.nd hjj).1 hh; omega)) ?_; clear H; intro w441 H; have hm3 : MapIs _ (seg C k (d2 + 1)) := (by rw [seg_succ (by omega) (hc ▸ hjj)]; exact hm2.push _ cl2))
                refine WL_stepM rfl (R_as) ?_
                refine WL_nil ?_
                refine W_region_l ?_
                refine WL_step rfl (R_add rfl rfl (w_i64 (by omega))) ?_
                refine WL_stepM rfl (R_mv) ?_
                refine WL_nil ?_
                (have _g := hm3; exact ⟨(same_mov rfl (same_updo rfl (same_mov rfl (same_updn (same_updo rfl (same_mov rfl (same_mov rfl (same_updo rfl (same_updo rfl (same_updo rfl (same_updo rfl (same_mov rfl (same_mov rfl (same_updo rfl (same_updo rfl (same_updo rfl (same_mov rfl (same_updn (same_updo rfl (same_updo rfl (same_mov rfl (same_mov rfl (same_mov rfl (same_updn (same_updo rfl (same_updo rfl (same_updo rfl (same_mov rfl (same_updo rfl (same_mov rfl (same_mov rfl (same_mov rfl (same_updo rfl (same_updo rfl (same_know rfl (same_updo rfl same_ovr)))))))))))))))))))))))))))))))))))), x + 1, by omega, d2 + 1, _, _, true, by omega, (by have := (List.getElem?_eq_some_iff.1 hjj).1; omega), (fun h => nomatch h), (fun _ => by omega), rfl, hm3, by omega, rfl, (H.pop (by assumption)).pop (by assumption)⟩)
              · refine WL_step rfl (R_indexAddr Try.underlying59 Try.sizeOf3 rfl rfl (by omega) (by omega) idx_cast1) ?_
                refine WL_step rfl (R_load_cell Try.isAgg3 rfl hc1) ?_
                refine WL_stepM rfl (R_as) ?_
                refine WL_nil ?_
                refine W_seq ?_
                refine W_region_l ?_
                refine WL_stepM rfl (R_mv) ?_
                refine WL_stepM rfl (R_mv) ?_
                (refine WL_call rfl (R_call rfl Try.call48 rfl) (show Ret Try.prog 48 #[ptr q1.1 0, I m] _ (fun v w' => v = .tuple #[vk (cp o2 r2 l2 n2 xr.1 xr.2), .bool true] ∧ Hp _ [] w') from by rw [hm2x, ← hv2]; exact TabC.get_yes (H.blockN htp (by repeat' first | exact kNil | apply kCons | apply kApp | assumption | exact OwnS.keys (by assumption))) (H.blockN htb (by repeat' first | exact kNil | apply kCons | apply kApp | assumption | exact OwnS.keys (by assumption))) hsz (by decide) ha2 (hgn _ (List.mem_of_getElem? ha2)) hu2) ?_; rintro _ w457 ⟨rfl, H1⟩; replace H := H.seq0 H1; clear H1)
                refine WL_stepM rfl (R_mv) ?_
                refine WL_step rfl (R_extract rfl rfl) ?_
                refine WL_step rfl (R_extract rfl rfl) ?_
                (refine WL_effn rfl (E_allocK H) ?_; clear H; intro c16 w461 hc16 H)
                (refine WL_effu rfl (E_storeK (q := cp o2 r2 l2 n2 xr.1 xr.2) H rfl rfl .here) ?_; clear H; intro w462 H)
                refine WL_stepM rfl (R_as) ?_
                refine WL_nil ?_
                refine W_seq ?_
                refine W_region_l ?_
                refine WL_stepM rfl (R_mv) ?_
                refine WL_stepM rfl (R_mv) ?_
                refine WL_step rfl (R_buildL (places := [(0, 1), (1, 1)]) (vs := [I e, I m]) Try.underlying36 Try.typeInfo36 rfl rfl (by kernel_rfl) rfl rfl rfl) ?_
                (refine WL_effn rfl (E_alloc (vs := [I 0, I 0]) H Try.zeroValue36 rfl) ?_; clear H; intro c18 w470 hc18 H)
                (refine WL_effu rfl (E_storeA (vs := [I e, I m]) H Try.sizeOf36 rfl rfl (by simp [Value.oneCell']) .here (by simp)) ?_; clear H; intro w471 H)
                refine WL_nil ?_
                refine W_seq ?_
                refine W_region_l ?_
                refine WL_stepM rfl (R_mv) ?_
                refine WL_step rfl (R_loadA (vs := [I e, I m]) Try.isAgg36 Try.sizeOf36 rfl (H.get .here) rfl (by simp)) ?_
                refine WL_step rfl (R_lookup_no (r := ((e : Int), m)) (H.held (mp, .map es2 cl2) (by simp)) hm2 rfl rfl (fun hh => by have := (seg_mem hC.nd hjj).1 hh; omega)) ?_
                refine WL_step rfl (R_eq_t rfl rfl (by omega)) ?_
                refine WL_stepM rfl (R_mv) ?_
                refine WL_guard_t rfl rfl ?_
                refine WL_stepM rfl (R_mv) ?_
                refine WL_guard_t rfl rfl ?_
                refine WL_step rfl (R_fieldAddr (off' := 4) Try.underlying38 rfl Try.sizeOf36 (by decide) rfl rfl) ?_
                refine WL_guard_t rfl rfl ?_
                refine WL_step rfl (R_loadA (vs := [I xr.1, I xr.2]) Try.isAgg36 Try.sizeOf36 rfl (H.get (.there .here)) rfl (by simp [cp])) ?_
                refine WL_guard_t rfl rfl ?_
                refine WL_step rfl (R_lookup_no (r := xr) (H.held (mp, .map es2 cl2) (by simp)) hm2 rfl rfl (hr2 hc)) ?_
                refine WL_guard_t rfl rfl ?_
                refine WL_step rfl (R_gt_f rfl rfl (by omega)) ?_
                refine WL_stepM rfl (R_pk_t rfl) ?_
                refine WL_nil ?_
                refine W_cond_f rfl ?_
                refine W_skip ?_
                refine W_region_l ?_
                refine WL_step rfl (R_add rfl rfl (w_i64 (by omega))) ?_
                refine WL_stepM rfl (R_mv) ?_
                refine WL_nil ?_
                exact ⟨(same_mov rfl (same_updo rfl (same_mov rfl (same_updo rfl (same_updo rfl (same_updo rfl (same_updo rfl (same_mov rfl (same_mov rfl (same_updo rfl (same_updo rfl (same_updo rfl (same_mov rfl (same_updn (same_updo rfl (same_updo rfl (same_mov rfl (same_mov rfl (same_mov rfl (same_updn (same_updo rfl (same_updo rfl (same_updo rfl (same_mov rfl (same_updo rfl (same_mov rfl (same_mov rfl (same_mov rfl (same_updo rfl (same_updo rfl (same_know rfl (same_updo rfl same_ovr)))))))))))))))))))))))))))))))), x + 1, by omega, d2, es2, cl2, g2, hd2, hd3, (fun hg => ⟨(hg2 hg).1, fun r hr => by rw [hrt, ← List.append_assoc] at hr; rcases List.mem_append.1 hr with h1 | h1; exact (hg2 hg).2 r h1; rw [List.mem_singleton.1 h1]; intro h2; have e2 := (hg2 hg).1; exact chain_ne hC hjj h2 (by omega)⟩), hg3, rfl, hm2, by omega, rfl, (H.pop (by assumption)).pop (by assumption)⟩
            · refine W_exit ?_
              refine (if_pos rfl).mpr ?_
              refine W_region_l ?_
              refine WL_step rfl (R_add rfl rfl (w_i64 (by omega))) ?_
              refine WL_stepM rfl (R_mv) ?_
              refine WL_nil ?_
              exact ⟨(same_mov rfl (same_updo rfl (same_know rfl (same_updo rfl (same_in rfl (same_mov rfl (same_updo rfl (same_updo rfl (same_mov rfl (same_mov rfl (same_mov rfl (same_updo rfl (same_updo rfl (same_mov rfl (same_know rfl (same_updo rfl same_ovr)))))))))))))))), e + 1, by omega, d2, es2, cl2, g2, hd2, hd3, (fun hg => ⟨(hg2 hg).1, fun r hr => (hg2 hg).2 r (by rw [scan_take ht1] at hr; rw [List.take_of_length_le (l := rowOf e t1) (by unfold rowOf; rw [List.length_map]; omega)]; exact hr)⟩), hg3, rfl, hm2, by omega, rfl, Hp.dropN (M := M1) H hO1.keys⟩
        · refine W_exit ?_
          refine (if_pos rfl).mpr ?_
          (cases g2; (have hd := hg2 rfl; exact ⟨(same_know rfl (same_updo rfl (same_in rfl (same_mov rfl (same_updo rfl (same_updo rfl (same_updo rfl (same_updo rfl (same_mov rfl (same_mov rfl (same_mov rfl same_ovr))))))))))), 2 * (C.length - d), (by simp at hz0; omega), d, es2, cl2, false, hkd, hdl, (by simp), (fun _ => chain_end hC hS.inv.len hdl (fun r hr => hd.2 r (by rw [List.take_of_length_le (by rw [hS.inv.len]; omega)]; exact hr))), rfl, (by rw [← hd.1]; exact hm2), H⟩); (have hd := hg3 rfl; exact ⟨(same_know rfl (same_updo rfl (same_in rfl (same_mov rfl (same_updo rfl (same_updo rfl (same_updo rfl (same_updo rfl (same_mov rfl (same_mov rfl (same_mov rfl same_ovr))))))))))), 2 * (C.length - d2) + 1, (by simp at hz0; omega), d2, es2, cl2, true, by omega, hd3, (by simp), (fun h => nomatch h), rfl, hm2, H⟩))
end
end Go.Proofs.Ythonajikgljgmaa.Caps

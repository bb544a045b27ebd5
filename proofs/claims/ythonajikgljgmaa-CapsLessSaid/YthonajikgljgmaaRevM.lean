/-
  Caps of a chain are dropped: the plain part.
-/
import Derived.Test.YthonajikgljgmaaUnderG
namespace Go.Proofs.Ythonajikgljgmaa.Caps
open Go Go.Proofs Go.Proofs.Ythonajikgljgmaa.Fx Go.Proofs.Ythonajikgljgmaa.TabC
set_option maxRecDepth 100000
set_option linter.unusedVariables false
set_option linter.unusedSimpArgs false

/-- a ref is there -/
def has (ts : List (List Pl)) (r : Int × Int) : Prop := ∃ (e : Nat) (t : List Pl) (i : Nat) (a : Pl), ts[e]? = some t ∧ t[i]? = some a ∧ a.u = true ∧ r = ((e : Int), ((i + 256 * a.g : Nat) : Int))
/-- refs are dropped, one behind the other -/
inductive Dropped : List (List Pl) → List (Int × Int) → List (List Pl) → Prop
  | nil {ts} : Dropped ts [] ts
  | snoc {ts ts1 : List (List Pl)} {D : List (Int × Int)} {e i : Nat} {t : List Pl} {a : Pl} (h : Dropped ts D ts1) (ht : ts1[e]? = some t) (ha : t[i]? = some a) (hu : a.u = true) :
      Dropped ts (D ++ [((e : Int), ((i + 256 * a.g : Nat) : Int))]) (ts1.set e (t.set i ⟨zk, a.g + 1, false⟩))
/-- what is not dropped stays -/
theorem has_drop {ts : List (List Pl)} {e i : Nat} {t : List Pl} {a x : Pl} {r : Int × Int} (hr : has ts r) (ht : ts[e]? = some t) (ha : t[i]? = some a) (hne : r ≠ ((e : Int), ((i + 256 * a.g : Nat) : Int))) : has (ts.set e (t.set i x)) r := by
  obtain ⟨e2, t2, i2, a2, h1, h2, h3, rfl⟩ := hr
  have he := (List.getElem?_eq_some_iff.1 ht).1
  by_cases hee : e = e2
  · subst hee
    rw [ht] at h1; cases h1
    have hii : i ≠ i2 := by
      rintro rfl
      rw [ha] at h2; cases h2
      exact hne rfl
    exact ⟨e, t.set i x, i2, a2, List.getElem?_set_self he, by rw [List.getElem?_set_ne hii]; exact h2, h3, rfl⟩
  · exact ⟨e2, t2, i2, a2, by rw [List.getElem?_set_ne hee]; exact h1, h2, h3, rfl⟩
theorem has_of_names {ts : List (List Pl)} {e : Nat} {t : List Pl} {m : Int} (ht : ts[e]? = some t) (hm : m ∈ namesFrom 0 t) : has ts ((e : Int), m) := by
  obtain ⟨x, hx⟩ := List.mem_iff_getElem?.1 hm
  obtain ⟨i, a, h1, h2, h3⟩ := namesFrom_get t 0 x m hx
  exact ⟨e, t, i, a, ht, h1, h2, by rw [h3, Nat.zero_add]⟩
theorem scan_has_aux : ∀ (l : List (List Pl)) (e : Nat) (ts : List (List Pl)) (r : Int × Int), (∀ (d : Nat) (t : List Pl), l[d]? = some t → ts[e + d]? = some t) → r ∈ scan e l → has ts r
  | [], _, _, _, _, h => by simp [scan] at h
  | t :: l, e, ts, r, hl, h => by
    rw [scan] at h
    rcases List.mem_append.1 h with h1 | h1
    · obtain ⟨m, hm, rfl⟩ := List.mem_map.1 h1
      exact has_of_names (hl 0 t rfl) hm
    · exact scan_has_aux l (e + 1) ts r (fun d t' hd => by rw [show e + 1 + d = e + (d + 1) from by omega]; exact hl (d + 1) t' (by simpa using hd)) h1
theorem scan_has {ts : List (List Pl)} {r : Int × Int} (h : r ∈ scan 0 ts) : has ts r := scan_has_aux ts 0 ts r (fun d t hd => by rw [Nat.zero_add]; exact hd) h
/-- behind the drops: what is gone is not there, and what was there and is not dropped is -/
theorem Dropped.keeps {ts ts' : List (List Pl)} {D : List (Int × Int)} (h : Dropped ts D ts') {r : Int × Int} (hr : has ts r) (hn : r ∉ D) : has ts' r := by
  induction h with
  | nil => exact hr
  | snoc h ht ha hu ih =>
    exact has_drop (ih (fun hm => hn (List.mem_append_left _ hm))) ht ha (fun e => hn (List.mem_append_right _ (by rw [e]; exact .head _)))
theorem Dropped.length {ts ts' : List (List Pl)} {D : List (Int × Int)} (h : Dropped ts D ts') : ts'.length = ts.length := by
  induction h with
  | nil => rfl
  | snoc h ht ha hu ih => rw [List.length_set]; exact ih
end Go.Proofs.Ythonajikgljgmaa.Caps

/-
  A cap of a chain is revoked.
-/
namespace Go.Proofs.Ythonajikgljgmaa.Caps
open Go Go.Proofs Go.Proofs.Ythonajikgljgmaa.Fx Go.Proofs.Ythonajikgljgmaa.TabC
set_option maxRecDepth 100000
set_option linter.unusedVariables false
set_option linter.unusedSimpArgs false
set_option maxHeartbeats 8000000

theorem take_notin {l : List (Int × Int)} (hN : l.Nodup) {x : Nat} {r : Int × Int} (h : l[x]? = some r) : r ∉ l.take x := by
  intro hm
  obtain ⟨y, hy⟩ := List.mem_iff_getElem?.1 hm
  have hyx : y < x := by
    have := (List.getElem?_eq_some_iff.1 hy).1
    rw [List.length_take] at this; omega
  rw [List.getElem?_take_of_lt hyx] at hy
  have h1 := List.getElem?_eq_some_iff.1 h
  have h2 := List.getElem?_eq_some_iff.1 hy
  exact List.pairwise_iff_getElem.1 hN _ _ h2.1 h1.1 hyx (h2.2.trans h1.2.symm)

theorem revoke_chain {w0 w : World} {B : List (Nat × Obj)} {s bs cap : Nat} {sp : List Value} {PB : List (Nat × Nat)} {ts : List (List Pl)} {j i k : Nat} {q : Nat × Nat} {t : List Pl} {a : Pl} {C O : List (Int × Int)} {NM : Int}
    (H : Hp w0 (spB s bs cap sp PB ts ++ B) w) (hI : Inv PB ts) (hG : ∀ t ∈ ts, ∀ a ∈ t, a.g ≤ 1000) (hE : PB.length ≤ 40) (hC : Chain ts C) (hlen : C.length ≤ 30) (hk : C[k]? = some ((j : Int), NM)) (hNM : ((i + 256 * a.g : Nat) : Int) = NM)
    (hq : PB[j]? = some q) (ht : ts[j]? = some t) (h : t[i]? = some a) (hu : a.u = true) (hOe : und C k (scan 0 ts) = O) (hul : O.length ≤ 25) (hUp : Up O) (hnd : O.Nodup) (hself : ((j : Int), NM) ∉ O) :
    Ret Try.prog 24 #[ptr s 0, I j, I NM] w fun v w' => v = .tuple #[I (O.length + 1 : Nat), I 0] ∧ ∃ ts', Dropped ts (O ++ [((j : Int), NM)]) ts' ∧ Inv PB ts' ∧ Hp w0 (spB s bs cap sp PB ts' ++ B) w' := by
  have hOm : ∀ r ∈ O, has ts r := fun r hr => by rw [← hOe] at hr; exact scan_has (List.mem_filter.1 (show r ∈ List.filter _ _ from hr)).1
  have hsf : has ts ((j : Int), NM) := ⟨j, t, i, a, ht, h, hu, by rw [hNM]⟩
  have hjl := (List.getElem?_eq_some_iff.1 hq).1
  refine Ret_of_W (args := [_, _, _]) Try.func24 rfl Try.ntmps24 Try.results24 (by simp) ?_
  refine W_seq ?_
  refine W_region_l ?_
  refine WL_stepM rfl (R_as) ?_
  refine WL_stepM rfl (R_as) ?_
  refine WL_nil ?_
  refine W_seq ?_
  refine W_region_l ?_
  refine WL_stepM rfl (R_mv) ?_
  refine WL_stepM rfl (R_mv) ?_
  refine WL_stepM rfl (R_mv) ?_
  (refine WL_call rfl (R_call rfl Try.call27 rfl) (under_chain (Sp.of (fun p hp => H.held p (List.mem_append_left _ hp)) hI) hE hC hlen hk hNM hq ht h hu (by rw [hOe]; exact hul) (by rw [hOe]; exact hUp)) ?_; rintro _ w11 ⟨_, M, rfl, hO, H1⟩; rw [hOe] at hO; have h11 := H.seqO hO H1; clear H H1 hO; obtain ⟨hO, H⟩ := h11; obtain ⟨ua, uc, rfl⟩ := hO.form)
  refine WL_stepM rfl (R_mv) ?_
  refine WL_step rfl (R_extract rfl rfl) ?_
  refine WL_step rfl (R_extract rfl rfl) ?_
  refine WL_stepM rfl (R_as) ?_
  refine WL_stepM rfl (R_as) ?_
  refine WL_nil ?_
  refine W_seq ?_
  refine W_seq ?_
  refine W_region_l ?_
  refine WL_stepM rfl (R_mv) ?_
  refine WL_step rfl (R_ne_f rfl rfl (by omega)) ?_
  refine WL_nil ?_
  refine W_cond_f rfl ?_
  refine W_skip ?_
  refine W_seq ?_
  refine W_seq ?_
  refine W_region_l ?_
  refine WL_stepM rfl (R_mv) ?_
  refine WL_step rfl (R_len_slice Try.underlying51 rfl) ?_
  refine WL_stepM rfl (R_mv) ?_
  refine WL_nil ?_
  refine W_block ?_
  refine W_loopS [(11, 11), (24, 39)] (fun (x : Nat) E w' => ∃ ts1, x ≤ O.length ∧ Dropped ts (O.take x) ts1 ∧ Inv PB ts1 ∧ (∀ t ∈ ts1, ∀ a ∈ t, a.g ≤ 1000 + x) ∧ E 24 = I x ∧ Hp w0 (M ++ (spB s bs cap sp PB ts1 ++ B)) w') (fun x => O.length - x) 0 ?e0 ?r0
  · exact ⟨ts, by omega, .nil, hI, (fun t ht a ha => by have := hG t ht a ha; omega), rfl, H⟩
  · (clear H; rintro x E w1 ⟨ts1, hx, hD, hI1, hG1, h24, H⟩; refine W_kn h24 ?_)
    refine W_seq ?_
    refine W_region_l ?_
    refine WL_step rfl (R_lt rfl rfl) ?_
    refine WL_nil ?_
    refine W_seq ?_
    refine W_if rfl (fun h41 => ?_) (fun h41 => ?_)
    · refine W_skip ?_
      refine W_seq ?_
      refine W_block ?_
      refine W_seq ?_
      ((obtain ⟨r, hr⟩ : ∃ r, O[x]? = some r := ⟨_, List.getElem?_eq_getElem (by omega)⟩; obtain ⟨e, t1, i1, a1, h1, h2, h3, hre⟩ := hD.keeps (hOm r (List.mem_of_getElem? hr)) (take_notin hnd hr); have hel := (List.getElem?_eq_some_iff.1 h1).1; rw [hI1.len] at hel; obtain ⟨q1, hq1⟩ : ∃ q1, PB[e]? = some q1 := ⟨_, List.getElem?_eq_getElem hel⟩; obtain ⟨ub, cu, usp, hv, hub, rfl, husp, huc⟩ := OwnS.pos hO (by omega); cases hv; have hm1 := tbB_mem hq1 h1; have hr1 : r.1 = (e : Int) := (by rw [hre]); have hr2 : r.2 = ((i1 + 256 * a1.g : Nat) : Int) := (by rw [hre]))) <;> refine W_region_l ?_
      refine WL_step rfl (R_indexAddr (off' := x * 2) Try.underlying51 Try.sizeOf36 rfl rfl (by omega) (by omega) (by omega)) ?_
      refine WL_step rfl (R_loadA (vs := rc r) Try.isAgg36 Try.sizeOf36 rfl (H.get .here) (rows_at hr) (by rw [List.length_append, rows_length rc_len]; show x * 2 + 2 ≤ _; omega)) ?_
      (refine WL_effn rfl (E_alloc (vs := [I 0, I 0]) H Try.zeroValue36 rfl) ?_; clear H; intro c11 w49 hc11 H)
      (refine WL_effu rfl (E_storeA (vs := rc r) H Try.sizeOf36 rfl rfl (by simp [rc, Value.oneCell']) .here (by simp [rc])) ?_; clear H; intro w50 H; replace H : Hp w0 ((c11, blk [I e, I (i1 + 256 * a1.g : Nat)] 36) :: (ub, blk (rows rc O ++ usp) 36) :: (s, blk [sl bs 0 PB.length cap] 90) :: (bs, blk (ptrs PB ++ sp) 91) :: (tbB PB ts1 ++ B)) w50 := by rw [← hr1, ← hr2]; exact H)
      refine WL_nil ?_
      (refine W_draw (Kp [(c11, blk [I e, I (i1 + 256 * a1.g : Nat)] 36), (s, blk [sl bs 0 PB.length cap] 90), (bs, blk (ptrs PB ++ sp) 91)]) (fun _ => false) (by kernel_rfl) H ?_; clear H; intro w52 H)
      refine WA_takeM 0 rfl rfl rfl (by kernel_rfl) (by kernel_rfl) (H.kp.sub (by simp)) (fun _ hC => R_mv) ?_
      refine WA_take 1 rfl rfl rfl (by kernel_rfl) (by kernel_rfl) (H.kp.sub (by simp)) (fun _ hC => R_nilCheck rfl) ?_
      refine WA_take 2 rfl rfl rfl (by kernel_rfl) (by kernel_rfl) (H.kp.sub (by simp)) (fun _ hC => R_fieldAddr (off' := 0) Try.underlying90 rfl Try.sizeOf88 (by decide) rfl rfl) ?_
      refine WA_take 3 rfl rfl rfl (by kernel_rfl) (by kernel_rfl) (H.kp.sub (by simp)) (fun _ hC => R_load (v := sl bs 0 PB.length cap) Try.isAgg88 rfl (hC.get (.there .here)) rfl) ?_
      refine WA_take 4 rfl rfl rfl (by kernel_rfl) (by kernel_rfl) (H.kp.sub (by simp)) (fun _ hC => R_fieldAddr (off' := 0) Try.underlying36 rfl Try.sizeOf3 (by decide) rfl rfl) ?_
      refine WA_take 5 rfl rfl rfl (by kernel_rfl) (by kernel_rfl) (H.kp.sub (by simp)) (fun _ hC => R_load (v := I e) Try.isAgg3 rfl (hC.get .here) rfl) ?_
      refine WA_take 6 rfl rfl rfl (by kernel_rfl) (by kernel_rfl) (H.kp.sub (by simp)) (fun _ hC => R_indexAddr (off' := e) Try.underlying88 Try.sizeOf91 rfl rfl (by omega) (by omega) (by omega)) ?_
      refine WA_take 7 rfl rfl rfl (by kernel_rfl) (by kernel_rfl) (H.kp.sub (by simp)) (fun _ hC => R_load (v := ptr q1.1 0) Try.isAgg91 rfl (hC.get (.there (.there .here))) (ptrs_get hq1)) ?_
      refine WA_take 8 rfl rfl rfl (by kernel_rfl) (by kernel_rfl) (H.kp.sub (by simp)) (fun _ hC => R_fieldAddr (off' := 1) Try.underlying36 rfl Try.sizeOf3 (by decide) rfl rfl) ?_
      refine WA_take 9 rfl rfl rfl (by kernel_rfl) (by kernel_rfl) (H.kp.sub (by simp)) (fun _ hC => R_load (v := I (i1 + 256 * a1.g : Nat)) Try.isAgg3 rfl (hC.get .here) rfl) ?_
      refine WA_one (i := 10) (by kernel_rfl) ?_
      (refine WI_call rfl (.inl rfl) (R_call rfl Try.call47 rfl) (TabC.drop_yes (i := i1) (H.held _ (.tail _ (.tail _ (.tail _ (.tail _ (List.mem_append_left _ hm1.1)))))) (H.held _ (.tail _ (.tail _ (.tail _ (.tail _ (List.mem_append_left _ hm1.2)))))) (hI1.sz t1 (List.mem_of_getElem? h1)) (by decide) h2 (hI1.gn t1 (List.mem_of_getElem? h1) _ (List.mem_of_getElem? h2)) h3) (fun _ _ hR _ => (seqSp (A := [(c11, blk [I e, I (i1 + 256 * a1.g : Nat)] 36), (ub, blk (rows rc O ++ usp) 36)]) H hq1 h1 hR.2).kp.sub (by simp [spB])) ?_; rintro _ w64 ⟨rfl, H1⟩; replace H := seqSp (A := [(c11, blk [I e, I (i1 + 256 * a1.g : Nat)] 36), (ub, blk (rows rc O ++ usp) 36)]) H hq1 h1 H1; clear H1)
      refine WA_done (by kernel_rfl) ?_
      refine W_region_l ?_
      refine WL_step rfl (R_add rfl rfl (w_i64 (by omega))) ?_
      refine WL_stepM rfl (R_mv) ?_
      refine WL_nil ?_
      exact ⟨(same_mov rfl (same_updo rfl (same_updo rfl (same_updo rfl (same_updo rfl (same_updo rfl (same_updo rfl (same_updo rfl (same_updo rfl (same_updo rfl (same_updo rfl (same_updo rfl (same_mov rfl (same_updn (same_updo rfl (same_updo rfl (same_updo rfl (same_know rfl (same_updo rfl same_ovr))))))))))))))))))), x + 1, by omega, _, by omega, (by rw [List.take_succ_eq_append_getElem (by omega : x < O.length), (List.getElem?_eq_some_iff.1 hr).2, hre]; exact .snoc hD h1 h2 h3), hI1.set (by rw [List.length_set]; exact hI1.sz t1 (List.mem_of_getElem? h1)) (fun a ha => by rcases List.mem_or_eq_of_mem_set ha with hh | rfl; exact hI1.gn t1 (List.mem_of_getElem? h1) a hh; show a1.g + 1 ≤ 1000001; have := hG1 t1 (List.mem_of_getElem? h1) a1 (List.mem_of_getElem? h2); omega), (fun t' ht' a ha => by rcases List.mem_or_eq_of_mem_set ht' with hh | rfl; (have := hG1 t' hh a ha; omega); rcases List.mem_or_eq_of_mem_set ha with hh | rfl; (have := hG1 t1 (List.mem_of_getElem? h1) a hh; omega); show a1.g + 1 ≤ _; have := hG1 t1 (List.mem_of_getElem? h1) a1 (List.mem_of_getElem? h2); omega), rfl, H.pop (by assumption)⟩
    · refine W_exit ?_
      refine (if_pos rfl).mpr ?_
      refine W_seq ?_
      ((obtain rfl : x = O.length := (by omega); rw [List.take_length] at hD; obtain ⟨e, t1, i1, a1, h1, h2, h3, hre⟩ := hD.keeps hsf hself; obtain ⟨hr1, hr2⟩ := Prod.mk.inj hre; obtain rfl : j = e := (by omega); have hm1 := tbB_mem hq h1; replace H : Hp w0 (spB s bs cap sp PB ts1 ++ B) _ := Hp.dropN (M := M) H hO.keys; replace H : Hp w0 ((s, blk [sl bs 0 PB.length cap] 90) :: (bs, blk (ptrs PB ++ sp) 91) :: (tbB PB ts1 ++ B)) _ := H; subst hr2)) <;> refine W_region_l ?_
      refine WL_stepM rfl (R_mv) ?_
      refine WL_step rfl (R_nilCheck rfl) ?_
      refine WL_step rfl (R_fieldAddr (off' := 0) Try.underlying90 rfl Try.sizeOf88 (by decide) rfl rfl) ?_
      refine WL_step rfl (R_load (v := sl bs 0 PB.length cap) Try.isAgg88 rfl (H.get .here) rfl) ?_
      refine WL_stepM rfl (R_mv) ?_
      refine WL_step rfl (R_indexAddr (off' := j) Try.underlying88 Try.sizeOf91 rfl rfl (by omega) (by omega) (by omega)) ?_
      refine WL_step rfl (R_load (v := ptr q.1 0) Try.isAgg91 rfl (H.get (.there .here)) (ptrs_get hq)) ?_
      refine WL_stepM rfl (R_mv) ?_
      (refine WL_call rfl (R_call rfl Try.call47 rfl) (TabC.drop_yes (i := i1) (H.held _ (.tail _ (.tail _ (List.mem_append_left _ hm1.1)))) (H.held _ (.tail _ (.tail _ (List.mem_append_left _ hm1.2)))) (hI1.sz t1 (List.mem_of_getElem? h1)) (by decide) h2 (hI1.gn t1 (List.mem_of_getElem? h1) _ (List.mem_of_getElem? h2)) h3) ?_; rintro _ w83 ⟨rfl, H1⟩; replace H := seqSp (A := []) H hq h1 H1; clear H1)
      refine WL_nil ?_
      refine W_seq ?_
      refine W_region_l ?_
      refine WL_stepM rfl (R_mv) ?_
      refine WL_step rfl (R_len_slice Try.underlying51 rfl) ?_
      refine WL_step rfl (R_add (r := ((O.length + 1 : Nat) : Int)) rfl rfl (by rw [w_i64 (by omega)]; omega)) ?_
      refine WL_stepM rfl (R_as) ?_
      refine WL_stepM rfl (R_as) ?_
      refine WL_nil ?_
      refine W_ret ?_
      exact ⟨_, rfl, rfl, _, .snoc hD h1 h2 h3, hI1.set (by rw [List.length_set]; exact hI1.sz t1 (List.mem_of_getElem? h1)) (fun a ha => by rcases List.mem_or_eq_of_mem_set ha with hh | rfl; exact hI1.gn t1 (List.mem_of_getElem? h1) a hh; show a1.g + 1 ≤ 1000001; have := hG1 t1 (List.mem_of_getElem? h1) a1 (List.mem_of_getElem? h2); omega), H⟩
end Go.Proofs.Ythonajikgljgmaa.Caps

/-
  What is under a cap, where none was granted of another.
-/
import Derived.Test.YthonajikgljgmaaSortB
import Derived.Test.YthonajikgljgmaaUnderA
namespace Go.Proofs.Ythonajikgljgmaa.Caps
open Go Go.Proofs Go.Proofs.Ythonajikgljgmaa.Fx Go.Proofs.Ythonajikgljgmaa.TabC
set_option maxRecDepth 100000
set_option linter.unusedVariables false
set_option linter.unusedSimpArgs false
set_option maxHeartbeats 8000000

theorem namesFrom_get : ∀ (l : List Pl) (k x : Nat) (m : Int), (namesFrom k l)[x]? = some m → ∃ (i : Nat) (a : Pl), l[i]? = some a ∧ a.u = true ∧ m = ((k + i + 256 * a.g : Nat) : Int)
  | [], _, _, _, h => by simp [namesFrom] at h
  | a :: l, k, x, m, h => by
    unfold namesFrom at h
    by_cases hu : a.u = true
    · rw [if_pos hu] at h
      cases x with
      | zero => exact ⟨0, a, rfl, hu, by simpa using h.symm⟩
      | succ x =>
        obtain ⟨i, b, h1, h2, h3⟩ := namesFrom_get l (k + 1) x m (by simpa using h)
        exact ⟨i + 1, b, by simpa using h1, h2, by rw [h3]; congr 1; omega⟩
    · rw [if_neg hu] at h
      obtain ⟨i, b, h1, h2, h3⟩ := namesFrom_get l (k + 1) x m h
      exact ⟨i + 1, b, by simpa using h1, h2, by rw [h3]; congr 1; omega⟩

section
variable {w : World} {s : Nat} {PB : List (Nat × Nat)} {ts : List (List Pl)} {j i : Nat} {q : Nat × Nat} {t : List Pl} {a : Pl}
theorem under_no {nm : Int} (hS : Sp w s PB ts) (hq : PB[j]? = some q) (ht : ts[j]? = some t) (hno : ∀ (i : Nat) (a : Pl), t[i]? = some a → a.u = true → nm ≠ ((i + 256 * a.g : Nat) : Int)) :
    Ret Try.prog 27 #[ptr s 0, I j, I nm] w fun v w' => v = .tuple #[nilS, I 2] ∧ Hp w [] w' := by
  refine Ret_of_W (args := [_, _, _]) Try.func27 rfl Try.ntmps27 Try.results27 (by simp) ?_
  have H := Hp.refl w
  refine W_seq ?_
  refine W_region_l ?_
  refine WL_stepM rfl (R_as) ?_
  refine WL_stepM rfl (R_as) ?_
  refine WL_nil ?_
  refine W_seq ?_
  refine W_seq ?_
  refine W_region_l ?_
  refine WL_stepM rfl (R_mv) ?_
  refine WL_stepM rfl (R_mv) ?_
  refine WL_stepM rfl (R_mv) ?_
  (refine WL_call rfl (R_call rfl Try.call26 rfl) (Caps.get_no hS hq ht _ hno) ?_; rintro _ w12 ⟨rfl, H1⟩; replace H := H.seq0 H1; clear H1)
  refine WL_stepM rfl (R_mv) ?_
  refine WL_step rfl (R_extract rfl rfl) ?_
  refine WL_step rfl (R_extract rfl rfl) ?_
  (refine WL_effn rfl (E_allocK H) ?_; clear H; intro c7 w16 hc7 H)
  (refine WL_effu rfl (E_storeK (q := zk) H rfl rfl .here) ?_; clear H; intro w17 H)
  refine WL_stepM rfl (R_as) ?_
  refine WL_nil ?_
  refine W_seq ?_
  refine W_region_l ?_
  refine WL_stepM rfl (R_mv) ?_
  refine WL_step rfl (R_ne_t rfl rfl (by omega)) ?_
  refine WL_nil ?_
  refine W_cond_t rfl ?_
  refine W_seq ?_
  refine W_region_l ?_
  refine WL_stepM rfl (R_mv) ?_
  refine WL_stepM rfl (R_as) ?_
  refine WL_stepM rfl (R_as) ?_
  refine WL_nil ?_
  refine W_ret ?_
  exact ⟨_, rfl, rfl, H.none (by repeat' first | exact kNil | apply kCons | apply kApp | assumption | exact OwnS.keys (by assumption))⟩

theorem under_none (hS : Sp w s PB ts) (hE : PB.length ≤ 40) (hq : PB[j]? = some q) (ht : ts[j]? = some t) (h : t[i]? = some a) (hu : a.u = true) (hg1 : 0 < a.g)
    (hz : ∀ t ∈ ts, ∀ x ∈ t, x.u = true → ∃ o r lo n, x.v = cp o r lo n 0 0) :
    Ret Try.prog 27 #[ptr s 0, I j, I (i + 256 * a.g : Nat)] w fun v w' => v = .tuple #[nilS, I 0] ∧ Hp w [] w' := by
  obtain ⟨bs, cap, sp, hs, hbs⟩ := hS.ex
  have hj := (List.getElem?_eq_some_iff.1 hq).1
  obtain ⟨NM, hNM, hNpos⟩ : ∃ NM : Int, ((i + 256 * a.g : Nat) : Int) = NM ∧ 0 < NM := ⟨_, rfl, by omega⟩
  refine Ret_of_W (args := [_, _, _]) Try.func27 rfl Try.ntmps27 Try.results27 (by simp) ?_
  have H := Hp.refl w
  rw [hNM]
  refine W_seq ?_
  refine W_region_l ?_
  refine WL_stepM rfl (R_as) ?_
  refine WL_stepM rfl (R_as) ?_
  refine WL_nil ?_
  refine W_seq ?_
  refine W_seq ?_
  refine W_region_l ?_
  refine WL_stepM rfl (R_mv) ?_
  refine WL_stepM rfl (R_mv) ?_
  refine WL_stepM rfl (R_mv) ?_
  (refine WL_call rfl (R_call rfl Try.call26 rfl) (show Ret Try.prog 26 #[ptr s 0, I j, I NM] _ _ from hNM ▸ Caps.get_yes hS hq ht h hu) ?_; rintro _ w12 ⟨rfl, H1⟩; replace H := H.seq0 H1; clear H1)
  refine WL_stepM rfl (R_mv) ?_
  refine WL_step rfl (R_extract rfl rfl) ?_
  refine WL_step rfl (R_extract rfl rfl) ?_
  (refine WL_effn rfl (E_allocK H) ?_; clear H; intro c7 w16 hc7 H)
  (refine WL_effu rfl (E_storeK (q := a.v) H rfl rfl .here) ?_; clear H; intro w17 H)
  refine WL_stepM rfl (R_as) ?_
  refine WL_nil ?_
  refine W_seq ?_
  refine W_region_l ?_
  refine WL_stepM rfl (R_mv) ?_
  refine WL_step rfl (R_ne_f rfl rfl (by omega)) ?_
  refine WL_nil ?_
  refine W_cond_f rfl ?_
  refine W_skip ?_
  refine W_seq ?_
  refine W_region_l ?_
  (replace H := H.pop (by assumption); refine WL_effn rfl (E_makeMap H) ?_; clear H; intro mp w29 hmp H)
  refine WL_stepM rfl (R_mv) ?_
  refine WL_stepM rfl (R_mv) ?_
  refine WL_step rfl (R_buildL (places := [(0, 1), (1, 1)]) (vs := [I j, I NM]) Try.underlying36 Try.typeInfo36 rfl rfl (by kernel_rfl) rfl rfl rfl) ?_
  (refine WL_effu rfl (E_insert (r := ((j : Int), NM)) H .here MapIs.nil rfl rfl rfl (by simp)) ?_; clear H; intro w33 H; obtain ⟨es, cl, hm, H⟩ : ∃ es cl, MapIs es [((j : Int), NM)] ∧ Hp w [(mp, .map es cl)] w33 := ⟨_, _, MapIs.nil.push _ _, H⟩)
  refine WL_stepM rfl (R_mv) ?_
  refine WL_stepM rfl (R_as) ?_
  refine WL_nil ?_
  refine W_seq ?_
  refine W_seq ?_
  refine W_region_l ?_
  refine WL_stepM rfl (R_as) ?_
  refine WL_nil ?_
  refine W_block ?_
  refine W_rounds 1 ?_
  refine W_seq ?_
  refine W_seq ?_
  refine W_region_l ?_
  refine WL_stepM rfl (R_mv) ?_
  refine WL_nil ?_
  refine W_cond_t rfl ?_
  refine W_skip ?_
  refine W_block ?_
  refine W_seq ?_
  refine W_region_l ?_
  refine WL_stepM rfl (R_as) ?_
  refine WL_nil ?_
  refine W_seq ?_
  refine W_region_l ?_
  refine WL_stepM rfl (R_mv) ?_
  refine WL_step rfl (R_nilCheck rfl) ?_
  refine WL_step rfl (R_fieldAddr (off' := 0) Try.underlying90 rfl Try.sizeOf88 (by decide) rfl rfl) ?_
  refine WL_step rfl (R_load (v := sl bs 0 PB.length cap) Try.isAgg88 rfl (H.blockN hs (by repeat' first | exact kNil | apply kCons | apply kApp | assumption | exact OwnS.keys (by assumption))) rfl) ?_
  refine WL_step rfl (R_len_slice Try.underlying88 rfl) ?_
  refine WL_stepM rfl (R_mv) ?_
  refine WL_nil ?_
  refine W_block ?_
  refine W_loopS [(11, 13), (15, 18), (46, 81)] (fun (e : Nat) E w' => e ≤ PB.length ∧ E 46 = I e ∧ E 11 = .bool false ∧ Hp w [(mp, .map es cl)] w') (fun e => PB.length - e) 0 ?e2 ?r2
  · exact ⟨by omega, rfl, rfl, H⟩
  · (clear H; rintro e E w1 ⟨he, h46, h11, H⟩; refine W_kn2 h46 h11 ?_)
    refine W_seq ?_
    refine W_region_l ?_
    refine WL_step rfl (R_lt rfl rfl) ?_
    refine WL_nil ?_
    refine W_seq ?_
    refine W_if rfl (fun h72 => ?_) (fun h72 => ?_)
    · refine W_skip ?_
      refine W_seq ?_
      refine W_block ?_
      refine W_seq ?_
      ((obtain ⟨q1, hq1⟩ : ∃ q1, PB[e]? = some q1 := ⟨_, List.getElem?_eq_getElem (by omega)⟩; obtain ⟨t1, ht1⟩ : ∃ t1, ts[e]? = some t1 := ⟨_, List.getElem?_eq_getElem (by have := hS.inv.len; omega)⟩; have htp := hS.tp e q1 hq1; have htb := hS.tb e q1 t1 hq1 ht1; have hsz := hS.inv.sz t1 (List.mem_of_getElem? ht1); have hgn := hS.inv.gn t1 (List.mem_of_getElem? ht1))) <;> refine W_region_l ?_
      refine WL_stepM rfl (R_mv) ?_
      refine WL_step rfl (R_indexAddr (off' := e) Try.underlying88 Try.sizeOf91 rfl rfl (by omega) (by omega) (by omega)) ?_
      refine WL_step rfl (R_load (v := ptr q1.1 0) Try.isAgg91 rfl (H.blockN hbs (by repeat' first | exact kNil | apply kCons | apply kApp | assumption | exact OwnS.keys (by assumption))) (ptrs_get hq1)) ?_
      refine WL_stepM rfl (R_as) ?_
      refine WL_stepM rfl (R_as) ?_
      refine WL_nil ?_
      refine W_seq ?_
      refine W_region_l ?_
      refine WL_stepM rfl (R_mv) ?_
      (refine WL_call rfl (R_call rfl Try.call49 rfl) (TabC.names_ret (H.blockN htp (by repeat' first | exact kNil | apply kCons | apply kApp | assumption | exact OwnS.keys (by assumption))) (H.blockN htb (by repeat' first | exact kNil | apply kCons | apply kApp | assumption | exact OwnS.keys (by assumption))) hsz (by decide) hgn) ?_; rintro _ w87 ⟨M1, hO1, H1⟩; have h87 := H.seqO hO1 H1; clear H H1 hO1; obtain ⟨hO1, H⟩ := h87; obtain ⟨na, nc, rfl⟩ := hO1.form; have hnl := namesFrom_le t1 0; rw [hsz] at hnl)
      refine WL_step rfl (R_len_slice Try.underlying59 rfl) ?_
      refine WL_stepM rfl (R_mv) ?_
      refine WL_nil ?_
      refine W_block ?_
      refine W_loopS [(11, 11), (15, 18), (54, 80)] (fun (x : Nat) E w' => x ≤ (namesFrom 0 t1).length ∧ E 54 = I x ∧ E 11 = .bool false ∧ Hp w (M1 ++ [(mp, .map es cl)]) w') (fun x => (namesFrom 0 t1).length - x) 0 ?e4 ?r4
      · exact ⟨by omega, rfl, rfl, H⟩
      · (clear H; rintro x E w1 ⟨hx, h54, h11, H⟩; refine W_kn2 h54 h11 ?_)
        refine W_seq ?_
        refine W_region_l ?_
        refine WL_step rfl (R_lt rfl rfl) ?_
        refine WL_nil ?_
        refine W_seq ?_
        refine W_if rfl (fun h99 => ?_) (fun h99 => ?_)
        · refine W_skip ?_
          refine W_seq ?_
          refine W_block ?_
          refine W_seq ?_
          ((obtain ⟨m, hm1⟩ : ∃ m, (namesFrom 0 t1)[x]? = some m := ⟨_, List.getElem?_eq_getElem (by omega)⟩; obtain ⟨i2, a2, ha2, hu2, hm2⟩ := namesFrom_get t1 0 x m hm1; rw [Nat.zero_add] at hm2; obtain ⟨o2, r2, l2, n2, hv2⟩ := hz t1 (List.mem_of_getElem? ht1) a2 (List.mem_of_getElem? ha2) hu2; obtain ⟨b1, o1, rfl, hc1⟩ := (RdS.own hO1 (fun q hq => H.held q (by simp [hq]))).cell (i := x) (u := I m) (by rw [List.getElem?_map, hm1]; rfl); by_cases hr : ((e : Int), m) = ((j : Int), NM))) <;> refine W_region_l ?_
          · refine WL_step rfl (R_indexAddr Try.underlying59 Try.sizeOf3 rfl rfl (by omega) (by omega) idx_cast1) ?_
            refine WL_step rfl (R_load_cell Try.isAgg3 rfl hc1) ?_
            refine WL_stepM rfl (R_as) ?_
            refine WL_nil ?_
            refine W_seq ?_
            refine W_region_l ?_
            refine WL_stepM rfl (R_mv) ?_
            refine WL_stepM rfl (R_mv) ?_
            (refine WL_call rfl (R_call rfl Try.call48 rfl) (show Ret Try.prog 48 #[ptr q1.1 0, I m] _ (fun v w' => v = .tuple #[vk (cp o2 r2 l2 n2 0 0), .bool true] ∧ Hp _ [] w') from by rw [hm2, ← hv2]; exact TabC.get_yes (H.blockN htp (by repeat' first | exact kNil | apply kCons | apply kApp | assumption | exact OwnS.keys (by assumption))) (H.blockN htb (by repeat' first | exact kNil | apply kCons | apply kApp | assumption | exact OwnS.keys (by assumption))) hsz (by decide) ha2 (hgn _ (List.mem_of_getElem? ha2)) hu2) ?_; rintro _ w113 ⟨rfl, H1⟩; replace H := H.seq0 H1; clear H1)
            refine WL_stepM rfl (R_mv) ?_
            refine WL_step rfl (R_extract rfl rfl) ?_
            refine WL_step rfl (R_extract rfl rfl) ?_
            (refine WL_effn rfl (E_allocK H) ?_; clear H; intro c16 w117 hc16 H)
            (refine WL_effu rfl (E_storeK (q := cp o2 r2 l2 n2 0 0) H rfl rfl .here) ?_; clear H; intro w118 H)
            refine WL_stepM rfl (R_as) ?_
            refine WL_nil ?_
            refine W_seq ?_
            refine W_region_l ?_
            refine WL_stepM rfl (R_mv) ?_
            refine WL_stepM rfl (R_mv) ?_
            refine WL_step rfl (R_buildL (places := [(0, 1), (1, 1)]) (vs := [I e, I m]) Try.underlying36 Try.typeInfo36 rfl rfl (by kernel_rfl) rfl rfl rfl) ?_
            (refine WL_effn rfl (E_alloc (vs := [I 0, I 0]) H Try.zeroValue36 rfl) ?_; clear H; intro c18 w126 hc18 H)
            (refine WL_effu rfl (E_storeA (vs := [I e, I m]) H Try.sizeOf36 rfl rfl (by simp [Value.oneCell']) .here (by simp)) ?_; clear H; intro w127 H)
            refine WL_nil ?_
            refine W_seq ?_
            refine W_region_l ?_
            refine WL_stepM rfl (R_mv) ?_
            refine WL_step rfl (R_loadA (vs := [I e, I m]) Try.isAgg36 Try.sizeOf36 rfl (H.get .here) rfl (by simp)) ?_
            refine WL_step rfl (R_lookup_yes (r := ((e : Int), m)) (H.held (mp, .map es cl) (by simp)) hm rfl rfl (List.mem_singleton.2 hr)) ?_
            refine WL_step rfl (R_eq_f rfl rfl (by omega)) ?_
            refine WL_stepM rfl (R_mv) ?_
            refine WL_guard_f rfl rfl (by decide) ?_
            refine WL_guard_f rfl rfl (by decide) ?_
            refine WL_guard_f rfl rfl (by decide) ?_
            refine WL_guard_f rfl rfl (by decide) ?_
            refine WL_guard_f rfl rfl (by decide) ?_
            refine WL_stepM rfl (R_pk_f rfl) ?_
            refine WL_nil ?_
            refine W_cond_f rfl ?_
            refine W_skip ?_
            refine W_region_l ?_
            refine WL_step rfl (R_add rfl rfl (w_i64 (by omega))) ?_
            refine WL_stepM rfl (R_mv) ?_
            refine WL_nil ?_
            exact ⟨(same_mov rfl (same_updo rfl (same_mov rfl (same_updo rfl (same_updo rfl (same_updo rfl (same_updo rfl (same_updo rfl (same_mov rfl (same_updo rfl (same_updo rfl (same_updo rfl (same_mov rfl (same_updn (same_updo rfl (same_updo rfl (same_mov rfl (same_mov rfl (same_mov rfl (same_updn (same_updo rfl (same_updo rfl (same_updo rfl (same_mov rfl (same_updo rfl (same_mov rfl (same_mov rfl (same_mov rfl (same_updo rfl (same_updo rfl (same_know rfl (same_updo rfl same_ovr)))))))))))))))))))))))))))))))), x + 1, by omega, by omega, rfl, rfl, (H.pop (by assumption)).pop (by assumption)⟩
          · refine WL_step rfl (R_indexAddr Try.underlying59 Try.sizeOf3 rfl rfl (by omega) (by omega) idx_cast1) ?_
            refine WL_step rfl (R_load_cell Try.isAgg3 rfl hc1) ?_
            refine WL_stepM rfl (R_as) ?_
            refine WL_nil ?_
            refine W_seq ?_
            refine W_region_l ?_
            refine WL_stepM rfl (R_mv) ?_
            refine WL_stepM rfl (R_mv) ?_
            (refine WL_call rfl (R_call rfl Try.call48 rfl) (show Ret Try.prog 48 #[ptr q1.1 0, I m] _ (fun v w' => v = .tuple #[vk (cp o2 r2 l2 n2 0 0), .bool true] ∧ Hp _ [] w') from by rw [hm2, ← hv2]; exact TabC.get_yes (H.blockN htp (by repeat' first | exact kNil | apply kCons | apply kApp | assumption | exact OwnS.keys (by assumption))) (H.blockN htb (by repeat' first | exact kNil | apply kCons | apply kApp | assumption | exact OwnS.keys (by assumption))) hsz (by decide) ha2 (hgn _ (List.mem_of_getElem? ha2)) hu2) ?_; rintro _ w158 ⟨rfl, H1⟩; replace H := H.seq0 H1; clear H1)
            refine WL_stepM rfl (R_mv) ?_
            refine WL_step rfl (R_extract rfl rfl) ?_
            refine WL_step rfl (R_extract rfl rfl) ?_
            (refine WL_effn rfl (E_allocK H) ?_; clear H; intro c16 w162 hc16 H)
            (refine WL_effu rfl (E_storeK (q := cp o2 r2 l2 n2 0 0) H rfl rfl .here) ?_; clear H; intro w163 H)
            refine WL_stepM rfl (R_as) ?_
            refine WL_nil ?_
            refine W_seq ?_
            refine W_region_l ?_
            refine WL_stepM rfl (R_mv) ?_
            refine WL_stepM rfl (R_mv) ?_
            refine WL_step rfl (R_buildL (places := [(0, 1), (1, 1)]) (vs := [I e, I m]) Try.underlying36 Try.typeInfo36 rfl rfl (by kernel_rfl) rfl rfl rfl) ?_
            (refine WL_effn rfl (E_alloc (vs := [I 0, I 0]) H Try.zeroValue36 rfl) ?_; clear H; intro c18 w171 hc18 H)
            (refine WL_effu rfl (E_storeA (vs := [I e, I m]) H Try.sizeOf36 rfl rfl (by simp [Value.oneCell']) .here (by simp)) ?_; clear H; intro w172 H)
            refine WL_nil ?_
            refine W_seq ?_
            refine W_region_l ?_
            refine WL_stepM rfl (R_mv) ?_
            refine WL_step rfl (R_loadA (vs := [I e, I m]) Try.isAgg36 Try.sizeOf36 rfl (H.get .here) rfl (by simp)) ?_
            refine WL_step rfl (R_lookup_no (r := ((e : Int), m)) (H.held (mp, .map es cl) (by simp)) hm rfl rfl (fun hh => hr (List.mem_singleton.1 hh))) ?_
            refine WL_step rfl (R_eq_t rfl rfl (by omega)) ?_
            refine WL_stepM rfl (R_mv) ?_
            refine WL_guard_t rfl rfl ?_
            refine WL_stepM rfl (R_mv) ?_
            refine WL_guard_t rfl rfl ?_
            refine WL_step rfl (R_fieldAddr (off' := 4) Try.underlying38 rfl Try.sizeOf36 (by decide) rfl rfl) ?_
            refine WL_guard_t rfl rfl ?_
            refine WL_step rfl (R_loadA (vs := [I 0, I 0]) Try.isAgg36 Try.sizeOf36 rfl (H.get (.there .here)) rfl (by simp [cp])) ?_
            refine WL_guard_t rfl rfl ?_
            refine WL_step rfl (R_lookup_no (r := (0, 0)) (H.held (mp, .map es cl) (by simp)) hm rfl rfl (fun hh => by have := (Prod.mk.inj (List.mem_singleton.1 hh)).2; omega)) ?_
            refine WL_guard_t rfl rfl ?_
            refine WL_step rfl (R_gt_f rfl rfl (by omega)) ?_
            refine WL_stepM rfl (R_pk_t rfl) ?_
            refine WL_nil ?_
            refine W_cond_f rfl ?_
            refine W_skip ?_
            refine W_region_l ?_
            refine WL_step rfl (R_add rfl rfl (w_i64 (by omega))) ?_
            refine WL_stepM rfl (R_mv) ?_
            refine WL_nil ?_
            exact ⟨(same_mov rfl (same_updo rfl (same_mov rfl (same_updo rfl (same_updo rfl (same_updo rfl (same_updo rfl (same_mov rfl (same_mov rfl (same_updo rfl (same_updo rfl (same_updo rfl (same_mov rfl (same_updn (same_updo rfl (same_updo rfl (same_mov rfl (same_mov rfl (same_mov rfl (same_updn (same_updo rfl (same_updo rfl (same_updo rfl (same_mov rfl (same_updo rfl (same_mov rfl (same_mov rfl (same_mov rfl (same_updo rfl (same_updo rfl (same_know rfl (same_updo rfl same_ovr)))))))))))))))))))))))))))))))), x + 1, by omega, by omega, rfl, rfl, (H.pop (by assumption)).pop (by assumption)⟩
        · refine W_exit ?_
          refine (if_pos rfl).mpr ?_
          refine W_region_l ?_
          refine WL_step rfl (R_add rfl rfl (w_i64 (by omega))) ?_
          refine WL_stepM rfl (R_mv) ?_
          refine WL_nil ?_
          exact ⟨(same_mov rfl (same_updo rfl (same_know rfl (same_updo rfl (same_in rfl (same_mov rfl (same_updo rfl (same_updo rfl (same_mov rfl (same_mov rfl (same_mov rfl (same_updo rfl (same_updo rfl (same_mov rfl (same_know rfl (same_updo rfl same_ovr)))))))))))))))), e + 1, by omega, by omega, rfl, rfl, Hp.dropN (M := M1) H hO1.keys⟩
    · refine W_exit ?_
      refine (if_pos rfl).mpr ?_
      refine Rn_succ ?_
      refine W_seq ?_
      refine W_seq ?_
      refine W_region_l ?_
      refine WL_stepM rfl (R_mv) ?_
      refine WL_nil ?_
      refine W_cond_f rfl ?_
      refine W_exit ?_
      refine (if_pos rfl).mpr ?_
      refine W_seq ?_
      refine W_region_l ?_
      refine WL_stepM rfl (R_as) ?_
      refine WL_nil ?_
      refine W_seq ?_
      refine W_seq ?_
      refine W_region_l ?_
      refine WL_stepM rfl (R_mv) ?_
      refine WL_step rfl (R_nilCheck rfl) ?_
      refine WL_step rfl (R_fieldAddr (off' := 0) Try.underlying90 rfl Try.sizeOf88 (by decide) rfl rfl) ?_
      refine WL_step rfl (R_load (v := sl bs 0 PB.length cap) Try.isAgg88 rfl (H.blockN hs (by repeat' first | exact kNil | apply kCons | apply kApp | assumption | exact OwnS.keys (by assumption))) rfl) ?_
      refine WL_step rfl (R_len_slice Try.underlying88 rfl) ?_
      refine WL_stepM rfl (R_mv) ?_
      refine WL_nil ?_
      refine W_block ?_
      refine W_loopS [(19, 21), (23, 24), (87, 121)] (fun (e : Nat) E w' => e ≤ PB.length ∧ E 87 = I e ∧ E 19 = nilS ∧ Hp w [(mp, .map es cl)] w') (fun e => PB.length - e) 0 ?e6 ?r6
      · exact ⟨by omega, rfl, rfl, H⟩
      · (clear H; rintro e E w1 ⟨he, h46, h11, H⟩; refine W_kn2 h46 h11 ?_)
        refine W_seq ?_
        refine W_region_l ?_
        refine WL_step rfl (R_lt rfl rfl) ?_
        refine WL_nil ?_
        refine W_seq ?_
        refine W_if rfl (fun h240 => ?_) (fun h240 => ?_)
        · refine W_skip ?_
          refine W_seq ?_
          refine W_block ?_
          refine W_seq ?_
          ((obtain ⟨q1, hq1⟩ : ∃ q1, PB[e]? = some q1 := ⟨_, List.getElem?_eq_getElem (by omega)⟩; obtain ⟨t1, ht1⟩ : ∃ t1, ts[e]? = some t1 := ⟨_, List.getElem?_eq_getElem (by have := hS.inv.len; omega)⟩; have htp := hS.tp e q1 hq1; have htb := hS.tb e q1 t1 hq1 ht1; have hsz := hS.inv.sz t1 (List.mem_of_getElem? ht1); have hgn := hS.inv.gn t1 (List.mem_of_getElem? ht1))) <;> refine W_region_l ?_
          refine WL_stepM rfl (R_mv) ?_
          refine WL_step rfl (R_indexAddr (off' := e) Try.underlying88 Try.sizeOf91 rfl rfl (by omega) (by omega) (by omega)) ?_
          refine WL_step rfl (R_load (v := ptr q1.1 0) Try.isAgg91 rfl (H.blockN hbs (by repeat' first | exact kNil | apply kCons | apply kApp | assumption | exact OwnS.keys (by assumption))) (ptrs_get hq1)) ?_
          refine WL_stepM rfl (R_as) ?_
          refine WL_stepM rfl (R_as) ?_
          refine WL_nil ?_
          refine W_seq ?_
          refine W_region_l ?_
          refine WL_stepM rfl (R_mv) ?_
          (refine WL_call rfl (R_call rfl Try.call49 rfl) (TabC.names_ret (H.blockN htp (by repeat' first | exact kNil | apply kCons | apply kApp | assumption | exact OwnS.keys (by assumption))) (H.blockN htb (by repeat' first | exact kNil | apply kCons | apply kApp | assumption | exact OwnS.keys (by assumption))) hsz (by decide) hgn) ?_; rintro _ w255 ⟨M1, hO1, H1⟩; have h255 := H.seqO hO1 H1; clear H H1 hO1; obtain ⟨hO1, H⟩ := h255; obtain ⟨na, nc, rfl⟩ := hO1.form; have hnl := namesFrom_le t1 0; rw [hsz] at hnl)
          refine WL_step rfl (R_len_slice Try.underlying59 rfl) ?_
          refine WL_stepM rfl (R_mv) ?_
          refine WL_nil ?_
          refine W_block ?_
          refine W_loopS [(19, 19), (23, 24), (95, 120)] (fun (x : Nat) E w' => x ≤ (namesFrom 0 t1).length ∧ E 95 = I x ∧ E 19 = nilS ∧ Hp w (M1 ++ [(mp, .map es cl)]) w') (fun x => (namesFrom 0 t1).length - x) 0 ?e8 ?r8
          · exact ⟨by omega, rfl, rfl, H⟩
          · (clear H; rintro x E w1 ⟨hx, h54, h11, H⟩; refine W_kn2 h54 h11 ?_)
            refine W_seq ?_
            refine W_region_l ?_
            refine WL_step rfl (R_lt rfl rfl) ?_
            refine WL_nil ?_
            refine W_seq ?_
            refine W_if rfl (fun h267 => ?_) (fun h267 => ?_)
            · refine W_skip ?_
              refine W_seq ?_
              refine W_block ?_
              refine W_seq ?_
              ((obtain ⟨m, hm1⟩ : ∃ m, (namesFrom 0 t1)[x]? = some m := ⟨_, List.getElem?_eq_getElem (by omega)⟩; obtain ⟨b1, o1, rfl, hc1⟩ := (RdS.own hO1 (fun q hq => H.held q (by simp [hq]))).cell (i := x) (u := I m) (by rw [List.getElem?_map, hm1]; rfl); by_cases hr : ((e : Int), m) = ((j : Int), NM))) <;> refine W_region_l ?_
              · refine WL_step rfl (R_indexAddr Try.underlying59 Try.sizeOf3 rfl rfl (by omega) (by omega) idx_cast1) ?_
                refine WL_step rfl (R_load_cell Try.isAgg3 rfl hc1) ?_
                refine WL_stepM rfl (R_as) ?_
                refine WL_nil ?_
                refine W_seq ?_
                refine W_region_l ?_
                refine WL_stepM rfl (R_mv) ?_
                refine WL_stepM rfl (R_mv) ?_
                refine WL_step rfl (R_buildL (places := [(0, 1), (1, 1)]) (vs := [I e, I m]) Try.underlying36 Try.typeInfo36 rfl rfl (by kernel_rfl) rfl rfl rfl) ?_
                (refine WL_effn rfl (E_alloc (vs := [I 0, I 0]) H Try.zeroValue36 rfl) ?_; clear H; intro c24 w282 hc24 H)
                (refine WL_effu rfl (E_storeA (vs := [I e, I m]) H Try.sizeOf36 rfl rfl (by simp [Value.oneCell']) .here (by simp)) ?_; clear H; intro w283 H)
                refine WL_nil ?_
                refine W_seq ?_
                refine W_region_l ?_
                refine WL_stepM rfl (R_mv) ?_
                refine WL_step rfl (R_loadA (vs := [I e, I m]) Try.isAgg36 Try.sizeOf36 rfl (H.get .here) rfl (by simp)) ?_
                (obtain ⟨hr1, hr2⟩ := Prod.mk.inj hr; refine WL_step rfl (R_lookup_yes (r := ((e : Int), m)) (H.held (mp, .map es cl) (by simp)) hm rfl rfl (List.mem_singleton.2 hr)) ?_)
                refine WL_step rfl (R_gt_t rfl rfl (by omega)) ?_
                refine WL_stepM rfl (R_mv) ?_
                refine WL_guard_t rfl rfl ?_
                refine WL_stepM rfl (R_mv) ?_
                refine WL_guard_t rfl rfl ?_
                refine WL_stepM rfl (R_mv) ?_
                refine WL_guard_t rfl rfl ?_
                refine WL_step rfl (R_ne_f rfl rfl (by omega)) ?_
                refine WL_guard_t rfl rfl ?_
                refine WL_stepM rfl (R_mv) ?_
                refine WL_guard_t rfl rfl ?_
                refine WL_stepM rfl (R_mv) ?_
                refine WL_guard_t rfl rfl ?_
                refine WL_stepM rfl (R_mv) ?_
                refine WL_guard_t rfl rfl ?_
                refine WL_step rfl (R_ne_f rfl rfl (by omega)) ?_
                refine WL_guard_t rfl rfl ?_
                refine WL_stepM rfl (R_pk_f rfl) ?_
                refine WL_stepM rfl (R_pk_t rfl) ?_
                refine WL_nil ?_
                refine W_cond_f rfl ?_
                refine W_skip ?_
                refine W_region_l ?_
                refine WL_step rfl (R_add rfl rfl (w_i64 (by omega))) ?_
                refine WL_stepM rfl (R_mv) ?_
                refine WL_nil ?_
                exact ⟨(same_mov rfl (same_updo rfl (same_mov rfl (same_mov rfl (same_updo rfl (same_mov rfl (same_mov rfl (same_mov rfl (same_updo rfl (same_mov rfl (same_mov rfl (same_mov rfl (same_updo rfl (same_updo rfl (same_updo rfl (same_mov rfl (same_updn (same_updo rfl (same_updo rfl (same_mov rfl (same_mov rfl (same_mov rfl (same_updo rfl (same_updo rfl (same_know rfl (same_updo rfl same_ovr)))))))))))))))))))))))))), x + 1, by omega, by omega, rfl, rfl, H.pop (by assumption)⟩
              · refine WL_step rfl (R_indexAddr Try.underlying59 Try.sizeOf3 rfl rfl (by omega) (by omega) idx_cast1) ?_
                refine WL_step rfl (R_load_cell Try.isAgg3 rfl hc1) ?_
                refine WL_stepM rfl (R_as) ?_
                refine WL_nil ?_
                refine W_seq ?_
                refine W_region_l ?_
                refine WL_stepM rfl (R_mv) ?_
                refine WL_stepM rfl (R_mv) ?_
                refine WL_step rfl (R_buildL (places := [(0, 1), (1, 1)]) (vs := [I e, I m]) Try.underlying36 Try.typeInfo36 rfl rfl (by kernel_rfl) rfl rfl rfl) ?_
                (refine WL_effn rfl (E_alloc (vs := [I 0, I 0]) H Try.zeroValue36 rfl) ?_; clear H; intro c24 w326 hc24 H)
                (refine WL_effu rfl (E_storeA (vs := [I e, I m]) H Try.sizeOf36 rfl rfl (by simp [Value.oneCell']) .here (by simp)) ?_; clear H; intro w327 H)
                refine WL_nil ?_
                refine W_seq ?_
                refine W_region_l ?_
                refine WL_stepM rfl (R_mv) ?_
                refine WL_step rfl (R_loadA (vs := [I e, I m]) Try.isAgg36 Try.sizeOf36 rfl (H.get .here) rfl (by simp)) ?_
                refine WL_step rfl (R_lookup_no (r := ((e : Int), m)) (H.held (mp, .map es cl) (by simp)) hm rfl rfl (fun hh => hr (List.mem_singleton.1 hh))) ?_
                refine WL_step rfl (R_gt_f rfl rfl (by omega)) ?_
                refine WL_stepM rfl (R_mv) ?_
                refine WL_guard_f rfl rfl (by decide) ?_
                refine WL_guard_f rfl rfl (by decide) ?_
                refine WL_guard_f rfl rfl (by decide) ?_
                refine WL_guard_f rfl rfl (by decide) ?_
                refine WL_guard_n rfl rfl ?_
                refine WL_guard_n rfl rfl ?_
                refine WL_guard_n rfl rfl ?_
                refine WL_guard_f rfl rfl (by decide) ?_
                refine WL_stepM rfl (R_pk_f rfl) ?_
                refine WL_nil ?_
                refine W_cond_f rfl ?_
                refine W_skip ?_
                refine W_region_l ?_
                refine WL_step rfl (R_add rfl rfl (w_i64 (by omega))) ?_
                refine WL_stepM rfl (R_mv) ?_
                refine WL_nil ?_
                exact ⟨(same_mov rfl (same_updo rfl (same_mov rfl (same_updo rfl (same_updo rfl (same_updo rfl (same_updo rfl (same_updo rfl (same_updo rfl (same_updo rfl (same_updo rfl (same_mov rfl (same_updo rfl (same_updo rfl (same_updo rfl (same_mov rfl (same_updn (same_updo rfl (same_updo rfl (same_mov rfl (same_mov rfl (same_mov rfl (same_updo rfl (same_updo rfl (same_know rfl (same_updo rfl same_ovr)))))))))))))))))))))))))), x + 1, by omega, by omega, rfl, rfl, H.pop (by assumption)⟩
            · refine W_exit ?_
              refine (if_pos rfl).mpr ?_
              refine W_region_l ?_
              refine WL_step rfl (R_add rfl rfl (w_i64 (by omega))) ?_
              refine WL_stepM rfl (R_mv) ?_
              refine WL_nil ?_
              exact ⟨(same_mov rfl (same_updo rfl (same_know rfl (same_updo rfl (same_in rfl (same_mov rfl (same_updo rfl (same_updo rfl (same_mov rfl (same_mov rfl (same_mov rfl (same_updo rfl (same_updo rfl (same_mov rfl (same_know rfl (same_updo rfl same_ovr)))))))))))))))), e + 1, by omega, by omega, rfl, rfl, Hp.dropN (M := M1) H hO1.keys⟩
        · refine W_exit ?_
          refine (if_pos rfl).mpr ?_
          refine W_seq ?_
          refine W_region_l ?_
          refine WL_stepM rfl (R_mv) ?_
          (refine WL_call rfl (R_call rfl Try.call50 rfl) (sort_0 _ _ _) ?_; rintro _ w365 H1; replace H := H.seq0 H1; clear H1)
          refine WL_nil ?_
          refine W_seq ?_
          refine W_region_l ?_
          refine WL_stepM rfl (R_mv) ?_
          refine WL_stepM rfl (R_as) ?_
          refine WL_stepM rfl (R_as) ?_
          refine WL_nil ?_
          refine W_ret ?_
          exact ⟨_, rfl, rfl, H.none (by repeat' first | exact kNil | apply kCons | apply kApp | assumption | exact OwnS.keys (by assumption))⟩
end
end Go.Proofs.Ythonajikgljgmaa.Caps

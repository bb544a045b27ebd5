/-
  The law TableLeast: the walk.
-/
import Derived.Test.YtjkkfahjgaidbaaTableH
namespace Go.Proofs.Ytjkkfahjgaidbaa.Tab
open Go Go.Proofs Go.Proofs.Ytjkkfahjgaidbaa.Fx
set_option maxRecDepth 100000
set_option linter.unusedVariables false
set_option linter.unusedSimpArgs false
set_option maxHeartbeats 2000000

theorem tab_succ {α : Type} (n : Nat) (f : Nat → α) : tab (n + 1) f = tab n f ++ [f n] := by
  unfold tab; rw [List.range_succ, List.map_append]; rfl

def f1 (i j : Nat) : Pl := if j < i then ⟨I j, 1, true⟩ else newPl
def f2 (fs : Nat → Bool) (j : Nat) : Pl := if fs j = true then ⟨I 0, 2, false⟩ else ⟨I j, 1, true⟩
def f3 (k : Nat) (fs : Nat → Bool) (j : Nat) : Pl := if j < k then (if fs j = true then ⟨I j, 2, true⟩ else ⟨I j, 1, true⟩) else f2 fs j

theorem f1_set {n i : Nat} (hlt : i < n) : (tab n (f1 i)).set i ⟨I i, newPl.g, true⟩ = tab n (f1 (i + 1)) :=
  tab_set hlt (if_pos (by omega)) (fun j _ hj => by
    unfold f1
    by_cases h : j < i
    · rw [if_pos h, if_pos (by omega)]
    · rw [if_neg h, if_neg (by omega)])
theorem f1_f2 (n : Nat) : tab n (f1 n) = tab n (f2 fun _ => false) :=
  tab_congr fun j hj => by unfold f1 f2; rw [if_pos hj]; rfl
theorem f1_no {n : Nat} : ∀ a ∈ tab n (f1 n), ¬ free a :=
  tab_mem fun j hj hf => by unfold f1 at hf; rw [if_pos hj] at hf; exact Bool.noConfusion hf.1

def fk (fs : Nat → Bool) (k j : Nat) : Bool := if j = k then true else fs j
theorem fk_same {fs : Nat → Bool} {k : Nat} (h : fs k = true) : fk fs k = fs := by
  funext j; unfold fk; split
  · rename_i e; rw [e, h]
  · rfl
theorem fk_set {n k : Nat} {fs : Nat → Bool} (hk : k < n) : ((tab n fs).map Value.bool).set k (.bool true) = (tab n (fk fs k)).map Value.bool := by
  rw [← List.map_set, tab_set (g := fk fs k) hk (by unfold fk; rw [if_pos rfl]) (fun j _ hj => by unfold fk; rw [if_neg hj])]
theorem f2_set {n k : Nat} {fs : Nat → Bool} (hk : k < n) : (tab n (f2 fs)).set k ⟨I 0, 1 + 1, false⟩ = tab n (f2 (fk fs k)) :=
  tab_set hk (by unfold f2 fk; rw [if_pos (if_pos rfl)]) (fun j _ hj => by unfold f2 fk; rw [if_neg hj])
theorem f2_at {n k : Nat} {fs : Nat → Bool} (hk : k < n) (h : ¬ fs k = true) : (tab n (f2 fs))[k]? = some ⟨I k, 1, true⟩ := (tab_get _ hk).trans (congrArg some (by unfold f2; rw [if_neg h]))
theorem f2_gone {n k : Nat} {fs : Nat → Bool} (h : fs k = true) : ∀ (i : Nat) (a : Pl), (tab n (f2 fs))[i]? = some a → a.u = true → (((k + 256 * 1 : Nat)) : Int) ≠ ((i + 256 * a.g : Nat) : Int) := by
  intro i a hi hu he
  obtain ⟨_, rfl⟩ := tab_get_iff hi
  by_cases hf : fs i = true
  · unfold f2 at hu; rw [if_pos hf] at hu; cases hu
  · have : (f2 fs i).g = 1 := by unfold f2; rw [if_neg hf]
    rw [this] at he
    have : k = i := by omega
    exact hf (this ▸ h)
theorem name_get {n k : Nat} {sp : List Value} (hk : k < n) : (List.map I (tab n fun j => ((256 + j : Nat) : Int)) ++ sp)[k]? = some (I ((k + 256 * 1 : Nat) : Int)) := by
  rw [List.getElem?_append_left (by rw [List.length_map, tab_length]; exact hk), List.getElem?_map, tab_get _ hk]
  show some (I _) = _
  congr 2; omega
theorem bool_get {n k : Nat} {fs : Nat → Bool} (hk : k < n) : ((tab n fs).map Value.bool)[k]? = some (.bool (fs k)) := by
  rw [List.getElem?_map, tab_get _ hk]; rfl

theorem f1_g (i j : Nat) : (f1 i j).g ≤ 1000001 := by unfold f1; split <;> simp [newPl]
theorem f1_v (i j : Nat) : (f1 i j).v.oneCell' = true := by unfold f1; split <;> rfl
theorem f2_g (fs j) : (f2 fs j).g ≤ 1000001 := by unfold f2; split <;> simp
theorem f2_v (fs j) : (f2 fs j).v.oneCell' = true := by unfold f2; split <;> rfl
theorem f2_f3 (n : Nat) (fs : Nat → Bool) : tab n (f2 fs) = tab n (f3 0 fs) := tab_congr fun j _ => by unfold f3; rw [if_neg (by omega)]
theorem f3_skip {n k : Nat} {fs : Nat → Bool} (h : ¬ fs k = true) : tab n (f3 k fs) = tab n (f3 (k + 1) fs) := tab_congr fun j _ => by
  unfold f3
  by_cases hj : j < k
  · rw [if_pos hj, if_pos (show j < k + 1 by omega)]
  · rw [if_neg hj]
    by_cases hk : j = k
    · subst hk; rw [if_pos (show j < j + 1 by omega), if_neg h]; unfold f2; rw [if_neg h]
    · rw [if_neg (show ¬ j < k + 1 by omega)]
theorem f3_set {n k : Nat} {fs : Nat → Bool} (hk : k < n) (h : fs k = true) : (tab n (f3 k fs)).set k ⟨I k, 2, true⟩ = tab n (f3 (k + 1) fs) :=
  tab_set hk (by unfold f3; rw [if_pos (show k < k + 1 by omega), if_pos h]) (fun j _ hj => by
    unfold f3
    by_cases hjk : j < k
    · rw [if_pos hjk, if_pos (show j < k + 1 by omega)]
    · rw [if_neg hjk, if_neg (show ¬ j < k + 1 by omega)])
theorem f3_at {n k : Nat} {fs : Nat → Bool} (hk : k < n) (h : fs k = true) : (tab n (f3 k fs))[k]? = some ⟨I 0, 2, false⟩ := (tab_get _ hk).trans (congrArg some (by unfold f3 f2; rw [if_neg (by omega), if_pos h]))
theorem f3_least {n k : Nat} {fs : Nat → Bool} : ∀ j a', j < k → (tab n (f3 k fs))[j]? = some a' → ¬ free a' := by
  intro j a' hj ha hf
  obtain ⟨_, rfl⟩ := tab_get_iff ha
  unfold f3 at hf
  rw [if_pos hj] at hf
  split at hf <;> exact Bool.noConfusion hf.1
theorem f3_used {n : Nat} {fs : Nat → Bool} : ∀ a ∈ tab n (f3 n fs), a.u = true := tab_mem fun j hj => by
  unfold f3; rw [if_pos hj]; split <;> rfl
theorem f3_no {n : Nat} {fs : Nat → Bool} : ∀ a ∈ tab n (f3 n fs), ¬ free a := fun a ha hf => by
  have h := f3_used a ha
  rw [hf.1] at h
  cases h

theorem f3_g (k fs j) : (f3 k fs j).g ≤ 1000001 := by unfold f3; split; (split <;> simp); exact f2_g fs j
theorem f3_v (k fs j) : (f3 k fs j).v.oneCell' = true := by unfold f3; split; (split <;> rfl); exact f2_v fs j

theorem least_ret {xs : List Int} {w : World} {l : Value} (a : Int) (hl : RdS w l (xs.map I)) (hb : xs.length ≤ 9223372036854775807) :
    Ret Try.prog 10 #[I a, l] w fun v w' => v = .bool true ∧ Hp w [] w' := by
  refine Ret_of_W (args := [_, _]) Try.func10 rfl Try.ntmps10 Try.results10 (by simp) ?_
  have H := Hp.refl w
  obtain ⟨ao, ca, rfl, hca, hra⟩ := id hl
  simp only [List.length_map] at hl ⊢
  obtain ⟨n, hn, hn1, hn2⟩ : ∃ n : Nat, a % 256 % 40 + 1 = (n : Int) ∧ 1 ≤ n ∧ n ≤ 40 := ⟨(a % 256 % 40 + 1).toNat, by omega, by omega, by omega⟩
  have hsz : szOf n = n := by unfold szOf; omega
  have hO := OwnS.nil w.heap.size 3 1
  refine W_seq ?_
  refine W_region_l ?_
  refine WL_stepM rfl (R_as) ?_
  refine WL_nil ?_
  refine W_seq ?_
  refine W_region_l ?_
  refine WL_stepM rfl (R_mv) ?_
  refine WL_step rfl (R_bits rfl rfl (by simp) (and_mask_i64 8 256 (by decide) rfl (by decide))) ?_
  refine WL_step rfl (R_rem rfl rfl (by omega) (rem_pos (by omega))) ?_
  refine WL_step rfl (R_add rfl rfl ((w_i64 (by omega)).trans hn)) ?_
  refine WL_stepM rfl (R_as) ?_
  refine WL_nil ?_
  refine W_seq ?_
  refine W_region_l ?_
  refine WL_stepM rfl (R_mv) ?_
  (refine WL_call rfl (R_call rfl Try.call26 rfl) (new_ret n _) ?_; rintro _ w16 ⟨p, b, rfl, H1, hp, hb⟩; rw [hsz, tab_rep, tab_congr (g := f1 0) (fun j _ => (if_neg (by omega)).symm)] at H1; replace H := H.seq H1 (okSeq_new hp (okSeq_new hb okSeq_nil)); clear H1)
  refine WL_stepM rfl (R_as) ?_
  refine WL_nil ?_
  refine W_seq ?_
  refine W_seq ?_
  refine W_region_l ?_
  refine WL_stepM rfl (R_mv) ?_
  refine WL_step rfl (R_eq_ptr_nil Try.underlying52 rfl rfl) ?_
  refine WL_nil ?_
  refine W_cond_f rfl ?_
  refine W_skip ?_
  refine W_seq ?_
  refine W_region_l ?_
  refine WL_stepM rfl (R_as) ?_
  refine WL_nil ?_
  refine W_seq ?_
  refine W_seq ?_
  refine W_region_l ?_
  refine WL_stepM rfl (R_as) ?_
  refine WL_nil ?_
  refine W_block ?_
  refine W_loop (fun (i : Nat) E w' => ∃ v M, i ≤ n ∧ E 0 = I n ∧ E 1 = .slice ao xs.length ca ∧ E 5 = ptr p 0 ∧ E 6 = v ∧ E 7 = I i ∧ OwnS w.heap.size 3 1 v i ((tab i (fun j => ((256 + j : Nat) : Int))).map I) M ∧ Hp w (M ++ [(b, blk (rows plc (tab n (f1 i))) 95), (p, blk [sl b 0 n n] 93)]) w') (fun i => n - i) 0 ?_ ?_
  · exact ⟨_, [], by omega, rfl, rfl, rfl, rfl, rfl, hO, H⟩
  · (clear H hO; rintro i E w1 ⟨v, M, hi, h0, h1, h2, h3, h4, hO, H⟩; refine W_know5 h0 h1 h2 h3 h4 ?_; by_cases hlt : i < n)
    · refine W_seq ?_
      refine W_seq ?_
      refine W_region_l ?_
      refine WL_stepM rfl (R_mv) ?_
      refine WL_stepM rfl (R_mv) ?_
      refine WL_step rfl (R_lt_t rfl rfl (by omega)) ?_
      refine WL_nil ?_
      refine W_cond_t rfl ?_
      refine W_skip ?_
      refine W_seq ?_
      refine W_block ?_
      refine W_seq ?_
      refine W_region_l ?_
      refine WL_stepM rfl (R_mv) ?_
      refine WL_stepM rfl (R_mv) ?_
      (refine WL_call rfl (R_call rfl Try.call27 rfl) (add_yes (l := tab n (f1 i)) (i := i) (a := newPl) (H.get (.app _ (.there .here))) (H.get (.app _ .here)) (tab_length _ _) (by omega) (tab_mem fun j _ => f1_g i j) (tab_mem fun j _ => f1_v i j) i ((tab_get _ hlt).trans (congrArg some (if_neg (by omega)))) ⟨rfl, by decide⟩ (fun j a' hj ha hf => by obtain ⟨_, rfl⟩ := tab_get_iff ha; unfold f1 at hf; rw [if_pos hj] at hf; exact Bool.noConfusion hf.1)) ?_; rintro _ w55 ⟨rfl, H1⟩; rw [f1_set hlt] at H1; replace H := H.seq H1 (okSeq_set (.app _ .here) okSeq_nil); clear H1)
      refine WL_stepM rfl (R_mv) ?_
      refine WL_step rfl (R_extract rfl rfl) ?_
      refine WL_step rfl (R_extract rfl rfl) ?_
      refine WL_stepM rfl (R_as) ?_
      refine WL_stepM rfl (R_as) ?_
      refine WL_nil ?_
      refine W_seq ?_
      refine W_seq ?_
      refine W_region_l ?_
      refine WL_stepM rfl (R_mv) ?_
      refine WL_step rfl (R_not_t rfl) ?_
      refine WL_stepM rfl (R_mv) ?_
      refine WL_guard_t rfl rfl ?_
      refine WL_stepM rfl (R_mv) ?_
      refine WL_guard_t rfl rfl ?_
      refine WL_stepM rfl (R_mv) ?_
      refine WL_guard_t rfl rfl ?_
      refine WL_step rfl (R_add (r := ((256 + i : Nat) : Int)) rfl rfl (by rw [w_i64 (by omega)]; omega)) ?_
      refine WL_guard_t rfl rfl ?_
      refine WL_step rfl (R_ne_f rfl rfl (by show ((i + 256 * 1 : Nat) : Int) = _; omega)) ?_
      refine WL_stepM rfl (R_pk_f rfl) ?_
      refine WL_nil ?_
      refine W_cond_f rfl ?_
      refine W_skip ?_
      refine W_region_l ?_
      refine WL_stepM rfl (R_mv) ?_
      refine WL_stepM rfl (R_mv) ?_
      (refine WL_effn rfl (E_buildSlice (vs := [(.int _ _)]) H Try.underlying51 Try.sizeOf3 Try.zeroValue3 rfl rfl (by decide) rfl rfl) ?_; clear H; intro b83 w83 hb83 H)
      (refine WL_effm rfl (E_append H (.there .here) hO Try.underlying51 Try.typeInfo3 rfl rfl rfl rfl rfl rfl (src_one Try.underlying51 (H.get .here) rfl) (by omega) (by simp only [Try.t3]; omega)) ?_; clear H hO; intro vN MN w84 hO H; replace H := H.pop (by assumption))
      refine WL_stepM rfl (R_as) ?_
      refine WL_nil ?_
      refine W_region_l ?_
      refine WL_stepM rfl (R_mv) ?_
      refine WL_step rfl (R_add rfl rfl (w_i64 (by omega))) ?_
      refine WL_stepM rfl (R_as) ?_
      refine WL_nil ?_
      exact ⟨i + 1, by omega, vN, MN, by omega, rfl, rfl, rfl, rfl, rfl, (by rw [tab_succ, List.map_append, show ((256 + i : Nat) : Int) = ((i + 256 * 1 : Nat) : Int) from by omega]; exact hO), H⟩
    · refine W_seq ?_
      refine W_seq ?_
      refine W_region_l ?_
      refine WL_stepM rfl (R_mv) ?_
      refine WL_stepM rfl (R_mv) ?_
      refine WL_step rfl (R_lt_f rfl rfl (by omega)) ?_
      refine WL_nil ?_
      refine W_cond_f rfl ?_
      refine W_exit ?_
      refine (if_pos rfl).mpr ?_
      refine W_seq ?_
      refine W_seq ?_
      (obtain rfl : i = n := (by omega); obtain ⟨b3, cap3, sp3, rfl, hb3, rfl, hsp3, hcap3⟩ := OwnS.pos hO (by omega); rw [List.cons_append, List.nil_append] at H; refine W_region_l ?_)
      refine WL_stepM rfl (R_mv) ?_
      (refine WL_call rfl (R_call rfl Try.call27 rfl) (add_no (l := tab i (f1 i)) (H.get (.there (.there .here))) (H.get (.there .here)) (tab_length _ _) (by omega) (tab_mem fun j _ => f1_g i j) (tab_mem fun j _ => f1_v i j) 7 f1_no) ?_; rintro _ w107 ⟨rfl, H1⟩; replace H := H.seq0 H1; clear H1)
      refine WL_stepM rfl (R_mv) ?_
      refine WL_step rfl (R_extract rfl rfl) ?_
      refine WL_step rfl (R_extract rfl rfl) ?_
      refine WL_stepM rfl (R_as) ?_
      refine WL_stepM rfl (R_as) ?_
      refine WL_nil ?_
      refine W_seq ?_
      refine W_region_l ?_
      refine WL_stepM rfl (R_mv) ?_
      refine WL_nil ?_
      refine W_cond_f rfl ?_
      refine W_skip ?_
      refine W_seq ?_
      refine W_region_l ?_
      refine WL_stepM rfl (R_mv) ?_
      (refine WL_effn rfl (E_makeSlice H Try.underlying54 Try.sizeOf4 Try.typeInfo4 Try.zeroValue4 rfl rfl rfl (by omega) (by omega) (by omega) (by simp only [Try.t4]; omega)) ?_; clear H; intro b123 w123 hb123 H)
      refine WL_stepM rfl (R_as) ?_
      refine WL_nil ?_
      refine W_seq ?_
      refine W_seq ?_
      (rw [Int.toNat_natCast, show List.replicate i (Value.bool false) = (tab i (fun _ => false)).map Value.bool from by rw [← tab_rep, List.map_replicate], f1_f2] at H; rw [Int.toNat_natCast]; refine W_region_l ?_)
      refine WL_stepM rfl (R_as) ?_
      refine WL_nil ?_
      refine W_block ?_
      refine W_loop (fun (j : Nat) E w' => ∃ (fs : Nat → Bool) (b4 : Nat), j ≤ xs.length ∧ j ≤ 30 ∧ w.heap.size ≤ b4 ∧ E 0 = I i ∧ E 1 = .slice ao xs.length ca ∧ E 5 = ptr p 0 ∧ E 6 = sl b3 0 i cap3 ∧ E 12 = sl b4 0 i i ∧ E 13 = I j ∧ Hp w [(b4, blk ((tab i fs).map Value.bool) 4), (b3, blk (List.map I (tab i fun j => ((256 + j : Nat) : Int)) ++ sp3) 3), (b, blk (rows plc (tab i (f2 fs))) 95), (p, blk [sl b 0 i i] 93)] w') (fun j => 30 - j) 0 ?_ ?_
      · exact ⟨_, _, by omega, by omega, by assumption, rfl, rfl, rfl, rfl, rfl, rfl, H⟩
      · (clear H; rintro j E w1 ⟨fs, b4, hj, hj2, hb4, h0, h1, h2, h3, h4, h5, H⟩; refine W_know6 h0 h1 h2 h3 h4 h5 ?_; by_cases hjl : j < xs.length <;> by_cases hj30 : j < 30)
        · refine W_seq ?_
          refine W_seq ?_
          refine W_region_l ?_
          refine WL_stepM rfl (R_mv) ?_
          refine WL_stepM rfl (R_mv) ?_
          refine WL_step rfl (R_len_slice Try.underlying51 rfl) ?_
          refine WL_step rfl (R_lt_t rfl rfl (by omega)) ?_
          refine WL_stepM rfl (R_mv) ?_
          refine WL_guard_t rfl rfl ?_
          refine WL_stepM rfl (R_mv) ?_
          refine WL_guard_t rfl rfl ?_
          refine WL_step rfl (R_lt_t rfl rfl (by omega)) ?_
          refine WL_stepM rfl (R_pk_t rfl) ?_
          refine WL_nil ?_
          refine W_cond_t rfl ?_
          refine W_skip ?_
          refine W_seq ?_
          refine W_block ?_
          refine W_seq ?_
          (obtain ⟨k, hk, hkl⟩ : ∃ k : Nat, (k : Int) = (xs[j] % 65536) % i ∧ k < i := ⟨((xs[j] % 65536) % i).toNat, Int.toNat_of_nonneg (Int.emod_nonneg _ (by omega)), by have := Int.emod_lt_of_pos (xs[j] % 65536) (b := (i : Int)) (by omega); omega⟩; obtain ⟨b1, o1, rfl, hc1⟩ := hl.cell (i := j) (u := I xs[j]) (by rw [List.getElem?_map, List.getElem?_eq_getElem (by omega)]; rfl); have hbl : ((tab i fs).map Value.bool).length = i := (by rw [List.length_map, tab_length]); by_cases hfk : fs k = true <;> refine W_region_l ?_)
          · refine WL_stepM rfl (R_mv) ?_
            refine WL_stepM rfl (R_mv) ?_
            refine WL_step rfl (R_indexAddr Try.underlying51 Try.sizeOf3 rfl rfl (by omega) (by omega) idx_cast1) ?_
            refine WL_step rfl (R_load_cell Try.isAgg3 rfl (H.cellN hc1 (by repeat' first | exact kNil | apply kCons | apply kApp | assumption | exact OwnS.keys (by assumption)))) ?_
            refine WL_step rfl (R_bits rfl rfl (by simp) (and_mask_i64 16 65536 (by decide) rfl (by decide))) ?_
            refine WL_stepM rfl (R_mv) ?_
            refine WL_step rfl (R_rem rfl rfl (by omega) ((rem_pos (by omega)).trans hk.symm)) ?_
            refine WL_stepM rfl (R_as) ?_
            refine WL_nil ?_
            refine W_seq ?_
            refine W_seq ?_
            (refine W_draw (Kp [(b4, blk ((tab i fs).map Value.bool) 4), (b3, blk (List.map I (tab i fun j => ((256 + j : Nat) : Int)) ++ sp3) 3), (p, blk [sl b 0 i i] 93)]) (fun _ => false) (by kernel_rfl) H ?_; clear H; intro w166 H)
            refine WA_takeM 0 rfl rfl rfl (by kernel_rfl) (by kernel_rfl) (H.kp.sub (by simp)) (fun _ hC => R_mv) ?_
            refine WA_takeM 1 rfl rfl rfl (by kernel_rfl) (by kernel_rfl) (H.kp.sub (by simp)) (fun _ hC => R_mv) ?_
            refine WA_takeM 2 rfl rfl rfl (by kernel_rfl) (by kernel_rfl) (H.kp.sub (by simp)) (fun _ hC => R_mv) ?_
            refine WA_take 3 rfl rfl rfl (by kernel_rfl) (by kernel_rfl) (H.kp.sub (by simp)) (fun _ hC => R_indexAddr Try.underlying51 Try.sizeOf3 rfl rfl (by omega) (by omega) idx0_cast) ?_
            refine WA_take 4 rfl rfl rfl (by kernel_rfl) (by kernel_rfl) (H.kp.sub (by simp)) (fun _ hC => R_load Try.isAgg3 rfl (hC.get (.there .here)) (name_get hkl)) ?_
            refine WA_takeM 6 rfl rfl rfl (by kernel_rfl) (by kernel_rfl) (H.kp.sub (by simp)) (fun _ hC => R_mv) ?_
            refine WA_takeM 7 rfl rfl rfl (by kernel_rfl) (by kernel_rfl) (H.kp.sub (by simp)) (fun _ hC => R_mv) ?_
            refine WA_take 8 rfl rfl rfl (by kernel_rfl) (by kernel_rfl) (H.kp.sub (by simp)) (fun _ hC => R_indexAddr Try.underlying54 Try.sizeOf4 rfl rfl (by omega) (by omega) idx0_cast) ?_
            refine WA_take 9 rfl rfl rfl (by kernel_rfl) (by kernel_rfl) (H.kp.sub (by simp)) (fun _ hC => R_load (v := .bool true) Try.isAgg4 rfl (hC.get .here) ((bool_get hkl).trans (by rw [hfk]))) ?_
            refine WA_one (i := 5) (by kernel_rfl) ?_
            (refine WI_call rfl (.inl rfl) (R_call rfl Try.call28 rfl) (drop_no (l := tab i (f2 fs)) (H.get (.there (.there (.there .here)))) (H.get (.there (.there .here))) (tab_length _ _) (by omega) (tab_mem fun j _ => f2_g fs j) (f2_gone hfk)) (fun _ _ hR _ => (H.seq0 hR.2).kp.sub (by simp)) ?_; rintro _ w177 ⟨rfl, H1⟩; replace H := H.seq0 H1; clear H1)
            refine WA_take 10 rfl rfl rfl (by kernel_rfl) (by kernel_rfl) (H.kp.sub (by simp)) (fun _ hC => R_eq_bool_f Try.underlying4 rfl rfl (by decide)) ?_
            refine WA_done (by kernel_rfl) ?_
            refine W_cond_f rfl ?_
            refine W_skip ?_
            refine W_region_l ?_
            refine WL_stepM rfl (R_mv) ?_
            refine WL_stepM rfl (R_mv) ?_
            refine WL_step rfl (R_indexAddr Try.underlying54 Try.sizeOf4 rfl rfl (by omega) (by omega) idx0_cast) ?_
            (refine WL_effu rfl (E_store (v := (.bool _)) H Try.sizeOf4 rfl rfl rfl .here (by omega)) ?_; clear H; intro w186 H)
            refine WL_nil ?_
            (rw [fk_set hkl] at H; refine W_region_l ?_)
            refine WL_stepM rfl (R_mv) ?_
            refine WL_step rfl (R_add rfl rfl (w_i64 (by omega))) ?_
            refine WL_stepM rfl (R_as) ?_
            refine WL_nil ?_
            (have hsm := fk_same hfk; rw [hsm] at H; exact ⟨j + 1, by omega, fs, b4, by omega, by omega, hb4, rfl, rfl, rfl, rfl, rfl, rfl, H⟩)
          · refine WL_stepM rfl (R_mv) ?_
            refine WL_stepM rfl (R_mv) ?_
            refine WL_step rfl (R_indexAddr Try.underlying51 Try.sizeOf3 rfl rfl (by omega) (by omega) idx_cast1) ?_
            refine WL_step rfl (R_load_cell Try.isAgg3 rfl (H.cellN hc1 (by repeat' first | exact kNil | apply kCons | apply kApp | assumption | exact OwnS.keys (by assumption)))) ?_
            refine WL_step rfl (R_bits rfl rfl (by simp) (and_mask_i64 16 65536 (by decide) rfl (by decide))) ?_
            refine WL_stepM rfl (R_mv) ?_
            refine WL_step rfl (R_rem rfl rfl (by omega) ((rem_pos (by omega)).trans hk.symm)) ?_
            refine WL_stepM rfl (R_as) ?_
            refine WL_nil ?_
            refine W_seq ?_
            refine W_seq ?_
            (refine W_draw (Kp [(b4, blk ((tab i fs).map Value.bool) 4), (b3, blk (List.map I (tab i fun j => ((256 + j : Nat) : Int)) ++ sp3) 3), (p, blk [sl b 0 i i] 93)]) (fun _ => false) (by kernel_rfl) H ?_; clear H; intro w205 H)
            refine WA_takeM 0 rfl rfl rfl (by kernel_rfl) (by kernel_rfl) (H.kp.sub (by simp)) (fun _ hC => R_mv) ?_
            refine WA_takeM 1 rfl rfl rfl (by kernel_rfl) (by kernel_rfl) (H.kp.sub (by simp)) (fun _ hC => R_mv) ?_
            refine WA_takeM 2 rfl rfl rfl (by kernel_rfl) (by kernel_rfl) (H.kp.sub (by simp)) (fun _ hC => R_mv) ?_
            refine WA_take 3 rfl rfl rfl (by kernel_rfl) (by kernel_rfl) (H.kp.sub (by simp)) (fun _ hC => R_indexAddr Try.underlying51 Try.sizeOf3 rfl rfl (by omega) (by omega) idx0_cast) ?_
            refine WA_take 4 rfl rfl rfl (by kernel_rfl) (by kernel_rfl) (H.kp.sub (by simp)) (fun _ hC => R_load Try.isAgg3 rfl (hC.get (.there .here)) (name_get hkl)) ?_
            refine WA_takeM 6 rfl rfl rfl (by kernel_rfl) (by kernel_rfl) (H.kp.sub (by simp)) (fun _ hC => R_mv) ?_
            refine WA_takeM 7 rfl rfl rfl (by kernel_rfl) (by kernel_rfl) (H.kp.sub (by simp)) (fun _ hC => R_mv) ?_
            refine WA_take 8 rfl rfl rfl (by kernel_rfl) (by kernel_rfl) (H.kp.sub (by simp)) (fun _ hC => R_indexAddr Try.underlying54 Try.sizeOf4 rfl rfl (by omega) (by omega) idx0_cast) ?_
            refine WA_take 9 rfl rfl rfl (by kernel_rfl) (by kernel_rfl) (H.kp.sub (by simp)) (fun _ hC => R_load (v := .bool false) Try.isAgg4 rfl (hC.get .here) ((bool_get hkl).trans (by rw [Bool.not_eq_true] at hfk; rw [hfk]))) ?_
            refine WA_one (i := 5) (by kernel_rfl) ?_
            (refine WI_call rfl (.inl rfl) (R_call rfl Try.call28 rfl) (drop_yes (l := tab i (f2 fs)) (i := k) (a := ⟨I k, 1, true⟩) (H.get (.there (.there (.there .here)))) (H.get (.there (.there .here))) (tab_length _ _) (by omega) (f2_at hkl hfk) (by show 1 ≤ 1000001; omega) rfl) (fun _ _ hR _ => (H.seq hR.2 (okSeq_set (.there (.there .here)) okSeq_nil)).kp.sub (by simp)) ?_; rintro _ w216 ⟨rfl, H1⟩; rw [f2_set hkl] at H1; replace H := H.seq H1 (okSeq_set (.there (.there .here)) okSeq_nil); clear H1)
            refine WA_take 10 rfl rfl rfl (by kernel_rfl) (by kernel_rfl) (H.kp.sub (by simp)) (fun _ hC => R_eq_bool_f Try.underlying4 rfl rfl (by decide)) ?_
            refine WA_done (by kernel_rfl) ?_
            refine W_cond_f rfl ?_
            refine W_skip ?_
            refine W_region_l ?_
            refine WL_stepM rfl (R_mv) ?_
            refine WL_stepM rfl (R_mv) ?_
            refine WL_step rfl (R_indexAddr Try.underlying54 Try.sizeOf4 rfl rfl (by omega) (by omega) idx0_cast) ?_
            (refine WL_effu rfl (E_store (v := (.bool _)) H Try.sizeOf4 rfl rfl rfl .here (by omega)) ?_; clear H; intro w225 H)
            refine WL_nil ?_
            (rw [fk_set hkl] at H; refine W_region_l ?_)
            refine WL_stepM rfl (R_mv) ?_
            refine WL_step rfl (R_add rfl rfl (w_i64 (by omega))) ?_
            refine WL_stepM rfl (R_as) ?_
            refine WL_nil ?_
            exact ⟨j + 1, by omega, fk fs k, b4, by omega, by omega, hb4, rfl, rfl, rfl, rfl, rfl, rfl, H⟩
        · refine W_seq ?_
          refine W_seq ?_
          refine W_region_l ?_
          refine WL_stepM rfl (R_mv) ?_
          refine WL_stepM rfl (R_mv) ?_
          refine WL_step rfl (R_len_slice Try.underlying51 rfl) ?_
          refine WL_step rfl (R_lt_t rfl rfl (by omega)) ?_
          refine WL_stepM rfl (R_mv) ?_
          refine WL_guard_t rfl rfl ?_
          refine WL_stepM rfl (R_mv) ?_
          refine WL_guard_t rfl rfl ?_
          refine WL_step rfl (R_lt_f rfl rfl (by omega)) ?_
          refine WL_stepM rfl (R_pk_t rfl) ?_
          refine WL_nil ?_
          refine W_cond_f rfl ?_
          refine W_exit ?_
          refine (if_pos rfl).mpr ?_
          refine W_seq ?_
          refine W_seq ?_
          (rw [f2_f3] at H; refine W_region_l ?_)
          refine WL_stepM rfl (R_as) ?_
          refine WL_nil ?_
          refine W_block ?_
          refine W_loop (fun (k : Nat) E w' => k ≤ i ∧ E 0 = I i ∧ E 5 = ptr p 0 ∧ E 12 = sl b4 0 i i ∧ E 15 = I k ∧ Hp w [(b4, blk ((tab i fs).map Value.bool) 4), (b3, blk (List.map I (tab i fun j => ((256 + j : Nat) : Int)) ++ sp3) 3), (b, blk (rows plc (tab i (f3 k fs))) 95), (p, blk [sl b 0 i i] 93)] w') (fun k => i - k) 0 ?_ ?_
          · exact ⟨by omega, rfl, rfl, rfl, rfl, H⟩
          · (clear H; rintro k E w1 ⟨hk, h0, h1, h2, h3, H⟩; refine W_know4 h0 h1 h2 h3 ?_; by_cases hlk : k < i)
            · refine W_seq ?_
              refine W_seq ?_
              refine W_region_l ?_
              refine WL_stepM rfl (R_mv) ?_
              refine WL_stepM rfl (R_mv) ?_
              refine WL_step rfl (R_lt_t rfl rfl (by omega)) ?_
              refine WL_nil ?_
              refine W_cond_t rfl ?_
              refine W_skip ?_
              refine W_seq ?_
              refine W_block ?_
              refine W_seq ?_
              refine W_seq ?_
              (by_cases hfk : fs k = true <;> refine W_region_l ?_)
              · refine WL_stepM rfl (R_mv) ?_
                refine WL_stepM rfl (R_mv) ?_
                refine WL_step rfl (R_indexAddr Try.underlying54 Try.sizeOf4 rfl rfl (by omega) (by omega) idx0_cast) ?_
                refine WL_step rfl (R_load (v := .bool true) Try.isAgg4 rfl (H.get .here) ((bool_get hlk).trans (by rw [hfk]))) ?_
                refine WL_step rfl (R_not_t rfl) ?_
                refine WL_nil ?_
                refine W_cond_f rfl ?_
                refine W_skip ?_
                refine W_seq ?_
                refine W_region_l ?_
                refine WL_stepM rfl (R_mv) ?_
                refine WL_stepM rfl (R_mv) ?_
                (refine WL_call rfl (R_call rfl Try.call27 rfl) (add_yes (l := tab i (f3 k fs)) (i := k) (a := ⟨I 0, 2, false⟩) (H.get (.there (.there (.there .here)))) (H.get (.there (.there .here))) (tab_length _ _) (by omega) (tab_mem fun j _ => f3_g k fs j) (tab_mem fun j _ => f3_v k fs j) k (f3_at hlk hfk) ⟨rfl, by show 2 ≤ 1000000; omega⟩ f3_least) ?_; rintro _ w285 ⟨rfl, H1⟩; rw [f3_set hlk hfk] at H1; replace H := H.seq H1 (okSeq_set (.there (.there .here)) okSeq_nil); clear H1)
                refine WL_stepM rfl (R_mv) ?_
                refine WL_step rfl (R_extract rfl rfl) ?_
                refine WL_step rfl (R_extract rfl rfl) ?_
                refine WL_stepM rfl (R_as) ?_
                refine WL_stepM rfl (R_as) ?_
                refine WL_nil ?_
                refine W_seq ?_
                refine W_region_l ?_
                refine WL_stepM rfl (R_mv) ?_
                refine WL_step rfl (R_not_t rfl) ?_
                refine WL_stepM rfl (R_mv) ?_
                refine WL_guard_t rfl rfl ?_
                refine WL_stepM rfl (R_mv) ?_
                refine WL_guard_t rfl rfl ?_
                refine WL_stepM rfl (R_mv) ?_
                refine WL_guard_t rfl rfl ?_
                refine WL_step rfl (R_add (r := ((512 + k : Nat) : Int)) rfl rfl (by rw [w_i64 (by omega)]; omega)) ?_
                refine WL_guard_t rfl rfl ?_
                refine WL_step rfl (R_ne_f rfl rfl (by show ((k + 256 * 2 : Nat) : Int) = _; omega)) ?_
                refine WL_stepM rfl (R_pk_f rfl) ?_
                refine WL_nil ?_
                refine W_cond_f rfl ?_
                refine W_skip ?_
                refine W_region_l ?_
                refine WL_stepM rfl (R_mv) ?_
                refine WL_step rfl (R_add rfl rfl (w_i64 (by omega))) ?_
                refine WL_stepM rfl (R_as) ?_
                refine WL_nil ?_
                exact ⟨k + 1, by omega, by omega, rfl, rfl, rfl, rfl, H⟩
              · refine WL_stepM rfl (R_mv) ?_
                refine WL_stepM rfl (R_mv) ?_
                refine WL_step rfl (R_indexAddr Try.underlying54 Try.sizeOf4 rfl rfl (by omega) (by omega) idx0_cast) ?_
                refine WL_step rfl (R_load (v := .bool false) Try.isAgg4 rfl (H.get .here) ((bool_get hlk).trans (by rw [Bool.not_eq_true] at hfk; rw [hfk]))) ?_
                refine WL_step rfl (R_not_f rfl) ?_
                refine WL_nil ?_
                refine W_cond_t rfl ?_
                refine W_exit ?_
                refine (if_pos rfl).mpr ?_
                refine W_region_l ?_
                refine WL_stepM rfl (R_mv) ?_
                refine WL_step rfl (R_add rfl rfl (w_i64 (by omega))) ?_
                refine WL_stepM rfl (R_as) ?_
                refine WL_nil ?_
                (rw [f3_skip hfk] at H; exact ⟨k + 1, by omega, by omega, rfl, rfl, rfl, rfl, H⟩)
            · refine W_seq ?_
              refine W_seq ?_
              refine W_region_l ?_
              refine WL_stepM rfl (R_mv) ?_
              refine WL_stepM rfl (R_mv) ?_
              refine WL_step rfl (R_lt_f rfl rfl (by omega)) ?_
              refine WL_nil ?_
              refine W_cond_f rfl ?_
              refine W_exit ?_
              refine (if_pos rfl).mpr ?_
              refine W_seq ?_
              (obtain rfl : k = i := (by omega); refine W_region_l ?_)
              refine WL_stepM rfl (R_mv) ?_
              (refine WL_call rfl (R_call rfl Try.call27 rfl) (add_no (l := tab k (f3 k fs)) (H.get (.there (.there (.there .here)))) (H.get (.there (.there .here))) (tab_length _ _) (by omega) (tab_mem fun j _ => f3_g k fs j) (tab_mem fun j _ => f3_v k fs j) 7 f3_no) ?_; rintro _ w343 ⟨rfl, H1⟩; replace H := H.seq0 H1; clear H1)
              refine WL_stepM rfl (R_mv) ?_
              refine WL_step rfl (R_extract rfl rfl) ?_
              refine WL_step rfl (R_extract rfl rfl) ?_
              refine WL_stepM rfl (R_as) ?_
              refine WL_stepM rfl (R_as) ?_
              refine WL_nil ?_
              refine W_seq ?_
              refine W_region_l ?_
              refine WL_stepM rfl (R_mv) ?_
              refine WL_step rfl (R_not_f rfl) ?_
              refine WL_stepM rfl (R_mv) ?_
              refine WL_guard_t rfl rfl ?_
              refine WL_stepM rfl (R_mv) ?_
              refine WL_guard_t rfl rfl ?_
              (refine WL_call rfl (R_call rfl Try.call30 rfl) (len_ret (l := tab k (f3 k fs)) (H.get (.there (.there (.there .here)))) (H.get (.there (.there .here))) (tab_length _ _) (by omega) (tab_mem fun j _ => f3_g k fs j) (tab_mem fun j _ => f3_v k fs j)) ?_; rintro _ w358 ⟨rfl, H1⟩; rw [namesFrom_all _ _ f3_used, tab_length]; replace H := H.seq0 H1; clear H1)
              refine WL_guard_t rfl rfl ?_
              refine WL_stepM rfl (R_mv) ?_
              refine WL_guard_t rfl rfl ?_
              refine WL_step rfl (R_eq_t rfl rfl (by omega)) ?_
              refine WL_stepM rfl (R_pk_t rfl) ?_
              refine WL_stepM rfl (R_mv) ?_
              refine WL_guard_t rfl rfl ?_
              (refine WL_call rfl (R_call rfl Try.call31 rfl) (awake_ret _) ?_; rintro _ w366 ⟨rfl, H1⟩; replace H := H.seq0 H1; clear H1)
              refine WL_stepM rfl (R_pk_t rfl) ?_
              refine WL_stepM rfl (R_as) ?_
              refine WL_nil ?_
              refine W_ret ?_
              exact ⟨_, rfl, rfl, H.none (by repeat' first | exact kNil | apply kCons | apply kApp | assumption | exact OwnS.keys (by assumption))⟩
        · refine W_seq ?_
          refine W_seq ?_
          refine W_region_l ?_
          refine WL_stepM rfl (R_mv) ?_
          refine WL_stepM rfl (R_mv) ?_
          refine WL_step rfl (R_len_slice Try.underlying51 rfl) ?_
          refine WL_step rfl (R_lt_f rfl rfl (by omega)) ?_
          refine WL_stepM rfl (R_mv) ?_
          refine WL_guard_f rfl rfl (by decide) ?_
          refine WL_guard_f rfl rfl (by decide) ?_
          refine WL_stepM rfl (R_pk_f rfl) ?_
          refine WL_nil ?_
          refine W_cond_f rfl ?_
          refine W_exit ?_
          refine (if_pos rfl).mpr ?_
          refine W_seq ?_
          refine W_seq ?_
          (rw [f2_f3] at H; refine W_region_l ?_)
          refine WL_stepM rfl (R_as) ?_
          refine WL_nil ?_
          refine W_block ?_
          refine W_loop (fun (k : Nat) E w' => k ≤ i ∧ E 0 = I i ∧ E 5 = ptr p 0 ∧ E 12 = sl b4 0 i i ∧ E 15 = I k ∧ Hp w [(b4, blk ((tab i fs).map Value.bool) 4), (b3, blk (List.map I (tab i fun j => ((256 + j : Nat) : Int)) ++ sp3) 3), (b, blk (rows plc (tab i (f3 k fs))) 95), (p, blk [sl b 0 i i] 93)] w') (fun k => i - k) 0 ?_ ?_
          · exact ⟨by omega, rfl, rfl, rfl, rfl, H⟩
          · (clear H; rintro k E w1 ⟨hk, h0, h1, h2, h3, H⟩; refine W_know4 h0 h1 h2 h3 ?_; by_cases hlk : k < i)
            · refine W_seq ?_
              refine W_seq ?_
              refine W_region_l ?_
              refine WL_stepM rfl (R_mv) ?_
              refine WL_stepM rfl (R_mv) ?_
              refine WL_step rfl (R_lt_t rfl rfl (by omega)) ?_
              refine WL_nil ?_
              refine W_cond_t rfl ?_
              refine W_skip ?_
              refine W_seq ?_
              refine W_block ?_
              refine W_seq ?_
              refine W_seq ?_
              (by_cases hfk : fs k = true <;> refine W_region_l ?_)
              · refine WL_stepM rfl (R_mv) ?_
                refine WL_stepM rfl (R_mv) ?_
                refine WL_step rfl (R_indexAddr Try.underlying54 Try.sizeOf4 rfl rfl (by omega) (by omega) idx0_cast) ?_
                refine WL_step rfl (R_load (v := .bool true) Try.isAgg4 rfl (H.get .here) ((bool_get hlk).trans (by rw [hfk]))) ?_
                refine WL_step rfl (R_not_t rfl) ?_
                refine WL_nil ?_
                refine W_cond_f rfl ?_
                refine W_skip ?_
                refine W_seq ?_
                refine W_region_l ?_
                refine WL_stepM rfl (R_mv) ?_
                refine WL_stepM rfl (R_mv) ?_
                (refine WL_call rfl (R_call rfl Try.call27 rfl) (add_yes (l := tab i (f3 k fs)) (i := k) (a := ⟨I 0, 2, false⟩) (H.get (.there (.there (.there .here)))) (H.get (.there (.there .here))) (tab_length _ _) (by omega) (tab_mem fun j _ => f3_g k fs j) (tab_mem fun j _ => f3_v k fs j) k (f3_at hlk hfk) ⟨rfl, by show 2 ≤ 1000000; omega⟩ f3_least) ?_; rintro _ w422 ⟨rfl, H1⟩; rw [f3_set hlk hfk] at H1; replace H := H.seq H1 (okSeq_set (.there (.there .here)) okSeq_nil); clear H1)
                refine WL_stepM rfl (R_mv) ?_
                refine WL_step rfl (R_extract rfl rfl) ?_
                refine WL_step rfl (R_extract rfl rfl) ?_
                refine WL_stepM rfl (R_as) ?_
                refine WL_stepM rfl (R_as) ?_
                refine WL_nil ?_
                refine W_seq ?_
                refine W_region_l ?_
                refine WL_stepM rfl (R_mv) ?_
                refine WL_step rfl (R_not_t rfl) ?_
                refine WL_stepM rfl (R_mv) ?_
                refine WL_guard_t rfl rfl ?_
                refine WL_stepM rfl (R_mv) ?_
                refine WL_guard_t rfl rfl ?_
                refine WL_stepM rfl (R_mv) ?_
                refine WL_guard_t rfl rfl ?_
                refine WL_step rfl (R_add (r := ((512 + k : Nat) : Int)) rfl rfl (by rw [w_i64 (by omega)]; omega)) ?_
                refine WL_guard_t rfl rfl ?_
                refine WL_step rfl (R_ne_f rfl rfl (by show ((k + 256 * 2 : Nat) : Int) = _; omega)) ?_
                refine WL_stepM rfl (R_pk_f rfl) ?_
                refine WL_nil ?_
                refine W_cond_f rfl ?_
                refine W_skip ?_
                refine W_region_l ?_
                refine WL_stepM rfl (R_mv) ?_
                refine WL_step rfl (R_add rfl rfl (w_i64 (by omega))) ?_
                refine WL_stepM rfl (R_as) ?_
                refine WL_nil ?_
                exact ⟨k + 1, by omega, by omega, rfl, rfl, rfl, rfl, H⟩
              · refine WL_stepM rfl (R_mv) ?_
                refine WL_stepM rfl (R_mv) ?_
                refine WL_step rfl (R_indexAddr Try.underlying54 Try.sizeOf4 rfl rfl (by omega) (by omega) idx0_cast) ?_
                refine WL_step rfl (R_load (v := .bool false) Try.isAgg4 rfl (H.get .here) ((bool_get hlk).trans (by rw [Bool.not_eq_true] at hfk; rw [hfk]))) ?_
                refine WL_step rfl (R_not_f rfl) ?_
                refine WL_nil ?_
                refine W_cond_t rfl ?_
                refine W_exit ?_
                refine (if_pos rfl).mpr ?_
                refine W_region_l ?_
                refine WL_stepM rfl (R_mv) ?_
                refine WL_step rfl (R_add rfl rfl (w_i64 (by omega))) ?_
                refine WL_stepM rfl (R_as) ?_
                refine WL_nil ?_
                (rw [f3_skip hfk] at H; exact ⟨k + 1, by omega, by omega, rfl, rfl, rfl, rfl, H⟩)
            · refine W_seq ?_
              refine W_seq ?_
              refine W_region_l ?_
              refine WL_stepM rfl (R_mv) ?_
              refine WL_stepM rfl (R_mv) ?_
              refine WL_step rfl (R_lt_f rfl rfl (by omega)) ?_
              refine WL_nil ?_
              refine W_cond_f rfl ?_
              refine W_exit ?_
              refine (if_pos rfl).mpr ?_
              refine W_seq ?_
              (obtain rfl : k = i := (by omega); refine W_region_l ?_)
              refine WL_stepM rfl (R_mv) ?_
              (refine WL_call rfl (R_call rfl Try.call27 rfl) (add_no (l := tab k (f3 k fs)) (H.get (.there (.there (.there .here)))) (H.get (.there (.there .here))) (tab_length _ _) (by omega) (tab_mem fun j _ => f3_g k fs j) (tab_mem fun j _ => f3_v k fs j) 7 f3_no) ?_; rintro _ w480 ⟨rfl, H1⟩; replace H := H.seq0 H1; clear H1)
              refine WL_stepM rfl (R_mv) ?_
              refine WL_step rfl (R_extract rfl rfl) ?_
              refine WL_step rfl (R_extract rfl rfl) ?_
              refine WL_stepM rfl (R_as) ?_
              refine WL_stepM rfl (R_as) ?_
              refine WL_nil ?_
              refine W_seq ?_
              refine W_region_l ?_
              refine WL_stepM rfl (R_mv) ?_
              refine WL_step rfl (R_not_f rfl) ?_
              refine WL_stepM rfl (R_mv) ?_
              refine WL_guard_t rfl rfl ?_
              refine WL_stepM rfl (R_mv) ?_
              refine WL_guard_t rfl rfl ?_
              (refine WL_call rfl (R_call rfl Try.call30 rfl) (len_ret (l := tab k (f3 k fs)) (H.get (.there (.there (.there .here)))) (H.get (.there (.there .here))) (tab_length _ _) (by omega) (tab_mem fun j _ => f3_g k fs j) (tab_mem fun j _ => f3_v k fs j)) ?_; rintro _ w495 ⟨rfl, H1⟩; rw [namesFrom_all _ _ f3_used, tab_length]; replace H := H.seq0 H1; clear H1)
              refine WL_guard_t rfl rfl ?_
              refine WL_stepM rfl (R_mv) ?_
              refine WL_guard_t rfl rfl ?_
              refine WL_step rfl (R_eq_t rfl rfl (by omega)) ?_
              refine WL_stepM rfl (R_pk_t rfl) ?_
              refine WL_stepM rfl (R_mv) ?_
              refine WL_guard_t rfl rfl ?_
              (refine WL_call rfl (R_call rfl Try.call31 rfl) (awake_ret _) ?_; rintro _ w503 ⟨rfl, H1⟩; replace H := H.seq0 H1; clear H1)
              refine WL_stepM rfl (R_pk_t rfl) ?_
              refine WL_stepM rfl (R_as) ?_
              refine WL_nil ?_
              refine W_ret ?_
              exact ⟨_, rfl, rfl, H.none (by repeat' first | exact kNil | apply kCons | apply kApp | assumption | exact OwnS.keys (by assumption))⟩
        · refine W_seq ?_
          refine W_seq ?_
          refine W_region_l ?_
          refine WL_stepM rfl (R_mv) ?_
          refine WL_stepM rfl (R_mv) ?_
          refine WL_step rfl (R_len_slice Try.underlying51 rfl) ?_
          refine WL_step rfl (R_lt_f rfl rfl (by omega)) ?_
          refine WL_stepM rfl (R_mv) ?_
          refine WL_guard_f rfl rfl (by decide) ?_
          refine WL_guard_f rfl rfl (by decide) ?_
          refine WL_stepM rfl (R_pk_f rfl) ?_
          refine WL_nil ?_
          refine W_cond_f rfl ?_
          refine W_exit ?_
          refine (if_pos rfl).mpr ?_
          refine W_seq ?_
          refine W_seq ?_
          (rw [f2_f3] at H; refine W_region_l ?_)
          refine WL_stepM rfl (R_as) ?_
          refine WL_nil ?_
          refine W_block ?_
          refine W_loop (fun (k : Nat) E w' => k ≤ i ∧ E 0 = I i ∧ E 5 = ptr p 0 ∧ E 12 = sl b4 0 i i ∧ E 15 = I k ∧ Hp w [(b4, blk ((tab i fs).map Value.bool) 4), (b3, blk (List.map I (tab i fun j => ((256 + j : Nat) : Int)) ++ sp3) 3), (b, blk (rows plc (tab i (f3 k fs))) 95), (p, blk [sl b 0 i i] 93)] w') (fun k => i - k) 0 ?_ ?_
          · exact ⟨by omega, rfl, rfl, rfl, rfl, H⟩
          · (clear H; rintro k E w1 ⟨hk, h0, h1, h2, h3, H⟩; refine W_know4 h0 h1 h2 h3 ?_; by_cases hlk : k < i)
            · refine W_seq ?_
              refine W_seq ?_
              refine W_region_l ?_
              refine WL_stepM rfl (R_mv) ?_
              refine WL_stepM rfl (R_mv) ?_
              refine WL_step rfl (R_lt_t rfl rfl (by omega)) ?_
              refine WL_nil ?_
              refine W_cond_t rfl ?_
              refine W_skip ?_
              refine W_seq ?_
              refine W_block ?_
              refine W_seq ?_
              refine W_seq ?_
              (by_cases hfk : fs k = true <;> refine W_region_l ?_)
              · refine WL_stepM rfl (R_mv) ?_
                refine WL_stepM rfl (R_mv) ?_
                refine WL_step rfl (R_indexAddr Try.underlying54 Try.sizeOf4 rfl rfl (by omega) (by omega) idx0_cast) ?_
                refine WL_step rfl (R_load (v := .bool true) Try.isAgg4 rfl (H.get .here) ((bool_get hlk).trans (by rw [hfk]))) ?_
                refine WL_step rfl (R_not_t rfl) ?_
                refine WL_nil ?_
                refine W_cond_f rfl ?_
                refine W_skip ?_
                refine W_seq ?_
                refine W_region_l ?_
                refine WL_stepM rfl (R_mv) ?_
                refine WL_stepM rfl (R_mv) ?_
                (refine WL_call rfl (R_call rfl Try.call27 rfl) (add_yes (l := tab i (f3 k fs)) (i := k) (a := ⟨I 0, 2, false⟩) (H.get (.there (.there (.there .here)))) (H.get (.there (.there .here))) (tab_length _ _) (by omega) (tab_mem fun j _ => f3_g k fs j) (tab_mem fun j _ => f3_v k fs j) k (f3_at hlk hfk) ⟨rfl, by show 2 ≤ 1000000; omega⟩ f3_least) ?_; rintro _ w559 ⟨rfl, H1⟩; rw [f3_set hlk hfk] at H1; replace H := H.seq H1 (okSeq_set (.there (.there .here)) okSeq_nil); clear H1)
                refine WL_stepM rfl (R_mv) ?_
                refine WL_step rfl (R_extract rfl rfl) ?_
                refine WL_step rfl (R_extract rfl rfl) ?_
                refine WL_stepM rfl (R_as) ?_
                refine WL_stepM rfl (R_as) ?_
                refine WL_nil ?_
                refine W_seq ?_
                refine W_region_l ?_
                refine WL_stepM rfl (R_mv) ?_
                refine WL_step rfl (R_not_t rfl) ?_
                refine WL_stepM rfl (R_mv) ?_
                refine WL_guard_t rfl rfl ?_
                refine WL_stepM rfl (R_mv) ?_
                refine WL_guard_t rfl rfl ?_
                refine WL_stepM rfl (R_mv) ?_
                refine WL_guard_t rfl rfl ?_
                refine WL_step rfl (R_add (r := ((512 + k : Nat) : Int)) rfl rfl (by rw [w_i64 (by omega)]; omega)) ?_
                refine WL_guard_t rfl rfl ?_
                refine WL_step rfl (R_ne_f rfl rfl (by show ((k + 256 * 2 : Nat) : Int) = _; omega)) ?_
                refine WL_stepM rfl (R_pk_f rfl) ?_
                refine WL_nil ?_
                refine W_cond_f rfl ?_
                refine W_skip ?_
                refine W_region_l ?_
                refine WL_stepM rfl (R_mv) ?_
                refine WL_step rfl (R_add rfl rfl (w_i64 (by omega))) ?_
                refine WL_stepM rfl (R_as) ?_
                refine WL_nil ?_
                exact ⟨k + 1, by omega, by omega, rfl, rfl, rfl, rfl, H⟩
              · refine WL_stepM rfl (R_mv) ?_
                refine WL_stepM rfl (R_mv) ?_
                refine WL_step rfl (R_indexAddr Try.underlying54 Try.sizeOf4 rfl rfl (by omega) (by omega) idx0_cast) ?_
                refine WL_step rfl (R_load (v := .bool false) Try.isAgg4 rfl (H.get .here) ((bool_get hlk).trans (by rw [Bool.not_eq_true] at hfk; rw [hfk]))) ?_
                refine WL_step rfl (R_not_f rfl) ?_
                refine WL_nil ?_
                refine W_cond_t rfl ?_
                refine W_exit ?_
                refine (if_pos rfl).mpr ?_
                refine W_region_l ?_
                refine WL_stepM rfl (R_mv) ?_
                refine WL_step rfl (R_add rfl rfl (w_i64 (by omega))) ?_
                refine WL_stepM rfl (R_as) ?_
                refine WL_nil ?_
                (rw [f3_skip hfk] at H; exact ⟨k + 1, by omega, by omega, rfl, rfl, rfl, rfl, H⟩)
            · refine W_seq ?_
              refine W_seq ?_
              refine W_region_l ?_
              refine WL_stepM rfl (R_mv) ?_
              refine WL_stepM rfl (R_mv) ?_
              refine WL_step rfl (R_lt_f rfl rfl (by omega)) ?_
              refine WL_nil ?_
              refine W_cond_f rfl ?_
              refine W_exit ?_
              refine (if_pos rfl).mpr ?_
              refine W_seq ?_
              (obtain rfl : k = i := (by omega); refine W_region_l ?_)
              refine WL_stepM rfl (R_mv) ?_
              (refine WL_call rfl (R_call rfl Try.call27 rfl) (add_no (l := tab k (f3 k fs)) (H.get (.there (.there (.there .here)))) (H.get (.there (.there .here))) (tab_length _ _) (by omega) (tab_mem fun j _ => f3_g k fs j) (tab_mem fun j _ => f3_v k fs j) 7 f3_no) ?_; rintro _ w617 ⟨rfl, H1⟩; replace H := H.seq0 H1; clear H1)
              refine WL_stepM rfl (R_mv) ?_
              refine WL_step rfl (R_extract rfl rfl) ?_
              refine WL_step rfl (R_extract rfl rfl) ?_
              refine WL_stepM rfl (R_as) ?_
              refine WL_stepM rfl (R_as) ?_
              refine WL_nil ?_
              refine W_seq ?_
              refine W_region_l ?_
              refine WL_stepM rfl (R_mv) ?_
              refine WL_step rfl (R_not_f rfl) ?_
              refine WL_stepM rfl (R_mv) ?_
              refine WL_guard_t rfl rfl ?_
              refine WL_stepM rfl (R_mv) ?_
              refine WL_guard_t rfl rfl ?_
              (refine WL_call rfl (R_call rfl Try.call30 rfl) (len_ret (l := tab k (f3 k fs)) (H.get (.there (.there (.there .here)))) (H.get (.there (.there .here))) (tab_length _ _) (by omega) (tab_mem fun j _ => f3_g k fs j) (tab_mem fun j _ => f3_v k fs j)) ?_; rintro _ w632 ⟨rfl, H1⟩; rw [namesFrom_all _ _ f3_used, tab_length]; replace H := H.seq0 H1; clear H1)
              refine WL_guard_t rfl rfl ?_
              refine WL_stepM rfl (R_mv) ?_
              refine WL_guard_t rfl rfl ?_
              refine WL_step rfl (R_eq_t rfl rfl (by omega)) ?_
              refine WL_stepM rfl (R_pk_t rfl) ?_
              refine WL_stepM rfl (R_mv) ?_
              refine WL_guard_t rfl rfl ?_
              (refine WL_call rfl (R_call rfl Try.call31 rfl) (awake_ret _) ?_; rintro _ w640 ⟨rfl, H1⟩; replace H := H.seq0 H1; clear H1)
              refine WL_stepM rfl (R_pk_t rfl) ?_
              refine WL_stepM rfl (R_as) ?_
              refine WL_nil ?_
              refine W_ret ?_
              exact ⟨_, rfl, rfl, H.none (by repeat' first | exact kNil | apply kCons | apply kApp | assumption | exact OwnS.keys (by assumption))⟩
end Go.Proofs.Ytjkkfahjgaidbaa.Tab

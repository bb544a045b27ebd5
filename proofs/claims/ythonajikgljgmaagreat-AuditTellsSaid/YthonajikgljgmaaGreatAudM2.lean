/-
  What is sound of records: parents, references, ends.
-/
import Derived.Test.YthonajikgljgmaaGreatAudM1
namespace Go.Proofs.YthonajikgljgmaaGreat.Aud
open Go Go.Proofs Go.Proofs.YthonajikgljgmaaGreat.Fx
set_option maxRecDepth 100000
set_option linter.unusedVariables false
set_option linter.unusedSimpArgs false
set_option maxHeartbeats 8000000

def parB (xs : List UInt8) (j : Nat) : Bool := decide (0 < (pd xs j).p ∧ ((pd xs j).p = (j : Int) + 1 ∨ pis xs ((pd xs j).p - 1).toNat ≠ 1))
def refB (xs : List UInt8) (j : Nat) : Bool := decide (fis xs j = 1 ∧ (fd xs j).r ≠ nm xs j)
theorem any_false {n : Nat} {B : Nat → Bool} (h : ∀ j, j < n → B j = false) : (List.range n).any B = false := by
  rw [List.any_eq_false]; intro j hj; rw [h j (List.mem_range.1 hj)]; decide
theorem any_true {n i : Nat} {B : Nat → Bool} (hi : i < n) (h : B i = true) : (List.range n).any B = true := List.any_eq_true.2 ⟨i, List.mem_range.2 hi, h⟩
theorem posK {z m : Int} (h : 0 ≤ z ∧ z ≤ m) : z = 0 ∨ ∃ K : Nat, z = (K : Int) + 1 ∧ (K : Int) < m := by
  rcases (by omega : z = 0 ∨ 0 < z) with h1 | h1
  · exact .inl h1
  · exact .inr ⟨(z - 1).toNat, by omega, by omega⟩
theorem all_succ {i : Nat} {B : Nat → Bool} (h : ∀ j, j < i → B j = false) (hi : B i = false) : ∀ j, j < i + 1 → B j = false := fun j hj => by
  rcases Nat.lt_or_eq_of_le (Nat.lt_succ_iff.1 hj) with h1 | rfl
  · exact h j h1
  · exact hi
theorem ptail_len {w : World} {v : Value} {n : Nat} {vs : List Value} (h : RdS w v vs) (hn : vs.length = n) : ∃ ao ca, v = .slice ao n ca := by
  obtain ⟨ao, ca, rfl, _⟩ := h
  exact ⟨ao, ca, by rw [hn]⟩

theorem parent_ret {w : World} {xa : Nat} {xs : List UInt8} (hA : Al w xa xs) :
    Ret Tryz.prog 22 #[ptr xa 0] w fun v w' => v = .bool ((List.range 8).any (parB xs)) ∧ Hp w [] w' := by
  refine Ret_of_W (args := [_]) Tryz.func22 rfl Tryz.ntmps22 Tryz.results22 (by simp) ?_
  have H := Hp.refl w
  obtain ⟨p1, p2, f1, f2, q1, q2, t1, t2, g1, g2, hx, hp1, hp2, hf1, hf2, hq1, hq2, ht2, hg2⟩ := hA.ex
  obtain ⟨ap, cp, rfl⟩ := hp1.form
  simp only [List.length_map, recs_len] at hp1 hx ⊢
  refine W_seq ?_
  refine W_region_l ?_
  refine WL_stepM rfl (R_as) ?_
  refine WL_nil ?_
  refine W_seq ?_
  refine W_seq ?_
  refine W_region_l ?_
  refine WL_stepM rfl (R_mv) ?_
  refine WL_step rfl (R_nilCheck rfl) ?_
  refine WL_step rfl (R_fieldAddr (off' := 0) Tryz.underlying90 rfl Tryz.sizeOf80 (by decide) rfl rfl) ?_
  refine WL_step rfl (R_fieldAddr (off' := 0) Tryz.underlying80 rfl Tryz.sizeOf78 (by decide) rfl rfl) ?_
  refine WL_step rfl (R_load (v := .slice ap 8 cp) Tryz.isAgg78 rfl (H.blockN hx (by repeat' first | exact kNil | apply kCons | apply kApp | assumption | exact OwnS.keys (by assumption))) rfl) ?_
  refine WL_step rfl (R_len_slice Tryz.underlying78 rfl) ?_
  refine WL_stepM rfl (R_mv) ?_
  refine WL_nil ?_
  refine W_block ?_
  refine W_loopS [(2, 4), (11, 37)] (fun (i : Nat) E w' => i ≤ 8 ∧ E 11 = I i ∧ (∀ j, j < i → parB xs j = false) ∧ Hp w [] w') (fun i => 8 - i) 0 ?e0 ?r0
  · exact ⟨by omega, rfl, (fun j hj => absurd hj (Nat.not_lt_zero _)), H⟩
  · (clear H; rintro i E w1 ⟨hi, h11, hz, H⟩; refine W_kn h11 ?_)
    refine W_seq ?_
    refine W_region_l ?_
    refine WL_step rfl (R_lt rfl rfl) ?_
    refine WL_nil ?_
    refine W_seq ?_
    refine W_if rfl (fun h24 => ?_) (fun h24 => ?_)
    · refine W_skip ?_
      refine W_seq ?_
      refine W_block ?_
      refine W_seq ?_
      ((obtain ⟨b1, o1, rfl, hc1⟩ := hp1.cell Slot.piC_len (fst_get (show i < 8 by omega)); have hp : ∃ p : Slot.Pi, pd xs i = p := ⟨_, rfl⟩; obtain ⟨p, hp⟩ := hp; replace hc1 : ∀ j v, (Slot.piC p)[j]? = some v → w.cell? ⟨b1, o1 + i * 16 + j, none⟩ = some v := (by rw [← hp]; exact hc1); have hpp := pd_p xs i; rw [hp] at hpp; rcases posK hpp with hp0 | ⟨K, hK, hK8⟩)) <;> refine W_region_l ?_
      · refine WL_stepM rfl (R_mv) ?_
        refine WL_step rfl (R_indexAddr Tryz.underlying78 Tryz.sizeOf36 rfl rfl (by omega) (by omega) idx_castn) ?_
        refine WL_step rfl (R_loadA_cell (vs := Slot.piC p) Tryz.isAgg36 Tryz.sizeOf36 rfl (fun j v hj => H.cellN (hc1 j v hj) (by repeat' first | exact kNil | apply kCons | apply kApp | assumption | exact OwnS.keys (by assumption))) (Slot.piC_len p)) ?_
        (refine WL_effn rfl (Slot.E_allocP H) ?_; clear H; intro c4 w33 hc4 H)
        refine WL_stepM rfl (R_as) ?_
        (refine WL_effu rfl (Slot.E_storeP H rfl rfl .here) ?_; clear H; intro w35 H)
        refine WL_nil ?_
        refine W_seq ?_
        (refine W_drawH (fun _ => false) (by kernel_rfl) H ?_; clear H; intro w38 H)
        refine WA_take 0 rfl rfl rfl (by kernel_rfl) (by kernel_rfl) H (fun _ hC => R_fieldAddr (off' := 1) Tryz.underlying36 rfl Tryz.sizeOf3 (by decide) rfl rfl) ?_
        refine WA_take 1 rfl rfl rfl (by kernel_rfl) (by kernel_rfl) H (fun _ hC => R_load Tryz.isAgg3 rfl (hC.get .here) rfl) ?_
        refine WA_take 2 rfl rfl rfl (by kernel_rfl) (by kernel_rfl) H (fun _ hC => R_gt_f rfl rfl (by omega)) ?_
        refine WA_takeM 3 rfl rfl rfl (by kernel_rfl) (by kernel_rfl) H (fun _ hC => R_mv) ?_
        refine WA_pass 4 rfl rfl rfl (fun h => nomatch h) (by kernel_rfl) (by kernel_rfl) H ?_
        refine WA_pass 5 rfl rfl rfl (fun h => nomatch h) (by kernel_rfl) (by kernel_rfl) H ?_
        refine WA_pass 6 rfl rfl rfl (fun h => nomatch h) (by kernel_rfl) (by kernel_rfl) H ?_
        refine WA_pass 7 rfl rfl rfl (fun h => nomatch h) (by kernel_rfl) (by kernel_rfl) H ?_
        refine WA_pass 8 rfl rfl rfl (fun h => nomatch h) (by kernel_rfl) (by kernel_rfl) H ?_
        refine WA_pass 9 rfl rfl rfl (fun h => nomatch h) (by kernel_rfl) (by kernel_rfl) H ?_
        refine WA_pass 10 rfl rfl rfl (fun h => nomatch h) (by kernel_rfl) (by kernel_rfl) H ?_
        refine WA_pass 11 rfl rfl rfl (fun h => nomatch h) (by kernel_rfl) (by kernel_rfl) H ?_
        refine WA_pass 12 rfl rfl rfl (fun h => nomatch h) (by kernel_rfl) (by kernel_rfl) H ?_
        refine WA_pass 13 rfl rfl rfl (fun h => nomatch h) (by kernel_rfl) (by kernel_rfl) H ?_
        refine WA_pass 14 rfl rfl rfl (fun h => nomatch h) (by kernel_rfl) (by kernel_rfl) H ?_
        refine WA_pass 15 rfl rfl rfl (fun h => nomatch h) (by kernel_rfl) (by kernel_rfl) H ?_
        refine WA_pass 16 rfl rfl rfl (fun h => nomatch h) (by kernel_rfl) (by kernel_rfl) H ?_
        refine WA_pass 17 rfl rfl rfl (fun h => nomatch h) (by kernel_rfl) (by kernel_rfl) H ?_
        refine WA_pass 18 rfl rfl rfl (fun h => nomatch h) (by kernel_rfl) (by kernel_rfl) H ?_
        refine WA_pass 19 rfl rfl rfl (fun h => nomatch h) (by kernel_rfl) (by kernel_rfl) H ?_
        refine WA_takeM 20 rfl rfl rfl (by kernel_rfl) (by kernel_rfl) H (fun _ hC => R_pk_f rfl) ?_
        refine WA_done (by kernel_rfl) ?_
        refine W_cond_f rfl ?_
        refine W_skip ?_
        refine W_region_l ?_
        refine WL_step rfl (R_add rfl rfl (w_i64 (by omega))) ?_
        refine WL_stepM rfl (R_mv) ?_
        refine WL_nil ?_
        exact ⟨(same_mov rfl (same_updo rfl (same_mov rfl (same_updo rfl (same_updo rfl (same_updo rfl (same_updo rfl (same_updo rfl (same_updo rfl (same_updo rfl (same_updo rfl (same_updo rfl (same_updo rfl (same_updo rfl (same_updo rfl (same_updo rfl (same_updo rfl (same_updo rfl (same_updo rfl (same_mov rfl (same_updo rfl (same_updo rfl (same_updo rfl (same_updn (same_mov rfl (same_updo rfl (same_updo rfl (same_updo rfl (same_mov rfl (same_know rfl (same_updo rfl same_ovr))))))))))))))))))))))))))))))), i + 1, by omega, by omega, rfl, all_succ hz (by unfold parB; rw [hp, hp0]; simp), H.pop (by assumption)⟩
      · refine WL_stepM rfl (R_mv) ?_
        refine WL_step rfl (R_indexAddr Tryz.underlying78 Tryz.sizeOf36 rfl rfl (by omega) (by omega) idx_castn) ?_
        refine WL_step rfl (R_loadA_cell (vs := Slot.piC p) Tryz.isAgg36 Tryz.sizeOf36 rfl (fun j v hj => H.cellN (hc1 j v hj) (by repeat' first | exact kNil | apply kCons | apply kApp | assumption | exact OwnS.keys (by assumption))) (Slot.piC_len p)) ?_
        (refine WL_effn rfl (Slot.E_allocP H) ?_; clear H; intro c4 w71 hc4 H)
        refine WL_stepM rfl (R_as) ?_
        (refine WL_effu rfl (Slot.E_storeP H rfl rfl .here) ?_; clear H; intro w73 H)
        refine WL_nil ?_
        refine W_seq ?_
        (refine W_drawH (fun _ => false) (by kernel_rfl) H ?_; clear H; intro w76 H)
        refine WA_take 0 rfl rfl rfl (by kernel_rfl) (by kernel_rfl) H (fun _ hC => R_fieldAddr (off' := 1) Tryz.underlying36 rfl Tryz.sizeOf3 (by decide) rfl rfl) ?_
        refine WA_take 1 rfl rfl rfl (by kernel_rfl) (by kernel_rfl) H (fun _ hC => R_load Tryz.isAgg3 rfl (hC.get .here) rfl) ?_
        refine WA_take 2 rfl rfl rfl (by kernel_rfl) (by kernel_rfl) H (fun _ hC => R_gt_t rfl rfl (by omega)) ?_
        refine WA_takeM 3 rfl rfl rfl (by kernel_rfl) (by kernel_rfl) H (fun _ hC => R_mv) ?_
        refine WA_takeG 4 rfl rfl rfl rfl (by kernel_rfl) (by kernel_rfl) H (fun _ hC => R_fieldAddr (off' := 1) Tryz.underlying36 rfl Tryz.sizeOf3 (by decide) rfl rfl) ?_
        refine WA_takeG 5 rfl rfl rfl rfl (by kernel_rfl) (by kernel_rfl) H (fun _ hC => R_load Tryz.isAgg3 rfl (hC.get .here) rfl) ?_
        refine WA_takeGM 6 rfl rfl rfl rfl (by kernel_rfl) (by kernel_rfl) H (fun _ hC => R_mv) ?_
        refine WA_takeG 7 rfl rfl rfl rfl (by kernel_rfl) (by kernel_rfl) H (fun _ hC => R_add rfl rfl (w_i64 (by omega))) ?_
        refine WA_takeG 8 rfl rfl rfl rfl (by kernel_rfl) (by kernel_rfl) H (fun _ hC => R_eq rfl rfl) ?_
        refine WA_takeGM 9 rfl rfl rfl rfl (by kernel_rfl) (by kernel_rfl) H (fun _ hC => R_mv) ?_
        refine WA_if 25 rfl (fun h87 => ?_) (fun h87 => ?_)
        · refine WA_pass 10 rfl rfl rfl (fun h => nomatch h) (by kernel_rfl) (by kernel_rfl) H ?_
          refine WA_pass 11 rfl rfl rfl (fun h => nomatch h) (by kernel_rfl) (by kernel_rfl) H ?_
          refine WA_pass 12 rfl rfl rfl (fun h => nomatch h) (by kernel_rfl) (by kernel_rfl) H ?_
          refine WA_pass 13 rfl rfl rfl (fun h => nomatch h) (by kernel_rfl) (by kernel_rfl) H ?_
          refine WA_pass 14 rfl rfl rfl (fun h => nomatch h) (by kernel_rfl) (by kernel_rfl) H ?_
          refine WA_pass 15 rfl rfl rfl (fun h => nomatch h) (by kernel_rfl) (by kernel_rfl) H ?_
          refine WA_pass 16 rfl rfl rfl (fun h => nomatch h) (by kernel_rfl) (by kernel_rfl) H ?_
          refine WA_pass 17 rfl rfl rfl (fun h => nomatch h) (by kernel_rfl) (by kernel_rfl) H ?_
          refine WA_pass 18 rfl rfl rfl (fun h => nomatch h) (by kernel_rfl) (by kernel_rfl) H ?_
          refine WA_takeGM 19 rfl rfl rfl rfl (by kernel_rfl) (by kernel_rfl) H (fun _ hC => R_pk_t rfl) ?_
          refine WA_takeM 20 rfl rfl rfl (by kernel_rfl) (by kernel_rfl) H (fun _ hC => R_pk_t rfl) ?_
          refine WA_done (by kernel_rfl) ?_
          refine W_cond_t rfl ?_
          refine W_seq ?_
          refine W_region_l ?_
          refine WL_stepM rfl (R_as) ?_
          refine WL_nil ?_
          refine W_ret ?_
          exact ⟨_, rfl, congrArg Value.bool (any_true (i := i) (by omega) (by unfold parB; rw [hp, hK, Int.add_sub_cancel, Int.toNat_natCast]; exact decide_eq_true (by omega))).symm, H.none (by repeat' first | exact kNil | apply kCons | apply kApp | assumption | exact OwnS.keys (by assumption))⟩
        · refine WA_takeGM 10 rfl rfl rfl rfl (by kernel_rfl) (by kernel_rfl) H (fun _ hC => R_mv) ?_
          refine WA_takeG 11 rfl rfl rfl rfl (by kernel_rfl) (by kernel_rfl) H (fun _ hC => R_nilCheck rfl) ?_
          refine WA_takeG 12 rfl rfl rfl rfl (by kernel_rfl) (by kernel_rfl) H (fun _ hC => R_fieldAddr (off' := 0) Tryz.underlying90 rfl Tryz.sizeOf80 (by decide) rfl rfl) ?_
          refine WA_takeG 13 rfl rfl rfl rfl (by kernel_rfl) (by kernel_rfl) H (fun _ hC => R_loadA Tryz.isAgg80 Tryz.sizeOf80 rfl (hC.blockN hx (by repeat' first | exact kNil | apply kCons | apply kApp | assumption | exact OwnS.keys (by assumption))) rfl (by simp)) ?_
          refine WA_takeG 14 rfl rfl rfl rfl (by kernel_rfl) (by kernel_rfl) H (fun _ hC => R_fieldAddr (off' := 1) Tryz.underlying36 rfl Tryz.sizeOf3 (by decide) rfl rfl) ?_
          refine WA_takeG 15 rfl rfl rfl rfl (by kernel_rfl) (by kernel_rfl) H (fun _ hC => R_load Tryz.isAgg3 rfl (hC.get .here) rfl) ?_
          refine WA_takeG 16 rfl rfl rfl rfl (by kernel_rfl) (by kernel_rfl) H (fun _ hC => R_sub (r := (K : Int)) rfl rfl (by rw [w_i64 (by omega)]; omega)) ?_
          refine WA_one (i := 17) (by kernel_rfl) ?_
          (refine WI_call rfl (.inr ⟨_, _, rfl, rfl⟩) (R_call rfl Tryz.call49 rfl) (thereP_ret (hp2.monoN H (by repeat' first | exact kNil | apply kCons | apply kApp | assumption | exact OwnS.keys (by assumption))) (ns_get (j := K) (by omega)) (by rw [ns_len]; decide)) (fun _ _ hR _ => H.seq0 hR.2) ?_; rintro _ w115 ⟨rfl, H1⟩; replace H := H.seq0 H1; clear H1; obtain ⟨z, hz1⟩ : ∃ z, pis xs K = z := ⟨_, rfl⟩; rw [show (Slot.decP (win xs (0 + 24 * K) 24)).2 = z from hz1])
          refine WA_takeG 18 rfl rfl rfl rfl (by kernel_rfl) (by kernel_rfl) H (fun _ hC => R_not_d rfl) ?_
          refine WA_takeGM 19 rfl rfl rfl rfl (by kernel_rfl) (by kernel_rfl) H (fun _ hC => R_pk_f rfl) ?_
          refine WA_takeM 20 rfl rfl rfl (by kernel_rfl) (by kernel_rfl) H (fun _ hC => R_pk_t rfl) ?_
          refine WA_done (by kernel_rfl) ?_
          refine W_if rfl (fun h120 => ?_) (fun h120 => ?_)
          · refine W_seq ?_
            refine W_region_l ?_
            refine WL_stepM rfl (R_as) ?_
            refine WL_nil ?_
            refine W_ret ?_
            exact ⟨_, rfl, congrArg Value.bool (any_true (i := i) (by omega) (by unfold parB; rw [hp, hK, Int.add_sub_cancel, Int.toNat_natCast]; exact decide_eq_true (by omega))).symm, H.none (by repeat' first | exact kNil | apply kCons | apply kApp | assumption | exact OwnS.keys (by assumption))⟩
          · refine W_skip ?_
            refine W_region_l ?_
            refine WL_step rfl (R_add rfl rfl (w_i64 (by omega))) ?_
            refine WL_stepM rfl (R_mv) ?_
            refine WL_nil ?_
            exact ⟨(same_mov rfl (same_updo rfl (same_know rfl (same_mov rfl (same_mov rfl (same_updo rfl (same_updo rfl (same_updo rfl (same_updo rfl (same_updo rfl (same_updo rfl (same_updo rfl (same_updo rfl (same_mov rfl (same_know rfl (same_mov rfl (same_updo rfl (same_updo rfl (same_mov rfl (same_updo rfl (same_updo rfl (same_mov rfl (same_updo rfl (same_updo rfl (same_updo rfl (same_updn (same_mov rfl (same_updo rfl (same_updo rfl (same_updo rfl (same_mov rfl (same_know rfl (same_updo rfl same_ovr))))))))))))))))))))))))))))))))), i + 1, by omega, by omega, rfl, all_succ hz (by unfold parB; rw [hp, hK, Int.add_sub_cancel, Int.toNat_natCast, hz1]; exact decide_eq_false (by omega)), H.pop (by assumption)⟩
    · refine W_exit ?_
      refine (if_pos rfl).mpr ?_
      refine W_seq ?_
      refine W_region_l ?_
      refine WL_stepM rfl (R_as) ?_
      refine WL_nil ?_
      refine W_ret ?_
      exact ⟨_, rfl, congrArg Value.bool (any_false (fun j hj => hz j (by omega))).symm, H⟩

theorem refs_ret {w : World} {xa : Nat} {xs : List UInt8} (hA : Al w xa xs) :
    Ret Tryz.prog 24 #[ptr xa 0] w fun v w' => v = .bool ((List.range 12).any (refB xs)) ∧ Hp w [] w' := by
  refine Ret_of_W (args := [_]) Tryz.func24 rfl Tryz.ntmps24 Tryz.results24 (by simp) ?_
  have H := Hp.refl w
  obtain ⟨p1, p2, f1, f2, q1, q2, t1, t2, g1, g2, hx, hp1, hp2, hf1, hf2, hq1, hq2, ht2, hg2⟩ := hA.ex
  obtain ⟨ap, cp, rfl⟩ := hf1.form
  simp only [List.length_map, recs_len] at hf1 hx ⊢
  refine W_seq ?_
  refine W_region_l ?_
  refine WL_stepM rfl (R_as) ?_
  refine WL_nil ?_
  refine W_seq ?_
  refine W_seq ?_
  refine W_region_l ?_
  refine WL_stepM rfl (R_mv) ?_
  refine WL_step rfl (R_nilCheck rfl) ?_
  refine WL_step rfl (R_fieldAddr (off' := 2) Tryz.underlying90 rfl Tryz.sizeOf83 (by decide) rfl rfl) ?_
  refine WL_step rfl (R_fieldAddr (off' := 2) Tryz.underlying83 rfl Tryz.sizeOf81 (by decide) rfl rfl) ?_
  refine WL_step rfl (R_load (v := .slice ap 12 cp) Tryz.isAgg81 rfl (H.blockN hx (by repeat' first | exact kNil | apply kCons | apply kApp | assumption | exact OwnS.keys (by assumption))) rfl) ?_
  refine WL_step rfl (R_len_slice Tryz.underlying81 rfl) ?_
  refine WL_stepM rfl (R_mv) ?_
  refine WL_nil ?_
  refine W_block ?_
  refine W_loopS [(2, 4), (11, 30)] (fun (i : Nat) E w' => i ≤ 12 ∧ E 11 = I i ∧ (∀ j, j < i → refB xs j = false) ∧ Hp w [] w') (fun i => 12 - i) 0 ?e0 ?r0
  · exact ⟨by omega, rfl, (fun j hj => absurd hj (Nat.not_lt_zero _)), H⟩
  · (clear H; rintro i E w1 ⟨hi, h11, hz, H⟩; refine W_kn h11 ?_)
    refine W_seq ?_
    refine W_region_l ?_
    refine WL_step rfl (R_lt rfl rfl) ?_
    refine WL_nil ?_
    refine W_seq ?_
    refine W_if rfl (fun h24 => ?_) (fun h24 => ?_)
    · refine W_skip ?_
      refine W_seq ?_
      refine W_block ?_
      refine W_seq ?_
      ((obtain ⟨b1, o1, rfl, hc1⟩ := hf1.cell File.fl_len (fst_get (show i < 12 by omega)); have hp : ∃ p : File.Fl, fd xs i = p := ⟨_, rfl⟩; obtain ⟨p, hp⟩ := hp; replace hc1 : ∀ j v, (File.flC p)[j]? = some v → w.cell? ⟨b1, o1 + i * 4 + j, none⟩ = some v := (by rw [← hp]; exact hc1); obtain ⟨z, hz1⟩ : ∃ z, fis xs i = z := ⟨_, rfl⟩)) <;> refine W_region_l ?_
      refine WL_stepM rfl (R_mv) ?_
      refine WL_step rfl (R_indexAddr Tryz.underlying81 Tryz.sizeOf39 rfl rfl (by omega) (by omega) idx_castn) ?_
      refine WL_step rfl (R_loadA_cell (vs := File.flC p) Tryz.isAgg39 Tryz.sizeOf39 rfl (fun j v hj => H.cellN (hc1 j v hj) (by repeat' first | exact kNil | apply kCons | apply kApp | assumption | exact OwnS.keys (by assumption))) (File.fl_len p)) ?_
      (refine WL_effn rfl (File.E_allocL H) ?_; clear H; intro c4 w33 hc4 H)
      refine WL_stepM rfl (R_as) ?_
      (refine WL_effu rfl (File.E_storeL H rfl rfl .here) ?_; clear H; intro w35 H; replace H : Hp w [(c4, blk [I p.k, I p.p, I p.r, I p.g] 39)] w35 := H)
      refine WL_nil ?_
      refine W_seq ?_
      (refine W_drawH (fun _ => false) (by kernel_rfl) H ?_; clear H; intro w38 H)
      refine WA_takeM 0 rfl rfl rfl (by kernel_rfl) (by kernel_rfl) H (fun _ hC => R_mv) ?_
      refine WA_take 1 rfl rfl rfl (by kernel_rfl) (by kernel_rfl) H (fun _ hC => R_nilCheck rfl) ?_
      refine WA_take 2 rfl rfl rfl (by kernel_rfl) (by kernel_rfl) H (fun _ hC => R_fieldAddr (off' := 2) Tryz.underlying90 rfl Tryz.sizeOf83 (by decide) rfl rfl) ?_
      refine WA_take 3 rfl rfl rfl (by kernel_rfl) (by kernel_rfl) H (fun _ hC => R_loadA Tryz.isAgg83 Tryz.sizeOf83 rfl (hC.blockN hx (by repeat' first | exact kNil | apply kCons | apply kApp | assumption | exact OwnS.keys (by assumption))) rfl (by simp)) ?_
      refine WA_takeM 4 rfl rfl rfl (by kernel_rfl) (by kernel_rfl) H (fun _ hC => R_mv) ?_
      refine WA_one (i := 5) (by kernel_rfl) ?_
      (refine WI_call rfl (.inl rfl) (R_call rfl Tryz.call54 rfl) (show Ret Tryz.prog 54 #[.agg #[sl b1 o1 12 cp, f2], I i] _ (fun v w' => v = .bool (decide (z = 1)) ∧ Hp _ [] w') from by rw [← hz1]; exact thereF_ret (hf2.monoN H (by repeat' first | exact kNil | apply kCons | apply kApp | assumption | exact OwnS.keys (by assumption))) (ns_get (j := i) (by omega)) (by rw [ns_len]; decide)) (fun _ _ hR _ => H.seq0 hR.2) ?_; rintro _ w45 ⟨rfl, H1⟩; replace H := H.seq0 H1; clear H1)
      refine WA_takeM 6 rfl rfl rfl (by kernel_rfl) (by kernel_rfl) H (fun _ hC => R_mv) ?_
      refine WA_if 22 rfl (fun h47 => ?_) (fun h47 => ?_)
      · refine WA_takeG 7 rfl rfl rfl rfl (by kernel_rfl) (by kernel_rfl) H (fun _ hC => R_fieldAddr (off' := 2) Tryz.underlying39 rfl Tryz.sizeOf3 (by decide) rfl rfl) ?_
        refine WA_takeG 8 rfl rfl rfl rfl (by kernel_rfl) (by kernel_rfl) H (fun _ hC => R_load Tryz.isAgg3 rfl (hC.get .here) rfl) ?_
        refine WA_takeGM 9 rfl rfl rfl rfl (by kernel_rfl) (by kernel_rfl) H (fun _ hC => R_mv) ?_
        refine WA_takeGM 10 rfl rfl rfl rfl (by kernel_rfl) (by kernel_rfl) H (fun _ hC => R_mv) ?_
        refine WA_one (i := 11) (by kernel_rfl) ?_
        (refine WI_call rfl (.inr ⟨_, _, rfl, rfl⟩) (R_call rfl Tryz.call55 rfl) (names_ret (hA.monoN H (by repeat' first | exact kNil | apply kCons | apply kApp | assumption | exact OwnS.keys (by assumption))) i (by omega)) (fun _ _ hR _ => H.seq0 hR.2) ?_; rintro _ w53 ⟨rfl, H1⟩; replace H := H.seq0 H1; clear H1)
        refine WA_takeG 12 rfl rfl rfl rfl (by kernel_rfl) (by kernel_rfl) H (fun _ hC => R_ne rfl rfl) ?_
        refine WA_takeM 13 rfl rfl rfl (by kernel_rfl) (by kernel_rfl) H (fun _ hC => R_pk_t rfl) ?_
        refine WA_done (by kernel_rfl) ?_
        refine W_if rfl (fun h57 => ?_) (fun h57 => ?_)
        · refine W_seq ?_
          refine W_region_l ?_
          refine WL_stepM rfl (R_as) ?_
          refine WL_nil ?_
          refine W_ret ?_
          exact ⟨_, rfl, congrArg Value.bool (any_true (i := i) (by omega) (by unfold refB; rw [hp, hz1]; exact decide_eq_true (by omega))).symm, H.none (by repeat' first | exact kNil | apply kCons | apply kApp | assumption | exact OwnS.keys (by assumption))⟩
        · refine W_skip ?_
          refine W_region_l ?_
          refine WL_step rfl (R_add rfl rfl (w_i64 (by omega))) ?_
          refine WL_stepM rfl (R_mv) ?_
          refine WL_nil ?_
          exact ⟨(same_mov rfl (same_updo rfl (same_know rfl (same_mov rfl (same_updo rfl (same_updo rfl (same_mov rfl (same_mov rfl (same_updo rfl (same_updo rfl (same_know rfl (same_mov rfl (same_updo rfl (same_mov rfl (same_updo rfl (same_updo rfl (same_updo rfl (same_mov rfl (same_updn (same_mov rfl (same_updo rfl (same_updo rfl (same_updo rfl (same_mov rfl (same_know rfl (same_updo rfl same_ovr)))))))))))))))))))))))))), i + 1, by omega, by omega, rfl, all_succ hz (by unfold refB; rw [hp, hz1]; exact decide_eq_false (by omega)), H.pop (by assumption)⟩
      · refine WA_pass 7 rfl rfl rfl (fun h => nomatch h) (by kernel_rfl) (by kernel_rfl) H ?_
        refine WA_pass 8 rfl rfl rfl (fun h => nomatch h) (by kernel_rfl) (by kernel_rfl) H ?_
        refine WA_pass 9 rfl rfl rfl (fun h => nomatch h) (by kernel_rfl) (by kernel_rfl) H ?_
        refine WA_pass 10 rfl rfl rfl (fun h => nomatch h) (by kernel_rfl) (by kernel_rfl) H ?_
        refine WA_pass 11 rfl rfl rfl (fun h => nomatch h) (by kernel_rfl) (by kernel_rfl) H ?_
        refine WA_pass 12 rfl rfl rfl (fun h => nomatch h) (by kernel_rfl) (by kernel_rfl) H ?_
        refine WA_takeM 13 rfl rfl rfl (by kernel_rfl) (by kernel_rfl) H (fun _ hC => R_pk_f rfl) ?_
        refine WA_done (by kernel_rfl) ?_
        refine W_cond_f rfl ?_
        refine W_skip ?_
        refine W_region_l ?_
        refine WL_step rfl (R_add rfl rfl (w_i64 (by omega))) ?_
        refine WL_stepM rfl (R_mv) ?_
        refine WL_nil ?_
        exact ⟨(same_mov rfl (same_updo rfl (same_mov rfl (same_updo rfl (same_updo rfl (same_updo rfl (same_updo rfl (same_updo rfl (same_updo rfl (same_know rfl (same_mov rfl (same_updo rfl (same_mov rfl (same_updo rfl (same_updo rfl (same_updo rfl (same_mov rfl (same_updn (same_mov rfl (same_updo rfl (same_updo rfl (same_updo rfl (same_mov rfl (same_know rfl (same_updo rfl same_ovr))))))))))))))))))))))))), i + 1, by omega, by omega, rfl, all_succ hz (by unfold refB; rw [hp, hz1]; exact decide_eq_false (by omega)), H.pop (by assumption)⟩
    · refine W_exit ?_
      refine (if_pos rfl).mpr ?_
      refine W_seq ?_
      refine W_region_l ?_
      refine WL_stepM rfl (R_as) ?_
      refine WL_nil ?_
      refine W_ret ?_
      exact ⟨_, rfl, congrArg Value.bool (any_false (fun j hj => hz j (by omega))).symm, H⟩

/-- how many files read, or write, a pipe -/
def endN (xs : List UInt8) (i : Nat) (k : Bool) (n : Nat) : Nat := ((List.range n).filter fun j => decide (ownF (fd xs j) ∧ (fd xs j).p = (i : Int)) && (decide ((fd xs j).k = 1) == k)).length
theorem endN_yes {xs : List UInt8} {i n : Nat} {k : Bool} (h1 : ownF (fd xs n)) (h2 : (fd xs n).p = (i : Int)) (h3 : decide ((fd xs n).k = 1) = k) : endN xs i k (n + 1) = endN xs i k n + 1 := by
  unfold endN
  rw [List.range_succ, List.filter_append, List.length_append, List.filter_cons_of_pos (by simp [h1, h2, h3])]; rfl
theorem endN_no {xs : List UInt8} {i n : Nat} {k : Bool} (h : ¬ (ownF (fd xs n) ∧ (fd xs n).p = (i : Int)) ∨ decide ((fd xs n).k = 1) ≠ k) : endN xs i k (n + 1) = endN xs i k n := by
  unfold endN
  rw [List.range_succ, List.filter_append, List.length_append, List.filter_cons_of_neg (by rcases h with h | h; simp [h]; simp [h])]; rfl
theorem endN_le (xs : List UInt8) (i n : Nat) (k : Bool) : endN xs i k n ≤ n := by
  unfold endN; refine Nat.le_trans (List.length_filter_le ..) ?_; simp
def endB (xs : List UInt8) (i : Nat) : Bool := decide (qis xs i = 1 ∧ ((qd xs i).r ≠ endN xs i true 12 ∨ (qd xs i).w ≠ endN xs i false 12 ∨ endN xs i true 12 + endN xs i false 12 = 0))
theorem ends_ret {w : World} {xa : Nat} {xs : List UInt8} (hA : Al w xa xs) :
    Ret Tryz.prog 26 #[ptr xa 0] w fun v w' => v = .bool ((List.range 4).any (endB xs)) ∧ Hp w [] w' := by
  refine Ret_of_W (args := [_]) Tryz.func26 rfl Tryz.ntmps26 Tryz.results26 (by simp) ?_
  have H := Hp.refl w
  obtain ⟨p1, p2, f1, f2, q1, q2, t1, t2, g1, g2, hx, hp1, hp2, hf1, hf2, hq1, hq2, ht2, hg2⟩ := hA.ex
  obtain ⟨ap, cp, rfl⟩ := hf1.form
  obtain ⟨aq, cq, rfl⟩ := hq1.form
  simp only [List.length_map, recs_len] at hf1 hq1 hx ⊢
  refine W_seq ?_
  refine W_region_l ?_
  refine WL_stepM rfl (R_as) ?_
  refine WL_nil ?_
  refine W_seq ?_
  refine W_seq ?_
  refine W_region_l ?_
  refine WL_stepM rfl (R_mv) ?_
  refine WL_step rfl (R_nilCheck rfl) ?_
  refine WL_step rfl (R_fieldAddr (off' := 4) Tryz.underlying90 rfl Tryz.sizeOf86 (by decide) rfl rfl) ?_
  refine WL_step rfl (R_fieldAddr (off' := 4) Tryz.underlying86 rfl Tryz.sizeOf84 (by decide) rfl rfl) ?_
  refine WL_step rfl (R_load (v := .slice aq 4 cq) Tryz.isAgg84 rfl (H.blockN hx (by repeat' first | exact kNil | apply kCons | apply kApp | assumption | exact OwnS.keys (by assumption))) rfl) ?_
  refine WL_step rfl (R_len_slice Tryz.underlying84 rfl) ?_
  refine WL_stepM rfl (R_mv) ?_
  refine WL_nil ?_
  refine W_block ?_
  refine W_loopS [(2, 6), (8, 8), (15, 73)] (fun (i : Nat) E w' => i ≤ 4 ∧ E 15 = I i ∧ (∀ j, j < i → endB xs j = false) ∧ Hp w [] w') (fun i => 4 - i) 0 ?e0 ?r0
  · exact ⟨by omega, rfl, (fun j hj => absurd hj (Nat.not_lt_zero _)), H⟩
  · (clear H; rintro i E w1 ⟨hi, h15, hz, H⟩; refine W_kn h15 ?_)
    refine W_seq ?_
    refine W_region_l ?_
    refine WL_step rfl (R_lt rfl rfl) ?_
    refine WL_nil ?_
    refine W_seq ?_
    refine W_if rfl (fun h24 => ?_) (fun h24 => ?_)
    · refine W_skip ?_
      refine W_seq ?_
      refine W_block ?_
      refine W_seq ?_
      ((obtain ⟨b1, o1, rfl, hc1⟩ := hq1.cell Ring.piC_len (fst_get (show i < 4 by omega)); have hp : ∃ p : Ring.Pi, qd xs i = p := ⟨_, rfl⟩; obtain ⟨p, hp⟩ := hp; replace hc1 : ∀ j v, (Ring.piC p)[j]? = some v → w.cell? ⟨b1, o1 + i * 36 + j, none⟩ = some v := (by rw [← hp]; exact hc1); obtain ⟨z, hz1⟩ : ∃ z, qis xs i = z := ⟨_, rfl⟩)) <;> refine W_region_l ?_
      refine WL_stepM rfl (R_mv) ?_
      refine WL_step rfl (R_indexAddr Tryz.underlying84 Tryz.sizeOf43 rfl rfl (by omega) (by omega) idx_castn) ?_
      refine WL_step rfl (R_loadA_cell (vs := Ring.piC p) Tryz.isAgg43 Tryz.sizeOf43 rfl (fun j v hj => H.cellN (hc1 j v hj) (by repeat' first | exact kNil | apply kCons | apply kApp | assumption | exact OwnS.keys (by assumption))) (Ring.piC_len p)) ?_
      (refine WL_effn rfl (Ring.E_allocP H) ?_; clear H; intro c4 w33 hc4 H)
      refine WL_stepM rfl (R_as) ?_
      (refine WL_effu rfl (Ring.E_storeP H rfl rfl .here) ?_; clear H; intro w35 H)
      refine WL_nil ?_
      refine W_seq ?_
      refine W_region_l ?_
      refine WL_stepM rfl (R_as) ?_
      refine WL_stepM rfl (R_as) ?_
      refine WL_nil ?_
      refine W_seq ?_
      refine W_seq ?_
      refine W_region_l ?_
      refine WL_stepM rfl (R_mv) ?_
      refine WL_step rfl (R_nilCheck rfl) ?_
      refine WL_step rfl (R_fieldAddr (off' := 2) Tryz.underlying90 rfl Tryz.sizeOf83 (by decide) rfl rfl) ?_
      refine WL_step rfl (R_fieldAddr (off' := 2) Tryz.underlying83 rfl Tryz.sizeOf81 (by decide) rfl rfl) ?_
      refine WL_step rfl (R_load (v := .slice ap 12 cp) Tryz.isAgg81 rfl (H.blockN hx (by repeat' first | exact kNil | apply kCons | apply kApp | assumption | exact OwnS.keys (by assumption))) rfl) ?_
      refine WL_step rfl (R_len_slice Tryz.underlying81 rfl) ?_
      refine WL_stepM rfl (R_mv) ?_
      refine WL_nil ?_
      refine W_block ?_
      refine W_loopS [(5, 6), (8, 8), (26, 48)] (fun (k : Nat) E w' => k ≤ 12 ∧ E 26 = I k ∧ E 5 = I (endN xs i true k) ∧ E 6 = I (endN xs i false k) ∧ Hp w [(c4, blk (Ring.piC p) 43)] w') (fun k => 12 - k) 0 ?e2 ?r2
      · exact ⟨by omega, rfl, rfl, rfl, H⟩
      · (clear H; rintro k E w1 ⟨hk, h26, h5, h6, H⟩; have hn1 := endN_le xs i k true; have hn2 := endN_le xs i k false; refine W_kn3 h26 h5 h6 ?_)
        refine W_seq ?_
        refine W_region_l ?_
        refine WL_step rfl (R_lt rfl rfl) ?_
        refine WL_nil ?_
        refine W_seq ?_
        refine W_if rfl (fun h61 => ?_) (fun h61 => ?_)
        · refine W_skip ?_
          refine W_seq ?_
          refine W_block ?_
          refine W_seq ?_
          ((obtain ⟨b2, o2, rfl, hc2⟩ := hf1.cell File.fl_len (fst_get (show k < 12 by omega)); have hq : ∃ q : File.Fl, fd xs k = q := ⟨_, rfl⟩; obtain ⟨q, hq⟩ := hq; replace hc2 : ∀ j v, (File.flC q)[j]? = some v → w.cell? ⟨b2, o2 + k * 4 + j, none⟩ = some v := (by rw [← hq]; exact hc2); rcases Classical.em (ownF q) with hown | hown <;> rcases Classical.em (q.p = (i : Int)) with hqp | hqp)) <;> refine W_region_l ?_
          · refine WL_step rfl (R_indexAddr Tryz.underlying81 Tryz.sizeOf39 rfl rfl (by omega) (by omega) idx_castn) ?_
            refine WL_step rfl (R_loadA_cell (vs := File.flC q) Tryz.isAgg39 Tryz.sizeOf39 rfl (fun j v hj => H.cellN (hc2 j v hj) (by repeat' first | exact kNil | apply kCons | apply kApp | assumption | exact OwnS.keys (by assumption))) (File.fl_len q)) ?_
            (refine WL_effn rfl (File.E_allocL H) ?_; clear H; intro c8 w69 hc8 H)
            (refine WL_effu rfl (File.E_storeL H rfl rfl .here) ?_; clear H; intro w70 H; replace H : Hp w [(c8, blk [I q.k, I q.p, I q.r, I q.g] 39), (c4, blk (Ring.piC p) 43)] w70 := H)
            refine WL_nil ?_
            refine W_block ?_
            refine W_seq ?_
            refine W_region_l ?_
            refine WL_step rfl (File.R_loadL (p := q) rfl (H.get .here)) ?_
            (refine WL_call rfl (R_call rfl Tryz.call58 rfl) (own_ret q _) ?_; rintro _ w76 ⟨rfl, H1⟩; rw [decide_eq_true hown]; replace H := H.seq0 H1; clear H1)
            refine WL_step rfl (R_not_t rfl) ?_
            refine WL_stepM rfl (R_mv) ?_
            refine WL_guard_t rfl rfl ?_
            refine WL_step rfl (R_fieldAddr (off' := 1) Tryz.underlying39 rfl Tryz.sizeOf3 (by decide) rfl rfl) ?_
            refine WL_guard_t rfl rfl ?_
            refine WL_step rfl (R_load Tryz.isAgg3 rfl (H.get .here) rfl) ?_
            refine WL_guard_t rfl rfl ?_
            refine WL_stepM rfl (R_mv) ?_
            refine WL_guard_t rfl rfl ?_
            refine WL_step rfl (R_ne_f rfl rfl (by omega)) ?_
            refine WL_stepM rfl (R_pk_f rfl) ?_
            refine WL_stepM rfl (R_as) ?_
            refine WL_nil ?_
            refine W_cond_f rfl ?_
            refine W_seq ?_
            refine W_region_l ?_
            refine WL_step rfl (R_fieldAddr (off' := 0) Tryz.underlying39 rfl Tryz.sizeOf3 (by decide) rfl rfl) ?_
            refine WL_step rfl (R_load Tryz.isAgg3 rfl (H.get .here) rfl) ?_
            refine WL_step rfl (R_eq rfl rfl) ?_
            refine WL_stepM rfl (R_as) ?_
            refine WL_nil ?_
            refine W_if rfl (fun h98 => ?_) (fun h98 => ?_)
            · refine W_region_l ?_
              refine WL_stepM rfl (R_mv) ?_
              refine WL_step rfl (R_add rfl rfl (w_i64 (by omega))) ?_
              refine WL_stepM rfl (R_as) ?_
              refine WL_nil ?_
              refine W_region_l ?_
              refine WL_step rfl (R_add rfl rfl (w_i64 (by omega))) ?_
              refine WL_stepM rfl (R_mv) ?_
              refine WL_nil ?_
              (have e1 : endN xs i true (k + 1) = endN xs i true k + 1 := endN_yes (by rw [hq]; exact hown) (by rw [hq]; exact hqp) (by rw [hq]; exact decide_eq_true (by omega)); have e2 : endN xs i false (k + 1) = endN xs i false k := endN_no (.inr (by rw [hq, decide_eq_true (by omega)]; decide)); exact ⟨(same_mov rfl (same_updo rfl (same_mov rfl (same_updo rfl (same_mov rfl (same_know rfl (same_mov rfl (same_updo rfl (same_updo rfl (same_updo rfl (same_mov rfl (same_mov rfl (same_updo rfl (same_mov rfl (same_updo rfl (same_updo rfl (same_mov rfl (same_updo rfl (same_updo rfl (same_updo rfl (same_updn (same_updo rfl (same_updo rfl (same_updo rfl (same_know rfl (same_updo rfl same_ovr)))))))))))))))))))))))))), k + 1, by omega, by omega, rfl, (by rw [e1]; exact congrArg (Value.int .i64) (by omega)), (by rw [e2]; rfl), H.pop (by assumption)⟩)
            · refine W_region_l ?_
              refine WL_stepM rfl (R_mv) ?_
              refine WL_step rfl (R_add rfl rfl (w_i64 (by omega))) ?_
              refine WL_stepM rfl (R_as) ?_
              refine WL_nil ?_
              refine W_region_l ?_
              refine WL_step rfl (R_add rfl rfl (w_i64 (by omega))) ?_
              refine WL_stepM rfl (R_mv) ?_
              refine WL_nil ?_
              (have e1 : endN xs i true (k + 1) = endN xs i true k := endN_no (.inr (by rw [hq, decide_eq_false (by omega)]; decide)); have e2 : endN xs i false (k + 1) = endN xs i false k + 1 := endN_yes (by rw [hq]; exact hown) (by rw [hq]; exact hqp) (by rw [hq]; exact decide_eq_false (by omega)); exact ⟨(same_mov rfl (same_updo rfl (same_mov rfl (same_updo rfl (same_mov rfl (same_know rfl (same_mov rfl (same_updo rfl (same_updo rfl (same_updo rfl (same_mov rfl (same_mov rfl (same_updo rfl (same_mov rfl (same_updo rfl (same_updo rfl (same_mov rfl (same_updo rfl (same_updo rfl (same_updo rfl (same_updn (same_updo rfl (same_updo rfl (same_updo rfl (same_know rfl (same_updo rfl same_ovr)))))))))))))))))))))))))), k + 1, by omega, by omega, rfl, (by rw [e1]; rfl), (by rw [e2]; exact congrArg (Value.int .i64) (by omega)), H.pop (by assumption)⟩)
          · refine WL_step rfl (R_indexAddr Tryz.underlying81 Tryz.sizeOf39 rfl rfl (by omega) (by omega) idx_castn) ?_
            refine WL_step rfl (R_loadA_cell (vs := File.flC q) Tryz.isAgg39 Tryz.sizeOf39 rfl (fun j v hj => H.cellN (hc2 j v hj) (by repeat' first | exact kNil | apply kCons | apply kApp | assumption | exact OwnS.keys (by assumption))) (File.fl_len q)) ?_
            (refine WL_effn rfl (File.E_allocL H) ?_; clear H; intro c8 w121 hc8 H)
            (refine WL_effu rfl (File.E_storeL H rfl rfl .here) ?_; clear H; intro w122 H; replace H : Hp w [(c8, blk [I q.k, I q.p, I q.r, I q.g] 39), (c4, blk (Ring.piC p) 43)] w122 := H)
            refine WL_nil ?_
            refine W_block ?_
            refine W_seq ?_
            refine W_region_l ?_
            refine WL_step rfl (File.R_loadL (p := q) rfl (H.get .here)) ?_
            (refine WL_call rfl (R_call rfl Tryz.call58 rfl) (own_ret q _) ?_; rintro _ w128 ⟨rfl, H1⟩; rw [decide_eq_true hown]; replace H := H.seq0 H1; clear H1)
            refine WL_step rfl (R_not_t rfl) ?_
            refine WL_stepM rfl (R_mv) ?_
            refine WL_guard_t rfl rfl ?_
            refine WL_step rfl (R_fieldAddr (off' := 1) Tryz.underlying39 rfl Tryz.sizeOf3 (by decide) rfl rfl) ?_
            refine WL_guard_t rfl rfl ?_
            refine WL_step rfl (R_load Tryz.isAgg3 rfl (H.get .here) rfl) ?_
            refine WL_guard_t rfl rfl ?_
            refine WL_stepM rfl (R_mv) ?_
            refine WL_guard_t rfl rfl ?_
            refine WL_step rfl (R_ne_t rfl rfl (by omega)) ?_
            refine WL_stepM rfl (R_pk_f rfl) ?_
            refine WL_stepM rfl (R_as) ?_
            refine WL_nil ?_
            refine W_cond_t rfl ?_
            refine W_skip ?_
            refine W_region_l ?_
            refine WL_step rfl (R_add rfl rfl (w_i64 (by omega))) ?_
            refine WL_stepM rfl (R_mv) ?_
            refine WL_nil ?_
            (have e0 : ∀ b, endN xs i b (k + 1) = endN xs i b k := fun b => endN_no (.inl (by rw [hq]; exact fun hh => hqp hh.2)); exact ⟨(same_mov rfl (same_updo rfl (same_mov rfl (same_mov rfl (same_updo rfl (same_mov rfl (same_updo rfl (same_updo rfl (same_mov rfl (same_updo rfl (same_updo rfl (same_updo rfl (same_updn (same_updo rfl (same_updo rfl (same_updo rfl (same_know rfl (same_updo rfl same_ovr)))))))))))))))))), k + 1, by omega, by omega, rfl, (by rw [e0]; rfl), (by rw [e0]; rfl), H.pop (by assumption)⟩)
          · refine WL_step rfl (R_indexAddr Tryz.underlying81 Tryz.sizeOf39 rfl rfl (by omega) (by omega) idx_castn) ?_
            refine WL_step rfl (R_loadA_cell (vs := File.flC q) Tryz.isAgg39 Tryz.sizeOf39 rfl (fun j v hj => H.cellN (hc2 j v hj) (by repeat' first | exact kNil | apply kCons | apply kApp | assumption | exact OwnS.keys (by assumption))) (File.fl_len q)) ?_
            (refine WL_effn rfl (File.E_allocL H) ?_; clear H; intro c8 w151 hc8 H)
            (refine WL_effu rfl (File.E_storeL H rfl rfl .here) ?_; clear H; intro w152 H; replace H : Hp w [(c8, blk [I q.k, I q.p, I q.r, I q.g] 39), (c4, blk (Ring.piC p) 43)] w152 := H)
            refine WL_nil ?_
            refine W_block ?_
            refine W_seq ?_
            refine W_region_l ?_
            refine WL_step rfl (File.R_loadL (p := q) rfl (H.get .here)) ?_
            (refine WL_call rfl (R_call rfl Tryz.call58 rfl) (own_ret q _) ?_; rintro _ w158 ⟨rfl, H1⟩; rw [decide_eq_false hown]; replace H := H.seq0 H1; clear H1)
            refine WL_step rfl (R_not_f rfl) ?_
            refine WL_stepM rfl (R_mv) ?_
            refine WL_guard_f rfl rfl (by decide) ?_
            refine WL_guard_f rfl rfl (by decide) ?_
            refine WL_guard_f rfl rfl (by decide) ?_
            refine WL_guard_f rfl rfl (by decide) ?_
            refine WL_stepM rfl (R_pk_t rfl) ?_
            refine WL_stepM rfl (R_as) ?_
            refine WL_nil ?_
            refine W_cond_t rfl ?_
            refine W_skip ?_
            refine W_region_l ?_
            refine WL_step rfl (R_add rfl rfl (w_i64 (by omega))) ?_
            refine WL_stepM rfl (R_mv) ?_
            refine WL_nil ?_
            (have e0 : ∀ b, endN xs i b (k + 1) = endN xs i b k := fun b => endN_no (.inl (by rw [hq]; exact fun hh => hown hh.1)); exact ⟨(same_mov rfl (same_updo rfl (same_mov rfl (same_mov rfl (same_updo rfl (same_updo rfl (same_updo rfl (same_updo rfl (same_mov rfl (same_updo rfl (same_updo rfl (same_updo rfl (same_updn (same_updo rfl (same_updo rfl (same_updo rfl (same_know rfl (same_updo rfl same_ovr)))))))))))))))))), k + 1, by omega, by omega, rfl, (by rw [e0]; rfl), (by rw [e0]; rfl), H.pop (by assumption)⟩)
          · refine WL_step rfl (R_indexAddr Tryz.underlying81 Tryz.sizeOf39 rfl rfl (by omega) (by omega) idx_castn) ?_
            refine WL_step rfl (R_loadA_cell (vs := File.flC q) Tryz.isAgg39 Tryz.sizeOf39 rfl (fun j v hj => H.cellN (hc2 j v hj) (by repeat' first | exact kNil | apply kCons | apply kApp | assumption | exact OwnS.keys (by assumption))) (File.fl_len q)) ?_
            (refine WL_effn rfl (File.E_allocL H) ?_; clear H; intro c8 w177 hc8 H)
            (refine WL_effu rfl (File.E_storeL H rfl rfl .here) ?_; clear H; intro w178 H; replace H : Hp w [(c8, blk [I q.k, I q.p, I q.r, I q.g] 39), (c4, blk (Ring.piC p) 43)] w178 := H)
            refine WL_nil ?_
            refine W_block ?_
            refine W_seq ?_
            refine W_region_l ?_
            refine WL_step rfl (File.R_loadL (p := q) rfl (H.get .here)) ?_
            (refine WL_call rfl (R_call rfl Tryz.call58 rfl) (own_ret q _) ?_; rintro _ w184 ⟨rfl, H1⟩; rw [decide_eq_false hown]; replace H := H.seq0 H1; clear H1)
            refine WL_step rfl (R_not_f rfl) ?_
            refine WL_stepM rfl (R_mv) ?_
            refine WL_guard_f rfl rfl (by decide) ?_
            refine WL_guard_f rfl rfl (by decide) ?_
            refine WL_guard_f rfl rfl (by decide) ?_
            refine WL_guard_f rfl rfl (by decide) ?_
            refine WL_stepM rfl (R_pk_t rfl) ?_
            refine WL_stepM rfl (R_as) ?_
            refine WL_nil ?_
            refine W_cond_t rfl ?_
            refine W_skip ?_
            refine W_region_l ?_
            refine WL_step rfl (R_add rfl rfl (w_i64 (by omega))) ?_
            refine WL_stepM rfl (R_mv) ?_
            refine WL_nil ?_
            (have e0 : ∀ b, endN xs i b (k + 1) = endN xs i b k := fun b => endN_no (.inl (by rw [hq]; exact fun hh => hown hh.1)); exact ⟨(same_mov rfl (same_updo rfl (same_mov rfl (same_mov rfl (same_updo rfl (same_updo rfl (same_updo rfl (same_updo rfl (same_mov rfl (same_updo rfl (same_updo rfl (same_updo rfl (same_updn (same_updo rfl (same_updo rfl (same_updo rfl (same_know rfl (same_updo rfl same_ovr)))))))))))))))))), k + 1, by omega, by omega, rfl, (by rw [e0]; rfl), (by rw [e0]; rfl), H.pop (by assumption)⟩)
        · refine W_exit ?_
          refine (if_pos rfl).mpr ?_
          refine W_seq ?_
          ((obtain rfl : k = 12 := (by omega))) <;> refine W_region_l ?_
          refine WL_stepM rfl (R_mv) ?_
          refine WL_step rfl (R_nilCheck rfl) ?_
          refine WL_step rfl (R_fieldAddr (off' := 4) Tryz.underlying90 rfl Tryz.sizeOf86 (by decide) rfl rfl) ?_
          refine WL_step rfl (R_loadA Tryz.isAgg86 Tryz.sizeOf86 rfl (H.blockN hx (by repeat' first | exact kNil | apply kCons | apply kApp | assumption | exact OwnS.keys (by assumption))) rfl (by simp)) ?_
          refine WL_stepM rfl (R_mv) ?_
          (refine WL_call rfl (R_call rfl Tryz.call59 rfl) (show Ret Tryz.prog 59 #[.agg #[sl b1 o1 4 cq, q2], I i] _ (fun v w' => v = .bool (decide (z = 1)) ∧ Hp _ [] w') from by rw [← hz1]; exact thereQ_ret (hq2.monoN H (by repeat' first | exact kNil | apply kCons | apply kApp | assumption | exact OwnS.keys (by assumption))) (ns_get (j := i) (by omega)) (by rw [ns_len]; decide)) ?_; rintro _ w210 ⟨rfl, H1⟩; replace H := H.seq0 H1; clear H1)
          refine WL_stepM rfl (R_mv) ?_
          apply WL_andK 17 55 72 [(56, 72)] H
          case hc => rfl
          case h1 =>
            intro h212
            refine WL_guard_t rfl rfl ?_
            refine WL_step rfl (R_fieldAddr (off' := 2) Tryz.underlying43 rfl Tryz.sizeOf3 (by decide) rfl rfl) ?_
            refine WL_guard_t rfl rfl ?_
            refine WL_step rfl (R_load Tryz.isAgg3 rfl (H.get .here) rfl) ?_
            refine WL_guard_t rfl rfl ?_
            refine WL_stepM rfl (R_mv) ?_
            refine WL_guard_t rfl rfl ?_
            refine WL_step rfl (R_ne rfl rfl) ?_
            refine WL_guard_t rfl rfl ?_
            refine WL_stepM rfl (R_mv) ?_
            apply WL_orK 5 60 65 [(61, 65)] H
            case hc => rfl
            case h1 =>
              intro h223
              refine WL_guard_t rfl rfl ?_
              refine WL_step rfl (R_fieldAddr (off' := 3) Tryz.underlying43 rfl Tryz.sizeOf3 (by decide) rfl rfl) ?_
              refine WL_guard_t rfl rfl ?_
              refine WL_step rfl (R_load Tryz.isAgg3 rfl (H.get .here) rfl) ?_
              refine WL_guard_t rfl rfl ?_
              refine WL_stepM rfl (R_mv) ?_
              refine WL_guard_t rfl rfl ?_
              refine WL_step rfl (R_ne rfl rfl) ?_
              refine WL_guard_t rfl rfl ?_
              refine WL_stepM rfl (R_pk_f rfl) ?_
              refine WL_nil ?_
              exact ⟨(same_mov rfl (same_updo rfl (same_mov rfl (same_updo rfl (same_updo rfl Same.refl))))), rfl, H⟩
            case h0 =>
              intro h223
              refine WL_guard_f rfl rfl (by decide) ?_
              refine WL_guard_f rfl rfl (by decide) ?_
              refine WL_guard_f rfl rfl (by decide) ?_
              refine WL_guard_f rfl rfl (by decide) ?_
              refine WL_guard_t rfl rfl ?_
              refine WL_stepM rfl (R_pk_t rfl) ?_
              refine WL_nil ?_
              exact ⟨(same_mov rfl (same_updo rfl (same_updo rfl (same_updo rfl (same_updo rfl Same.refl))))), rfl, H⟩
            case h2 =>
              intro E223 w223 H
              refine WL_guard_t rfl rfl ?_
              refine WL_stepM rfl (R_mv) ?_
              apply WL_orK 5 66 71 [(67, 71)] H
              case hc => rfl
              case h1 =>
                intro h246
                refine WL_guard_t rfl rfl ?_
                refine WL_stepM rfl (R_mv) ?_
                refine WL_guard_t rfl rfl ?_
                refine WL_stepM rfl (R_mv) ?_
                refine WL_guard_t rfl rfl ?_
                refine WL_step rfl (R_add rfl rfl (w_i64 (by omega))) ?_
                refine WL_guard_t rfl rfl ?_
                refine WL_step rfl (R_eq rfl rfl) ?_
                refine WL_guard_t rfl rfl ?_
                refine WL_stepM rfl (R_pk_f rfl) ?_
                refine WL_nil ?_
                exact ⟨(same_mov rfl (same_updo rfl (same_updo rfl (same_mov rfl (same_mov rfl Same.refl))))), rfl, H⟩
              case h0 =>
                intro h246
                refine WL_guard_f rfl rfl (by decide) ?_
                refine WL_guard_f rfl rfl (by decide) ?_
                refine WL_guard_f rfl rfl (by decide) ?_
                refine WL_guard_f rfl rfl (by decide) ?_
                refine WL_guard_t rfl rfl ?_
                refine WL_stepM rfl (R_pk_t rfl) ?_
                refine WL_nil ?_
                exact ⟨(same_mov rfl (same_updo rfl (same_updo rfl (same_updo rfl (same_updo rfl Same.refl))))), rfl, H⟩
              case h2 =>
                (clear H; intro E246 w246 H)
                refine WL_stepM rfl (R_pk_t rfl) ?_
                refine WL_nil ?_
                exact ⟨(same_mov rfl (same_in rfl (same_mov rfl (same_in rfl (same_mov rfl (same_updo rfl (same_mov rfl (same_updo rfl (same_updo rfl Same.refl))))))))), rfl, H⟩
          case h0 =>
            intro h212
            refine WL_guard_f rfl rfl (by decide) ?_
            refine WL_guard_f rfl rfl (by decide) ?_
            refine WL_guard_f rfl rfl (by decide) ?_
            refine WL_guard_f rfl rfl (by decide) ?_
            refine WL_guard_f rfl rfl (by decide) ?_
            refine WL_guard_n rfl rfl ?_
            refine WL_guard_n rfl rfl ?_
            refine WL_guard_n rfl rfl ?_
            refine WL_guard_n rfl rfl ?_
            refine WL_guard_f rfl rfl (by decide) ?_
            refine WL_guard_f rfl rfl (by decide) ?_
            refine WL_guard_n rfl rfl ?_
            refine WL_guard_n rfl rfl ?_
            refine WL_guard_n rfl rfl ?_
            refine WL_guard_n rfl rfl ?_
            refine WL_guard_f rfl rfl (by decide) ?_
            refine WL_stepM rfl (R_pk_f rfl) ?_
            refine WL_nil ?_
            exact ⟨(same_mov rfl (same_updo rfl (same_updo rfl (same_updo rfl (same_updo rfl (same_updo rfl (same_updo rfl (same_updo rfl (same_updo rfl (same_updo rfl (same_updo rfl (same_updo rfl (same_updo rfl (same_updo rfl (same_updo rfl (same_updo rfl (same_updo rfl Same.refl))))))))))))))))), rfl, H⟩
          case h2 =>
            (clear H; intro E212 w212 H)
            refine WL_nil ?_
            refine W_if rfl (fun h290 => ?_) (fun h290 => ?_)
            · refine W_seq ?_
              refine W_region_l ?_
              refine WL_stepM rfl (R_as) ?_
              refine WL_nil ?_
              refine W_ret ?_
              exact ⟨_, rfl, congrArg Value.bool (any_true (i := i) (by omega) (by unfold endB; rw [hp, hz1]; exact decide_eq_true (by omega))).symm, H.none (by repeat' first | exact kNil | apply kCons | apply kApp | assumption | exact OwnS.keys (by assumption))⟩
            · refine W_skip ?_
              refine W_region_l ?_
              refine WL_step rfl (R_add rfl rfl (w_i64 (by omega))) ?_
              refine WL_stepM rfl (R_mv) ?_
              refine WL_nil ?_
              exact ⟨(same_mov rfl (same_updo rfl (same_know rfl (same_in rfl (same_mov rfl (same_updo rfl (same_mov rfl (same_updo rfl (same_updo rfl (same_updo rfl (same_mov rfl (same_know rfl (same_updo rfl (same_in rfl (same_mov rfl (same_updo rfl (same_updo rfl (same_updo rfl (same_updo rfl (same_updo rfl (same_mov rfl (same_mov rfl (same_mov rfl (same_updn (same_mov rfl (same_updo rfl (same_updo rfl (same_updo rfl (same_mov rfl (same_know rfl (same_updo rfl same_ovr))))))))))))))))))))))))))))))), i + 1, by omega, by omega, rfl, all_succ hz (by unfold endB; rw [hp, hz1]; exact decide_eq_false (by omega)), H.pop (by assumption)⟩
    · refine W_exit ?_
      refine (if_pos rfl).mpr ?_
      refine W_seq ?_
      refine W_region_l ?_
      refine WL_stepM rfl (R_as) ?_
      refine WL_nil ?_
      refine W_ret ?_
      exact ⟨_, rfl, congrArg Value.bool (any_false (fun j hj => hz j (by omega))).symm, H⟩
end Go.Proofs.YthonajikgljgmaaGreat.Aud

/-
  What is sound of records: descriptors, pipes.
-/
namespace Go.Proofs.YthonajikgljgmaaGreat.Aud
open Go Go.Proofs Go.Proofs.YthonajikgljgmaaGreat.Fx
set_option maxRecDepth 100000
set_option linter.unusedVariables false
set_option linter.unusedSimpArgs false
set_option maxHeartbeats 8000000

def fdOne (xs : List UInt8) (f : Int) : Bool := decide (0 < f ∧ fis xs (f - 1).toNat ≠ 1)
def fdB (xs : List UInt8) (j : Nat) : Bool := (pd xs j).f.any (fdOne xs)
def pipB (xs : List UInt8) (j : Nat) : Bool := decide (ownF (fd xs j) ∧ qis xs (fd xs j).p.toNat ≠ 1)

theorem dec_bool {p : Prop} [Decidable p] {b : Bool} (h : p ↔ b = true) : decide p = b := by
  cases b with
  | true => exact decide_eq_true (h.2 rfl)
  | false => exact decide_eq_false (fun hp => by cases h.1 hp)
theorem fd11_ret {w : World} {xa c1 : Nat} {xs : List UInt8} (hA : Al w xa xs) (hc : w.heap[c1]? = some (blk [ptr xa 0] 66)) {f : Int} (hf : 0 ≤ f ∧ f ≤ 12) :
    Ret Tryz.prog 53 #[I f, ptr c1 0] w fun v w' => v = .bool (fdOne xs f) ∧ Hp w [] w' := by
  refine Ret_of_W (args := [_, _]) Tryz.func53 rfl Tryz.ntmps53 Tryz.results53 (by simp) ?_
  have H := Hp.refl w
  obtain ⟨p1, p2, f1, f2, q1, q2, t1, t2, g1, g2, hx, hp1, hp2, hf1, hf2, hq1, hq2, ht2, hg2⟩ := hA.ex
  rcases posK hf with h0 | ⟨K, hK, hK8⟩
  · refine W_seq ?_
    refine W_region_l ?_
    refine WL_stepM rfl (R_as) ?_
    refine WL_nil ?_
    refine W_seq ?_
    refine W_region_l ?_
    refine WL_stepM rfl (R_mv) ?_
    refine WL_step rfl (R_gt_f rfl rfl (by omega)) ?_
    refine WL_stepM rfl (R_mv) ?_
    refine WL_guard_f rfl rfl (by decide) ?_
    refine WL_guard_f rfl rfl (by decide) ?_
    refine WL_guard_f rfl rfl (by decide) ?_
    refine WL_guard_f rfl rfl (by decide) ?_
    refine WL_guard_f rfl rfl (by decide) ?_
    refine WL_guard_f rfl rfl (by decide) ?_
    refine WL_guard_f rfl rfl (by decide) ?_
    refine WL_guard_f rfl rfl (by decide) ?_
    refine WL_stepM rfl (R_pk_f rfl) ?_
    refine WL_stepM rfl (R_as) ?_
    refine WL_nil ?_
    refine W_ret ?_
    exact ⟨_, rfl, congrArg Value.bool (by unfold fdOne; exact (decide_eq_false (by omega)).symm), H⟩
  · obtain ⟨z, hz1⟩ : ∃ z, fis xs K = z := ⟨_, rfl⟩
    refine W_seq ?_
    refine W_region_l ?_
    refine WL_stepM rfl (R_as) ?_
    refine WL_nil ?_
    refine W_seq ?_
    refine W_region_l ?_
    refine WL_stepM rfl (R_mv) ?_
    refine WL_step rfl (R_gt_t rfl rfl (by omega)) ?_
    refine WL_stepM rfl (R_mv) ?_
    refine WL_guard_t rfl rfl ?_
    refine WL_step rfl (R_load (v := ptr xa 0) Tryz.isAgg66 rfl (H.blockN hc (by repeat' first | exact kNil | apply kCons | apply kApp | assumption | exact OwnS.keys (by assumption))) rfl) ?_
    refine WL_guard_t rfl rfl ?_
    refine WL_step rfl (R_nilCheck rfl) ?_
    refine WL_guard_t rfl rfl ?_
    refine WL_step rfl (R_fieldAddr (off' := 2) Tryz.underlying90 rfl Tryz.sizeOf83 (by decide) rfl rfl) ?_
    refine WL_guard_t rfl rfl ?_
    refine WL_step rfl (R_loadA Tryz.isAgg83 Tryz.sizeOf83 rfl (H.block hx (by simp)) rfl (by simp)) ?_
    refine WL_guard_t rfl rfl ?_
    refine WL_stepM rfl (R_mv) ?_
    refine WL_guard_t rfl rfl ?_
    refine WL_step rfl (R_sub (r := (K : Int)) rfl rfl (by rw [w_i64 (by omega)]; omega)) ?_
    refine WL_guard_t rfl rfl ?_
    (refine WL_call rfl (R_call rfl Tryz.call54 rfl) (show Ret Tryz.prog 54 #[.agg #[f1, f2], I K] _ (fun v w' => v = .bool (decide (z = 1)) ∧ Hp _ [] w') from by rw [← hz1]; exact thereF_ret (hf2.monoN H (by repeat' first | exact kNil | apply kCons | apply kApp | assumption | exact OwnS.keys (by assumption))) (ns_get (j := K) (by omega)) (by rw [ns_len]; decide)) ?_; rintro _ w23 ⟨rfl, H1⟩; replace H := H.seq0 H1; clear H1)
    refine WL_guard_t rfl rfl ?_
    refine WL_step rfl (R_not_d rfl) ?_
    refine WL_stepM rfl (R_pk_t rfl) ?_
    refine WL_stepM rfl (R_as) ?_
    refine WL_nil ?_
    refine W_ret ?_
    exact ⟨_, rfl, congrArg Value.bool (by unfold fdOne; rw [hK, Int.add_sub_cancel, Int.toNat_natCast, hz1]; by_cases h1 : z = 1 <;> simp [h1]), H⟩

theorem idxI_ret {w : World} {xa c1 : Nat} {xs : List UInt8} {fs : List Int} {l : Value} (hA : Al w xa xs) (hc : w.heap[c1]? = some (blk [ptr xa 0] 66)) (hf : ∀ f ∈ fs, 0 ≤ f ∧ f ≤ 12) (hl : RdS w l (fs.map fun x => I x)) (hb : fs.length ≤ 100000) :
    Ret Tryz.prog 75 #[l, .func (.func 53) #[] #[ptr c1 0]] w fun v w' => ∃ r : Int, v = I r ∧ (0 ≤ r ↔ fs.any (fdOne xs) = true) ∧ Hp w [] w' := by
  refine Ret_of_W (args := [_, _]) Tryz.func75 rfl Tryz.ntmps75 Tryz.results75 (by simp) ?_
  have H := Hp.refl w
  obtain ⟨ao, ca, rfl, hca, hra⟩ := id hl
  simp only [List.length_map] at hl ⊢
  refine W_seq ?_
  refine W_region_l ?_
  refine WL_stepM rfl (R_as) ?_
  refine WL_nil ?_
  refine W_seq ?_
  refine W_seq ?_
  refine W_region_l ?_
  refine WL_stepM rfl (R_mv) ?_
  refine WL_step rfl (R_len_slice Tryz.underlying52 rfl) ?_
  refine WL_stepM rfl (R_mv) ?_
  refine WL_nil ?_
  refine W_block ?_
  refine W_loopS [(4, 5), (8, 18)] (fun (i : Nat) E w' => i ≤ fs.length ∧ E 8 = I i ∧ (∀ x ∈ fs.take i, fdOne xs x = false) ∧ Hp w [] w') (fun i => fs.length - i) 0 ?e0 ?r0
  · exact ⟨by omega, rfl, (by simp), H⟩
  · (clear H; rintro i E w1 ⟨hi, h8, hz, H⟩; refine W_kn h8 ?_)
    refine W_seq ?_
    refine W_region_l ?_
    refine WL_step rfl (R_lt rfl rfl) ?_
    refine WL_nil ?_
    refine W_seq ?_
    refine W_if rfl (fun h20 => ?_) (fun h20 => ?_)
    · refine W_skip ?_
      refine W_seq ?_
      refine W_block ?_
      refine W_seq ?_
      refine W_region_l ?_
      refine WL_stepM rfl (R_mv) ?_
      refine WL_stepM rfl (R_as) ?_
      refine WL_nil ?_
      refine W_seq ?_
      ((obtain ⟨f, hf1⟩ : ∃ f, fs[i]? = some f := ⟨_, List.getElem?_eq_getElem (by omega)⟩; have hfm := hf f (List.mem_of_getElem? hf1); obtain ⟨b1, o1, rfl, hc1⟩ := hl.cell (i := i) (u := I f) (by rw [List.getElem?_map, hf1]; rfl); have htk : fs.take (i + 1) = fs.take i ++ [f] := (by rw [List.take_succ_eq_append_getElem (by omega : i < fs.length), (List.getElem?_eq_some_iff.1 hf1).2]); rcases hv : fdOne xs f)) <;> refine W_region_l ?_
      · refine WL_stepM rfl (R_mv) ?_
        refine WL_stepM rfl (R_mv) ?_
        refine WL_stepM rfl (R_mv) ?_
        refine WL_step rfl (R_indexAddr Tryz.underlying52 Tryz.sizeOf3 rfl rfl (by omega) (by omega) idx_cast1) ?_
        refine WL_step rfl (R_load_cell Tryz.isAgg3 rfl (H.cell hc1 (by simp))) ?_
        (refine WL_call rfl (R_call rfl Tryz.call53 rfl) (fd11_ret (hA.monoN H (by repeat' first | exact kNil | apply kCons | apply kApp | assumption | exact OwnS.keys (by assumption))) (H.blockN hc (by repeat' first | exact kNil | apply kCons | apply kApp | assumption | exact OwnS.keys (by assumption))) hfm) ?_; rintro _ w36 ⟨rfl, H1⟩; rw [hv]; replace H := H.seq0 H1; clear H1)
        refine WL_nil ?_
        refine W_cond_f rfl ?_
        refine W_skip ?_
        refine W_region_l ?_
        refine WL_step rfl (R_add rfl rfl (w_i64 (by omega))) ?_
        refine WL_stepM rfl (R_mv) ?_
        refine WL_nil ?_
        exact ⟨(same_mov rfl (same_updo rfl (same_updo rfl (same_updo rfl (same_updo rfl (same_mov rfl (same_mov rfl (same_mov rfl (same_mov rfl (same_mov rfl (same_know rfl (same_updo rfl same_ovr)))))))))))), i + 1, by omega, by omega, rfl, (by intro x hx; rw [htk] at hx; rcases List.mem_append.1 hx with hx | hx; exact hz x hx; rw [List.mem_singleton.1 hx]; exact hv), H⟩
      · refine WL_stepM rfl (R_mv) ?_
        refine WL_stepM rfl (R_mv) ?_
        refine WL_stepM rfl (R_mv) ?_
        refine WL_step rfl (R_indexAddr Tryz.underlying52 Tryz.sizeOf3 rfl rfl (by omega) (by omega) idx_cast1) ?_
        refine WL_step rfl (R_load_cell Tryz.isAgg3 rfl (H.cell hc1 (by simp))) ?_
        (refine WL_call rfl (R_call rfl Tryz.call53 rfl) (fd11_ret (hA.monoN H (by repeat' first | exact kNil | apply kCons | apply kApp | assumption | exact OwnS.keys (by assumption))) (H.blockN hc (by repeat' first | exact kNil | apply kCons | apply kApp | assumption | exact OwnS.keys (by assumption))) hfm) ?_; rintro _ w50 ⟨rfl, H1⟩; rw [hv]; replace H := H.seq0 H1; clear H1)
        refine WL_nil ?_
        refine W_cond_t rfl ?_
        refine W_seq ?_
        refine W_region_l ?_
        refine WL_stepM rfl (R_mv) ?_
        refine WL_stepM rfl (R_as) ?_
        refine WL_nil ?_
        refine W_ret ?_
        exact ⟨_, rfl, _, rfl, ⟨fun _ => List.any_eq_true.2 ⟨f, List.mem_of_getElem? hf1, hv⟩, fun _ => by omega⟩, H⟩
    · refine W_exit ?_
      refine (if_pos rfl).mpr ?_
      refine W_seq ?_
      refine W_region_l ?_
      refine WL_stepM rfl (R_as) ?_
      refine WL_nil ?_
      refine W_ret ?_
      exact ⟨_, rfl, _, rfl, ⟨fun h => by omega, fun h => by obtain ⟨x, hx, hn⟩ := List.any_eq_true.1 h; rw [hz x (by rw [List.take_of_length_le (by omega)]; exact hx)] at hn; cases hn⟩, H⟩
theorem hasI_ret {w : World} {xa c1 : Nat} {xs : List UInt8} {fs : List Int} {l : Value} (hA : Al w xa xs) (hc : w.heap[c1]? = some (blk [ptr xa 0] 66)) (hf : ∀ f ∈ fs, 0 ≤ f ∧ f ≤ 12) (hl : RdS w l (fs.map fun x => I x)) (hb : fs.length ≤ 100000) :
    Ret Tryz.prog 52 #[l, .func (.func 53) #[] #[ptr c1 0]] w fun v w' => v = .bool (fs.any (fdOne xs)) ∧ Hp w [] w' := by
  refine Ret_of_W (args := [_, _]) Tryz.func52 rfl Tryz.ntmps52 Tryz.results52 (by simp) ?_
  have H := Hp.refl w
  refine W_seq ?_
  refine W_region_l ?_
  refine WL_stepM rfl (R_as) ?_
  refine WL_nil ?_
  refine W_seq ?_
  refine W_region_l ?_
  refine WL_stepM rfl (R_mv) ?_
  refine WL_stepM rfl (R_mv) ?_
  (refine WL_call rfl (R_call rfl Tryz.call75 rfl) (idxI_ret hA hc hf hl hb) ?_; rintro _ w9 ⟨r, rfl, hr, H1⟩; replace H := H.seq0 H1; clear H1)
  refine WL_step rfl (R_ge rfl rfl) ?_
  refine WL_stepM rfl (R_as) ?_
  refine WL_nil ?_
  refine W_ret ?_
  exact ⟨_, rfl, congrArg Value.bool (dec_bool hr), H⟩
theorem fd1_ret {w : World} {xa c1 : Nat} {xs : List UInt8} (hA : Al w xa xs) (hc : w.heap[c1]? = some (blk [ptr xa 0] 66)) (j : Nat) :
    Ret Tryz.prog 51 #[Slot.vP (pd xs j), ptr c1 0] w fun v w' => v = .bool (fdB xs j) ∧ Hp w [] w' := by
  refine Ret_of_W (args := [_, _]) Tryz.func51 rfl Tryz.ntmps51 Tryz.results51 (by simp) ?_
  have H := Hp.refl w
  have hpf := (pd xs j).hf
  refine W_seq ?_
  refine W_region_l ?_
  (refine WL_effn rfl (Slot.E_boxP H rfl) ?_; clear H; intro c2 w3 hc2 H)
  refine WL_stepM rfl (R_as) ?_
  refine WL_nil ?_
  refine W_seq ?_
  refine W_region_l ?_
  refine WL_step rfl (R_fieldAddr (off' := 8) Tryz.underlying36 rfl Tryz.sizeOf34 (by decide) rfl rfl) ?_
  refine WL_step rfl (R_sliceArr Tryz.underlying34 Tryz.sizeOf3 rfl .none .none (by omega) (by omega) (by omega) (by omega) rfl) ?_
  refine WL_step rfl (R_fn1 rfl) ?_
  (refine WL_call rfl (R_call rfl Tryz.call52 rfl) (hasI_ret (fs := (pd xs j).f) (hA.monoN H (by repeat' first | exact kNil | apply kCons | apply kApp | assumption | exact OwnS.keys (by assumption))) (H.blockN hc (by repeat' first | exact kNil | apply kCons | apply kApp | assumption | exact OwnS.keys (by assumption))) (pd_f xs j) (RdS.blk (c := Slot.piC (pd xs j)) (off := 8) (m := 8) (cap := 8) (H.get .here) (by unfold Slot.piC; rw [List.drop_left' (by simp), List.take_of_length_le (by simp [hpf])]) (by rw [Slot.piC_len]; decide) (by decide)) (by omega)) ?_; rintro _ w11 ⟨rfl, H1⟩; replace H := H.seq0 H1; clear H1)
  refine WL_stepM rfl (R_as) ?_
  refine WL_nil ?_
  refine W_ret ?_
  exact ⟨_, rfl, rfl, H.none (by repeat' first | exact kNil | apply kCons | apply kApp | assumption | exact OwnS.keys (by assumption))⟩

theorem idxfd_ret {w : World} {xa c1 : Nat} {xs : List UInt8} {l : Value} (hA : Al w xa xs) (hc : w.heap[c1]? = some (blk [ptr xa 0] 66)) (hl : RdR Slot.piC w l ((pR xs).map (·.1))) :
    Ret Tryz.prog 74 #[l, .func (.func 51) #[] #[ptr c1 0]] w fun v w' => ∃ r : Int, v = I r ∧ (0 ≤ r ↔ (List.range 8).any (fdB xs) = true) ∧ Hp w [] w' := by
  refine Ret_of_W (args := [_, _]) Tryz.func74 rfl Tryz.ntmps74 Tryz.results74 (by simp) ?_
  have H := Hp.refl w
  obtain ⟨ap, cp, rfl⟩ := hl.form
  simp only [List.length_map, recs_len] at hl ⊢
  refine W_seq ?_
  refine W_region_l ?_
  refine WL_stepM rfl (R_as) ?_
  refine WL_nil ?_
  refine W_seq ?_
  refine W_seq ?_
  refine W_region_l ?_
  refine WL_stepM rfl (R_mv) ?_
  refine WL_step rfl (R_len_slice Tryz.underlying78 rfl) ?_
  refine WL_stepM rfl (R_mv) ?_
  refine WL_nil ?_
  refine W_block ?_
  refine W_loopS [(4, 5), (8, 18)] (fun (i : Nat) E w' => i ≤ 8 ∧ E 8 = I i ∧ (∀ j, j < i → fdB xs j = false) ∧ Hp w [] w') (fun i => 8 - i) 0 ?e0 ?r0
  · exact ⟨by omega, rfl, (fun j hj => absurd hj (Nat.not_lt_zero _)), H⟩
  · (clear H; rintro i E w1 ⟨hi, h8, hz, H⟩; refine W_kn h8 ?_)
    refine W_seq ?_
    refine W_region_l ?_
    refine WL_step rfl (R_lt rfl rfl) ?_
    refine WL_nil ?_
    refine W_seq ?_
    refine W_if rfl (fun h20 => ?_) (fun h20 => ?_)
    · refine W_skip ?_
      refine W_seq ?_
      refine W_block ?_
      refine W_seq ?_
      refine W_region_l ?_
      refine WL_stepM rfl (R_mv) ?_
      refine WL_stepM rfl (R_as) ?_
      refine WL_nil ?_
      refine W_seq ?_
      ((obtain ⟨b1, o1, rfl, hc1⟩ := hl.cell Slot.piC_len (fst_get (show i < 8 by omega)); replace hc1 : ∀ j v, (Slot.piC (pd xs i))[j]? = some v → w.cell? ⟨b1, o1 + i * 16 + j, none⟩ = some v := hc1; rcases hv : fdB xs i)) <;> refine W_region_l ?_
      · refine WL_stepM rfl (R_mv) ?_
        refine WL_stepM rfl (R_mv) ?_
        refine WL_stepM rfl (R_mv) ?_
        refine WL_step rfl (R_indexAddr Tryz.underlying78 Tryz.sizeOf36 rfl rfl (by omega) (by omega) idx_castn) ?_
        refine WL_step rfl (R_loadA_cell (vs := Slot.piC (pd xs i)) Tryz.isAgg36 Tryz.sizeOf36 rfl (fun j v hj => H.cellN (hc1 j v hj) (by repeat' first | exact kNil | apply kCons | apply kApp | assumption | exact OwnS.keys (by assumption))) (Slot.piC_len _)) ?_
        (refine WL_call rfl (R_call rfl Tryz.call51 rfl) (fd1_ret (hA.monoN H (by repeat' first | exact kNil | apply kCons | apply kApp | assumption | exact OwnS.keys (by assumption))) (H.blockN hc (by repeat' first | exact kNil | apply kCons | apply kApp | assumption | exact OwnS.keys (by assumption))) i) ?_; rintro _ w36 ⟨rfl, H1⟩; rw [hv]; replace H := H.seq0 H1; clear H1)
        refine WL_nil ?_
        refine W_cond_f rfl ?_
        refine W_skip ?_
        refine W_region_l ?_
        refine WL_step rfl (R_add rfl rfl (w_i64 (by omega))) ?_
        refine WL_stepM rfl (R_mv) ?_
        refine WL_nil ?_
        exact ⟨(same_mov rfl (same_updo rfl (same_updo rfl (same_updo rfl (same_updo rfl (same_mov rfl (same_mov rfl (same_mov rfl (same_mov rfl (same_mov rfl (same_know rfl (same_updo rfl same_ovr)))))))))))), i + 1, by omega, by omega, rfl, all_succ hz hv, H⟩
      · refine WL_stepM rfl (R_mv) ?_
        refine WL_stepM rfl (R_mv) ?_
        refine WL_stepM rfl (R_mv) ?_
        refine WL_step rfl (R_indexAddr Tryz.underlying78 Tryz.sizeOf36 rfl rfl (by omega) (by omega) idx_castn) ?_
        refine WL_step rfl (R_loadA_cell (vs := Slot.piC (pd xs i)) Tryz.isAgg36 Tryz.sizeOf36 rfl (fun j v hj => H.cellN (hc1 j v hj) (by repeat' first | exact kNil | apply kCons | apply kApp | assumption | exact OwnS.keys (by assumption))) (Slot.piC_len _)) ?_
        (refine WL_call rfl (R_call rfl Tryz.call51 rfl) (fd1_ret (hA.monoN H (by repeat' first | exact kNil | apply kCons | apply kApp | assumption | exact OwnS.keys (by assumption))) (H.blockN hc (by repeat' first | exact kNil | apply kCons | apply kApp | assumption | exact OwnS.keys (by assumption))) i) ?_; rintro _ w50 ⟨rfl, H1⟩; rw [hv]; replace H := H.seq0 H1; clear H1)
        refine WL_nil ?_
        refine W_cond_t rfl ?_
        refine W_seq ?_
        refine W_region_l ?_
        refine WL_stepM rfl (R_mv) ?_
        refine WL_stepM rfl (R_as) ?_
        refine WL_nil ?_
        refine W_ret ?_
        exact ⟨_, rfl, _, rfl, ⟨fun _ => any_true (i := i) (by omega) hv, fun _ => by omega⟩, H⟩
    · refine W_exit ?_
      refine (if_pos rfl).mpr ?_
      refine W_seq ?_
      refine W_region_l ?_
      refine WL_stepM rfl (R_as) ?_
      refine WL_nil ?_
      refine W_ret ?_
      exact ⟨_, rfl, _, rfl, ⟨fun h => by omega, fun h => by rw [any_false (fun j hj => hz j (by omega))] at h; cases h⟩, H⟩
theorem fd_ret {w : World} {xa : Nat} {xs : List UInt8} (hA : Al w xa xs) :
    Ret Tryz.prog 23 #[ptr xa 0] w fun v w' => v = .bool ((List.range 8).any (fdB xs)) ∧ Hp w [] w' := by
  have hasX : ∀ (w : World) (l : Value) (c1 : Nat), Al w xa xs → w.heap[c1]? = some (blk [ptr xa 0] 66) → RdR Slot.piC w l ((pR xs).map (·.1)) →
      Ret Tryz.prog 50 #[l, .func (.func 51) #[] #[ptr c1 0]] w fun v w' => v = .bool ((List.range 8).any (fdB xs)) ∧ Hp w [] w' := by
    intro w l c1 hA hc hl
    refine Ret_of_W (args := [_, _]) Tryz.func50 rfl Tryz.ntmps50 Tryz.results50 (by simp) ?_
    have H := Hp.refl w
    refine W_seq ?_
    refine W_region_l ?_
    refine WL_stepM rfl (R_as) ?_
    refine WL_nil ?_
    refine W_seq ?_
    refine W_region_l ?_
    refine WL_stepM rfl (R_mv) ?_
    refine WL_stepM rfl (R_mv) ?_
    (refine WL_call rfl (R_call rfl Tryz.call74 rfl) (idxfd_ret hA hc hl) ?_; rintro _ w9 ⟨r, rfl, hr, H1⟩; replace H := H.seq0 H1; clear H1)
    refine WL_step rfl (R_ge rfl rfl) ?_
    refine WL_stepM rfl (R_as) ?_
    refine WL_nil ?_
    refine W_ret ?_
    exact ⟨_, rfl, congrArg Value.bool (dec_bool hr), H⟩
  refine Ret_of_W (args := [_]) Tryz.func23 rfl Tryz.ntmps23 Tryz.results23 (by simp) ?_
  have H := Hp.refl w
  obtain ⟨p1, p2, f1, f2, q1, q2, t1, t2, g1, g2, hx, hp1, hp2, hf1, hf2, hq1, hq2, ht2, hg2⟩ := hA.ex
  refine W_seq ?_
  refine W_region_l ?_
  (refine WL_effn rfl (E_box (vs := [ptr xa 0]) H rfl rfl) ?_; clear H; intro c1 w3 hc1 H)
  refine WL_stepM rfl (R_as) ?_
  refine WL_nil ?_
  refine W_seq ?_
  refine W_region_l ?_
  refine WL_step rfl (R_load Tryz.isAgg66 rfl (H.get .here) rfl) ?_
  refine WL_step rfl (R_nilCheck rfl) ?_
  refine WL_step rfl (R_fieldAddr (off' := 0) Tryz.underlying90 rfl Tryz.sizeOf80 (by decide) rfl rfl) ?_
  refine WL_step rfl (R_fieldAddr (off' := 0) Tryz.underlying80 rfl Tryz.sizeOf78 (by decide) rfl rfl) ?_
  refine WL_step rfl (R_load (v := p1) Tryz.isAgg78 rfl (H.blockN hx (by repeat' first | exact kNil | apply kCons | apply kApp | assumption | exact OwnS.keys (by assumption))) rfl) ?_
  refine WL_step rfl (R_fn1 rfl) ?_
  (refine WL_call rfl (R_call rfl Tryz.call50 rfl) (hasX _ _ c1 (hA.monoN H (by repeat' first | exact kNil | apply kCons | apply kApp | assumption | exact OwnS.keys (by assumption))) (H.get .here) (hp1.monoN H (by repeat' first | exact kNil | apply kCons | apply kApp | assumption | exact OwnS.keys (by assumption)))) ?_; rintro _ w14 ⟨rfl, H1⟩; replace H := H.seq0 H1; clear H1)
  refine WL_stepM rfl (R_as) ?_
  refine WL_nil ?_
  refine W_ret ?_
  exact ⟨_, rfl, rfl, H.none (by repeat' first | exact kNil | apply kCons | apply kApp | assumption | exact OwnS.keys (by assumption))⟩

theorem pip1_ret {w : World} {xa c1 : Nat} {xs : List UInt8} (hA : Al w xa xs) (hc : w.heap[c1]? = some (blk [ptr xa 0] 66)) (j : Nat) :
    Ret Tryz.prog 57 #[File.vF (fd xs j), ptr c1 0] w fun v w' => v = .bool (pipB xs j) ∧ Hp w [] w' := by
  refine Ret_of_W (args := [_, _]) Tryz.func57 rfl Tryz.ntmps57 Tryz.results57 (by simp) ?_
  have H := Hp.refl w
  obtain ⟨p1, p2, f1, f2, q1, q2, t1, t2, g1, g2, hx, hp1, hp2, hf1, hf2, hq1, hq2, ht2, hg2⟩ := hA.ex
  have hfp := fd_p xs j
  have hB : pipB xs j = decide (ownF (fd xs j) ∧ qis xs (fd xs j).p.toNat ≠ 1) := rfl
  obtain ⟨q, hq⟩ : ∃ q, fd xs j = q := ⟨_, rfl⟩
  rw [hq] at hfp hB ⊢
  obtain ⟨K, hK⟩ : ∃ K : Nat, q.p = (K : Int) := ⟨q.p.toNat, by omega⟩
  obtain ⟨z, hz1⟩ : ∃ z, qis xs K = z := ⟨_, rfl⟩
  rw [hK, Int.toNat_natCast, hz1] at hB
  rw [hB]
  rcases Classical.em (ownF q) with hown | hown
  · have hK4 : K < 4 := by have := hown.2; omega
    refine W_seq ?_
    refine W_region_l ?_
    (refine WL_effn rfl (File.E_boxL H rfl) ?_; clear H; intro c2 w3 hc2 H; replace H : Hp w [(c2, blk [I q.k, I K, I q.r, I q.g] 39)] w3 := by rw [← hK]; exact H)
    refine WL_stepM rfl (R_as) ?_
    refine WL_nil ?_
    refine W_seq ?_
    (refine W_drawH (fun _ => false) (by kernel_rfl) H ?_; clear H; intro w7 H)
    refine WA_take 0 rfl rfl rfl (by kernel_rfl) (by kernel_rfl) H (fun _ hC => File.R_loadL (p := q) rfl (by rw [show File.flC q = [I q.k, I K, I q.r, I q.g] from by unfold File.flC; rw [hK]]; exact hC.get .here)) ?_
    refine WA_one (i := 1) (by kernel_rfl) ?_
    (refine WI_call rfl (.inl rfl) (R_call rfl Tryz.call58 rfl) (own_ret q _) (fun _ _ hR _ => H.seq0 hR.2) ?_; rintro _ w10 ⟨rfl, H1⟩; rw [decide_eq_true hown]; replace H := H.seq0 H1; clear H1)
    refine WA_takeM 2 rfl rfl rfl (by kernel_rfl) (by kernel_rfl) H (fun _ hC => R_mv) ?_
    refine WA_takeG 3 rfl rfl rfl rfl (by kernel_rfl) (by kernel_rfl) H (fun _ hC => R_load (v := ptr xa 0) Tryz.isAgg66 rfl (hC.blockN hc (by repeat' first | exact kNil | apply kCons | apply kApp | assumption | exact OwnS.keys (by assumption))) rfl) ?_
    refine WA_takeG 4 rfl rfl rfl rfl (by kernel_rfl) (by kernel_rfl) H (fun _ hC => R_nilCheck rfl) ?_
    refine WA_takeG 5 rfl rfl rfl rfl (by kernel_rfl) (by kernel_rfl) H (fun _ hC => R_fieldAddr (off' := 4) Tryz.underlying90 rfl Tryz.sizeOf86 (by decide) rfl rfl) ?_
    refine WA_takeG 6 rfl rfl rfl rfl (by kernel_rfl) (by kernel_rfl) H (fun _ hC => R_loadA Tryz.isAgg86 Tryz.sizeOf86 rfl (hC.blockN hx (by repeat' first | exact kNil | apply kCons | apply kApp | assumption | exact OwnS.keys (by assumption))) rfl (by simp)) ?_
    refine WA_takeG 7 rfl rfl rfl rfl (by kernel_rfl) (by kernel_rfl) H (fun _ hC => R_fieldAddr (off' := 1) Tryz.underlying39 rfl Tryz.sizeOf3 (by decide) rfl rfl) ?_
    refine WA_takeG 8 rfl rfl rfl rfl (by kernel_rfl) (by kernel_rfl) H (fun _ hC => R_load Tryz.isAgg3 rfl (hC.get .here) rfl) ?_
    refine WA_one (i := 9) (by kernel_rfl) ?_
    (refine WI_call rfl (.inr ⟨_, _, rfl, rfl⟩) (R_call rfl Tryz.call59 rfl) (show Ret Tryz.prog 59 #[.agg #[q1, q2], I K] _ (fun v w' => v = .bool (decide (z = 1)) ∧ Hp _ [] w') from by rw [← hz1]; exact thereQ_ret (hq2.monoN H (by repeat' first | exact kNil | apply kCons | apply kApp | assumption | exact OwnS.keys (by assumption))) (ns_get (j := K) (by omega)) (by rw [ns_len]; decide)) (fun _ _ hR _ => H.seq0 hR.2) ?_; rintro _ w19 ⟨rfl, H1⟩; replace H := H.seq0 H1; clear H1)
    refine WA_takeG 10 rfl rfl rfl rfl (by kernel_rfl) (by kernel_rfl) H (fun _ hC => R_not_d rfl) ?_
    refine WA_takeM 11 rfl rfl rfl (by kernel_rfl) (by kernel_rfl) H (fun _ hC => R_pk_t rfl) ?_
    refine WA_takeM 12 rfl rfl rfl (by kernel_rfl) (by kernel_rfl) H (fun _ hC => R_as) ?_
    refine WA_done (by kernel_rfl) ?_
    refine W_ret ?_
    exact ⟨_, rfl, congrArg Value.bool (by by_cases h1 : z = 1 <;> simp [h1, hown]), H.none (by repeat' first | exact kNil | apply kCons | apply kApp | assumption | exact OwnS.keys (by assumption))⟩
  · refine W_seq ?_
    refine W_region_l ?_
    (refine WL_effn rfl (File.E_boxL H rfl) ?_; clear H; intro c2 w3 hc2 H; replace H : Hp w [(c2, blk [I q.k, I K, I q.r, I q.g] 39)] w3 := by rw [← hK]; exact H)
    refine WL_stepM rfl (R_as) ?_
    refine WL_nil ?_
    refine W_seq ?_
    (refine W_drawH (fun _ => false) (by kernel_rfl) H ?_; clear H; intro w7 H)
    refine WA_take 0 rfl rfl rfl (by kernel_rfl) (by kernel_rfl) H (fun _ hC => File.R_loadL (p := q) rfl (by rw [show File.flC q = [I q.k, I K, I q.r, I q.g] from by unfold File.flC; rw [hK]]; exact hC.get .here)) ?_
    refine WA_one (i := 1) (by kernel_rfl) ?_
    (refine WI_call rfl (.inl rfl) (R_call rfl Tryz.call58 rfl) (own_ret q _) (fun _ _ hR _ => H.seq0 hR.2) ?_; rintro _ w10 ⟨rfl, H1⟩; rw [decide_eq_false hown]; replace H := H.seq0 H1; clear H1)
    refine WA_takeM 2 rfl rfl rfl (by kernel_rfl) (by kernel_rfl) H (fun _ hC => R_mv) ?_
    refine WA_pass 3 rfl rfl rfl (fun h => nomatch h) (by kernel_rfl) (by kernel_rfl) H ?_
    refine WA_pass 4 rfl rfl rfl (fun h => nomatch h) (by kernel_rfl) (by kernel_rfl) H ?_
    refine WA_pass 5 rfl rfl rfl (fun h => nomatch h) (by kernel_rfl) (by kernel_rfl) H ?_
    refine WA_pass 6 rfl rfl rfl (fun h => nomatch h) (by kernel_rfl) (by kernel_rfl) H ?_
    refine WA_pass 7 rfl rfl rfl (fun h => nomatch h) (by kernel_rfl) (by kernel_rfl) H ?_
    refine WA_pass 8 rfl rfl rfl (fun h => nomatch h) (by kernel_rfl) (by kernel_rfl) H ?_
    refine WA_pass 9 rfl rfl rfl (fun h => nomatch h) (by kernel_rfl) (by kernel_rfl) H ?_
    refine WA_pass 10 rfl rfl rfl (fun h => nomatch h) (by kernel_rfl) (by kernel_rfl) H ?_
    refine WA_takeM 11 rfl rfl rfl (by kernel_rfl) (by kernel_rfl) H (fun _ hC => R_pk_f rfl) ?_
    refine WA_takeM 12 rfl rfl rfl (by kernel_rfl) (by kernel_rfl) H (fun _ hC => R_as) ?_
    refine WA_done (by kernel_rfl) ?_
    refine W_ret ?_
    exact ⟨_, rfl, congrArg Value.bool (by simp [hown]), H.none (by repeat' first | exact kNil | apply kCons | apply kApp | assumption | exact OwnS.keys (by assumption))⟩

theorem idxpipe_ret {w : World} {xa c1 : Nat} {xs : List UInt8} {l : Value} (hA : Al w xa xs) (hc : w.heap[c1]? = some (blk [ptr xa 0] 66)) (hl : RdR File.flC w l ((fR xs).map (·.1))) :
    Ret Tryz.prog 76 #[l, .func (.func 57) #[] #[ptr c1 0]] w fun v w' => ∃ r : Int, v = I r ∧ (0 ≤ r ↔ (List.range 12).any (pipB xs) = true) ∧ Hp w [] w' := by
  refine Ret_of_W (args := [_, _]) Tryz.func76 rfl Tryz.ntmps76 Tryz.results76 (by simp) ?_
  have H := Hp.refl w
  obtain ⟨ap, cp, rfl⟩ := hl.form
  simp only [List.length_map, recs_len] at hl ⊢
  refine W_seq ?_
  refine W_region_l ?_
  refine WL_stepM rfl (R_as) ?_
  refine WL_nil ?_
  refine W_seq ?_
  refine W_seq ?_
  refine W_region_l ?_
  refine WL_stepM rfl (R_mv) ?_
  refine WL_step rfl (R_len_slice Tryz.underlying81 rfl) ?_
  refine WL_stepM rfl (R_mv) ?_
  refine WL_nil ?_
  refine W_block ?_
  refine W_loopS [(4, 5), (8, 18)] (fun (i : Nat) E w' => i ≤ 12 ∧ E 8 = I i ∧ (∀ j, j < i → pipB xs j = false) ∧ Hp w [] w') (fun i => 12 - i) 0 ?e0 ?r0
  · exact ⟨by omega, rfl, (fun j hj => absurd hj (Nat.not_lt_zero _)), H⟩
  · (clear H; rintro i E w1 ⟨hi, h8, hz, H⟩; refine W_kn h8 ?_)
    refine W_seq ?_
    refine W_region_l ?_
    refine WL_step rfl (R_lt rfl rfl) ?_
    refine WL_nil ?_
    refine W_seq ?_
    refine W_if rfl (fun h20 => ?_) (fun h20 => ?_)
    · refine W_skip ?_
      refine W_seq ?_
      refine W_block ?_
      refine W_seq ?_
      refine W_region_l ?_
      refine WL_stepM rfl (R_mv) ?_
      refine WL_stepM rfl (R_as) ?_
      refine WL_nil ?_
      refine W_seq ?_
      ((obtain ⟨b1, o1, rfl, hc1⟩ := hl.cell File.fl_len (fst_get (show i < 12 by omega)); replace hc1 : ∀ j v, (File.flC (fd xs i))[j]? = some v → w.cell? ⟨b1, o1 + i * 4 + j, none⟩ = some v := hc1; rcases hv : pipB xs i)) <;> refine W_region_l ?_
      · refine WL_stepM rfl (R_mv) ?_
        refine WL_stepM rfl (R_mv) ?_
        refine WL_stepM rfl (R_mv) ?_
        refine WL_step rfl (R_indexAddr Tryz.underlying81 Tryz.sizeOf39 rfl rfl (by omega) (by omega) idx_castn) ?_
        refine WL_step rfl (R_loadA_cell (vs := File.flC (fd xs i)) Tryz.isAgg39 Tryz.sizeOf39 rfl (fun j v hj => H.cellN (hc1 j v hj) (by repeat' first | exact kNil | apply kCons | apply kApp | assumption | exact OwnS.keys (by assumption))) (File.fl_len _)) ?_
        (refine WL_call rfl (R_call rfl Tryz.call57 rfl) (pip1_ret (hA.monoN H (by repeat' first | exact kNil | apply kCons | apply kApp | assumption | exact OwnS.keys (by assumption))) (H.blockN hc (by repeat' first | exact kNil | apply kCons | apply kApp | assumption | exact OwnS.keys (by assumption))) i) ?_; rintro _ w36 ⟨rfl, H1⟩; rw [hv]; replace H := H.seq0 H1; clear H1)
        refine WL_nil ?_
        refine W_cond_f rfl ?_
        refine W_skip ?_
        refine W_region_l ?_
        refine WL_step rfl (R_add rfl rfl (w_i64 (by omega))) ?_
        refine WL_stepM rfl (R_mv) ?_
        refine WL_nil ?_
        exact ⟨(same_mov rfl (same_updo rfl (same_updo rfl (same_updo rfl (same_updo rfl (same_mov rfl (same_mov rfl (same_mov rfl (same_mov rfl (same_mov rfl (same_know rfl (same_updo rfl same_ovr)))))))))))), i + 1, by omega, by omega, rfl, all_succ hz hv, H⟩
      · refine WL_stepM rfl (R_mv) ?_
        refine WL_stepM rfl (R_mv) ?_
        refine WL_stepM rfl (R_mv) ?_
        refine WL_step rfl (R_indexAddr Tryz.underlying81 Tryz.sizeOf39 rfl rfl (by omega) (by omega) idx_castn) ?_
        refine WL_step rfl (R_loadA_cell (vs := File.flC (fd xs i)) Tryz.isAgg39 Tryz.sizeOf39 rfl (fun j v hj => H.cellN (hc1 j v hj) (by repeat' first | exact kNil | apply kCons | apply kApp | assumption | exact OwnS.keys (by assumption))) (File.fl_len _)) ?_
        (refine WL_call rfl (R_call rfl Tryz.call57 rfl) (pip1_ret (hA.monoN H (by repeat' first | exact kNil | apply kCons | apply kApp | assumption | exact OwnS.keys (by assumption))) (H.blockN hc (by repeat' first | exact kNil | apply kCons | apply kApp | assumption | exact OwnS.keys (by assumption))) i) ?_; rintro _ w50 ⟨rfl, H1⟩; rw [hv]; replace H := H.seq0 H1; clear H1)
        refine WL_nil ?_
        refine W_cond_t rfl ?_
        refine W_seq ?_
        refine W_region_l ?_
        refine WL_stepM rfl (R_mv) ?_
        refine WL_stepM rfl (R_as) ?_
        refine WL_nil ?_
        refine W_ret ?_
        exact ⟨_, rfl, _, rfl, ⟨fun _ => any_true (i := i) (by omega) hv, fun _ => by omega⟩, H⟩
    · refine W_exit ?_
      refine (if_pos rfl).mpr ?_
      refine W_seq ?_
      refine W_region_l ?_
      refine WL_stepM rfl (R_as) ?_
      refine WL_nil ?_
      refine W_ret ?_
      exact ⟨_, rfl, _, rfl, ⟨fun h => by omega, fun h => by rw [any_false (fun j hj => hz j (by omega))] at h; cases h⟩, H⟩
theorem pipe_ret {w : World} {xa : Nat} {xs : List UInt8} (hA : Al w xa xs) :
    Ret Tryz.prog 25 #[ptr xa 0] w fun v w' => v = .bool ((List.range 12).any (pipB xs)) ∧ Hp w [] w' := by
  have hasX : ∀ (w : World) (l : Value) (c1 : Nat), Al w xa xs → w.heap[c1]? = some (blk [ptr xa 0] 66) → RdR File.flC w l ((fR xs).map (·.1)) →
      Ret Tryz.prog 56 #[l, .func (.func 57) #[] #[ptr c1 0]] w fun v w' => v = .bool ((List.range 12).any (pipB xs)) ∧ Hp w [] w' := by
    intro w l c1 hA hc hl
    refine Ret_of_W (args := [_, _]) Tryz.func56 rfl Tryz.ntmps56 Tryz.results56 (by simp) ?_
    have H := Hp.refl w
    refine W_seq ?_
    refine W_region_l ?_
    refine WL_stepM rfl (R_as) ?_
    refine WL_nil ?_
    refine W_seq ?_
    refine W_region_l ?_
    refine WL_stepM rfl (R_mv) ?_
    refine WL_stepM rfl (R_mv) ?_
    (refine WL_call rfl (R_call rfl Tryz.call76 rfl) (idxpipe_ret hA hc hl) ?_; rintro _ w9 ⟨r, rfl, hr, H1⟩; replace H := H.seq0 H1; clear H1)
    refine WL_step rfl (R_ge rfl rfl) ?_
    refine WL_stepM rfl (R_as) ?_
    refine WL_nil ?_
    refine W_ret ?_
    exact ⟨_, rfl, congrArg Value.bool (dec_bool hr), H⟩
  refine Ret_of_W (args := [_]) Tryz.func25 rfl Tryz.ntmps25 Tryz.results25 (by simp) ?_
  have H := Hp.refl w
  obtain ⟨p1, p2, f1, f2, q1, q2, t1, t2, g1, g2, hx, hp1, hp2, hf1, hf2, hq1, hq2, ht2, hg2⟩ := hA.ex
  refine W_seq ?_
  refine W_region_l ?_
  (refine WL_effn rfl (E_box (vs := [ptr xa 0]) H rfl rfl) ?_; clear H; intro c1 w3 hc1 H)
  refine WL_stepM rfl (R_as) ?_
  refine WL_nil ?_
  refine W_seq ?_
  refine W_region_l ?_
  refine WL_step rfl (R_load Tryz.isAgg66 rfl (H.get .here) rfl) ?_
  refine WL_step rfl (R_nilCheck rfl) ?_
  refine WL_step rfl (R_fieldAddr (off' := 2) Tryz.underlying90 rfl Tryz.sizeOf83 (by decide) rfl rfl) ?_
  refine WL_step rfl (R_fieldAddr (off' := 2) Tryz.underlying83 rfl Tryz.sizeOf81 (by decide) rfl rfl) ?_
  refine WL_step rfl (R_load (v := f1) Tryz.isAgg81 rfl (H.blockN hx (by repeat' first | exact kNil | apply kCons | apply kApp | assumption | exact OwnS.keys (by assumption))) rfl) ?_
  refine WL_step rfl (R_fn1 rfl) ?_
  (refine WL_call rfl (R_call rfl Tryz.call56 rfl) (hasX _ _ c1 (hA.monoN H (by repeat' first | exact kNil | apply kCons | apply kApp | assumption | exact OwnS.keys (by assumption))) (H.get .here) (hf1.monoN H (by repeat' first | exact kNil | apply kCons | apply kApp | assumption | exact OwnS.keys (by assumption)))) ?_; rintro _ w14 ⟨rfl, H1⟩; replace H := H.seq0 H1; clear H1)
  refine WL_stepM rfl (R_as) ?_
  refine WL_nil ?_
  refine W_ret ?_
  exact ⟨_, rfl, rfl, H.none (by repeat' first | exact kNil | apply kCons | apply kApp | assumption | exact OwnS.keys (by assumption))⟩
end Go.Proofs.YthonajikgljgmaaGreat.Aud

/-
  Frames given back, numbered, counted.
-/
import Derived.Test.YtjfcnmbalojehaaQuotaB
import Derived.Test.YtjfcnmbalojehaaFxW
namespace Go.Proofs.Ytjfcnmbalojehaa.Quota
open Go Go.Proofs Go.Proofs.Ytjfcnmbalojehaa.Fx
set_option maxRecDepth 100000
set_option linter.unusedVariables false
set_option linter.unusedSimpArgs false
set_option maxHeartbeats 1000000

/-- a frame is given back -/
def freeQ (ins : List (Nat × List Int)) (s k : Int) : List (Nat × List Int) × Int :=
  if 0 ≤ s ∧ s < ins.length then (if ownP ins s k then (setQ ins s k 0, 0) else (ins, 5)) else (ins, 1)
def usedQ (ins : List (Nat × List Int)) (s : Int) : Int := if 0 ≤ s ∧ s < ins.length then (rowD ins s).2.sum else 0
def firstQ (ins : List (Nat × List Int)) (s : Int) : Nat := ((ins.take s.toNat).map fun x => x.2.length).sum

theorem sum_take {r : List Int} (h : ∀ y ∈ r, y = 0 ∨ y = 1) (i : Nat) (hi : i ≤ r.length) : 0 ≤ (r.take i).sum ∧ (r.take i).sum ≤ i := by
  induction i with
  | zero => simp
  | succ i ih =>
    obtain ⟨h1, h2⟩ := ih (by omega)
    rw [List.take_succ_eq_append_getElem (by omega), List.sum_append]
    have := h r[i] (List.getElem_mem _)
    simp only [List.sum_cons, List.sum_nil]
    omega
theorem sum_next {r : List Int} {i : Nat} (hi : i < r.length) : (r.take (i + 1)).sum = (r.take i).sum + r.getD i 0 := by
  rw [List.take_succ_eq_append_getElem hi, List.sum_append, List.getD_eq_getElem?_getD, List.getElem?_eq_getElem hi]
  simp
theorem used_eq {ins : List (Nat × List Int)} {s : Int} (hs : 0 ≤ s ∧ s < ins.length) : I ((rowD ins s).2.take (rowD ins s).2.length).sum = I (usedQ ins s) := by
  unfold usedQ
  rw [if_pos hs, List.take_of_length_le (Nat.le_refl _)]
def lens (ins : List (Nat × List Int)) (i : Nat) : Nat := ((ins.take i).map fun x => x.2.length).sum
theorem lens_next {ins : List (Nat × List Int)} {i : Nat} (hi : i < ins.length) : lens ins (i + 1) = lens ins i + (rowD ins i).2.length := by
  have hr := rowD_get (ins := ins) (s := (i : Int)) ⟨by omega, by omega⟩
  rw [Int.toNat_natCast, List.getElem?_eq_getElem hi] at hr
  unfold lens
  rw [List.take_succ_eq_append_getElem hi, List.map_append, List.sum_append, Option.some.inj hr]
  simp
theorem lens_le {ins : List (Nat × List Int)} (h : ∀ x ∈ ins, x.2.length ≤ 64) (i : Nat) (hi : i ≤ ins.length) : lens ins i ≤ 64 * i := by
  induction i with
  | zero => simp [lens]
  | succ i ih =>
    have h1 := ih (by omega)
    have h2 := h _ (rowD_mem (ins := ins) (s := (i : Int)) ⟨by omega, by omega⟩)
    rw [lens_next (by omega)]; omega
theorem lens_first (ins : List (Nat × List Int)) (s : Int) : lens ins (min s.toNat ins.length) = firstQ ins s := by
  unfold lens firstQ
  rcases Nat.le_total s.toNat ins.length with h | h
  · rw [Nat.min_eq_left h]
  · rw [Nat.min_eq_right h, List.take_of_length_le (Nat.le_refl _), List.take_of_length_le h]

section
variable {w0 w : World} {p : Nat} {uv : Value} {ins : List (Nat × List Int)} {Mo R : List (Nat × Obj)}

theorem free_ret (s k : Int) (hH : Has w0 w p uv ins Mo R) :
    Ret Try.prog 53 #[ptr p 0, I s, I k] w fun v w' => v = I (freeQ ins s k).2 ∧ Has w0 w' p uv (freeQ ins s k).1 Mo R := by
  refine Ret_of_W (args := [_, _, _]) Try.func53 rfl Try.ntmps53 Try.results53 (by simp) ?_
  have hS := hH.sees
  have hl4 := hH.len
  obtain ⟨ao, ca, rfl⟩ := hS.form
  by_cases hs : 0 ≤ s ∧ s < ins.length
  · by_cases hz : ownP ins s k
    · obtain ⟨b1, o1, rfl, hc1⟩ := hS.cell hs
      have h64 := hS.small _ (rowD_mem hs)
      obtain ⟨A, C, he, hA⟩ := split_ins hs
      have H := hH.shut he
      have hk0 := hz.1.1.2
      have hk1 := hz.1.2
      refine W_seq ?_
      refine W_region_l ?_
      refine WL_stepM rfl (R_as) ?_
      refine WL_nil ?_
      refine W_seq ?_
      refine W_block ?_
      refine W_seq ?_
      refine W_region_l ?_
      refine WL_stepM rfl (R_mv) ?_
      refine WL_stepM rfl (R_mv) ?_
      (refine WL_call rfl (R_call rfl Try.call63 rfl) (is_ret s hS) ?_; rintro _ w11 ⟨rfl, H1⟩; replace H := H.seq0 H1; replace hS := hS.at_ H1; replace hc1 := H1.cellN hc1 kNil; clear H1; rw [decide_eq_true hs])
      refine WL_step rfl (R_not_t rfl) ?_
      refine WL_stepM rfl (R_as) ?_
      refine WL_nil ?_
      refine W_cond_f rfl ?_
      refine W_seq ?_
      refine W_region_l ?_
      refine WL_stepM rfl (R_mv) ?_
      refine WL_stepM rfl (R_mv) ?_
      refine WL_stepM rfl (R_mv) ?_
      (refine WL_call rfl (R_call rfl Try.call57 rfl) (owns_ret s k hS) ?_; rintro _ w21 ⟨rfl, H1⟩; replace H := H.seq0 H1; replace hS := hS.at_ H1; replace hc1 := H1.cellN hc1 kNil; clear H1; rw [decide_eq_true hz])
      refine WL_step rfl (R_not_t rfl) ?_
      refine WL_stepM rfl (R_as) ?_
      refine WL_nil ?_
      refine W_cond_f rfl ?_
      refine W_skip ?_
      refine W_seq ?_
      refine W_region_l ?_
      refine WL_stepM rfl (R_mv) ?_
      refine WL_step rfl (R_nilCheck rfl) ?_
      refine WL_step rfl (R_fieldAddr (off' := 0) Try.underlying101 rfl Try.sizeOf99 (by decide) rfl rfl) ?_
      refine WL_step rfl (R_load Try.isAgg99 rfl hS.obj rfl) ?_
      refine WL_stepM rfl (R_mv) ?_
      refine WL_step rfl (R_indexAddr (off' := o1 + s.toNat) Try.underlying99 Try.sizeOf22 rfl rfl (by omega) (by omega) (by simp)) ?_
      refine WL_step rfl (R_load_cell Try.isAgg22 rfl hc1) ?_
      refine WL_stepM rfl (R_mv) ?_
      refine WL_step rfl (R_indexAddr (off' := k.toNat) Try.underlying22 Try.sizeOf3 rfl rfl (by omega) (by omega) (by simp)) ?_
      (refine WL_effu rfl (E_store (v := (.int _ _)) H Try.sizeOf3 rfl rfl rfl (.app _ .here) (by simp; omega)) ?_; clear H; intro w38 H)
      refine WL_nil ?_
      refine W_seq ?_
      refine W_region_l ?_
      refine WL_stepM rfl (R_as) ?_
      refine WL_nil ?_
      refine W_ret ?_
      (have e : freeQ ins s k = (setQ ins s k 0, 0) := (by unfold freeQ; rw [if_pos hs, if_pos hz]); have e2 : I 0 = I (freeQ ins s k).2 := (by rw [e]); exact ⟨_, rfl, e2, by rw [e]; exact hH.set hs hk0 (.inl rfl) hA he H⟩)
    · have H := Hp.refl w
      refine W_seq ?_
      refine W_region_l ?_
      refine WL_stepM rfl (R_as) ?_
      refine WL_nil ?_
      refine W_seq ?_
      refine W_block ?_
      refine W_seq ?_
      refine W_region_l ?_
      refine WL_stepM rfl (R_mv) ?_
      refine WL_stepM rfl (R_mv) ?_
      (refine WL_call rfl (R_call rfl Try.call63 rfl) (is_ret s hS) ?_; rintro _ w11 ⟨rfl, H1⟩; rw [decide_eq_true hs]; replace H := H.seq0 H1; clear H1)
      refine WL_step rfl (R_not_t rfl) ?_
      refine WL_stepM rfl (R_as) ?_
      refine WL_nil ?_
      refine W_cond_f rfl ?_
      refine W_seq ?_
      refine W_region_l ?_
      refine WL_stepM rfl (R_mv) ?_
      refine WL_stepM rfl (R_mv) ?_
      refine WL_stepM rfl (R_mv) ?_
      (refine WL_call rfl (R_call rfl Try.call57 rfl) (owns_ret s k (hS.at_ H)) ?_; rintro _ w21 ⟨rfl, H1⟩; rw [decide_eq_false hz]; replace H := H.seq0 H1; clear H1)
      refine WL_step rfl (R_not_f rfl) ?_
      refine WL_stepM rfl (R_as) ?_
      refine WL_nil ?_
      refine W_cond_t rfl ?_
      refine W_seq ?_
      refine W_region_l ?_
      refine WL_stepM rfl (R_as) ?_
      refine WL_nil ?_
      refine W_ret ?_
      (have e : freeQ ins s k = (ins, 5) := (by unfold freeQ; rw [if_pos hs, if_neg hz]); have e2 : I 5 = I (freeQ ins s k).2 := (by rw [e]); exact ⟨_, rfl, e2, by rw [e]; exact hH.next H⟩)
  · have H := Hp.refl w
    refine W_seq ?_
    refine W_region_l ?_
    refine WL_stepM rfl (R_as) ?_
    refine WL_nil ?_
    refine W_seq ?_
    refine W_block ?_
    refine W_seq ?_
    refine W_region_l ?_
    refine WL_stepM rfl (R_mv) ?_
    refine WL_stepM rfl (R_mv) ?_
    (refine WL_call rfl (R_call rfl Try.call63 rfl) (is_ret s hS) ?_; rintro _ w11 ⟨rfl, H1⟩; rw [decide_eq_false hs]; replace H := H.seq0 H1; clear H1)
    refine WL_step rfl (R_not_f rfl) ?_
    refine WL_stepM rfl (R_as) ?_
    refine WL_nil ?_
    refine W_cond_t rfl ?_
    refine W_seq ?_
    refine W_region_l ?_
    refine WL_stepM rfl (R_as) ?_
    refine WL_nil ?_
    refine W_ret ?_
    (have e : freeQ ins s k = (ins, 1) := if_neg hs; have e2 : I 1 = I (freeQ ins s k).2 := (by rw [e]); exact ⟨_, rfl, e2, by rw [e]; exact hH.next H⟩)

theorem used_ret (s : Int) (hS : Sees w p uv ins) :
    Ret Try.prog 58 #[ptr p 0, I s] w fun v w' => v = I (usedQ ins s) ∧ Hp w [] w' := by
  refine Ret_of_W (args := [_, _]) Try.func58 rfl Try.ntmps58 Try.results58 (by simp) ?_
  have H := Hp.refl w
  have hl4 := hS.len
  obtain ⟨ao, ca, rfl⟩ := hS.form
  by_cases hs : 0 ≤ s ∧ s < ins.length
  · obtain ⟨b1, o1, rfl, hc1⟩ := hS.cell hs
    have h64 := hS.small _ (rowD_mem hs)
    have hbits := hS.bits _ (rowD_mem hs)
    refine W_seq ?_
    refine W_region_l ?_
    refine WL_stepM rfl (R_as) ?_
    refine WL_nil ?_
    refine W_seq ?_
    refine W_seq ?_
    refine W_region_l ?_
    refine WL_stepM rfl (R_mv) ?_
    refine WL_stepM rfl (R_mv) ?_
    (refine WL_call rfl (R_call rfl Try.call63 rfl) (is_ret s hS) ?_; rintro _ w10 ⟨rfl, H1⟩; rw [decide_eq_true hs]; replace H := H.seq0 H1; clear H1)
    refine WL_step rfl (R_not_t rfl) ?_
    refine WL_nil ?_
    refine W_cond_f rfl ?_
    refine W_skip ?_
    refine W_seq ?_
    refine W_region_l ?_
    refine WL_stepM rfl (R_as) ?_
    refine WL_nil ?_
    refine W_seq ?_
    refine W_seq ?_
    refine W_region_l ?_
    refine WL_stepM rfl (R_mv) ?_
    refine WL_step rfl (R_nilCheck rfl) ?_
    refine WL_step rfl (R_fieldAddr (off' := 0) Try.underlying101 rfl Try.sizeOf99 (by decide) rfl rfl) ?_
    refine WL_step rfl (R_load Try.isAgg99 rfl (hS.at_ H).obj rfl) ?_
    refine WL_stepM rfl (R_mv) ?_
    refine WL_step rfl (R_indexAddr (off' := o1 + s.toNat) Try.underlying99 Try.sizeOf22 rfl rfl (by omega) (by omega) (by simp)) ?_
    refine WL_step rfl (R_load_cell Try.isAgg22 rfl (H.cellN hc1 kNil)) ?_
    refine WL_step rfl (R_len_slice Try.underlying22 rfl) ?_
    refine WL_stepM rfl (R_mv) ?_
    refine WL_nil ?_
    refine W_block ?_
    refine W_loopS [(5, 5), (7, 7), (20, 27)] (fun (i : Nat) E w' => i ≤ (rowD ins s).2.length ∧ E 5 = I ((rowD ins s).2.take i).sum ∧ E 20 = I i ∧ Hp w [] w') (fun i => (rowD ins s).2.length - i) 0 ?e0 ?r0
    · exact ⟨by omega, rfl, rfl, H⟩
    · (clear H; rintro i E w1 ⟨hi, h0, h1, H⟩; refine W_kn2 h0 h1 ?_; have hsum := sum_take hbits i hi)
      refine W_seq ?_
      refine W_region_l ?_
      refine WL_step rfl (R_lt rfl rfl) ?_
      refine WL_nil ?_
      refine W_seq ?_
      refine W_if rfl (fun h40 => ?_) (fun h40 => ?_)
      · refine W_skip ?_
        refine W_seq ?_
        refine W_block ?_
        refine W_seq ?_
        refine W_region_l ?_
        refine WL_step rfl (R_indexAddr Try.underlying22 Try.sizeOf3 rfl rfl (by omega) (by omega) idx0_cast) ?_
        refine WL_step rfl (R_load_cell Try.isAgg3 rfl (by have := (hS.at_ H).row hs (k := (i : Int)) ⟨by omega, by omega⟩; rwa [Int.toNat_natCast] at this)) ?_
        refine WL_stepM rfl (R_as) ?_
        refine WL_nil ?_
        ((have hbi : (rowD ins s).2.getD i 0 = 0 ∨ (rowD ins s).2.getD i 0 = 1 := by rw [List.getD_eq_getElem?_getD, List.getElem?_eq_getElem (by omega)]; exact hbits _ (List.getElem_mem _))) <;> refine W_region_l ?_
        refine WL_stepM rfl (R_mv) ?_
        refine WL_stepM rfl (R_mv) ?_
        refine WL_step rfl (R_add rfl rfl (w_i64 (by omega))) ?_
        refine WL_stepM rfl (R_as) ?_
        refine WL_nil ?_
        refine W_region_l ?_
        refine WL_step rfl (R_add rfl rfl (w_i64 (by omega))) ?_
        refine WL_stepM rfl (R_mv) ?_
        refine WL_nil ?_
        exact ⟨(by repeat' first | with_reducible exact Same.refl | refine same_updo rfl ?_ | refine same_mov rfl ?_ | refine same_upd rfl ?_ | refine same_updn ?_ | refine same_know rfl ?_ | exact same_ovr | refine same_in rfl ?_ | exact Same.refl), i + 1, by omega, by omega, congrArg I (sum_next (by omega)).symm, rfl, H⟩
      · refine W_exit ?_
        refine (if_pos rfl).mpr ?_
        refine W_seq ?_
        refine W_region_l ?_
        refine WL_stepM rfl (R_mv) ?_
        refine WL_stepM rfl (R_as) ?_
        refine WL_nil ?_
        refine W_ret ?_
        (obtain rfl : i = (rowD ins s).2.length := (by omega); exact ⟨_, rfl, used_eq hs, H⟩)
  · refine W_seq ?_
    refine W_region_l ?_
    refine WL_stepM rfl (R_as) ?_
    refine WL_nil ?_
    refine W_seq ?_
    refine W_seq ?_
    refine W_region_l ?_
    refine WL_stepM rfl (R_mv) ?_
    refine WL_stepM rfl (R_mv) ?_
    (refine WL_call rfl (R_call rfl Try.call63 rfl) (is_ret s hS) ?_; rintro _ w10 ⟨rfl, H1⟩; rw [decide_eq_false hs]; replace H := H.seq0 H1; clear H1)
    refine WL_step rfl (R_not_f rfl) ?_
    refine WL_nil ?_
    refine W_cond_t rfl ?_
    refine W_seq ?_
    refine W_region_l ?_
    refine WL_stepM rfl (R_as) ?_
    refine WL_nil ?_
    refine W_ret ?_
    exact ⟨_, rfl, (congrArg I (if_neg hs)).symm, H⟩
end
end Go.Proofs.Ytjfcnmbalojehaa.Quota

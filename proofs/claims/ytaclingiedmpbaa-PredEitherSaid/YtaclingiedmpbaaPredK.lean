/-
  Two programs, one behind the other.
-/
import Derived.Test.YtaclingiedmpbaaFxU
import Derived.Test.YtaclingiedmpbaaPredJ
namespace Go.Proofs.Ytaclingiedmpbaa.Pred
open Go Go.Proofs Go.Proofs.Ytaclingiedmpbaa.Fx
set_option maxRecDepth 100000
set_option linter.unusedVariables false
set_option linter.unusedSimpArgs false
set_option maxHeartbeats 1000000

theorem insC_one (i : In) : ∀ u ∈ insC i, u.oneCell' = true := by
  intro u hu
  simp only [insC, List.mem_cons, List.not_mem_nil, or_false] at hu
  rcases hu with rfl | rfl | rfl <;> rfl

theorem grow_ret (n : Nat) (w : World) (hn : n ≤ 1000000) :
    Ret Try.prog 46 #[nilS, I n] w fun v w' => ∃ M, OwnS w.heap.size 44 3 v 0 [] M ∧ Hp w M w' := by
  refine Ret_of_W (args := [_, _]) Try.func46 rfl Try.ntmps46 Try.results46 (by simp) ?_
  have H := Hp.refl w
  rcases Nat.eq_zero_or_pos n with rfl | hpos
  · refine W_seq ?_
    refine W_region_l ?_
    refine WL_stepM rfl (R_as) ?_
    refine WL_nil ?_
    refine W_seq ?_
    refine W_seq ?_
    refine W_region_l ?_
    refine WL_stepM rfl (R_mv) ?_
    refine WL_step rfl (R_lt_f rfl rfl (by omega)) ?_
    refine WL_nil ?_
    refine W_cond_f rfl ?_
    refine W_skip ?_
    refine W_seq ?_
    refine W_seq ?_
    refine W_region_l ?_
    refine WL_stepM rfl (R_mv) ?_
    refine WL_stepM rfl (R_mv) ?_
    refine WL_step rfl (R_cap_slice Try.underlying45 rfl) ?_
    refine WL_stepM rfl (R_mv) ?_
    refine WL_step rfl (R_len_slice Try.underlying45 rfl) ?_
    refine WL_step rfl (R_sub rfl rfl (w_i64 (by omega))) ?_
    refine WL_step rfl (R_sub rfl rfl (w_i64 (by omega))) ?_
    refine WL_stepM rfl (R_as) ?_
    refine WL_nil ?_
    refine W_seq ?_
    refine W_region_l ?_
    refine WL_stepM rfl (R_mv) ?_
    refine WL_step rfl (R_gt_f rfl rfl (by omega)) ?_
    refine WL_nil ?_
    refine W_cond_f rfl ?_
    refine W_skip ?_
    refine W_seq ?_
    refine W_region_l ?_
    refine WL_stepM rfl (R_mv) ?_
    refine WL_stepM rfl (R_as) ?_
    refine WL_nil ?_
    refine W_ret ?_
    exact ⟨_, rfl, [], OwnS.nil _ _ _, H⟩
  · refine W_seq ?_
    refine W_region_l ?_
    refine WL_stepM rfl (R_as) ?_
    refine WL_nil ?_
    refine W_seq ?_
    refine W_seq ?_
    refine W_region_l ?_
    refine WL_stepM rfl (R_mv) ?_
    refine WL_step rfl (R_lt_f rfl rfl (by omega)) ?_
    refine WL_nil ?_
    refine W_cond_f rfl ?_
    refine W_skip ?_
    refine W_seq ?_
    refine W_seq ?_
    refine W_region_l ?_
    refine WL_stepM rfl (R_mv) ?_
    refine WL_stepM rfl (R_mv) ?_
    refine WL_step rfl (R_cap_slice Try.underlying45 rfl) ?_
    refine WL_stepM rfl (R_mv) ?_
    refine WL_step rfl (R_len_slice Try.underlying45 rfl) ?_
    refine WL_step rfl (R_sub rfl rfl (w_i64 (by omega))) ?_
    refine WL_step rfl (R_sub rfl rfl (w_i64 (by omega))) ?_
    refine WL_stepM rfl (R_as) ?_
    refine WL_nil ?_
    refine W_seq ?_
    refine W_region_l ?_
    refine WL_stepM rfl (R_mv) ?_
    refine WL_step rfl (R_gt_t rfl rfl (by omega)) ?_
    refine WL_nil ?_
    refine W_cond_t rfl ?_
    refine W_region_l ?_
    refine WL_stepM rfl (R_mv) ?_
    refine WL_stepM rfl (R_mv) ?_
    refine WL_step rfl (R_cap_slice Try.underlying45 rfl) ?_
    refine WL_step rfl (R_sliceNil Try.underlying45 Try.sizeOf44 rfl .none (.some rfl) (by omega) (by omega)) ?_
    refine WL_stepM rfl (R_mv) ?_
    (refine WL_effm rfl (E_appendZ (n := n) (k := .i64) H Try.underlying45 Try.underlying3 Try.typeInfo44 rfl rfl rfl rfl (by decide) rfl (congrArg (Value.int .i64) (by omega)) hpos (by omega) (by simp only [Try.t44]; omega)) ?_; clear H; rintro v m w37 ⟨cap, sp, rfl, hm, hsp, hcap, hm0⟩ H; obtain ⟨mb, mo⟩ := m; simp only at hm hm0; subst hm)
    refine WL_stepM rfl (R_mv) ?_
    refine WL_step rfl (R_len_slice Try.underlying45 rfl) ?_
    refine WL_step rfl (R_slice Try.underlying45 Try.sizeOf44 rfl .none (.some rfl) (by omega) (by omega) (by omega) (by omega) (by omega) rfl) ?_
    refine WL_stepM rfl (R_as) ?_
    refine WL_nil ?_
    refine W_seq ?_
    refine W_region_l ?_
    refine WL_stepM rfl (R_mv) ?_
    refine WL_stepM rfl (R_as) ?_
    refine WL_nil ?_
    refine W_ret ?_
    exact ⟨_, rfl, _, OwnS.new (xs := []) (sp := sp) hm0 rfl (by simpa using hsp) (by omega), H⟩

/-- a slice of two slices -/
theorem concat_ret {l1 l2 : List In} {w : World} {v1 v2 : Value} {b : Nat} (hb : w.heap[b]? = some (blk [v1, v2] 45)) (h1 : RdR insC w v1 l1) (h2 : RdR insC w v2 l2) (hl1 : l1.length ≤ 400000) (hl2 : l2.length ≤ 400000) :
    Ret Try.prog 42 #[sl b 0 2 2] w fun v w' => ∃ M, OwnS w.heap.size 44 3 v (l1.length + l2.length) (rows insC (l1 ++ l2)) M ∧ Hp w M w' := by
  refine Ret_of_W (args := [_]) Try.func42 rfl Try.ntmps42 Try.results42 (by simp) ?_
  obtain ⟨a1, c1, rfl⟩ := h1.form
  obtain ⟨a2, c2, rfl⟩ := h2.form
  have H := Hp.refl w
  refine W_seq ?_
  refine W_region_l ?_
  refine WL_stepM rfl (R_as) ?_
  refine WL_nil ?_
  refine W_seq ?_
  refine W_region_l ?_
  refine WL_stepM rfl (R_as) ?_
  refine WL_nil ?_
  refine W_seq ?_
  refine W_seq ?_
  refine W_region_l ?_
  refine WL_stepM rfl (R_mv) ?_
  refine WL_step rfl (R_len_slice Try.underlying78 rfl) ?_
  refine WL_stepM rfl (R_mv) ?_
  refine WL_nil ?_
  refine W_block ?_
  refine W_rounds 2 ?_
  refine W_seq ?_
  refine W_region_l ?_
  refine WL_step rfl (R_lt_t rfl rfl (by omega)) ?_
  refine WL_nil ?_
  refine W_seq ?_
  refine W_cond_t rfl ?_
  refine W_skip ?_
  refine W_seq ?_
  refine W_block ?_
  refine W_seq ?_
  refine W_region_l ?_
  refine WL_step rfl (R_indexAddr (off' := 0) Try.underlying78 Try.sizeOf45 rfl rfl (by omega) (by omega) rfl) ?_
  refine WL_step rfl (R_load Try.isAgg45 rfl (H.block hb (by simp)) rfl) ?_
  refine WL_stepM rfl (R_as) ?_
  refine WL_nil ?_
  refine W_seq ?_
  refine W_region_l ?_
  refine WL_stepM rfl (R_mv) ?_
  refine WL_stepM rfl (R_mv) ?_
  refine WL_step rfl (R_len_slice Try.underlying45 rfl) ?_
  refine WL_step rfl (R_add (r := ((l1.length : Nat) : Int)) rfl rfl (by rw [w_i64 (by omega)]; omega)) ?_
  refine WL_stepM rfl (R_as) ?_
  refine WL_nil ?_
  refine W_seq ?_
  refine W_region_l ?_
  refine WL_stepM rfl (R_mv) ?_
  refine WL_step rfl (R_lt_f rfl rfl (by omega)) ?_
  refine WL_nil ?_
  refine W_cond_f rfl ?_
  refine W_skip ?_
  refine W_region_l ?_
  refine WL_step rfl (R_add (r := 1) rfl rfl (by decide)) ?_
  refine WL_stepM rfl (R_mv) ?_
  refine WL_nil ?_
  refine Rn_succ ?_
  refine W_seq ?_
  refine W_region_l ?_
  refine WL_step rfl (R_lt_t rfl rfl (by omega)) ?_
  refine WL_nil ?_
  refine W_seq ?_
  refine W_cond_t rfl ?_
  refine W_skip ?_
  refine W_seq ?_
  refine W_block ?_
  refine W_seq ?_
  refine W_region_l ?_
  refine WL_step rfl (R_indexAddr (off' := 1) Try.underlying78 Try.sizeOf45 rfl rfl (by omega) (by omega) rfl) ?_
  refine WL_step rfl (R_load Try.isAgg45 rfl (H.block hb (by simp)) rfl) ?_
  refine WL_stepM rfl (R_as) ?_
  refine WL_nil ?_
  refine W_seq ?_
  refine W_region_l ?_
  refine WL_stepM rfl (R_mv) ?_
  refine WL_stepM rfl (R_mv) ?_
  refine WL_step rfl (R_len_slice Try.underlying45 rfl) ?_
  refine WL_step rfl (R_add (r := ((l1.length + l2.length : Nat) : Int)) rfl rfl (by rw [w_i64 (by omega)]; omega)) ?_
  refine WL_stepM rfl (R_as) ?_
  refine WL_nil ?_
  refine W_seq ?_
  refine W_region_l ?_
  refine WL_stepM rfl (R_mv) ?_
  refine WL_step rfl (R_lt_f rfl rfl (by omega)) ?_
  refine WL_nil ?_
  refine W_cond_f rfl ?_
  refine W_skip ?_
  refine W_region_l ?_
  refine WL_step rfl (R_add (r := 2) rfl rfl (by decide)) ?_
  refine WL_stepM rfl (R_mv) ?_
  refine WL_nil ?_
  refine Rn_succ ?_
  refine W_seq ?_
  refine W_region_l ?_
  refine WL_step rfl (R_lt_f rfl rfl (by omega)) ?_
  refine WL_nil ?_
  refine W_seq ?_
  refine W_cond_f rfl ?_
  refine W_exit ?_
  refine (if_pos rfl).mpr ?_
  refine W_seq ?_
  refine W_region_l ?_
  refine WL_stepM rfl (R_mv) ?_
  (refine WL_call rfl (R_call rfl Try.call46 rfl) (grow_ret (l1.length + l2.length) _ (by omega)) ?_; rintro v5 w98 ⟨M, hO, H1⟩; obtain ⟨hO, H⟩ := H.seqO hO H1; rw [List.append_nil] at H; clear H1; obtain ⟨a5, c5, rfl⟩ := hO.form)
  refine WL_stepM rfl (R_as) ?_
  refine WL_nil ?_
  refine W_seq ?_
  refine W_seq ?_
  refine W_region_l ?_
  refine WL_stepM rfl (R_mv) ?_
  refine WL_step rfl (R_len_slice Try.underlying78 rfl) ?_
  refine WL_stepM rfl (R_mv) ?_
  refine WL_nil ?_
  refine W_block ?_
  refine W_rounds 2 ?_
  refine W_seq ?_
  refine W_region_l ?_
  refine WL_step rfl (R_lt_t rfl rfl (by omega)) ?_
  refine WL_nil ?_
  refine W_seq ?_
  refine W_cond_t rfl ?_
  refine W_skip ?_
  refine W_seq ?_
  refine W_block ?_
  refine W_seq ?_
  refine W_region_l ?_
  refine WL_step rfl (R_indexAddr (off' := 0) Try.underlying78 Try.sizeOf45 rfl rfl (by omega) (by omega) rfl) ?_
  refine WL_step rfl (R_load Try.isAgg45 rfl (H.blockN hb (by repeat' first | exact kNil | apply kCons | apply kApp | assumption | exact OwnS.keys (by assumption))) rfl) ?_
  refine WL_stepM rfl (R_as) ?_
  refine WL_nil ?_
  refine W_region_l ?_
  refine WL_stepM rfl (R_mv) ?_
  refine WL_stepM rfl (R_mv) ?_
  (refine WL_effm rfl (E_append (news := rows insC l1) (m := l1.length) H .last hO Try.underlying45 Try.typeInfo44 rfl rfl rfl rfl rfl rfl ((h1.monoN H hO.keys).src insC_len Try.underlying45 (rows_one' insC_one _)) (by omega) (by simp only [Try.t44]; omega)) ?_; clear H hO; intro v6 M6 w127 hO H; rw [Nat.zero_add, List.nil_append] at hO; obtain ⟨a6, c6, rfl⟩ := hO.form)
  refine WL_stepM rfl (R_as) ?_
  refine WL_nil ?_
  refine W_region_l ?_
  refine WL_step rfl (R_add (r := 1) rfl rfl (by decide)) ?_
  refine WL_stepM rfl (R_mv) ?_
  refine WL_nil ?_
  refine Rn_succ ?_
  refine W_seq ?_
  refine W_region_l ?_
  refine WL_step rfl (R_lt_t rfl rfl (by omega)) ?_
  refine WL_nil ?_
  refine W_seq ?_
  refine W_cond_t rfl ?_
  refine W_skip ?_
  refine W_seq ?_
  refine W_block ?_
  refine W_seq ?_
  refine W_region_l ?_
  refine WL_step rfl (R_indexAddr (off' := 1) Try.underlying78 Try.sizeOf45 rfl rfl (by omega) (by omega) rfl) ?_
  refine WL_step rfl (R_load Try.isAgg45 rfl (H.blockN hb (by repeat' first | exact kNil | apply kCons | apply kApp | assumption | exact OwnS.keys (by assumption))) rfl) ?_
  refine WL_stepM rfl (R_as) ?_
  refine WL_nil ?_
  refine W_region_l ?_
  refine WL_stepM rfl (R_mv) ?_
  refine WL_stepM rfl (R_mv) ?_
  (refine WL_effm rfl (E_append (news := rows insC l2) (m := l2.length) H .last hO Try.underlying45 Try.typeInfo44 rfl rfl rfl rfl rfl rfl ((h2.monoN H hO.keys).src insC_len Try.underlying45 (rows_one' insC_one _)) (by omega) (by simp only [Try.t44]; omega)) ?_; clear H hO; intro v7 M7 w153 hO H)
  refine WL_stepM rfl (R_as) ?_
  refine WL_nil ?_
  refine W_region_l ?_
  refine WL_step rfl (R_add (r := 2) rfl rfl (by decide)) ?_
  refine WL_stepM rfl (R_mv) ?_
  refine WL_nil ?_
  refine Rn_succ ?_
  refine W_seq ?_
  refine W_region_l ?_
  refine WL_step rfl (R_lt_f rfl rfl (by omega)) ?_
  refine WL_nil ?_
  refine W_seq ?_
  refine W_cond_f rfl ?_
  refine W_exit ?_
  refine (if_pos rfl).mpr ?_
  refine W_seq ?_
  refine W_region_l ?_
  refine WL_stepM rfl (R_mv) ?_
  refine WL_stepM rfl (R_as) ?_
  refine WL_nil ?_
  refine W_ret ?_
  exact ⟨_, rfl, _, (by rw [rows_append]; exact hO), H⟩
end Go.Proofs.Ytaclingiedmpbaa.Pred

/-
  What the reference's SameInts does.
-/
import Derived.Test.YthonajikgljgmaaFxI
import Derived.Test.YthonajikgljgmaaProg
namespace Go.Proofs.Ythonajikgljgmaa.Bell
open Go Go.Proofs Go.Proofs.Ythonajikgljgmaa.Fx
set_option maxRecDepth 100000
set_option linter.unusedVariables false

theorem take_snoc_ne {xs ys : List Int} {i : Nat} (h : xs.take i = ys.take i) (hx : i < xs.length) (hy : i < ys.length) (he : xs[i] = ys[i]) : xs.take (i + 1) = ys.take (i + 1) := by
  rw [List.take_succ_eq_append_getElem hx, List.take_succ_eq_append_getElem hy, h, he]

theorem sameInts_ret {xs ys : List Int} {w : World} {a b : Value} (ha : RdS w a (xs.map I)) (hb : RdS w b (ys.map I)) (hl : xs.length ≤ 1000000000) (hl2 : ys.length ≤ 1000000000) :
    Ret Try.prog 28 #[a, b] w fun v w' => v = .bool (decide (xs = ys)) ∧ Hp w [] w' := by
  refine Ret_of_W (args := [_, _]) Try.func28 rfl Try.ntmps28 Try.results28 (by simp) ?_
  have H := Hp.refl w
  obtain ⟨ao, ca, rfl, hca, hra⟩ := id ha
  obtain ⟨bo, cb, rfl, hcb, hrb⟩ := id hb
  simp only [List.length_map] at ha hb ⊢
  by_cases hlen : xs.length = ys.length
  · refine W_seq ?_
    refine W_region_l ?_
    refine WL_stepM rfl (R_as) ?_
    refine WL_nil ?_
    refine W_seq ?_
    refine W_seq ?_
    refine W_region_l ?_
    refine WL_stepM rfl (R_mv) ?_
    refine WL_step rfl (R_len_slice Try.underlying59 rfl) ?_
    refine WL_stepM rfl (R_mv) ?_
    refine WL_step rfl (R_len_slice Try.underlying59 rfl) ?_
    refine WL_step rfl (R_ne_f rfl rfl (by omega)) ?_
    refine WL_nil ?_
    refine W_cond_f rfl ?_
    refine W_skip ?_
    refine W_seq ?_
    refine W_seq ?_
    refine W_region_l ?_
    refine WL_stepM rfl (R_as) ?_
    refine WL_nil ?_
    refine W_block ?_
    refine W_loop (fun (i : Nat) E w' => i ≤ xs.length ∧ xs.take i = ys.take i ∧ E 0 = .slice ao xs.length ca ∧ E 1 = .slice bo ys.length cb ∧ E 5 = I i ∧ Hp w [] w') (fun i => xs.length - i) 0 ?_ ?_
    · exact ⟨by omega, by simp, rfl, rfl, rfl, H⟩
    · (clear H; rintro i E w1 ⟨hi, ht, h0, h1, h5, H⟩; refine W_know3 h0 h1 h5 ?_; by_cases hlt : i < xs.length)
      · refine W_seq ?_
        refine W_seq ?_
        refine W_region_l ?_
        refine WL_stepM rfl (R_mv) ?_
        refine WL_stepM rfl (R_mv) ?_
        refine WL_step rfl (R_len_slice Try.underlying59 rfl) ?_
        refine WL_step rfl (R_lt_t rfl rfl (by omega)) ?_
        refine WL_nil ?_
        refine W_cond_t rfl ?_
        refine W_skip ?_
        refine W_seq ?_
        refine W_block ?_
        refine W_seq ?_
        (obtain ⟨b1, o1, rfl, hc1⟩ := ha.cell (i := i) (by rw [List.getElem?_map, List.getElem?_eq_getElem hlt]; rfl); obtain ⟨b2, o2, rfl, hc2⟩ := hb.cell (i := i) (by rw [List.getElem?_map, List.getElem?_eq_getElem (show i < ys.length by omega)]; rfl); refine W_drawH (fun _ => false) (by kernel_rfl) H ?_; clear H; intro w2 H)
        refine WA_takeM 0 rfl rfl rfl (by kernel_rfl) (by kernel_rfl) H (fun _ hC => R_mv) ?_
        refine WA_takeM 1 rfl rfl rfl (by kernel_rfl) (by kernel_rfl) H (fun _ hC => R_mv) ?_
        refine WA_take 2 rfl rfl rfl (by kernel_rfl) (by kernel_rfl) H (fun _ hC => R_indexAddr Try.underlying59 Try.sizeOf3 rfl rfl (by omega) (by omega) idx_cast1) ?_
        refine WA_take 3 rfl rfl rfl (by kernel_rfl) (by kernel_rfl) H (fun _ hC => R_load_cell Try.isAgg3 rfl (hC.cell hc1 (by simp))) ?_
        refine WA_takeM 4 rfl rfl rfl (by kernel_rfl) (by kernel_rfl) H (fun _ hC => R_mv) ?_
        refine WA_takeM 5 rfl rfl rfl (by kernel_rfl) (by kernel_rfl) H (fun _ hC => R_mv) ?_
        refine WA_take 6 rfl rfl rfl (by kernel_rfl) (by kernel_rfl) H (fun _ hC => R_indexAddr Try.underlying59 Try.sizeOf3 rfl rfl (by omega) (by omega) idx_cast1) ?_
        refine WA_take 7 rfl rfl rfl (by kernel_rfl) (by kernel_rfl) H (fun _ hC => R_load_cell Try.isAgg3 rfl (hC.cell hc2 (by simp))) ?_
        refine WA_take 8 rfl rfl rfl (by kernel_rfl) (by kernel_rfl) H (fun _ hC => R_ne rfl rfl) ?_
        refine WA_done (by kernel_rfl) ?_
        refine W_if rfl (fun h49 => ?_) (fun h49 => ?_)
        · refine W_seq ?_
          refine W_region_l ?_
          refine WL_stepM rfl (R_as) ?_
          refine WL_nil ?_
          refine W_ret ?_
          exact ⟨_, rfl, congrArg Value.bool (decide_eq_false (fun e => by subst e; omega)).symm, H⟩
        · refine W_skip ?_
          refine W_region_l ?_
          refine WL_stepM rfl (R_mv) ?_
          refine WL_step rfl (R_add rfl rfl (w_i64 (by omega))) ?_
          refine WL_stepM rfl (R_as) ?_
          refine WL_nil ?_
          exact ⟨i + 1, by omega, by omega, take_snoc_ne ht hlt (by omega) (by omega), rfl, rfl, rfl, H⟩
      · refine W_seq ?_
        refine W_seq ?_
        refine W_region_l ?_
        refine WL_stepM rfl (R_mv) ?_
        refine WL_stepM rfl (R_mv) ?_
        refine WL_step rfl (R_len_slice Try.underlying59 rfl) ?_
        refine WL_step rfl (R_lt_f rfl rfl (by omega)) ?_
        refine WL_nil ?_
        refine W_cond_f rfl ?_
        refine W_exit ?_
        refine (if_pos rfl).mpr ?_
        refine W_seq ?_
        refine W_region_l ?_
        refine WL_stepM rfl (R_as) ?_
        refine WL_nil ?_
        refine W_ret ?_
        exact ⟨_, rfl, congrArg Value.bool (decide_eq_true (by rw [List.take_of_length_le (l := xs) (i := i) (by omega), List.take_of_length_le (l := ys) (i := i) (by omega)] at ht; exact ht)).symm, H⟩
  · refine W_seq ?_
    refine W_region_l ?_
    refine WL_stepM rfl (R_as) ?_
    refine WL_nil ?_
    refine W_seq ?_
    refine W_seq ?_
    refine W_region_l ?_
    refine WL_stepM rfl (R_mv) ?_
    refine WL_step rfl (R_len_slice Try.underlying59 rfl) ?_
    refine WL_stepM rfl (R_mv) ?_
    refine WL_step rfl (R_len_slice Try.underlying59 rfl) ?_
    refine WL_step rfl (R_ne_t rfl rfl (by omega)) ?_
    refine WL_nil ?_
    refine W_cond_t rfl ?_
    refine W_seq ?_
    refine W_region_l ?_
    refine WL_stepM rfl (R_as) ?_
    refine WL_nil ?_
    refine W_ret ?_
    exact ⟨_, rfl, congrArg Value.bool (decide_eq_false (fun e => by subst e; exact hlen rfl)).symm, H⟩
end Go.Proofs.Ythonajikgljgmaa.Bell

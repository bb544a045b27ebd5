/-
  A slot out of numbers.
-/
import Derived.Test.YtneeoicjipglkaaDoorProcA
namespace Go.Proofs.YtneeoicjipglkaaDoor.Slot
open Go Go.Proofs Go.Proofs.YtneeoicjipglkaaDoor.Fx
set_option maxRecDepth 100000
set_option linter.unusedVariables false
set_option linter.unusedSimpArgs false
set_option maxHeartbeats 2000000

/-- the next number -/
theorem next_ret {w : World} {n b3 b1 cl : Nat} {xs : List Int} {al : Option Addr} (h3 : w.heap[b3]? = some (blk [I (n : Int)] 3)) (h1 : w.heap[b1]? = some (blk [.slice al xs.length cl] 22))
    (hl : RdS w (.slice al xs.length cl) (xs.map fun x => I x)) (hfr : ∀ a, al = some a → xs ≠ [] → a.block ≠ b3) (hn : n ≤ 1000) (hb : xs.length ≤ 9223372036854775807) :
    Ret Tryd.prog 27 #[ptr b3 0, ptr b1 0] w fun v w' => ∃ x : BitVec 64, v = I x.toInt ∧ 0 ≤ x.toInt ∧ x.toInt < 16777216 ∧ Hp w [(b3, blk [I ((n + 1 : Nat) : Int)] 3)] w' := by
  refine Ret_of_W (args := [_, _]) Tryd.func27 rfl Tryd.ntmps27 Tryd.results27 (by simp) ?_
  have hne : b1 ≠ b3 := by rintro rfl; rw [h1] at h3; cases h3
  have H := Hp.focus0 h3
  have hfin : ∀ y : Int, 0 ≤ y → y < 16777216 → ∃ x : BitVec 64, I y = I x.toInt ∧ 0 ≤ x.toInt ∧ x.toInt < 16777216 := fun y h0 h1 => ⟨BitVec.ofInt 64 y, by rw [bv_of (by omega) (by omega)], by rw [bv_of (by omega) (by omega)]; exact h0, by rw [bv_of (by omega) (by omega)]; exact h1⟩
  refine W_seq ?_
  refine W_region_l ?_
  refine WL_stepM rfl (R_as) ?_
  refine WL_nil ?_
  refine W_seq ?_
  refine W_region_l ?_
  refine WL_step rfl (R_load (v := I n) Tryd.isAgg3 rfl (H.get .here) rfl) ?_
  refine WL_step rfl (R_add (r := ((n + 1 : Nat) : Int)) rfl rfl (by rw [w_i64 (by omega)]; omega)) ?_
  (refine WL_effu rfl (E_store (v := I ((n + 1 : Nat) : Int)) H Tryd.sizeOf3 rfl rfl rfl .here (by simp)) ?_; clear H; intro w9 H; replace H : Hp w [(b3, blk [I ((n + 1 : Nat) : Int)] 3)] _ := H)
  refine WL_nil ?_
  refine W_seq ?_
  refine W_seq ?_
  refine W_region_l ?_
  refine WL_step rfl (R_load (v := I ((n + 1 : Nat) : Int)) Tryd.isAgg3 rfl (H.get .here) rfl) ?_
  refine WL_step rfl (R_load (v := .slice al xs.length cl) Tryd.isAgg22 rfl (H.block h1 (by simpa using hne)) rfl) ?_
  refine WL_step rfl (R_len_slice Tryd.underlying22 rfl) ?_
  refine WL_step rfl (R_gt rfl rfl) ?_
  refine WL_nil ?_
  refine W_if rfl (fun h19 => ?_) (fun h19 => ?_)
  · refine W_seq ?_
    refine W_region_l ?_
    refine WL_step rfl (R_load (v := I ((n + 1 : Nat) : Int)) Tryd.isAgg3 rfl (H.get .here) rfl) ?_
    refine WL_step rfl (R_mul (r := (((n + 1) * 7 : Nat) : Int)) rfl rfl (by rw [w_i64 (by omega)]; omega)) ?_
    refine WL_stepM rfl (R_as) ?_
    refine WL_nil ?_
    refine W_ret ?_
    (obtain ⟨x, hx, hx0, hx1⟩ := hfin (((n + 1) * 7 : Nat) : Int) (by omega) (by omega); exact ⟨_, rfl, x, hx, hx0, hx1, H⟩)
  · refine W_skip ?_
    refine W_seq ?_
    (obtain ⟨bz, oz, rfl, hc⟩ := hl.cell (i := n) (u := I (xs[n]'(by omega))) (by rw [List.getElem?_map, List.getElem?_eq_getElem (by omega)]; rfl)) <;> refine W_region_l ?_
    refine WL_step rfl (R_load (v := .slice (some ⟨bz, oz, none⟩) xs.length cl) Tryd.isAgg22 rfl (H.block h1 (by simpa using hne)) rfl) ?_
    refine WL_step rfl (R_load (v := I ((n + 1 : Nat) : Int)) Tryd.isAgg3 rfl (H.get .here) rfl) ?_
    refine WL_step rfl (R_sub (r := (n : Int)) rfl rfl (by rw [w_i64 (by omega)]; omega)) ?_
    refine WL_step rfl (R_indexAddr Tryd.underlying22 Tryd.sizeOf3 rfl rfl (by omega) (by omega) idx_cast1) ?_
    refine WL_step rfl (R_load_cell (v := I xs[n]) Tryd.isAgg3 rfl (H.cell hc (by simpa using hfr _ rfl (List.ne_nil_of_length_pos (by omega))))) ?_
    refine WL_step rfl (R_bits rfl rfl (by simp) (and_mask_i64 24 16777216 (by decide) rfl (by decide))) ?_
    refine WL_stepM rfl (R_as) ?_
    refine WL_nil ?_
    refine W_ret ?_
    (obtain ⟨x, hx, hx0, hx1⟩ := hfin (xs[n] % 16777216) (by omega) (by omega); exact ⟨_, rfl, x, hx, hx0, hx1, H⟩)
end Go.Proofs.YtneeoicjipglkaaDoor.Slot

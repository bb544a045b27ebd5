/-
  What slices.Clone of bytes does.
-/
import Derived.Test.YtlpmfldijgdcoaaGreatDoorFxM4
import Derived.Test.YtlpmfldijgdcoaaGreatDoorProg
namespace Go.Proofs.YtlpmfldijgdcoaaGreatDoor.Codec
open Go Go.Proofs Go.Proofs.YtlpmfldijgdcoaaGreatDoor.Fx
set_option maxRecDepth 100000
set_option linter.unusedVariables false
set_option maxHeartbeats 1000000

theorem clone_ret {xs : List UInt8} {w : World} {l : Value} (hl : RdS w l (xs.map U)) (hb : xs.length ≤ 1000000) :
    Ret Tryz.prog 65 #[l] w fun v w' => ∃ M, OwnS w.heap.size 5 1 v xs.length (xs.map U) M ∧ Hp w M w' := by
  refine Ret_of_W (args := [_]) Tryz.func65 rfl Tryz.ntmps65 Tryz.results65 (by simp) ?_
  have H := Hp.refl w
  obtain ⟨ao, ca, rfl, hca, hra⟩ := id hl
  simp only [List.length_map] at hl ⊢
  cases ao with
  | none =>
    obtain rfl : xs = [] := by
      rcases hra with h | ⟨_, _, h, _⟩
      · simpa using h
      · cases h
    refine W_seq ?_
    refine W_region_l ?_
    refine WL_stepM rfl (R_as) ?_
    refine WL_nil ?_
    refine W_seq ?_
    refine W_seq ?_
    refine W_region_l ?_
    refine WL_stepM rfl (R_mv) ?_
    refine WL_step rfl (R_eq_nils Tryz.underlying36 rfl rfl) ?_
    refine WL_nil ?_
    refine W_cond_t rfl ?_
    refine W_seq ?_
    refine W_region_l ?_
    refine WL_stepM rfl (R_as) ?_
    refine WL_nil ?_
    refine W_ret ?_
    exact ⟨_, rfl, [], OwnS.nil _ _ _, H⟩
  | some a =>
    refine W_seq ?_
    refine W_region_l ?_
    refine WL_stepM rfl (R_as) ?_
    refine WL_nil ?_
    refine W_seq ?_
    refine W_seq ?_
    refine W_region_l ?_
    refine WL_stepM rfl (R_mv) ?_
    refine WL_step rfl (R_eq_sl Tryz.underlying36 rfl rfl) ?_
    refine WL_nil ?_
    refine W_cond_f rfl ?_
    refine W_skip ?_
    refine W_seq ?_
    refine W_region_l ?_
    (refine WL_effn rfl (E_buildSlice (vs := []) H Tryz.underlying36 Tryz.sizeOf5 Tryz.zeroValue5 rfl rfl (by decide) rfl rfl) ?_; clear H; intro b15 w15 hb15 H)
    refine WL_stepM rfl (R_mv) ?_
    (refine WL_effm rfl (E_append H .one (OwnS.new (xs := []) (sp := []) (by assumption) rfl rfl (by omega)) Tryz.underlying36 Tryz.typeInfo5 rfl rfl rfl rfl rfl rfl ((hl.monoN H (kCons (by assumption) kNil)).src Tryz.underlying36 (by simp [Value.oneCell'])) (by simp; omega) (by simp [Tryz.t5]; omega)) ?_; clear H; intro vN MN w17 hO H; rw [List.length_map, Nat.zero_add, List.nil_append] at hO; rw [List.append_nil] at H)
    refine WL_stepM rfl (R_as) ?_
    refine WL_nil ?_
    refine W_ret ?_
    exact ⟨_, rfl, MN, hO, H⟩

end Go.Proofs.YtlpmfldijgdcoaaGreatDoor.Codec

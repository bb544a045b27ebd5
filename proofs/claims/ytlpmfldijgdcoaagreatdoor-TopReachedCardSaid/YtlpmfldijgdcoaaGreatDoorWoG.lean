/-
  The tops' awake is true; TopReached.
-/
import Derived.Test.YtlpmfldijgdcoaaGreatDoorWoM
import Derived.Test.YtlpmfldijgdcoaaGreatDoorPlanI
namespace Go.Proofs.YtlpmfldijgdcoaaGreatDoor.Wo
open Go Go.Proofs Go.Proofs.YtlpmfldijgdcoaaGreatDoor.Fx Go.Proofs.YtlpmfldijgdcoaaGreatDoor.Ho
set_option maxRecDepth 100000
set_option linter.unusedVariables false
set_option linter.unusedSimpArgs false
set_option maxHeartbeats 8000000

theorem awake_ret (w : World) : Ret Tryz.prog 10 #[] w fun v w' => v = .bool true ∧ Hp w [] w' := by
  refine Ret_of_W (args := []) Tryz.func10 rfl Tryz.ntmps10 Tryz.results10 (by simp) ?_
  have H := Hp.refl w
  refine W_seq ?_
  refine W_region_l ?_
  refine WL_stepM rfl (R_as) ?_
  refine WL_nil ?_
  refine W_seq ?_
  refine W_region_l ?_
  (refine WL_effn rfl (E_buildOnes (vs := [.bool true]) H Tryz.underlying24 Tryz.sizeOf4 Tryz.zeroValue4 rfl rfl (by decide) rfl rfl (by simp [Value.oneCell'])) ?_; clear H; intro b4 w7 hb4 H)
  refine WL_step rfl (R_buildL (places := [(0, 1), (1, 1), (2, 1)]) (vs := [sl b4 0 1 1, nilS, I 3]) Tryz.underlying27 Tryz.typeInfo27 rfl rfl (by kernel_rfl) rfl rfl rfl) ?_
  refine WL_step rfl (R_buildL (places := [(0, 1), (1, 1), (2, 1), (3, 1)]) (vs := [I 17, I 0, I 0, nilS]) Tryz.underlying38 Tryz.typeInfo38 rfl rfl (by kernel_rfl) rfl rfl rfl) ?_
  refine WL_step rfl (R_buildL (places := [(0, 1), (1, 1), (2, 1), (3, 1), (4, 1), (5, 4), (9, 7)]) (vs := stC 1 17) Tryz.underlying46 Tryz.typeInfo46 rfl rfl (by kernel_rfl) rfl rfl rfl) ?_
  refine WL_step rfl (R_buildL (places := [(0, 1), (1, 1), (2, 1), (3, 1), (4, 1), (5, 4), (9, 7)]) (vs := stC 2 0) Tryz.underlying46 Tryz.typeInfo46 rfl rfl (by kernel_rfl) rfl rfl rfl) ?_
  refine WL_step rfl (R_buildL (places := [(0, 1), (1, 1), (2, 1), (3, 1), (4, 1), (5, 4), (9, 7)]) (vs := stC 2 0) Tryz.underlying46 Tryz.typeInfo46 rfl rfl (by kernel_rfl) rfl rfl rfl) ?_
  (refine WL_effn rfl (E_buildRows (vss := [stC 1 17, stC 2 0, stC 2 0]) H Tryz.underlying23 Tryz.sizeOf46 Tryz.zeroValue46 rfl rfl (by decide) rfl rfl (by simp [stC])) ?_; clear H; intro b10 w13 hb10 H; replace H : Hp w [(b10, blk scr 46), (b4, blk [.bool true] 4)] w13 := H)
  (refine WL_call rfl (R_call rfl Tryz.call11 rfl) (run_ret ⟨RdS.blk (c := [.bool true]) (off := 0) (H.get (.there .here)) rfl (by decide) (by decide)⟩ (H.get .here)) ?_; rintro _ w14 ⟨ob, oc, ol, da, dc, rfl, hob, H1⟩; have hsz := H.size; replace H := H.seqN H1 (kCons hob kNil); replace hob := Nat.le_trans hsz hob; clear H1 hsz)
  refine WL_stepM rfl (R_mv) ?_
  refine WL_step rfl (R_extract rfl rfl) ?_
  refine WL_step rfl (R_extract rfl rfl) ?_
  refine WL_stepM rfl (R_as) ?_
  refine WL_stepM rfl (R_as) ?_
  refine WL_nil ?_
  refine W_seq ?_
  refine W_region_l ?_
  refine WL_stepM rfl (R_mv) ?_
  refine WL_step rfl (R_eq_t rfl rfl (by omega)) ?_
  refine WL_stepM rfl (R_mv) ?_
  refine WL_guard_t rfl rfl ?_
  refine WL_stepM rfl (R_mv) ?_
  refine WL_guard_t rfl rfl ?_
  refine WL_step rfl (R_len_slice Tryz.underlying32 rfl) ?_
  refine WL_guard_t rfl rfl ?_
  refine WL_step rfl (R_eq_t rfl rfl (by omega)) ?_
  refine WL_stepM rfl (R_pk_t rfl) ?_
  refine WL_stepM rfl (R_mv) ?_
  refine WL_guard_t rfl rfl ?_
  refine WL_stepM rfl (R_mv) ?_
  refine WL_guard_t rfl rfl ?_
  refine WL_step rfl (R_indexAddr (off' := 0) Tryz.underlying32 Tryz.sizeOf40 rfl rfl (by decide) (by decide) (by decide)) ?_
  refine WL_guard_t rfl rfl ?_
  refine WL_step rfl (R_fieldAddr (off' := 9) Tryz.underlying40 rfl Tryz.sizeOf4 (by decide) rfl rfl) ?_
  refine WL_guard_t rfl rfl ?_
  refine WL_step rfl (R_load (v := .bool true) Tryz.isAgg4 rfl (H.get .here) rfl) ?_
  refine WL_stepM rfl (R_pk_t rfl) ?_
  refine WL_stepM rfl (R_mv) ?_
  refine WL_guard_t rfl rfl ?_
  refine WL_stepM rfl (R_mv) ?_
  refine WL_guard_t rfl rfl ?_
  refine WL_step rfl (R_indexAddr (off' := 0) Tryz.underlying32 Tryz.sizeOf40 rfl rfl (by decide) (by decide) (by decide)) ?_
  refine WL_guard_t rfl rfl ?_
  refine WL_step rfl (R_fieldAddr (off' := 6) Tryz.underlying40 rfl Tryz.sizeOf3 (by decide) rfl rfl) ?_
  refine WL_guard_t rfl rfl ?_
  refine WL_step rfl (R_load (v := I (-1)) Tryz.isAgg3 rfl (H.get .here) rfl) ?_
  refine WL_guard_t rfl rfl ?_
  refine WL_step rfl (R_eq_t rfl rfl (by omega)) ?_
  refine WL_stepM rfl (R_pk_t rfl) ?_
  refine WL_stepM rfl (R_as) ?_
  refine WL_nil ?_
  refine W_ret ?_
  exact ⟨_, rfl, rfl, H.none (kCons hob (kCons hb10 (kCons hb4 kNil)))⟩
end Go.Proofs.YtlpmfldijgdcoaaGreatDoor.Wo

/-
  The law NamesNumbers.
-/
import Derived.Test.YtneeoicjipglkaaDoorNamA
import Derived.Test.YtneeoicjipglkaaDoorRows
import Derived.Lib.LaidTab
import Derived.MakeChecks
namespace Go.Proofs.YtneeoicjipglkaaDoor.Nam
open Go Go.Proofs Go.Proofs.YtneeoicjipglkaaDoor.Fx
set_option maxRecDepth 100000
set_option linter.unusedVariables false
set_option linter.unusedSimpArgs false
set_option maxHeartbeats 8000000

theorem itoa132_ret {w : World} (hT : TabP w) : Ret Tryd.prog 34 #[I 132] w fun v w' => v = S [49, 51, 50] ∧ Hp w [] w' := by
  refine Ret_of_W (args := [_]) Tryd.func34 rfl Tryd.ntmps34 Tryd.results34 (by simp) ?_
  have H := Hp.refl w
  refine W_seq ?_
  refine W_region_l ?_
  refine WL_stepM rfl (R_as) ?_
  refine WL_nil ?_
  refine W_seq ?_
  refine W_region_l ?_
  refine WL_stepM rfl (R_mv) ?_
  (refine WL_call rfl (R_call rfl Tryd.call35 rfl) (format132_ret (show TabP _ from H.cellN hT (by repeat' first | exact kNil | apply kCons | apply kApp | assumption | exact OwnS.keys (by assumption)))) ?_; rintro _ w8 ⟨rfl, H1⟩; replace H := H.seq0 H1; clear H1)
  refine WL_stepM rfl (R_as) ?_
  refine WL_nil ?_
  refine W_ret ?_
  exact ⟨_, rfl, rfl, H⟩
theorem itoa0_ret (w : World) : Ret Tryd.prog 34 #[I 0] w fun v w' => v = S [48] ∧ Hp w [] w' := by
  refine Ret_of_W (args := [_]) Tryd.func34 rfl Tryd.ntmps34 Tryd.results34 (by simp) ?_
  have H := Hp.refl w
  refine W_seq ?_
  refine W_region_l ?_
  refine WL_stepM rfl (R_as) ?_
  refine WL_nil ?_
  refine W_seq ?_
  refine W_region_l ?_
  refine WL_stepM rfl (R_mv) ?_
  (refine WL_call rfl (R_call rfl Tryd.call35 rfl) (format0_ret _) ?_; rintro _ w8 ⟨rfl, H1⟩; replace H := H.seq0 H1; clear H1)
  refine WL_stepM rfl (R_as) ?_
  refine WL_nil ?_
  refine W_ret ?_
  exact ⟨_, rfl, rfl, H⟩
theorem sitoa132_ret {w : World} (hT : TabP w) : Ret Tryd.prog 31 #[I 132] w fun v w' => v = S [49, 51, 50] ∧ Hp w [] w' := by
  refine Ret_of_W (args := [_]) Tryd.func31 rfl Tryd.ntmps31 Tryd.results31 (by simp) ?_
  have H := Hp.refl w
  refine W_seq ?_
  refine W_region_l ?_
  refine WL_stepM rfl (R_as) ?_
  refine WL_nil ?_
  refine W_seq ?_
  refine W_region_l ?_
  refine WL_stepM rfl (R_mv) ?_
  (refine WL_call rfl (R_call rfl Tryd.call34 rfl) (itoa132_ret (show TabP _ from H.cellN hT (by repeat' first | exact kNil | apply kCons | apply kApp | assumption | exact OwnS.keys (by assumption)))) ?_; rintro _ w8 ⟨rfl, H1⟩; replace H := H.seq0 H1; clear H1)
  refine WL_stepM rfl (R_as) ?_
  refine WL_nil ?_
  refine W_ret ?_
  exact ⟨_, rfl, rfl, H⟩
theorem sitoa0_ret (w : World) : Ret Tryd.prog 31 #[I 0] w fun v w' => v = S [48] ∧ Hp w [] w' := by
  refine Ret_of_W (args := [_]) Tryd.func31 rfl Tryd.ntmps31 Tryd.results31 (by simp) ?_
  have H := Hp.refl w
  refine W_seq ?_
  refine W_region_l ?_
  refine WL_stepM rfl (R_as) ?_
  refine WL_nil ?_
  refine W_seq ?_
  refine W_region_l ?_
  refine WL_stepM rfl (R_mv) ?_
  (refine WL_call rfl (R_call rfl Tryd.call34 rfl) (itoa0_ret _) ?_; rintro _ w8 ⟨rfl, H1⟩; replace H := H.seq0 H1; clear H1)
  refine WL_stepM rfl (R_as) ?_
  refine WL_nil ?_
  refine W_ret ?_
  exact ⟨_, rfl, rfl, H⟩
theorem err132_ret {w : World} (hT : TabP w) : Ret Tryd.prog 25 #[I 132] w fun v w' => v = S [101, 114, 114, 111, 114, 32, 49, 51, 50] ∧ Hp w [] w' := by
  refine Ret_of_W (args := [_]) Tryd.func25 rfl Tryd.ntmps25 Tryd.results25 (by simp) ?_
  have H := Hp.refl w
  refine W_seq ?_
  refine W_region_l ?_
  refine WL_stepM rfl (R_as) ?_
  refine WL_nil ?_
  refine W_seq ?_
  refine W_region_l ?_
  refine WL_stepM rfl (R_mv) ?_
  (refine WL_call rfl (R_call rfl Tryd.call31 rfl) (sitoa132_ret (show TabP _ from H.cellN hT (by repeat' first | exact kNil | apply kCons | apply kApp | assumption | exact OwnS.keys (by assumption)))) ?_; rintro _ w8 ⟨rfl, H1⟩; replace H := H.seq0 H1; clear H1)
  refine WL_step rfl (R_cat_S (xs := [101, 114, 114, 111, 114, 32]) (ys := [49, 51, 50]) rfl rfl (by decide)) ?_
  refine WL_stepM rfl (R_as) ?_
  refine WL_nil ?_
  refine W_ret ?_
  exact ⟨_, rfl, rfl, H⟩
theorem err0_ret (w : World) : Ret Tryd.prog 25 #[I 0] w fun v w' => v = S [101, 114, 114, 111, 114, 32, 48] ∧ Hp w [] w' := by
  refine Ret_of_W (args := [_]) Tryd.func25 rfl Tryd.ntmps25 Tryd.results25 (by simp) ?_
  have H := Hp.refl w
  refine W_seq ?_
  refine W_region_l ?_
  refine WL_stepM rfl (R_as) ?_
  refine WL_nil ?_
  refine W_seq ?_
  refine W_region_l ?_
  refine WL_stepM rfl (R_mv) ?_
  (refine WL_call rfl (R_call rfl Tryd.call31 rfl) (sitoa0_ret _) ?_; rintro _ w8 ⟨rfl, H1⟩; replace H := H.seq0 H1; clear H1)
  refine WL_step rfl (R_cat_S (xs := [101, 114, 114, 111, 114, 32]) (ys := [48]) rfl rfl (by decide)) ?_
  refine WL_stepM rfl (R_as) ?_
  refine WL_nil ?_
  refine W_ret ?_
  exact ⟨_, rfl, rfl, H⟩

def nums : List Int := [0, 1, 2, 3, 4, 5, 6, 7, 8, 9, 10, 101, 103, 104, 105, 109, 110, 111, 122, 123, 124, 125, 132, 8, 12, 4, 8, 32, 8, 1, 2, 4, 9, 13, 14, 15, 1, 1, 2, 3, 4, 5, 6, 7, 1, 2, 3, 4, 5, 6, 7, 8, 9, 10, 0, 1, 2, 1, 2, 3, 1, 2, 3, 0, 1, 2, 1, 2, 3, 4, 1, 2, 3, 4, 5, 1, 2, 3, 4, 5, 6, 7, 8, 9, 10, 11, 12, 13, 14, 15, 16, 17, 18, 0, 1, 2, 3, 1, 2, 3, 4, 5]
def pairC (n : Int) : List Value := [I n, I n]
theorem pairC_len (n : Int) : (pairC n).length = 2 := rfl
theorem all_ret (w : World) : Ret Tryd.prog 24 #[] w fun v w' => ∃ b, v = sl b 0 102 102 ∧ w.heap.size ≤ b ∧ Hp w [(b, blk (rows pairC nums) 56)] w' := by
  refine Ret_of_W (args := []) Tryd.func24 rfl Tryd.ntmps24 Tryd.results24 (by simp) ?_
  have H := Hp.refl w
  refine W_seq ?_
  refine W_region_l ?_
  refine WL_stepM rfl (R_as) ?_
  refine WL_nil ?_
  refine W_seq ?_
  refine W_region_l ?_
  refine WL_step rfl (R_buildL (places := [(0, 1), (1, 1)]) (vs := [(.int _ _), (.int _ _)]) Tryd.underlying56 Tryd.typeInfo56 rfl rfl (by kernel_rfl) rfl rfl rfl) ?_
  refine WL_step rfl (R_buildL (places := [(0, 1), (1, 1)]) (vs := [(.int _ _), (.int _ _)]) Tryd.underlying56 Tryd.typeInfo56 rfl rfl (by kernel_rfl) rfl rfl rfl) ?_
  refine WL_step rfl (R_buildL (places := [(0, 1), (1, 1)]) (vs := [(.int _ _), (.int _ _)]) Tryd.underlying56 Tryd.typeInfo56 rfl rfl (by kernel_rfl) rfl rfl rfl) ?_
  refine WL_step rfl (R_buildL (places := [(0, 1), (1, 1)]) (vs := [(.int _ _), (.int _ _)]) Tryd.underlying56 Tryd.typeInfo56 rfl rfl (by kernel_rfl) rfl rfl rfl) ?_
  refine WL_step rfl (R_buildL (places := [(0, 1), (1, 1)]) (vs := [(.int _ _), (.int _ _)]) Tryd.underlying56 Tryd.typeInfo56 rfl rfl (by kernel_rfl) rfl rfl rfl) ?_
  refine WL_step rfl (R_buildL (places := [(0, 1), (1, 1)]) (vs := [(.int _ _), (.int _ _)]) Tryd.underlying56 Tryd.typeInfo56 rfl rfl (by kernel_rfl) rfl rfl rfl) ?_
  refine WL_step rfl (R_buildL (places := [(0, 1), (1, 1)]) (vs := [(.int _ _), (.int _ _)]) Tryd.underlying56 Tryd.typeInfo56 rfl rfl (by kernel_rfl) rfl rfl rfl) ?_
  refine WL_step rfl (R_buildL (places := [(0, 1), (1, 1)]) (vs := [(.int _ _), (.int _ _)]) Tryd.underlying56 Tryd.typeInfo56 rfl rfl (by kernel_rfl) rfl rfl rfl) ?_
  refine WL_step rfl (R_buildL (places := [(0, 1), (1, 1)]) (vs := [(.int _ _), (.int _ _)]) Tryd.underlying56 Tryd.typeInfo56 rfl rfl (by kernel_rfl) rfl rfl rfl) ?_
  refine WL_step rfl (R_buildL (places := [(0, 1), (1, 1)]) (vs := [(.int _ _), (.int _ _)]) Tryd.underlying56 Tryd.typeInfo56 rfl rfl (by kernel_rfl) rfl rfl rfl) ?_
  refine WL_step rfl (R_buildL (places := [(0, 1), (1, 1)]) (vs := [(.int _ _), (.int _ _)]) Tryd.underlying56 Tryd.typeInfo56 rfl rfl (by kernel_rfl) rfl rfl rfl) ?_
  refine WL_step rfl (R_buildL (places := [(0, 1), (1, 1)]) (vs := [(.int _ _), (.int _ _)]) Tryd.underlying56 Tryd.typeInfo56 rfl rfl (by kernel_rfl) rfl rfl rfl) ?_
  refine WL_step rfl (R_buildL (places := [(0, 1), (1, 1)]) (vs := [(.int _ _), (.int _ _)]) Tryd.underlying56 Tryd.typeInfo56 rfl rfl (by kernel_rfl) rfl rfl rfl) ?_
  refine WL_step rfl (R_buildL (places := [(0, 1), (1, 1)]) (vs := [(.int _ _), (.int _ _)]) Tryd.underlying56 Tryd.typeInfo56 rfl rfl (by kernel_rfl) rfl rfl rfl) ?_
  refine WL_step rfl (R_buildL (places := [(0, 1), (1, 1)]) (vs := [(.int _ _), (.int _ _)]) Tryd.underlying56 Tryd.typeInfo56 rfl rfl (by kernel_rfl) rfl rfl rfl) ?_
  refine WL_step rfl (R_buildL (places := [(0, 1), (1, 1)]) (vs := [(.int _ _), (.int _ _)]) Tryd.underlying56 Tryd.typeInfo56 rfl rfl (by kernel_rfl) rfl rfl rfl) ?_
  refine WL_step rfl (R_buildL (places := [(0, 1), (1, 1)]) (vs := [(.int _ _), (.int _ _)]) Tryd.underlying56 Tryd.typeInfo56 rfl rfl (by kernel_rfl) rfl rfl rfl) ?_
  refine WL_step rfl (R_buildL (places := [(0, 1), (1, 1)]) (vs := [(.int _ _), (.int _ _)]) Tryd.underlying56 Tryd.typeInfo56 rfl rfl (by kernel_rfl) rfl rfl rfl) ?_
  refine WL_step rfl (R_buildL (places := [(0, 1), (1, 1)]) (vs := [(.int _ _), (.int _ _)]) Tryd.underlying56 Tryd.typeInfo56 rfl rfl (by kernel_rfl) rfl rfl rfl) ?_
  refine WL_step rfl (R_buildL (places := [(0, 1), (1, 1)]) (vs := [(.int _ _), (.int _ _)]) Tryd.underlying56 Tryd.typeInfo56 rfl rfl (by kernel_rfl) rfl rfl rfl) ?_
  refine WL_step rfl (R_buildL (places := [(0, 1), (1, 1)]) (vs := [(.int _ _), (.int _ _)]) Tryd.underlying56 Tryd.typeInfo56 rfl rfl (by kernel_rfl) rfl rfl rfl) ?_
  refine WL_step rfl (R_buildL (places := [(0, 1), (1, 1)]) (vs := [(.int _ _), (.int _ _)]) Tryd.underlying56 Tryd.typeInfo56 rfl rfl (by kernel_rfl) rfl rfl rfl) ?_
  refine WL_step rfl (R_buildL (places := [(0, 1), (1, 1)]) (vs := [(.int _ _), (.int _ _)]) Tryd.underlying56 Tryd.typeInfo56 rfl rfl (by kernel_rfl) rfl rfl rfl) ?_
  refine WL_step rfl (R_buildL (places := [(0, 1), (1, 1)]) (vs := [(.int _ _), (.int _ _)]) Tryd.underlying56 Tryd.typeInfo56 rfl rfl (by kernel_rfl) rfl rfl rfl) ?_
  refine WL_step rfl (R_buildL (places := [(0, 1), (1, 1)]) (vs := [(.int _ _), (.int _ _)]) Tryd.underlying56 Tryd.typeInfo56 rfl rfl (by kernel_rfl) rfl rfl rfl) ?_
  refine WL_step rfl (R_buildL (places := [(0, 1), (1, 1)]) (vs := [(.int _ _), (.int _ _)]) Tryd.underlying56 Tryd.typeInfo56 rfl rfl (by kernel_rfl) rfl rfl rfl) ?_
  refine WL_step rfl (R_buildL (places := [(0, 1), (1, 1)]) (vs := [(.int _ _), (.int _ _)]) Tryd.underlying56 Tryd.typeInfo56 rfl rfl (by kernel_rfl) rfl rfl rfl) ?_
  refine WL_step rfl (R_buildL (places := [(0, 1), (1, 1)]) (vs := [(.int _ _), (.int _ _)]) Tryd.underlying56 Tryd.typeInfo56 rfl rfl (by kernel_rfl) rfl rfl rfl) ?_
  refine WL_step rfl (R_buildL (places := [(0, 1), (1, 1)]) (vs := [(.int _ _), (.int _ _)]) Tryd.underlying56 Tryd.typeInfo56 rfl rfl (by kernel_rfl) rfl rfl rfl) ?_
  refine WL_step rfl (R_buildL (places := [(0, 1), (1, 1)]) (vs := [(.int _ _), (.int _ _)]) Tryd.underlying56 Tryd.typeInfo56 rfl rfl (by kernel_rfl) rfl rfl rfl) ?_
  refine WL_step rfl (R_buildL (places := [(0, 1), (1, 1)]) (vs := [(.int _ _), (.int _ _)]) Tryd.underlying56 Tryd.typeInfo56 rfl rfl (by kernel_rfl) rfl rfl rfl) ?_
  refine WL_step rfl (R_buildL (places := [(0, 1), (1, 1)]) (vs := [(.int _ _), (.int _ _)]) Tryd.underlying56 Tryd.typeInfo56 rfl rfl (by kernel_rfl) rfl rfl rfl) ?_
  refine WL_step rfl (R_buildL (places := [(0, 1), (1, 1)]) (vs := [(.int _ _), (.int _ _)]) Tryd.underlying56 Tryd.typeInfo56 rfl rfl (by kernel_rfl) rfl rfl rfl) ?_
  refine WL_step rfl (R_buildL (places := [(0, 1), (1, 1)]) (vs := [(.int _ _), (.int _ _)]) Tryd.underlying56 Tryd.typeInfo56 rfl rfl (by kernel_rfl) rfl rfl rfl) ?_
  refine WL_step rfl (R_buildL (places := [(0, 1), (1, 1)]) (vs := [(.int _ _), (.int _ _)]) Tryd.underlying56 Tryd.typeInfo56 rfl rfl (by kernel_rfl) rfl rfl rfl) ?_
  refine WL_step rfl (R_buildL (places := [(0, 1), (1, 1)]) (vs := [(.int _ _), (.int _ _)]) Tryd.underlying56 Tryd.typeInfo56 rfl rfl (by kernel_rfl) rfl rfl rfl) ?_
  refine WL_step rfl (R_buildL (places := [(0, 1), (1, 1)]) (vs := [(.int _ _), (.int _ _)]) Tryd.underlying56 Tryd.typeInfo56 rfl rfl (by kernel_rfl) rfl rfl rfl) ?_
  refine WL_step rfl (R_buildL (places := [(0, 1), (1, 1)]) (vs := [(.int _ _), (.int _ _)]) Tryd.underlying56 Tryd.typeInfo56 rfl rfl (by kernel_rfl) rfl rfl rfl) ?_
  refine WL_step rfl (R_buildL (places := [(0, 1), (1, 1)]) (vs := [(.int _ _), (.int _ _)]) Tryd.underlying56 Tryd.typeInfo56 rfl rfl (by kernel_rfl) rfl rfl rfl) ?_
  refine WL_step rfl (R_buildL (places := [(0, 1), (1, 1)]) (vs := [(.int _ _), (.int _ _)]) Tryd.underlying56 Tryd.typeInfo56 rfl rfl (by kernel_rfl) rfl rfl rfl) ?_
  refine WL_step rfl (R_buildL (places := [(0, 1), (1, 1)]) (vs := [(.int _ _), (.int _ _)]) Tryd.underlying56 Tryd.typeInfo56 rfl rfl (by kernel_rfl) rfl rfl rfl) ?_
  refine WL_step rfl (R_buildL (places := [(0, 1), (1, 1)]) (vs := [(.int _ _), (.int _ _)]) Tryd.underlying56 Tryd.typeInfo56 rfl rfl (by kernel_rfl) rfl rfl rfl) ?_
  refine WL_step rfl (R_buildL (places := [(0, 1), (1, 1)]) (vs := [(.int _ _), (.int _ _)]) Tryd.underlying56 Tryd.typeInfo56 rfl rfl (by kernel_rfl) rfl rfl rfl) ?_
  refine WL_step rfl (R_buildL (places := [(0, 1), (1, 1)]) (vs := [(.int _ _), (.int _ _)]) Tryd.underlying56 Tryd.typeInfo56 rfl rfl (by kernel_rfl) rfl rfl rfl) ?_
  refine WL_step rfl (R_buildL (places := [(0, 1), (1, 1)]) (vs := [(.int _ _), (.int _ _)]) Tryd.underlying56 Tryd.typeInfo56 rfl rfl (by kernel_rfl) rfl rfl rfl) ?_
  refine WL_step rfl (R_buildL (places := [(0, 1), (1, 1)]) (vs := [(.int _ _), (.int _ _)]) Tryd.underlying56 Tryd.typeInfo56 rfl rfl (by kernel_rfl) rfl rfl rfl) ?_
  refine WL_step rfl (R_buildL (places := [(0, 1), (1, 1)]) (vs := [(.int _ _), (.int _ _)]) Tryd.underlying56 Tryd.typeInfo56 rfl rfl (by kernel_rfl) rfl rfl rfl) ?_
  refine WL_step rfl (R_buildL (places := [(0, 1), (1, 1)]) (vs := [(.int _ _), (.int _ _)]) Tryd.underlying56 Tryd.typeInfo56 rfl rfl (by kernel_rfl) rfl rfl rfl) ?_
  refine WL_step rfl (R_buildL (places := [(0, 1), (1, 1)]) (vs := [(.int _ _), (.int _ _)]) Tryd.underlying56 Tryd.typeInfo56 rfl rfl (by kernel_rfl) rfl rfl rfl) ?_
  refine WL_step rfl (R_buildL (places := [(0, 1), (1, 1)]) (vs := [(.int _ _), (.int _ _)]) Tryd.underlying56 Tryd.typeInfo56 rfl rfl (by kernel_rfl) rfl rfl rfl) ?_
  refine WL_step rfl (R_buildL (places := [(0, 1), (1, 1)]) (vs := [(.int _ _), (.int _ _)]) Tryd.underlying56 Tryd.typeInfo56 rfl rfl (by kernel_rfl) rfl rfl rfl) ?_
  refine WL_step rfl (R_buildL (places := [(0, 1), (1, 1)]) (vs := [(.int _ _), (.int _ _)]) Tryd.underlying56 Tryd.typeInfo56 rfl rfl (by kernel_rfl) rfl rfl rfl) ?_
  refine WL_step rfl (R_buildL (places := [(0, 1), (1, 1)]) (vs := [(.int _ _), (.int _ _)]) Tryd.underlying56 Tryd.typeInfo56 rfl rfl (by kernel_rfl) rfl rfl rfl) ?_
  refine WL_step rfl (R_buildL (places := [(0, 1), (1, 1)]) (vs := [(.int _ _), (.int _ _)]) Tryd.underlying56 Tryd.typeInfo56 rfl rfl (by kernel_rfl) rfl rfl rfl) ?_
  refine WL_step rfl (R_buildL (places := [(0, 1), (1, 1)]) (vs := [(.int _ _), (.int _ _)]) Tryd.underlying56 Tryd.typeInfo56 rfl rfl (by kernel_rfl) rfl rfl rfl) ?_
  refine WL_step rfl (R_buildL (places := [(0, 1), (1, 1)]) (vs := [(.int _ _), (.int _ _)]) Tryd.underlying56 Tryd.typeInfo56 rfl rfl (by kernel_rfl) rfl rfl rfl) ?_
  refine WL_step rfl (R_buildL (places := [(0, 1), (1, 1)]) (vs := [(.int _ _), (.int _ _)]) Tryd.underlying56 Tryd.typeInfo56 rfl rfl (by kernel_rfl) rfl rfl rfl) ?_
  refine WL_step rfl (R_buildL (places := [(0, 1), (1, 1)]) (vs := [(.int _ _), (.int _ _)]) Tryd.underlying56 Tryd.typeInfo56 rfl rfl (by kernel_rfl) rfl rfl rfl) ?_
  refine WL_step rfl (R_buildL (places := [(0, 1), (1, 1)]) (vs := [(.int _ _), (.int _ _)]) Tryd.underlying56 Tryd.typeInfo56 rfl rfl (by kernel_rfl) rfl rfl rfl) ?_
  refine WL_step rfl (R_buildL (places := [(0, 1), (1, 1)]) (vs := [(.int _ _), (.int _ _)]) Tryd.underlying56 Tryd.typeInfo56 rfl rfl (by kernel_rfl) rfl rfl rfl) ?_
  refine WL_step rfl (R_buildL (places := [(0, 1), (1, 1)]) (vs := [(.int _ _), (.int _ _)]) Tryd.underlying56 Tryd.typeInfo56 rfl rfl (by kernel_rfl) rfl rfl rfl) ?_
  refine WL_step rfl (R_buildL (places := [(0, 1), (1, 1)]) (vs := [(.int _ _), (.int _ _)]) Tryd.underlying56 Tryd.typeInfo56 rfl rfl (by kernel_rfl) rfl rfl rfl) ?_
  refine WL_step rfl (R_buildL (places := [(0, 1), (1, 1)]) (vs := [(.int _ _), (.int _ _)]) Tryd.underlying56 Tryd.typeInfo56 rfl rfl (by kernel_rfl) rfl rfl rfl) ?_
  refine WL_step rfl (R_buildL (places := [(0, 1), (1, 1)]) (vs := [(.int _ _), (.int _ _)]) Tryd.underlying56 Tryd.typeInfo56 rfl rfl (by kernel_rfl) rfl rfl rfl) ?_
  refine WL_step rfl (R_buildL (places := [(0, 1), (1, 1)]) (vs := [(.int _ _), (.int _ _)]) Tryd.underlying56 Tryd.typeInfo56 rfl rfl (by kernel_rfl) rfl rfl rfl) ?_
  refine WL_step rfl (R_buildL (places := [(0, 1), (1, 1)]) (vs := [(.int _ _), (.int _ _)]) Tryd.underlying56 Tryd.typeInfo56 rfl rfl (by kernel_rfl) rfl rfl rfl) ?_
  refine WL_step rfl (R_buildL (places := [(0, 1), (1, 1)]) (vs := [(.int _ _), (.int _ _)]) Tryd.underlying56 Tryd.typeInfo56 rfl rfl (by kernel_rfl) rfl rfl rfl) ?_
  refine WL_step rfl (R_buildL (places := [(0, 1), (1, 1)]) (vs := [(.int _ _), (.int _ _)]) Tryd.underlying56 Tryd.typeInfo56 rfl rfl (by kernel_rfl) rfl rfl rfl) ?_
  refine WL_step rfl (R_buildL (places := [(0, 1), (1, 1)]) (vs := [(.int _ _), (.int _ _)]) Tryd.underlying56 Tryd.typeInfo56 rfl rfl (by kernel_rfl) rfl rfl rfl) ?_
  refine WL_step rfl (R_buildL (places := [(0, 1), (1, 1)]) (vs := [(.int _ _), (.int _ _)]) Tryd.underlying56 Tryd.typeInfo56 rfl rfl (by kernel_rfl) rfl rfl rfl) ?_
  refine WL_step rfl (R_buildL (places := [(0, 1), (1, 1)]) (vs := [(.int _ _), (.int _ _)]) Tryd.underlying56 Tryd.typeInfo56 rfl rfl (by kernel_rfl) rfl rfl rfl) ?_
  refine WL_step rfl (R_buildL (places := [(0, 1), (1, 1)]) (vs := [(.int _ _), (.int _ _)]) Tryd.underlying56 Tryd.typeInfo56 rfl rfl (by kernel_rfl) rfl rfl rfl) ?_
  refine WL_step rfl (R_buildL (places := [(0, 1), (1, 1)]) (vs := [(.int _ _), (.int _ _)]) Tryd.underlying56 Tryd.typeInfo56 rfl rfl (by kernel_rfl) rfl rfl rfl) ?_
  refine WL_step rfl (R_buildL (places := [(0, 1), (1, 1)]) (vs := [(.int _ _), (.int _ _)]) Tryd.underlying56 Tryd.typeInfo56 rfl rfl (by kernel_rfl) rfl rfl rfl) ?_
  refine WL_step rfl (R_buildL (places := [(0, 1), (1, 1)]) (vs := [(.int _ _), (.int _ _)]) Tryd.underlying56 Tryd.typeInfo56 rfl rfl (by kernel_rfl) rfl rfl rfl) ?_
  refine WL_step rfl (R_buildL (places := [(0, 1), (1, 1)]) (vs := [(.int _ _), (.int _ _)]) Tryd.underlying56 Tryd.typeInfo56 rfl rfl (by kernel_rfl) rfl rfl rfl) ?_
  refine WL_step rfl (R_buildL (places := [(0, 1), (1, 1)]) (vs := [(.int _ _), (.int _ _)]) Tryd.underlying56 Tryd.typeInfo56 rfl rfl (by kernel_rfl) rfl rfl rfl) ?_
  refine WL_step rfl (R_buildL (places := [(0, 1), (1, 1)]) (vs := [(.int _ _), (.int _ _)]) Tryd.underlying56 Tryd.typeInfo56 rfl rfl (by kernel_rfl) rfl rfl rfl) ?_
  refine WL_step rfl (R_buildL (places := [(0, 1), (1, 1)]) (vs := [(.int _ _), (.int _ _)]) Tryd.underlying56 Tryd.typeInfo56 rfl rfl (by kernel_rfl) rfl rfl rfl) ?_
  refine WL_step rfl (R_buildL (places := [(0, 1), (1, 1)]) (vs := [(.int _ _), (.int _ _)]) Tryd.underlying56 Tryd.typeInfo56 rfl rfl (by kernel_rfl) rfl rfl rfl) ?_
  refine WL_step rfl (R_buildL (places := [(0, 1), (1, 1)]) (vs := [(.int _ _), (.int _ _)]) Tryd.underlying56 Tryd.typeInfo56 rfl rfl (by kernel_rfl) rfl rfl rfl) ?_
  refine WL_step rfl (R_buildL (places := [(0, 1), (1, 1)]) (vs := [(.int _ _), (.int _ _)]) Tryd.underlying56 Tryd.typeInfo56 rfl rfl (by kernel_rfl) rfl rfl rfl) ?_
  refine WL_step rfl (R_buildL (places := [(0, 1), (1, 1)]) (vs := [(.int _ _), (.int _ _)]) Tryd.underlying56 Tryd.typeInfo56 rfl rfl (by kernel_rfl) rfl rfl rfl) ?_
  refine WL_step rfl (R_buildL (places := [(0, 1), (1, 1)]) (vs := [(.int _ _), (.int _ _)]) Tryd.underlying56 Tryd.typeInfo56 rfl rfl (by kernel_rfl) rfl rfl rfl) ?_
  refine WL_step rfl (R_buildL (places := [(0, 1), (1, 1)]) (vs := [(.int _ _), (.int _ _)]) Tryd.underlying56 Tryd.typeInfo56 rfl rfl (by kernel_rfl) rfl rfl rfl) ?_
  refine WL_step rfl (R_buildL (places := [(0, 1), (1, 1)]) (vs := [(.int _ _), (.int _ _)]) Tryd.underlying56 Tryd.typeInfo56 rfl rfl (by kernel_rfl) rfl rfl rfl) ?_
  refine WL_step rfl (R_buildL (places := [(0, 1), (1, 1)]) (vs := [(.int _ _), (.int _ _)]) Tryd.underlying56 Tryd.typeInfo56 rfl rfl (by kernel_rfl) rfl rfl rfl) ?_
  refine WL_step rfl (R_buildL (places := [(0, 1), (1, 1)]) (vs := [(.int _ _), (.int _ _)]) Tryd.underlying56 Tryd.typeInfo56 rfl rfl (by kernel_rfl) rfl rfl rfl) ?_
  refine WL_step rfl (R_buildL (places := [(0, 1), (1, 1)]) (vs := [(.int _ _), (.int _ _)]) Tryd.underlying56 Tryd.typeInfo56 rfl rfl (by kernel_rfl) rfl rfl rfl) ?_
  refine WL_step rfl (R_buildL (places := [(0, 1), (1, 1)]) (vs := [(.int _ _), (.int _ _)]) Tryd.underlying56 Tryd.typeInfo56 rfl rfl (by kernel_rfl) rfl rfl rfl) ?_
  refine WL_step rfl (R_buildL (places := [(0, 1), (1, 1)]) (vs := [(.int _ _), (.int _ _)]) Tryd.underlying56 Tryd.typeInfo56 rfl rfl (by kernel_rfl) rfl rfl rfl) ?_
  refine WL_step rfl (R_buildL (places := [(0, 1), (1, 1)]) (vs := [(.int _ _), (.int _ _)]) Tryd.underlying56 Tryd.typeInfo56 rfl rfl (by kernel_rfl) rfl rfl rfl) ?_
  refine WL_step rfl (R_buildL (places := [(0, 1), (1, 1)]) (vs := [(.int _ _), (.int _ _)]) Tryd.underlying56 Tryd.typeInfo56 rfl rfl (by kernel_rfl) rfl rfl rfl) ?_
  refine WL_step rfl (R_buildL (places := [(0, 1), (1, 1)]) (vs := [(.int _ _), (.int _ _)]) Tryd.underlying56 Tryd.typeInfo56 rfl rfl (by kernel_rfl) rfl rfl rfl) ?_
  refine WL_step rfl (R_buildL (places := [(0, 1), (1, 1)]) (vs := [(.int _ _), (.int _ _)]) Tryd.underlying56 Tryd.typeInfo56 rfl rfl (by kernel_rfl) rfl rfl rfl) ?_
  refine WL_step rfl (R_buildL (places := [(0, 1), (1, 1)]) (vs := [(.int _ _), (.int _ _)]) Tryd.underlying56 Tryd.typeInfo56 rfl rfl (by kernel_rfl) rfl rfl rfl) ?_
  refine WL_step rfl (R_buildL (places := [(0, 1), (1, 1)]) (vs := [(.int _ _), (.int _ _)]) Tryd.underlying56 Tryd.typeInfo56 rfl rfl (by kernel_rfl) rfl rfl rfl) ?_
  refine WL_step rfl (R_buildL (places := [(0, 1), (1, 1)]) (vs := [(.int _ _), (.int _ _)]) Tryd.underlying56 Tryd.typeInfo56 rfl rfl (by kernel_rfl) rfl rfl rfl) ?_
  refine WL_step rfl (R_buildL (places := [(0, 1), (1, 1)]) (vs := [(.int _ _), (.int _ _)]) Tryd.underlying56 Tryd.typeInfo56 rfl rfl (by kernel_rfl) rfl rfl rfl) ?_
  refine WL_step rfl (R_buildL (places := [(0, 1), (1, 1)]) (vs := [(.int _ _), (.int _ _)]) Tryd.underlying56 Tryd.typeInfo56 rfl rfl (by kernel_rfl) rfl rfl rfl) ?_
  refine WL_step rfl (R_buildL (places := [(0, 1), (1, 1)]) (vs := [(.int _ _), (.int _ _)]) Tryd.underlying56 Tryd.typeInfo56 rfl rfl (by kernel_rfl) rfl rfl rfl) ?_
  refine WL_step rfl (R_buildL (places := [(0, 1), (1, 1)]) (vs := [(.int _ _), (.int _ _)]) Tryd.underlying56 Tryd.typeInfo56 rfl rfl (by kernel_rfl) rfl rfl rfl) ?_
  (refine WL_effn rfl (E_buildRows (vss := nums.map pairC) H Tryd.underlying53 Tryd.sizeOf56 Tryd.zeroValue56 rfl rfl (by decide) rfl rfl (by decide)) ?_; clear H; intro c103 w109 hc103 H)
  refine WL_stepM rfl (R_as) ?_
  refine WL_nil ?_
  refine W_ret ?_
  exact ⟨_, rfl, c103, rfl, by assumption, H⟩

theorem names_ret {w : World} (hT : TabP w) : Ret Tryd.prog 8 #[] w fun v w' => v = .bool true ∧ Hp w [] w' := by
  refine Ret_of_W (args := []) Tryd.func8 rfl Tryd.ntmps8 Tryd.results8 (by simp) ?_
  have H := Hp.refl w
  have hnl : nums.length = 102 := rfl
  refine W_seq ?_
  refine W_region_l ?_
  refine WL_stepM rfl (R_as) ?_
  refine WL_nil ?_
  refine W_seq ?_
  refine W_region_l ?_
  (refine WL_call rfl (R_call rfl Tryd.call24 rfl) (all_ret _) ?_; rintro _ w7 ⟨b, rfl, hb, H1⟩; replace H := H.seqN H1 (kCons hb kNil); replace hb := Nat.le_trans (Hp.refl w).size hb; clear H1)
  refine WL_stepM rfl (R_as) ?_
  refine WL_nil ?_
  refine W_seq ?_
  refine W_seq ?_
  refine W_region_l ?_
  refine WL_stepM rfl (R_as) ?_
  refine WL_nil ?_
  refine W_block ?_
  refine W_loopS [(0, 0), (2, 2), (4, 20)] (fun (i : Nat) E w' => i ≤ 102 ∧ E 2 = I i ∧ Hp w [(b, blk (rows pairC nums) 56)] w') (fun i => 102 - i) 0 ?e0 ?r0
  · exact ⟨by omega, rfl, H⟩
  · (clear H; rintro i E w1 ⟨hi, h0, H⟩; refine W_kn h0 ?_)
    refine W_seq ?_
    refine W_seq ?_
    refine W_region_l ?_
    refine WL_stepM rfl (R_mv) ?_
    refine WL_stepM rfl (R_mv) ?_
    refine WL_step rfl (R_len_slice Tryd.underlying53 rfl) ?_
    refine WL_step rfl (R_lt rfl rfl) ?_
    refine WL_nil ?_
    refine W_if rfl (fun h26 => ?_) (fun h26 => ?_)
    · refine W_skip ?_
      refine W_seq ?_
      refine W_block ?_
      refine W_seq ?_
      (obtain ⟨n, hn⟩ : ∃ n, nums[i]? = some n := ⟨_, List.getElem?_eq_getElem (by omega)⟩; have hc0 := rows_get (j := 0) pairC_len hn (by decide); have hc1 := rows_get (j := 1) pairC_len hn (by decide); refine W_draw (Kp [(b, blk (rows pairC nums) 56)]) (fun _ => false) (by kernel_rfl) H ?_; clear H; intro w31 H)
      refine WA_takeM 0 rfl rfl rfl (by kernel_rfl) (by kernel_rfl) H.kp (fun _ hC => R_mv) ?_
      refine WA_takeM 1 rfl rfl rfl (by kernel_rfl) (by kernel_rfl) H.kp (fun _ hC => R_mv) ?_
      refine WA_take 2 rfl rfl rfl (by kernel_rfl) (by kernel_rfl) H.kp (fun _ hC => R_indexAddr Tryd.underlying53 Tryd.sizeOf56 rfl rfl (by omega) (by omega) idx0_castn) ?_
      refine WA_take 3 rfl rfl rfl (by kernel_rfl) (by kernel_rfl) H.kp (fun _ hC => R_fieldAddr Tryd.underlying56 rfl Tryd.sizeOf3 (by decide) rfl rfl) ?_
      refine WA_take 4 rfl rfl rfl (by kernel_rfl) (by kernel_rfl) H.kp (fun _ hC => R_load (v := I n) Tryd.isAgg3 rfl (hC.get .here) hc0) ?_
      refine WA_takeM 5 rfl rfl rfl (by kernel_rfl) (by kernel_rfl) H.kp (fun _ hC => R_mv) ?_
      refine WA_takeM 6 rfl rfl rfl (by kernel_rfl) (by kernel_rfl) H.kp (fun _ hC => R_mv) ?_
      refine WA_take 7 rfl rfl rfl (by kernel_rfl) (by kernel_rfl) H.kp (fun _ hC => R_indexAddr Tryd.underlying53 Tryd.sizeOf56 rfl rfl (by omega) (by omega) idx0_castn) ?_
      refine WA_take 8 rfl rfl rfl (by kernel_rfl) (by kernel_rfl) H.kp (fun _ hC => R_fieldAddr (off' := _ + 1) Tryd.underlying56 rfl Tryd.sizeOf3 (by decide) rfl rfl) ?_
      refine WA_take 9 rfl rfl rfl (by kernel_rfl) (by kernel_rfl) H.kp (fun _ hC => R_load (v := I n) Tryd.isAgg3 rfl (hC.get .here) hc1) ?_
      refine WA_take 10 rfl rfl rfl (by kernel_rfl) (by kernel_rfl) H.kp (fun _ hC => R_ne_f rfl rfl rfl) ?_
      refine WA_done (by kernel_rfl) ?_
      refine W_cond_f rfl ?_
      refine W_skip ?_
      refine W_region_l ?_
      refine WL_stepM rfl (R_mv) ?_
      refine WL_step rfl (R_add rfl rfl (w_i64 (by omega))) ?_
      refine WL_stepM rfl (R_as) ?_
      refine WL_nil ?_
      exact ⟨(same_mov rfl (same_updo rfl (same_mov rfl (same_updo rfl (same_updo rfl (same_updo rfl (same_updo rfl (same_mov rfl (same_mov rfl (same_updo rfl (same_updo rfl (same_updo rfl (same_mov rfl (same_mov rfl (same_know rfl (same_updo rfl (same_updo rfl (same_mov rfl (same_mov rfl same_ovr))))))))))))))))))), i + 1, by omega, by omega, rfl, H⟩
    · refine W_exit ?_
      refine (if_pos rfl).mpr ?_
      refine W_seq ?_
      refine W_region_l ?_
      (refine WL_call rfl (R_call rfl Tryd.call25 rfl) (err132_ret (show TabP _ from H.cellN hT (by repeat' first | exact kNil | apply kCons | apply kApp | assumption | exact OwnS.keys (by assumption)))) ?_; rintro _ w56 ⟨rfl, H1⟩; replace H := H.seq0 H1; clear H1)
      refine WL_step rfl (R_eq_S_t (xs := [101, 114, 114, 111, 114, 32, 49, 51, 50]) (ys := [101, 114, 114, 111, 114, 32, 49, 51, 50]) rfl rfl rfl) ?_
      refine WL_stepM rfl (R_mv) ?_
      refine WL_guard_t rfl rfl ?_
      (refine WL_call rfl (R_call rfl Tryd.call25 rfl) (err0_ret _) ?_; rintro _ w60 ⟨rfl, H1⟩; replace H := H.seq0 H1; clear H1)
      refine WL_guard_t rfl rfl ?_
      refine WL_step rfl (R_eq_S_t (xs := [101, 114, 114, 111, 114, 32, 48]) (ys := [101, 114, 114, 111, 114, 32, 48]) rfl rfl rfl) ?_
      refine WL_stepM rfl (R_pk_t rfl) ?_
      refine WL_stepM rfl (R_as) ?_
      refine WL_nil ?_
      refine W_ret ?_
      exact ⟨_, rfl, rfl, H.none (by repeat' first | exact kNil | apply kCons | apply kApp | assumption | exact OwnS.keys (by assumption))⟩

def pow10 : List Int := [1, 10, 100, 1000, 10000, 100000, 1000000, 10000000, 100000000, 1000000000, 10000000000, 100000000000, 1000000000000, 10000000000000, 100000000000000, 1000000000000000, 10000000000000000, 100000000000000000, 1000000000000000000, 10000000000000000000]
theorem gPow : Tryd.prog.globalNamed "internal/strconv.uint64pow10" = some 2 := by kernel_rfl
theorem gPowType : (Tryd.prog.globals[2]?).map (·.type) = some 78 := by kernel_rfl
theorem cellsPow : Tryd.prog.cellsOf 78 = 20 := by kernel_rfl
theorem cellsU64 : Tryd.prog.cellsOf 67 = 1 := by kernel_rfl
theorem pow_eq : (Lib.tabData .u64 pow10 : DataW Unit) = Rows.laid_internal_strconv_uint64pow10 := rfl
theorem tabp_of {a b : DataW Unit} {r : List (String × DataW Unit)} {n m : String} {W : World} (h : laidMet Tryd.prog ((n, a) :: (m, b) :: ("internal/strconv.uint64pow10", Rows.laid_internal_strconv_uint64pow10) :: r) W) : TabP W := by
  obtain ⟨ps, ⟨g0, t0, cs0, f0, p0, q0, _, _, _, _, ⟨g1, t1, cs1, f1, p1, q1, _, _, _, _, ⟨g2, t2, cs2, f2, p2, q2, hg2, ht2, hv2, hd2, _, _⟩, _⟩, _⟩, _, _⟩ := h
  obtain rfl := Option.some.inj (gPow.symm.trans hg2)
  obtain rfl := Option.some.inj (gPowType.symm.trans ht2)
  rw [← pow_eq] at hd2
  have hcs := Lib.cells_of_tab Tryd.underlying78 Tryd.underlying67 cellsU64 cellsPow hd2
  unfold TabP
  rw [World.var?_cell hg2 hv2, ← Array.getElem?_toList, hcs]
  rfl
theorem tabp_of3 {W : World} (h : laidMetH Tryd.prog [("math/bits.deBruijn32tab", Rows.laid_math_bits_deBruijn32tab), ("math/bits.deBruijn64tab", Rows.laid_math_bits_deBruijn64tab), ("internal/strconv.uint64pow10", Rows.laid_internal_strconv_uint64pow10)] W) : TabP W := by
  rw [MakeChecks.laidMetH_plain _ _ _ (by kernel_rfl)] at h
  exact tabp_of h
end Go.Proofs.YtneeoicjipglkaaDoor.Nam

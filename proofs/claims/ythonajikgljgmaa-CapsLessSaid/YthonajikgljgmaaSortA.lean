/-
  Sorting one Ref.
-/
import Derived.Test.YthonajikgljgmaaMapA
namespace Go.Proofs.Ythonajikgljgmaa.Caps
open Go Go.Proofs Go.Proofs.Ythonajikgljgmaa.Fx Go.Proofs.Ythonajikgljgmaa.TabC
set_option maxRecDepth 100000
set_option linter.unusedVariables false
set_option linter.unusedSimpArgs false
set_option maxHeartbeats 4000000

theorem len64_1 (w : World) : Ret Try.prog 106 #[.int .u64 1] w fun v w' => v = I 1 ∧ Hp w [] w' := by
  refine Ret_of_W (args := [_]) Try.func106 rfl Try.ntmps106 Try.results106 (by simp) ?_
  have H := Hp.refl w
  refine W_seq ?_
  refine W_region_l ?_
  refine WL_stepM rfl (R_as) ?_
  refine WL_nil ?_
  refine W_seq ?_
  refine W_seq ?_
  refine W_region_l ?_
  refine WL_stepM rfl (R_mv) ?_
  refine WL_step rfl (R_ge_f rfl rfl (by omega)) ?_
  refine WL_nil ?_
  refine W_cond_f rfl ?_
  refine W_skip ?_
  refine W_seq ?_
  refine W_seq ?_
  refine W_region_l ?_
  refine WL_stepM rfl (R_mv) ?_
  refine WL_step rfl (R_ge_f rfl rfl (by omega)) ?_
  refine WL_nil ?_
  refine W_cond_f rfl ?_
  refine W_skip ?_
  refine W_seq ?_
  refine W_seq ?_
  refine W_region_l ?_
  refine WL_stepM rfl (R_mv) ?_
  refine WL_step rfl (R_ge_f rfl rfl (by omega)) ?_
  refine WL_nil ?_
  refine W_cond_f rfl ?_
  refine W_skip ?_
  refine W_seq ?_
  refine W_region_l ?_
  refine WL_stepM rfl (R_mv) ?_
  refine WL_stepM rfl (R_mv) ?_
  refine WL_step rfl (R_conv_int (r := 1) Try.underlying174 Try.underlying5 rfl (by decide)) ?_
  refine WL_step rfl (R_index_S Try.underlying9 rfl rfl (by omega) rfl) ?_
  refine WL_step rfl (R_conv_int Try.underlying5 Try.underlying3 rfl u8_in_i64) ?_
  refine WL_step rfl (R_add rfl rfl rfl) ?_
  refine WL_stepM rfl (R_as) ?_
  refine WL_nil ?_
  refine W_ret ?_
  exact ⟨_, rfl, rfl, H⟩
theorem len_1 (w : World) : Ret Try.prog 72 #[.int .u64 1] w fun v w' => v = I 1 ∧ Hp w [] w' := by
  refine Ret_of_W (args := [_]) Try.func72 rfl Try.ntmps72 Try.results72 (by simp) ?_
  have H := Hp.refl w
  refine W_seq ?_
  refine W_region_l ?_
  refine WL_stepM rfl (R_as) ?_
  refine WL_nil ?_
  refine W_seq ?_
  refine W_cond_f rfl ?_
  refine W_skip ?_
  refine W_seq ?_
  refine W_region_l ?_
  refine WL_stepM rfl (R_mv) ?_
  (refine WL_call rfl (R_call rfl Try.call106 rfl) (len64_1 _) ?_; rintro _ w11 ⟨rfl, H1⟩; replace H := H.seq0 H1; clear H1)
  refine WL_stepM rfl (R_as) ?_
  refine WL_nil ?_
  refine W_ret ?_
  exact ⟨_, rfl, rfl, H⟩
theorem insort_1 (ao : Option Addr) (ca : Nat) (f : Value) (w : World) : Ret Try.prog 97 #[.slice ao 1 ca, I 0, I 1, f] w fun v w' => Hp w [] w' := by
  refine Ret_of_W (args := [_, _, _, _]) Try.func97 rfl Try.ntmps97 Try.results97 (by simp) ?_
  have H := Hp.refl w
  refine W_seq ?_
  refine W_region_l ?_
  refine WL_stepM rfl (R_mv) ?_
  refine WL_step rfl (R_add (r := 1) rfl rfl (by decide)) ?_
  refine WL_stepM rfl (R_as) ?_
  refine WL_nil ?_
  refine W_block ?_
  refine W_rounds 0 ?_
  refine W_seq ?_
  refine W_seq ?_
  refine W_region_l ?_
  refine WL_stepM rfl (R_mv) ?_
  refine WL_stepM rfl (R_mv) ?_
  refine WL_step rfl (R_lt_f rfl rfl (by omega)) ?_
  refine WL_nil ?_
  refine W_cond_f rfl ?_
  refine W_exit ?_
  refine (if_pos rfl).mpr ?_
  exact ⟨_, rfl, H⟩
theorem pdq_1 (ao : Option Addr) (ca : Nat) (n : Int) (f : Value) (w : World) : Ret Try.prog 71 #[.slice ao 1 ca, I 0, I 1, I n, f] w fun v w' => Hp w [] w' := by
  refine Ret_of_W (args := [_, _, _, _, _]) Try.func71 rfl Try.ntmps71 Try.results71 (by simp) ?_
  have H := Hp.refl w
  refine W_seq ?_
  refine W_region_l ?_
  refine WL_stepM rfl (R_as) ?_
  refine WL_nil ?_
  refine W_seq ?_
  refine W_region_l ?_
  refine WL_stepM rfl (R_as) ?_
  refine WL_nil ?_
  refine W_block ?_
  refine W_rounds 0 ?_
  refine W_block ?_
  refine W_seq ?_
  refine W_region_l ?_
  refine WL_stepM rfl (R_mv) ?_
  refine WL_stepM rfl (R_mv) ?_
  refine WL_step rfl (R_sub (r := 1) rfl rfl (by decide)) ?_
  refine WL_stepM rfl (R_as) ?_
  refine WL_nil ?_
  refine W_seq ?_
  refine W_seq ?_
  refine W_region_l ?_
  refine WL_stepM rfl (R_mv) ?_
  refine WL_step rfl (R_le_t rfl rfl (by omega)) ?_
  refine WL_nil ?_
  refine W_cond_t rfl ?_
  refine W_seq ?_
  refine W_region_l ?_
  refine WL_stepM rfl (R_mv) ?_
  refine WL_stepM rfl (R_mv) ?_
  refine WL_stepM rfl (R_mv) ?_
  refine WL_stepM rfl (R_mv) ?_
  (refine WL_call rfl (R_call rfl Try.call97 rfl) (insort_1 _ _ _ _) ?_; rintro _ w31 H1; replace H := H.seq0 H1; clear H1)
  refine WL_nil ?_
  refine W_ret ?_
  exact ⟨_, rfl, H⟩
theorem sort_1 (ao : Option Addr) (ca : Nat) (f : Value) (w : World) : Ret Try.prog 50 #[.slice ao 1 ca, f] w fun v w' => Hp w [] w' := by
  refine Ret_of_W (args := [_, _]) Try.func50 rfl Try.ntmps50 Try.results50 (by simp) ?_
  have H := Hp.refl w
  refine W_seq ?_
  refine W_region_l ?_
  refine WL_stepM rfl (R_mv) ?_
  refine WL_step rfl (R_len_slice Try.underlying51 rfl) ?_
  refine WL_stepM rfl (R_as) ?_
  refine WL_nil ?_
  refine W_region_l ?_
  refine WL_stepM rfl (R_mv) ?_
  refine WL_stepM rfl (R_mv) ?_
  refine WL_stepM rfl (R_mv) ?_
  refine WL_step rfl (R_conv_int Try.underlying3 Try.underlying145 rfl (w_u64 (by omega))) ?_
  (refine WL_call rfl (R_call rfl Try.call72 rfl) (len_1 _) ?_; rintro _ w12 ⟨rfl, H1⟩; replace H := H.seq0 H1; clear H1)
  refine WL_stepM rfl (R_mv) ?_
  (refine WL_call rfl (R_call rfl Try.call71 rfl) (pdq_1 _ _ _ _ _) ?_; rintro _ w14 H1; replace H := H.seq0 H1; clear H1)
  refine WL_nil ?_
  exact ⟨_, rfl, H⟩
end Go.Proofs.Ythonajikgljgmaa.Caps

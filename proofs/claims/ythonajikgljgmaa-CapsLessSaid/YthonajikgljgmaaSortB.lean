/-
  Sorting Refs that rise.
-/
import Derived.Test.YthonajikgljgmaaSortA
namespace Go.Proofs.Ythonajikgljgmaa.Caps
open Go Go.Proofs Go.Proofs.Ythonajikgljgmaa.Fx Go.Proofs.Ythonajikgljgmaa.TabC
set_option maxRecDepth 100000
set_option linter.unusedVariables false
set_option linter.unusedSimpArgs false
set_option maxHeartbeats 8000000

theorem cmp_ret {a b x y : Int} (w : World) (h : a ≠ b) (ha : 0 ≤ a ∧ a ≤ 100) (hb : 0 ≤ b ∧ b ≤ 100) : Ret Try.prog 51 #[.agg #[I a, I x], .agg #[I b, I y]] w fun v w' => v = I (a - b) ∧ Hp w [] w' := by
  refine Ret_of_W (args := [_, _]) Try.func51 rfl Try.ntmps51 Try.results51 (by simp) ?_
  have H := Hp.refl w
  refine W_seq ?_
  refine W_region_l ?_
  (refine WL_effn rfl (E_box (vs := [I a, I x]) H rfl rfl) ?_; clear H; intro c2 w3 hc2 H)
  (refine WL_effn rfl (E_box (vs := [I b, I y]) H rfl rfl) ?_; clear H; intro c3 w4 hc3 H)
  refine WL_stepM rfl (R_as) ?_
  refine WL_nil ?_
  refine W_seq ?_
  refine W_seq ?_
  refine W_region_l ?_
  refine WL_step rfl (R_fieldAddr (off' := 0) Try.underlying36 rfl Try.sizeOf3 (by decide) rfl rfl) ?_
  refine WL_step rfl (R_load Try.isAgg3 rfl (H.get (.there .here)) rfl) ?_
  refine WL_step rfl (R_fieldAddr (off' := 0) Try.underlying36 rfl Try.sizeOf3 (by decide) rfl rfl) ?_
  refine WL_step rfl (R_load Try.isAgg3 rfl (H.get .here) rfl) ?_
  refine WL_step rfl (R_ne_t rfl rfl (by omega)) ?_
  refine WL_nil ?_
  refine W_cond_t rfl ?_
  refine W_seq ?_
  refine W_region_l ?_
  refine WL_step rfl (R_fieldAddr (off' := 0) Try.underlying36 rfl Try.sizeOf3 (by decide) rfl rfl) ?_
  refine WL_step rfl (R_load Try.isAgg3 rfl (H.get (.there .here)) rfl) ?_
  refine WL_step rfl (R_fieldAddr (off' := 0) Try.underlying36 rfl Try.sizeOf3 (by decide) rfl rfl) ?_
  refine WL_step rfl (R_load Try.isAgg3 rfl (H.get .here) rfl) ?_
  refine WL_step rfl (R_sub rfl rfl (w_i64 (by omega))) ?_
  refine WL_stepM rfl (R_as) ?_
  refine WL_nil ?_
  refine W_ret ?_
  exact ⟨_, rfl, rfl, H.none (by repeat' first | exact kNil | apply kCons | apply kApp | assumption | exact OwnS.keys (by assumption))⟩

theorem len64_0 (w : World) : Ret Try.prog 106 #[.int .u64 0] w fun v w' => v = I 0 ∧ Hp w [] w' := by
  refine Ret_of_W (args := [_]) Try.func106 rfl Try.ntmps106 Try.results106 (by simp) ?_
  have H := Hp.refl w
  refine W_seq ?_
  refine W_region_l ?_
  refine WL_stepM rfl (R_as) ?_
  refine WL_nil ?_
  refine W_seq ?_
  refine W_seq ?_
  refine W_region_l ?_
  refine WL_stepM rfl (R_mv) ?_
  refine WL_step rfl (R_ge_f rfl rfl (by omega)) ?_
  refine WL_nil ?_
  refine W_cond_f rfl ?_
  refine W_skip ?_
  refine W_seq ?_
  refine W_seq ?_
  refine W_region_l ?_
  refine WL_stepM rfl (R_mv) ?_
  refine WL_step rfl (R_ge_f rfl rfl (by omega)) ?_
  refine WL_nil ?_
  refine W_cond_f rfl ?_
  refine W_skip ?_
  refine W_seq ?_
  refine W_seq ?_
  refine W_region_l ?_
  refine WL_stepM rfl (R_mv) ?_
  refine WL_step rfl (R_ge_f rfl rfl (by omega)) ?_
  refine WL_nil ?_
  refine W_cond_f rfl ?_
  refine W_skip ?_
  refine W_seq ?_
  refine W_region_l ?_
  refine WL_stepM rfl (R_mv) ?_
  refine WL_stepM rfl (R_mv) ?_
  refine WL_step rfl (R_conv_int (r := 0) Try.underlying174 Try.underlying5 rfl (by decide)) ?_
  refine WL_step rfl (R_index_S Try.underlying9 rfl rfl (by omega) rfl) ?_
  refine WL_step rfl (R_conv_int Try.underlying5 Try.underlying3 rfl u8_in_i64) ?_
  refine WL_step rfl (R_add rfl rfl rfl) ?_
  refine WL_stepM rfl (R_as) ?_
  refine WL_nil ?_
  refine W_ret ?_
  exact ⟨_, rfl, rfl, H⟩
theorem len_0 (w : World) : Ret Try.prog 72 #[.int .u64 0] w fun v w' => v = I 0 ∧ Hp w [] w' := by
  refine Ret_of_W (args := [_]) Try.func72 rfl Try.ntmps72 Try.results72 (by simp) ?_
  have H := Hp.refl w
  refine W_seq ?_
  refine W_region_l ?_
  refine WL_stepM rfl (R_as) ?_
  refine WL_nil ?_
  refine W_seq ?_
  refine W_cond_f rfl ?_
  refine W_skip ?_
  refine W_seq ?_
  refine W_region_l ?_
  refine WL_stepM rfl (R_mv) ?_
  (refine WL_call rfl (R_call rfl Try.call106 rfl) (len64_0 _) ?_; rintro _ w11 ⟨rfl, H1⟩; replace H := H.seq0 H1; clear H1)
  refine WL_stepM rfl (R_as) ?_
  refine WL_nil ?_
  refine W_ret ?_
  exact ⟨_, rfl, rfl, H⟩
theorem insort_0 (ao : Option Addr) (ca : Nat) (w : World) : Ret Try.prog 97 #[.slice ao 0 ca, I 0, I 0, .func (.func 51) #[] #[]] w fun v w' => Hp w [] w' := by
  refine Ret_of_W (args := [_, _, _, _]) Try.func97 rfl Try.ntmps97 Try.results97 (by simp) ?_
  have H := Hp.refl w
  refine W_seq ?_
  refine W_region_l ?_
  refine WL_stepM rfl (R_mv) ?_
  refine WL_step rfl (R_add (r := 1) rfl rfl (by decide)) ?_
  refine WL_stepM rfl (R_as) ?_
  refine WL_nil ?_
  refine W_block ?_
  refine W_rounds 0 ?_
  refine W_seq ?_
  refine W_seq ?_
  refine W_region_l ?_
  refine WL_stepM rfl (R_mv) ?_
  refine WL_stepM rfl (R_mv) ?_
  refine WL_step rfl (R_lt_f rfl rfl (by omega)) ?_
  refine WL_nil ?_
  refine W_cond_f rfl ?_
  refine W_exit ?_
  refine (if_pos rfl).mpr ?_
  exact ⟨_, rfl, H⟩
theorem pdq_0 (ao : Option Addr) (ca : Nat) (w : World) (k : Int) : Ret Try.prog 71 #[.slice ao 0 ca, I 0, I 0, I k, .func (.func 51) #[] #[]] w fun v w' => Hp w [] w' := by
  refine Ret_of_W (args := [_, _, _, _, _]) Try.func71 rfl Try.ntmps71 Try.results71 (by simp) ?_
  have H := Hp.refl w
  refine W_seq ?_
  refine W_region_l ?_
  refine WL_stepM rfl (R_as) ?_
  refine WL_nil ?_
  refine W_seq ?_
  refine W_region_l ?_
  refine WL_stepM rfl (R_as) ?_
  refine WL_nil ?_
  refine W_block ?_
  refine W_rounds 0 ?_
  refine W_block ?_
  refine W_seq ?_
  refine W_region_l ?_
  refine WL_stepM rfl (R_mv) ?_
  refine WL_stepM rfl (R_mv) ?_
  refine WL_step rfl (R_sub (r := 0) rfl rfl (by decide)) ?_
  refine WL_stepM rfl (R_as) ?_
  refine WL_nil ?_
  refine W_seq ?_
  refine W_seq ?_
  refine W_region_l ?_
  refine WL_stepM rfl (R_mv) ?_
  refine WL_step rfl (R_le_t rfl rfl (by omega)) ?_
  refine WL_nil ?_
  refine W_cond_t rfl ?_
  refine W_seq ?_
  refine W_region_l ?_
  refine WL_stepM rfl (R_mv) ?_
  refine WL_stepM rfl (R_mv) ?_
  refine WL_stepM rfl (R_mv) ?_
  refine WL_stepM rfl (R_mv) ?_
  (refine WL_call rfl (R_call rfl Try.call97 rfl) (insort_0 _ _ _) ?_; rintro _ w31 H1; replace H := H.seq0 H1; clear H1)
  refine WL_nil ?_
  refine W_ret ?_
  exact ⟨_, rfl, H⟩
theorem sort_0 (ao : Option Addr) (ca : Nat) (w : World) : Ret Try.prog 50 #[.slice ao 0 ca, .func (.func 51) #[] #[]] w fun v w' => Hp w [] w' := by
  refine Ret_of_W (args := [_, _]) Try.func50 rfl Try.ntmps50 Try.results50 (by simp) ?_
  have H := Hp.refl w
  refine W_seq ?_
  refine W_region_l ?_
  refine WL_stepM rfl (R_mv) ?_
  refine WL_step rfl (R_len_slice Try.underlying51 rfl) ?_
  refine WL_stepM rfl (R_as) ?_
  refine WL_nil ?_
  refine W_region_l ?_
  refine WL_stepM rfl (R_mv) ?_
  refine WL_stepM rfl (R_mv) ?_
  refine WL_stepM rfl (R_mv) ?_
  refine WL_step rfl (R_conv_int Try.underlying3 Try.underlying145 rfl (w_u64 (by omega))) ?_
  (refine WL_call rfl (R_call rfl Try.call72 rfl) (len_0 _) ?_; rintro _ w12 ⟨rfl, H1⟩; replace H := H.seq0 H1; clear H1)
  refine WL_stepM rfl (R_mv) ?_
  (refine WL_call rfl (R_call rfl Try.call71 rfl) (pdq_0 _ _ _ _) ?_; rintro _ w14 H1; replace H := H.seq0 H1; clear H1)
  refine WL_nil ?_
  exact ⟨_, rfl, H⟩

theorem len64_2 (w : World) : Ret Try.prog 106 #[.int .u64 2] w fun v w' => v = I 2 ∧ Hp w [] w' := by
  refine Ret_of_W (args := [_]) Try.func106 rfl Try.ntmps106 Try.results106 (by simp) ?_
  have H := Hp.refl w
  refine W_seq ?_
  refine W_region_l ?_
  refine WL_stepM rfl (R_as) ?_
  refine WL_nil ?_
  refine W_seq ?_
  refine W_seq ?_
  refine W_region_l ?_
  refine WL_stepM rfl (R_mv) ?_
  refine WL_step rfl (R_ge_f rfl rfl (by omega)) ?_
  refine WL_nil ?_
  refine W_cond_f rfl ?_
  refine W_skip ?_
  refine W_seq ?_
  refine W_seq ?_
  refine W_region_l ?_
  refine WL_stepM rfl (R_mv) ?_
  refine WL_step rfl (R_ge_f rfl rfl (by omega)) ?_
  refine WL_nil ?_
  refine W_cond_f rfl ?_
  refine W_skip ?_
  refine W_seq ?_
  refine W_seq ?_
  refine W_region_l ?_
  refine WL_stepM rfl (R_mv) ?_
  refine WL_step rfl (R_ge_f rfl rfl (by omega)) ?_
  refine WL_nil ?_
  refine W_cond_f rfl ?_
  refine W_skip ?_
  refine W_seq ?_
  refine W_region_l ?_
  refine WL_stepM rfl (R_mv) ?_
  refine WL_stepM rfl (R_mv) ?_
  refine WL_step rfl (R_conv_int (r := 2) Try.underlying174 Try.underlying5 rfl (by decide)) ?_
  refine WL_step rfl (R_index_S Try.underlying9 rfl rfl (by omega) rfl) ?_
  refine WL_step rfl (R_conv_int Try.underlying5 Try.underlying3 rfl u8_in_i64) ?_
  refine WL_step rfl (R_add rfl rfl rfl) ?_
  refine WL_stepM rfl (R_as) ?_
  refine WL_nil ?_
  refine W_ret ?_
  exact ⟨_, rfl, rfl, H⟩
theorem len_2 (w : World) : Ret Try.prog 72 #[.int .u64 2] w fun v w' => v = I 2 ∧ Hp w [] w' := by
  refine Ret_of_W (args := [_]) Try.func72 rfl Try.ntmps72 Try.results72 (by simp) ?_
  have H := Hp.refl w
  refine W_seq ?_
  refine W_region_l ?_
  refine WL_stepM rfl (R_as) ?_
  refine WL_nil ?_
  refine W_seq ?_
  refine W_cond_f rfl ?_
  refine W_skip ?_
  refine W_seq ?_
  refine W_region_l ?_
  refine WL_stepM rfl (R_mv) ?_
  (refine WL_call rfl (R_call rfl Try.call106 rfl) (len64_2 _) ?_; rintro _ w11 ⟨rfl, H1⟩; replace H := H.seq0 H1; clear H1)
  refine WL_stepM rfl (R_as) ?_
  refine WL_nil ?_
  refine W_ret ?_
  exact ⟨_, rfl, rfl, H⟩
theorem insort_2 {w : World} {b ca : Nat} {sp : List Value} {e nm : Int} (hb : w.heap[b]? = some (blk ([I (e + 0), I nm, I (e + 1), I nm] ++ sp) 36)) (he : 0 ≤ e ∧ e ≤ 50) (hca : 2 ≤ ca) : Ret Try.prog 97 #[sl b 0 2 ca, I 0, I 2, .func (.func 51) #[] #[]] w fun v w' => Hp w [] w' := by
  refine Ret_of_W (args := [_, _, _, _]) Try.func97 rfl Try.ntmps97 Try.results97 (by simp) ?_
  have H := Hp.refl w
  refine W_seq ?_
  refine W_region_l ?_
  refine WL_stepM rfl (R_mv) ?_
  refine WL_step rfl (R_add (r := 1) rfl rfl (by decide)) ?_
  refine WL_stepM rfl (R_as) ?_
  refine WL_nil ?_
  refine W_block ?_
  refine W_rounds 1 ?_
  refine W_seq ?_
  refine W_seq ?_
  refine W_region_l ?_
  refine WL_stepM rfl (R_mv) ?_
  refine WL_stepM rfl (R_mv) ?_
  refine WL_step rfl (R_lt_t rfl rfl (by omega)) ?_
  refine WL_nil ?_
  refine W_cond_t rfl ?_
  refine W_skip ?_
  refine W_seq ?_
  refine W_block ?_
  refine W_seq ?_
  refine W_region_l ?_
  refine WL_stepM rfl (R_mv) ?_
  refine WL_stepM rfl (R_as) ?_
  refine WL_nil ?_
  refine W_block ?_
  refine W_rounds 0 ?_
  refine W_seq ?_
  refine W_seq ?_
  (refine W_drawH (fun _ => false) (by kernel_rfl) H ?_; clear H; intro w27 H)
  refine WA_takeM 0 rfl rfl rfl (by kernel_rfl) (by kernel_rfl) H (fun _ hC => R_mv) ?_
  refine WA_takeM 1 rfl rfl rfl (by kernel_rfl) (by kernel_rfl) H (fun _ hC => R_mv) ?_
  refine WA_take 2 rfl rfl rfl (by kernel_rfl) (by kernel_rfl) H (fun _ hC => R_gt_t rfl rfl (by omega)) ?_
  refine WA_takeM 3 rfl rfl rfl (by kernel_rfl) (by kernel_rfl) H (fun _ hC => R_mv) ?_
  refine WA_takeGM 4 rfl rfl rfl rfl (by kernel_rfl) (by kernel_rfl) H (fun _ hC => R_mv) ?_
  refine WA_takeGM 5 rfl rfl rfl rfl (by kernel_rfl) (by kernel_rfl) H (fun _ hC => R_mv) ?_
  refine WA_takeGM 6 rfl rfl rfl rfl (by kernel_rfl) (by kernel_rfl) H (fun _ hC => R_mv) ?_
  refine WA_takeG 7 rfl rfl rfl rfl (by kernel_rfl) (by kernel_rfl) H (fun _ hC => R_indexAddr (off' := 2) Try.underlying51 Try.sizeOf36 rfl rfl (by decide) (by decide) (by decide)) ?_
  refine WA_takeG 8 rfl rfl rfl rfl (by kernel_rfl) (by kernel_rfl) H (fun _ hC => R_loadA (vs := [I (e + 1), I nm]) Try.isAgg36 Try.sizeOf36 rfl (hC.blockN hb kNil) rfl (by simp)) ?_
  refine WA_takeGM 9 rfl rfl rfl rfl (by kernel_rfl) (by kernel_rfl) H (fun _ hC => R_mv) ?_
  refine WA_takeGM 10 rfl rfl rfl rfl (by kernel_rfl) (by kernel_rfl) H (fun _ hC => R_mv) ?_
  refine WA_takeG 11 rfl rfl rfl rfl (by kernel_rfl) (by kernel_rfl) H (fun _ hC => R_sub (r := 0) rfl rfl (by decide)) ?_
  refine WA_takeG 12 rfl rfl rfl rfl (by kernel_rfl) (by kernel_rfl) H (fun _ hC => R_indexAddr (off' := 0) Try.underlying51 Try.sizeOf36 rfl rfl (by decide) (by decide) (by decide)) ?_
  refine WA_takeG 13 rfl rfl rfl rfl (by kernel_rfl) (by kernel_rfl) H (fun _ hC => R_loadA (vs := [I (e + 0), I nm]) Try.isAgg36 Try.sizeOf36 rfl (hC.blockN hb kNil) rfl (by simp)) ?_
  refine WA_one (i := 14) (by kernel_rfl) ?_
  (refine WI_call rfl (.inr ⟨_, _, rfl, rfl⟩) (R_call rfl Try.call51 rfl) (by exact cmp_ret (a := e + 1) (b := e + 0) _ (by omega) (by omega) (by omega)) (by first | exact fun _ _ hR _ => H.seq0 hR.2 | exact fun _ _ hR h => Bool.noConfusion h | exact fun _ _ hR _ => (H.seq0 hR.2).none (by repeat' first | exact kNil | apply kCons | apply kApp | assumption | exact OwnS.keys (by assumption)) | exact fun _ _ hR _ => (H.seq0 hR.2).dropN (by repeat' first | exact kNil | apply kCons | apply kApp | assumption | exact OwnS.keys (by assumption))) ?_; rintro _ w43 ⟨rfl, H1⟩; replace H := H.seq0 H1; clear H1)
  refine WA_takeG 15 rfl rfl rfl rfl (by kernel_rfl) (by kernel_rfl) H (fun _ hC => R_lt_f rfl rfl (by omega)) ?_
  refine WA_takeM 16 rfl rfl rfl (by kernel_rfl) (by kernel_rfl) H (fun _ hC => R_pk_t rfl) ?_
  refine WA_done (by kernel_rfl) ?_
  refine W_cond_f rfl ?_
  refine W_exit ?_
  refine (if_pos rfl).mpr ?_
  refine W_region_l ?_
  refine WL_stepM rfl (R_mv) ?_
  refine WL_step rfl (R_add (r := 2) rfl rfl (by decide)) ?_
  refine WL_stepM rfl (R_as) ?_
  refine WL_nil ?_
  refine Rn_succ ?_
  refine W_seq ?_
  refine W_seq ?_
  refine W_region_l ?_
  refine WL_stepM rfl (R_mv) ?_
  refine WL_stepM rfl (R_mv) ?_
  refine WL_step rfl (R_lt_f rfl rfl (by omega)) ?_
  refine WL_nil ?_
  refine W_cond_f rfl ?_
  refine W_exit ?_
  refine (if_pos rfl).mpr ?_
  exact ⟨_, rfl, H⟩
theorem pdq_2 {w : World} {b ca : Nat} {sp : List Value} {e nm : Int} (hb : w.heap[b]? = some (blk ([I (e + 0), I nm, I (e + 1), I nm] ++ sp) 36)) (he : 0 ≤ e ∧ e ≤ 50) (hca : 2 ≤ ca) (k : Int) : Ret Try.prog 71 #[sl b 0 2 ca, I 0, I 2, I k, .func (.func 51) #[] #[]] w fun v w' => Hp w [] w' := by
  refine Ret_of_W (args := [_, _, _, _, _]) Try.func71 rfl Try.ntmps71 Try.results71 (by simp) ?_
  have H := Hp.refl w
  refine W_seq ?_
  refine W_region_l ?_
  refine WL_stepM rfl (R_as) ?_
  refine WL_nil ?_
  refine W_seq ?_
  refine W_region_l ?_
  refine WL_stepM rfl (R_as) ?_
  refine WL_nil ?_
  refine W_block ?_
  refine W_rounds 0 ?_
  refine W_block ?_
  refine W_seq ?_
  refine W_region_l ?_
  refine WL_stepM rfl (R_mv) ?_
  refine WL_stepM rfl (R_mv) ?_
  refine WL_step rfl (R_sub (r := 2) rfl rfl (by decide)) ?_
  refine WL_stepM rfl (R_as) ?_
  refine WL_nil ?_
  refine W_seq ?_
  refine W_seq ?_
  refine W_region_l ?_
  refine WL_stepM rfl (R_mv) ?_
  refine WL_step rfl (R_le_t rfl rfl (by omega)) ?_
  refine WL_nil ?_
  refine W_cond_t rfl ?_
  refine W_seq ?_
  refine W_region_l ?_
  refine WL_stepM rfl (R_mv) ?_
  refine WL_stepM rfl (R_mv) ?_
  refine WL_stepM rfl (R_mv) ?_
  refine WL_stepM rfl (R_mv) ?_
  (refine WL_call rfl (R_call rfl Try.call97 rfl) (insort_2 (H.blockN hb kNil) he hca) ?_; rintro _ w31 H1; replace H := H.seq0 H1; clear H1)
  refine WL_nil ?_
  refine W_ret ?_
  exact ⟨_, rfl, H⟩
theorem sort_2 {w : World} {b ca : Nat} {sp : List Value} {e nm : Int} (hb : w.heap[b]? = some (blk ([I (e + 0), I nm, I (e + 1), I nm] ++ sp) 36)) (he : 0 ≤ e ∧ e ≤ 50) (hca : 2 ≤ ca) : Ret Try.prog 50 #[sl b 0 2 ca, .func (.func 51) #[] #[]] w fun v w' => Hp w [] w' := by
  refine Ret_of_W (args := [_, _]) Try.func50 rfl Try.ntmps50 Try.results50 (by simp) ?_
  have H := Hp.refl w
  refine W_seq ?_
  refine W_region_l ?_
  refine WL_stepM rfl (R_mv) ?_
  refine WL_step rfl (R_len_slice Try.underlying51 rfl) ?_
  refine WL_stepM rfl (R_as) ?_
  refine WL_nil ?_
  refine W_region_l ?_
  refine WL_stepM rfl (R_mv) ?_
  refine WL_stepM rfl (R_mv) ?_
  refine WL_stepM rfl (R_mv) ?_
  refine WL_step rfl (R_conv_int Try.underlying3 Try.underlying145 rfl (w_u64 (by omega))) ?_
  (refine WL_call rfl (R_call rfl Try.call72 rfl) (len_2 _) ?_; rintro _ w12 ⟨rfl, H1⟩; replace H := H.seq0 H1; clear H1)
  refine WL_stepM rfl (R_mv) ?_
  (refine WL_call rfl (R_call rfl Try.call71 rfl) (pdq_2 (H.blockN hb kNil) he hca _) ?_; rintro _ w14 H1; replace H := H.seq0 H1; clear H1)
  refine WL_nil ?_
  exact ⟨_, rfl, H⟩

theorem len64_3 (w : World) : Ret Try.prog 106 #[.int .u64 3] w fun v w' => v = I 2 ∧ Hp w [] w' := by
  refine Ret_of_W (args := [_]) Try.func106 rfl Try.ntmps106 Try.results106 (by simp) ?_
  have H := Hp.refl w
  refine W_seq ?_
  refine W_region_l ?_
  refine WL_stepM rfl (R_as) ?_
  refine WL_nil ?_
  refine W_seq ?_
  refine W_seq ?_
  refine W_region_l ?_
  refine WL_stepM rfl (R_mv) ?_
  refine WL_step rfl (R_ge_f rfl rfl (by omega)) ?_
  refine WL_nil ?_
  refine W_cond_f rfl ?_
  refine W_skip ?_
  refine W_seq ?_
  refine W_seq ?_
  refine W_region_l ?_
  refine WL_stepM rfl (R_mv) ?_
  refine WL_step rfl (R_ge_f rfl rfl (by omega)) ?_
  refine WL_nil ?_
  refine W_cond_f rfl ?_
  refine W_skip ?_
  refine W_seq ?_
  refine W_seq ?_
  refine W_region_l ?_
  refine WL_stepM rfl (R_mv) ?_
  refine WL_step rfl (R_ge_f rfl rfl (by omega)) ?_
  refine WL_nil ?_
  refine W_cond_f rfl ?_
  refine W_skip ?_
  refine W_seq ?_
  refine W_region_l ?_
  refine WL_stepM rfl (R_mv) ?_
  refine WL_stepM rfl (R_mv) ?_
  refine WL_step rfl (R_conv_int (r := 3) Try.underlying174 Try.underlying5 rfl (by decide)) ?_
  refine WL_step rfl (R_index_S Try.underlying9 rfl rfl (by omega) rfl) ?_
  refine WL_step rfl (R_conv_int Try.underlying5 Try.underlying3 rfl u8_in_i64) ?_
  refine WL_step rfl (R_add rfl rfl rfl) ?_
  refine WL_stepM rfl (R_as) ?_
  refine WL_nil ?_
  refine W_ret ?_
  exact ⟨_, rfl, rfl, H⟩
theorem len_3 (w : World) : Ret Try.prog 72 #[.int .u64 3] w fun v w' => v = I 2 ∧ Hp w [] w' := by
  refine Ret_of_W (args := [_]) Try.func72 rfl Try.ntmps72 Try.results72 (by simp) ?_
  have H := Hp.refl w
  refine W_seq ?_
  refine W_region_l ?_
  refine WL_stepM rfl (R_as) ?_
  refine WL_nil ?_
  refine W_seq ?_
  refine W_cond_f rfl ?_
  refine W_skip ?_
  refine W_seq ?_
  refine W_region_l ?_
  refine WL_stepM rfl (R_mv) ?_
  (refine WL_call rfl (R_call rfl Try.call106 rfl) (len64_3 _) ?_; rintro _ w11 ⟨rfl, H1⟩; replace H := H.seq0 H1; clear H1)
  refine WL_stepM rfl (R_as) ?_
  refine WL_nil ?_
  refine W_ret ?_
  exact ⟨_, rfl, rfl, H⟩
theorem insort_3 {w : World} {b ca : Nat} {sp : List Value} {e nm : Int} (hb : w.heap[b]? = some (blk ([I (e + 0), I nm, I (e + 1), I nm, I (e + 2), I nm] ++ sp) 36)) (he : 0 ≤ e ∧ e ≤ 50) (hca : 3 ≤ ca) : Ret Try.prog 97 #[sl b 0 3 ca, I 0, I 3, .func (.func 51) #[] #[]] w fun v w' => Hp w [] w' := by
  refine Ret_of_W (args := [_, _, _, _]) Try.func97 rfl Try.ntmps97 Try.results97 (by simp) ?_
  have H := Hp.refl w
  refine W_seq ?_
  refine W_region_l ?_
  refine WL_stepM rfl (R_mv) ?_
  refine WL_step rfl (R_add (r := 1) rfl rfl (by decide)) ?_
  refine WL_stepM rfl (R_as) ?_
  refine WL_nil ?_
  refine W_block ?_
  refine W_rounds 2 ?_
  refine W_seq ?_
  refine W_seq ?_
  refine W_region_l ?_
  refine WL_stepM rfl (R_mv) ?_
  refine WL_stepM rfl (R_mv) ?_
  refine WL_step rfl (R_lt_t rfl rfl (by omega)) ?_
  refine WL_nil ?_
  refine W_cond_t rfl ?_
  refine W_skip ?_
  refine W_seq ?_
  refine W_block ?_
  refine W_seq ?_
  refine W_region_l ?_
  refine WL_stepM rfl (R_mv) ?_
  refine WL_stepM rfl (R_as) ?_
  refine WL_nil ?_
  refine W_block ?_
  refine W_rounds 0 ?_
  refine W_seq ?_
  refine W_seq ?_
  (refine W_drawH (fun _ => false) (by kernel_rfl) H ?_; clear H; intro w27 H)
  refine WA_takeM 0 rfl rfl rfl (by kernel_rfl) (by kernel_rfl) H (fun _ hC => R_mv) ?_
  refine WA_takeM 1 rfl rfl rfl (by kernel_rfl) (by kernel_rfl) H (fun _ hC => R_mv) ?_
  refine WA_take 2 rfl rfl rfl (by kernel_rfl) (by kernel_rfl) H (fun _ hC => R_gt_t rfl rfl (by omega)) ?_
  refine WA_takeM 3 rfl rfl rfl (by kernel_rfl) (by kernel_rfl) H (fun _ hC => R_mv) ?_
  refine WA_takeGM 4 rfl rfl rfl rfl (by kernel_rfl) (by kernel_rfl) H (fun _ hC => R_mv) ?_
  refine WA_takeGM 5 rfl rfl rfl rfl (by kernel_rfl) (by kernel_rfl) H (fun _ hC => R_mv) ?_
  refine WA_takeGM 6 rfl rfl rfl rfl (by kernel_rfl) (by kernel_rfl) H (fun _ hC => R_mv) ?_
  refine WA_takeG 7 rfl rfl rfl rfl (by kernel_rfl) (by kernel_rfl) H (fun _ hC => R_indexAddr (off' := 2) Try.underlying51 Try.sizeOf36 rfl rfl (by decide) (by decide) (by decide)) ?_
  refine WA_takeG 8 rfl rfl rfl rfl (by kernel_rfl) (by kernel_rfl) H (fun _ hC => R_loadA (vs := [I (e + 1), I nm]) Try.isAgg36 Try.sizeOf36 rfl (hC.blockN hb kNil) rfl (by simp)) ?_
  refine WA_takeGM 9 rfl rfl rfl rfl (by kernel_rfl) (by kernel_rfl) H (fun _ hC => R_mv) ?_
  refine WA_takeGM 10 rfl rfl rfl rfl (by kernel_rfl) (by kernel_rfl) H (fun _ hC => R_mv) ?_
  refine WA_takeG 11 rfl rfl rfl rfl (by kernel_rfl) (by kernel_rfl) H (fun _ hC => R_sub (r := 0) rfl rfl (by decide)) ?_
  refine WA_takeG 12 rfl rfl rfl rfl (by kernel_rfl) (by kernel_rfl) H (fun _ hC => R_indexAddr (off' := 0) Try.underlying51 Try.sizeOf36 rfl rfl (by decide) (by decide) (by decide)) ?_
  refine WA_takeG 13 rfl rfl rfl rfl (by kernel_rfl) (by kernel_rfl) H (fun _ hC => R_loadA (vs := [I (e + 0), I nm]) Try.isAgg36 Try.sizeOf36 rfl (hC.blockN hb kNil) rfl (by simp)) ?_
  refine WA_one (i := 14) (by kernel_rfl) ?_
  (refine WI_call rfl (.inr ⟨_, _, rfl, rfl⟩) (R_call rfl Try.call51 rfl) (by exact cmp_ret (a := e + 1) (b := e + 0) _ (by omega) (by omega) (by omega)) (by first | exact fun _ _ hR _ => H.seq0 hR.2 | exact fun _ _ hR h => Bool.noConfusion h | exact fun _ _ hR _ => (H.seq0 hR.2).none (by repeat' first | exact kNil | apply kCons | apply kApp | assumption | exact OwnS.keys (by assumption)) | exact fun _ _ hR _ => (H.seq0 hR.2).dropN (by repeat' first | exact kNil | apply kCons | apply kApp | assumption | exact OwnS.keys (by assumption))) ?_; rintro _ w43 ⟨rfl, H1⟩; replace H := H.seq0 H1; clear H1)
  refine WA_takeG 15 rfl rfl rfl rfl (by kernel_rfl) (by kernel_rfl) H (fun _ hC => R_lt_f rfl rfl (by omega)) ?_
  refine WA_takeM 16 rfl rfl rfl (by kernel_rfl) (by kernel_rfl) H (fun _ hC => R_pk_t rfl) ?_
  refine WA_done (by kernel_rfl) ?_
  refine W_cond_f rfl ?_
  refine W_exit ?_
  refine (if_pos rfl).mpr ?_
  refine W_region_l ?_
  refine WL_stepM rfl (R_mv) ?_
  refine WL_step rfl (R_add (r := 2) rfl rfl (by decide)) ?_
  refine WL_stepM rfl (R_as) ?_
  refine WL_nil ?_
  refine Rn_succ ?_
  refine W_seq ?_
  refine W_seq ?_
  refine W_region_l ?_
  refine WL_stepM rfl (R_mv) ?_
  refine WL_stepM rfl (R_mv) ?_
  refine WL_step rfl (R_lt_t rfl rfl (by omega)) ?_
  refine WL_nil ?_
  refine W_cond_t rfl ?_
  refine W_skip ?_
  refine W_seq ?_
  refine W_block ?_
  refine W_seq ?_
  refine W_region_l ?_
  refine WL_stepM rfl (R_mv) ?_
  refine WL_stepM rfl (R_as) ?_
  refine WL_nil ?_
  refine W_block ?_
  refine W_rounds 0 ?_
  refine W_seq ?_
  refine W_seq ?_
  (refine W_drawH (fun _ => false) (by kernel_rfl) H ?_; clear H; intro w75 H)
  refine WA_takeM 0 rfl rfl rfl (by kernel_rfl) (by kernel_rfl) H (fun _ hC => R_mv) ?_
  refine WA_takeM 1 rfl rfl rfl (by kernel_rfl) (by kernel_rfl) H (fun _ hC => R_mv) ?_
  refine WA_take 2 rfl rfl rfl (by kernel_rfl) (by kernel_rfl) H (fun _ hC => R_gt_t rfl rfl (by omega)) ?_
  refine WA_takeM 3 rfl rfl rfl (by kernel_rfl) (by kernel_rfl) H (fun _ hC => R_mv) ?_
  refine WA_takeGM 4 rfl rfl rfl rfl (by kernel_rfl) (by kernel_rfl) H (fun _ hC => R_mv) ?_
  refine WA_takeGM 5 rfl rfl rfl rfl (by kernel_rfl) (by kernel_rfl) H (fun _ hC => R_mv) ?_
  refine WA_takeGM 6 rfl rfl rfl rfl (by kernel_rfl) (by kernel_rfl) H (fun _ hC => R_mv) ?_
  refine WA_takeG 7 rfl rfl rfl rfl (by kernel_rfl) (by kernel_rfl) H (fun _ hC => R_indexAddr (off' := 4) Try.underlying51 Try.sizeOf36 rfl rfl (by decide) (by decide) (by decide)) ?_
  refine WA_takeG 8 rfl rfl rfl rfl (by kernel_rfl) (by kernel_rfl) H (fun _ hC => R_loadA (vs := [I (e + 2), I nm]) Try.isAgg36 Try.sizeOf36 rfl (hC.blockN hb kNil) rfl (by simp)) ?_
  refine WA_takeGM 9 rfl rfl rfl rfl (by kernel_rfl) (by kernel_rfl) H (fun _ hC => R_mv) ?_
  refine WA_takeGM 10 rfl rfl rfl rfl (by kernel_rfl) (by kernel_rfl) H (fun _ hC => R_mv) ?_
  refine WA_takeG 11 rfl rfl rfl rfl (by kernel_rfl) (by kernel_rfl) H (fun _ hC => R_sub (r := 1) rfl rfl (by decide)) ?_
  refine WA_takeG 12 rfl rfl rfl rfl (by kernel_rfl) (by kernel_rfl) H (fun _ hC => R_indexAddr (off' := 2) Try.underlying51 Try.sizeOf36 rfl rfl (by decide) (by decide) (by decide)) ?_
  refine WA_takeG 13 rfl rfl rfl rfl (by kernel_rfl) (by kernel_rfl) H (fun _ hC => R_loadA (vs := [I (e + 1), I nm]) Try.isAgg36 Try.sizeOf36 rfl (hC.blockN hb kNil) rfl (by simp)) ?_
  refine WA_one (i := 14) (by kernel_rfl) ?_
  (refine WI_call rfl (.inr ⟨_, _, rfl, rfl⟩) (R_call rfl Try.call51 rfl) (by exact cmp_ret (a := e + 2) (b := e + 1) _ (by omega) (by omega) (by omega)) (by first | exact fun _ _ hR _ => H.seq0 hR.2 | exact fun _ _ hR h => Bool.noConfusion h | exact fun _ _ hR _ => (H.seq0 hR.2).none (by repeat' first | exact kNil | apply kCons | apply kApp | assumption | exact OwnS.keys (by assumption)) | exact fun _ _ hR _ => (H.seq0 hR.2).dropN (by repeat' first | exact kNil | apply kCons | apply kApp | assumption | exact OwnS.keys (by assumption))) ?_; rintro _ w91 ⟨rfl, H1⟩; replace H := H.seq0 H1; clear H1)
  refine WA_takeG 15 rfl rfl rfl rfl (by kernel_rfl) (by kernel_rfl) H (fun _ hC => R_lt_f rfl rfl (by omega)) ?_
  refine WA_takeM 16 rfl rfl rfl (by kernel_rfl) (by kernel_rfl) H (fun _ hC => R_pk_t rfl) ?_
  refine WA_done (by kernel_rfl) ?_
  refine W_cond_f rfl ?_
  refine W_exit ?_
  refine (if_pos rfl).mpr ?_
  refine W_region_l ?_
  refine WL_stepM rfl (R_mv) ?_
  refine WL_step rfl (R_add (r := 3) rfl rfl (by decide)) ?_
  refine WL_stepM rfl (R_as) ?_
  refine WL_nil ?_
  refine Rn_succ ?_
  refine W_seq ?_
  refine W_seq ?_
  refine W_region_l ?_
  refine WL_stepM rfl (R_mv) ?_
  refine WL_stepM rfl (R_mv) ?_
  refine WL_step rfl (R_lt_f rfl rfl (by omega)) ?_
  refine WL_nil ?_
  refine W_cond_f rfl ?_
  refine W_exit ?_
  refine (if_pos rfl).mpr ?_
  exact ⟨_, rfl, H⟩
theorem pdq_3 {w : World} {b ca : Nat} {sp : List Value} {e nm : Int} (hb : w.heap[b]? = some (blk ([I (e + 0), I nm, I (e + 1), I nm, I (e + 2), I nm] ++ sp) 36)) (he : 0 ≤ e ∧ e ≤ 50) (hca : 3 ≤ ca) (k : Int) : Ret Try.prog 71 #[sl b 0 3 ca, I 0, I 3, I k, .func (.func 51) #[] #[]] w fun v w' => Hp w [] w' := by
  refine Ret_of_W (args := [_, _, _, _, _]) Try.func71 rfl Try.ntmps71 Try.results71 (by simp) ?_
  have H := Hp.refl w
  refine W_seq ?_
  refine W_region_l ?_
  refine WL_stepM rfl (R_as) ?_
  refine WL_nil ?_
  refine W_seq ?_
  refine W_region_l ?_
  refine WL_stepM rfl (R_as) ?_
  refine WL_nil ?_
  refine W_block ?_
  refine W_rounds 0 ?_
  refine W_block ?_
  refine W_seq ?_
  refine W_region_l ?_
  refine WL_stepM rfl (R_mv) ?_
  refine WL_stepM rfl (R_mv) ?_
  refine WL_step rfl (R_sub (r := 3) rfl rfl (by decide)) ?_
  refine WL_stepM rfl (R_as) ?_
  refine WL_nil ?_
  refine W_seq ?_
  refine W_seq ?_
  refine W_region_l ?_
  refine WL_stepM rfl (R_mv) ?_
  refine WL_step rfl (R_le_t rfl rfl (by omega)) ?_
  refine WL_nil ?_
  refine W_cond_t rfl ?_
  refine W_seq ?_
  refine W_region_l ?_
  refine WL_stepM rfl (R_mv) ?_
  refine WL_stepM rfl (R_mv) ?_
  refine WL_stepM rfl (R_mv) ?_
  refine WL_stepM rfl (R_mv) ?_
  (refine WL_call rfl (R_call rfl Try.call97 rfl) (insort_3 (H.blockN hb kNil) he hca) ?_; rintro _ w31 H1; replace H := H.seq0 H1; clear H1)
  refine WL_nil ?_
  refine W_ret ?_
  exact ⟨_, rfl, H⟩
theorem sort_3 {w : World} {b ca : Nat} {sp : List Value} {e nm : Int} (hb : w.heap[b]? = some (blk ([I (e + 0), I nm, I (e + 1), I nm, I (e + 2), I nm] ++ sp) 36)) (he : 0 ≤ e ∧ e ≤ 50) (hca : 3 ≤ ca) : Ret Try.prog 50 #[sl b 0 3 ca, .func (.func 51) #[] #[]] w fun v w' => Hp w [] w' := by
  refine Ret_of_W (args := [_, _]) Try.func50 rfl Try.ntmps50 Try.results50 (by simp) ?_
  have H := Hp.refl w
  refine W_seq ?_
  refine W_region_l ?_
  refine WL_stepM rfl (R_mv) ?_
  refine WL_step rfl (R_len_slice Try.underlying51 rfl) ?_
  refine WL_stepM rfl (R_as) ?_
  refine WL_nil ?_
  refine W_region_l ?_
  refine WL_stepM rfl (R_mv) ?_
  refine WL_stepM rfl (R_mv) ?_
  refine WL_stepM rfl (R_mv) ?_
  refine WL_step rfl (R_conv_int Try.underlying3 Try.underlying145 rfl (w_u64 (by omega))) ?_
  (refine WL_call rfl (R_call rfl Try.call72 rfl) (len_3 _) ?_; rintro _ w12 ⟨rfl, H1⟩; replace H := H.seq0 H1; clear H1)
  refine WL_stepM rfl (R_mv) ?_
  (refine WL_call rfl (R_call rfl Try.call71 rfl) (pdq_3 (H.blockN hb kNil) he hca _) ?_; rintro _ w14 H1; replace H := H.seq0 H1; clear H1)
  refine WL_nil ?_
  exact ⟨_, rfl, H⟩
end Go.Proofs.Ythonajikgljgmaa.Caps

/-
  Sorting Refs that rise: any row of at most 25.
-/
import Derived.Test.YthonajikgljgmaaSortB
namespace Go.Proofs.Ythonajikgljgmaa.Caps
open Go Go.Proofs Go.Proofs.Ythonajikgljgmaa.Fx Go.Proofs.Ythonajikgljgmaa.TabC
set_option maxRecDepth 100000
set_option linter.unusedVariables false
set_option linter.unusedSimpArgs false
set_option maxHeartbeats 8000000

def rc (r : Int × Int) : List Value := [I r.1, I r.2]
theorem rc_len (r : Int × Int) : (rc r).length = 2 := rfl
def le2 (a b : Int × Int) : Prop := a.1 < b.1 ∨ (a.1 = b.1 ∧ a.2 ≤ b.2)
structure Up (R : List (Int × Int)) : Prop where
  le : ∀ (i j : Nat) (a b : Int × Int), i ≤ j → R[i]? = some a → R[j]? = some b → le2 a b
  lo : ∀ a ∈ R, 0 ≤ a.1 ∧ a.1 ≤ 100 ∧ 0 ≤ a.2 ∧ a.2 ≤ 1000000000
theorem rows_at {R : List (Int × Int)} {sp : List Value} {i : Nat} {a : Int × Int} (h : R[i]? = some a) : ((rows rc R ++ sp).drop (i * 2)).take 2 = rc a := by
  have hi := (List.getElem?_eq_some_iff.1 h).1
  have hl := rows_length rc_len R
  rw [List.drop_append_of_le_length (by omega), List.take_append_of_le_length (by rw [List.length_drop]; omega)]
  exact rows_one rc_len h

theorem cmp_ge {a b : Int × Int} (w : World) (h : le2 b a) (ha : 0 ≤ a.1 ∧ a.1 ≤ 100 ∧ 0 ≤ a.2 ∧ a.2 ≤ 1000000000) (hb : 0 ≤ b.1 ∧ b.1 ≤ 100 ∧ 0 ≤ b.2 ∧ b.2 ≤ 1000000000) : Ret Try.prog 51 #[.agg #[I a.1, I a.2], .agg #[I b.1, I b.2]] w fun v w' => ∃ z, v = I z ∧ 0 ≤ z ∧ Hp w [] w' := by
  refine Ret_of_W (args := [_, _]) Try.func51 rfl Try.ntmps51 Try.results51 (by simp) ?_
  have H := Hp.refl w
  obtain ⟨a1, a2⟩ := a
  obtain ⟨b1, b2⟩ := b
  simp only [le2] at h ha hb ⊢
  refine W_seq ?_
  refine W_region_l ?_
  (refine WL_effn rfl (E_box (vs := [I a1, I a2]) H rfl rfl) ?_; clear H; intro c2 w3 hc2 H)
  (refine WL_effn rfl (E_box (vs := [I b1, I b2]) H rfl rfl) ?_; clear H; intro c3 w4 hc3 H)
  refine WL_stepM rfl (R_as) ?_
  refine WL_nil ?_
  refine W_seq ?_
  refine W_seq ?_
  refine W_region_l ?_
  refine WL_step rfl (R_fieldAddr (off' := 0) Try.underlying36 rfl Try.sizeOf3 (by decide) rfl rfl) ?_
  refine WL_step rfl (R_load Try.isAgg3 rfl (H.get (.there .here)) rfl) ?_
  refine WL_step rfl (R_fieldAddr (off' := 0) Try.underlying36 rfl Try.sizeOf3 (by decide) rfl rfl) ?_
  refine WL_step rfl (R_load Try.isAgg3 rfl (H.get .here) rfl) ?_
  refine WL_step rfl (R_ne rfl rfl) ?_
  refine WL_nil ?_
  refine W_if rfl (fun h16 => ?_) (fun h16 => ?_)
  · refine W_seq ?_
    refine W_region_l ?_
    refine WL_step rfl (R_fieldAddr (off' := 0) Try.underlying36 rfl Try.sizeOf3 (by decide) rfl rfl) ?_
    refine WL_step rfl (R_load Try.isAgg3 rfl (H.get (.there .here)) rfl) ?_
    refine WL_step rfl (R_fieldAddr (off' := 0) Try.underlying36 rfl Try.sizeOf3 (by decide) rfl rfl) ?_
    refine WL_step rfl (R_load Try.isAgg3 rfl (H.get .here) rfl) ?_
    refine WL_step rfl (R_sub rfl rfl (w_i64 (by omega))) ?_
    refine WL_stepM rfl (R_as) ?_
    refine WL_nil ?_
    refine W_ret ?_
    exact ⟨_, rfl, _, rfl, by omega, H.none (by repeat' first | exact kNil | apply kCons | apply kApp | assumption | exact OwnS.keys (by assumption))⟩
  · refine W_skip ?_
    refine W_seq ?_
    refine W_region_l ?_
    refine WL_step rfl (R_fieldAddr (off' := 1) Try.underlying36 rfl Try.sizeOf3 (by decide) rfl rfl) ?_
    refine WL_step rfl (R_load Try.isAgg3 rfl (H.get (.there .here)) rfl) ?_
    refine WL_step rfl (R_fieldAddr (off' := 1) Try.underlying36 rfl Try.sizeOf3 (by decide) rfl rfl) ?_
    refine WL_step rfl (R_load Try.isAgg3 rfl (H.get .here) rfl) ?_
    refine WL_step rfl (R_sub rfl rfl (w_i64 (by omega))) ?_
    refine WL_stepM rfl (R_as) ?_
    refine WL_nil ?_
    refine W_ret ?_
    exact ⟨_, rfl, _, rfl, by omega, H.none (by repeat' first | exact kNil | apply kCons | apply kApp | assumption | exact OwnS.keys (by assumption))⟩
theorem len64_4 (w : World) : Ret Try.prog 106 #[.int .u64 4] w fun v w' => v = I 3 ∧ Hp w [] w' := by
  refine Ret_of_W (args := [_]) Try.func106 rfl Try.ntmps106 Try.results106 (by simp) ?_
  have H := Hp.refl w
  refine W_seq ?_
  refine W_region_l ?_
  refine WL_stepM rfl (R_as) ?_
  refine WL_nil ?_
  refine W_seq ?_
  refine W_seq ?_
  refine W_region_l ?_
  refine WL_stepM rfl (R_mv) ?_
  refine WL_step rfl (R_ge_f rfl rfl (by omega)) ?_
  refine WL_nil ?_
  refine W_cond_f rfl ?_
  refine W_skip ?_
  refine W_seq ?_
  refine W_seq ?_
  refine W_region_l ?_
  refine WL_stepM rfl (R_mv) ?_
  refine WL_step rfl (R_ge_f rfl rfl (by omega)) ?_
  refine WL_nil ?_
  refine W_cond_f rfl ?_
  refine W_skip ?_
  refine W_seq ?_
  refine W_seq ?_
  refine W_region_l ?_
  refine WL_stepM rfl (R_mv) ?_
  refine WL_step rfl (R_ge_f rfl rfl (by omega)) ?_
  refine WL_nil ?_
  refine W_cond_f rfl ?_
  refine W_skip ?_
  refine W_seq ?_
  refine W_region_l ?_
  refine WL_stepM rfl (R_mv) ?_
  refine WL_stepM rfl (R_mv) ?_
  refine WL_step rfl (R_conv_int (r := 4) Try.underlying174 Try.underlying5 rfl (by decide)) ?_
  refine WL_step rfl (R_index_S Try.underlying9 rfl rfl (by omega) rfl) ?_
  refine WL_step rfl (R_conv_int Try.underlying5 Try.underlying3 rfl u8_in_i64) ?_
  refine WL_step rfl (R_add rfl rfl rfl) ?_
  refine WL_stepM rfl (R_as) ?_
  refine WL_nil ?_
  refine W_ret ?_
  exact ⟨_, rfl, rfl, H⟩
theorem len64_5 (w : World) : Ret Try.prog 106 #[.int .u64 5] w fun v w' => v = I 3 ∧ Hp w [] w' := by
  refine Ret_of_W (args := [_]) Try.func106 rfl Try.ntmps106 Try.results106 (by simp) ?_
  have H := Hp.refl w
  refine W_seq ?_
  refine W_region_l ?_
  refine WL_stepM rfl (R_as) ?_
  refine WL_nil ?_
  refine W_seq ?_
  refine W_seq ?_
  refine W_region_l ?_
  refine WL_stepM rfl (R_mv) ?_
  refine WL_step rfl (R_ge_f rfl rfl (by omega)) ?_
  refine WL_nil ?_
  refine W_cond_f rfl ?_
  refine W_skip ?_
  refine W_seq ?_
  refine W_seq ?_
  refine W_region_l ?_
  refine WL_stepM rfl (R_mv) ?_
  refine WL_step rfl (R_ge_f rfl rfl (by omega)) ?_
  refine WL_nil ?_
  refine W_cond_f rfl ?_
  refine W_skip ?_
  refine W_seq ?_
  refine W_seq ?_
  refine W_region_l ?_
  refine WL_stepM rfl (R_mv) ?_
  refine WL_step rfl (R_ge_f rfl rfl (by omega)) ?_
  refine WL_nil ?_
  refine W_cond_f rfl ?_
  refine W_skip ?_
  refine W_seq ?_
  refine W_region_l ?_
  refine WL_stepM rfl (R_mv) ?_
  refine WL_stepM rfl (R_mv) ?_
  refine WL_step rfl (R_conv_int (r := 5) Try.underlying174 Try.underlying5 rfl (by decide)) ?_
  refine WL_step rfl (R_index_S Try.underlying9 rfl rfl (by omega) rfl) ?_
  refine WL_step rfl (R_conv_int Try.underlying5 Try.underlying3 rfl u8_in_i64) ?_
  refine WL_step rfl (R_add rfl rfl rfl) ?_
  refine WL_stepM rfl (R_as) ?_
  refine WL_nil ?_
  refine W_ret ?_
  exact ⟨_, rfl, rfl, H⟩
theorem len64_6 (w : World) : Ret Try.prog 106 #[.int .u64 6] w fun v w' => v = I 3 ∧ Hp w [] w' := by
  refine Ret_of_W (args := [_]) Try.func106 rfl Try.ntmps106 Try.results106 (by simp) ?_
  have H := Hp.refl w
  refine W_seq ?_
  refine W_region_l ?_
  refine WL_stepM rfl (R_as) ?_
  refine WL_nil ?_
  refine W_seq ?_
  refine W_seq ?_
  refine W_region_l ?_
  refine WL_stepM rfl (R_mv) ?_
  refine WL_step rfl (R_ge_f rfl rfl (by omega)) ?_
  refine WL_nil ?_
  refine W_cond_f rfl ?_
  refine W_skip ?_
  refine W_seq ?_
  refine W_seq ?_
  refine W_region_l ?_
  refine WL_stepM rfl (R_mv) ?_
  refine WL_step rfl (R_ge_f rfl rfl (by omega)) ?_
  refine WL_nil ?_
  refine W_cond_f rfl ?_
  refine W_skip ?_
  refine W_seq ?_
  refine W_seq ?_
  refine W_region_l ?_
  refine WL_stepM rfl (R_mv) ?_
  refine WL_step rfl (R_ge_f rfl rfl (by omega)) ?_
  refine WL_nil ?_
  refine W_cond_f rfl ?_
  refine W_skip ?_
  refine W_seq ?_
  refine W_region_l ?_
  refine WL_stepM rfl (R_mv) ?_
  refine WL_stepM rfl (R_mv) ?_
  refine WL_step rfl (R_conv_int (r := 6) Try.underlying174 Try.underlying5 rfl (by decide)) ?_
  refine WL_step rfl (R_index_S Try.underlying9 rfl rfl (by omega) rfl) ?_
  refine WL_step rfl (R_conv_int Try.underlying5 Try.underlying3 rfl u8_in_i64) ?_
  refine WL_step rfl (R_add rfl rfl rfl) ?_
  refine WL_stepM rfl (R_as) ?_
  refine WL_nil ?_
  refine W_ret ?_
  exact ⟨_, rfl, rfl, H⟩
theorem len64_7 (w : World) : Ret Try.prog 106 #[.int .u64 7] w fun v w' => v = I 3 ∧ Hp w [] w' := by
  refine Ret_of_W (args := [_]) Try.func106 rfl Try.ntmps106 Try.results106 (by simp) ?_
  have H := Hp.refl w
  refine W_seq ?_
  refine W_region_l ?_
  refine WL_stepM rfl (R_as) ?_
  refine WL_nil ?_
  refine W_seq ?_
  refine W_seq ?_
  refine W_region_l ?_
  refine WL_stepM rfl (R_mv) ?_
  refine WL_step rfl (R_ge_f rfl rfl (by omega)) ?_
  refine WL_nil ?_
  refine W_cond_f rfl ?_
  refine W_skip ?_
  refine W_seq ?_
  refine W_seq ?_
  refine W_region_l ?_
  refine WL_stepM rfl (R_mv) ?_
  refine WL_step rfl (R_ge_f rfl rfl (by omega)) ?_
  refine WL_nil ?_
  refine W_cond_f rfl ?_
  refine W_skip ?_
  refine W_seq ?_
  refine W_seq ?_
  refine W_region_l ?_
  refine WL_stepM rfl (R_mv) ?_
  refine WL_step rfl (R_ge_f rfl rfl (by omega)) ?_
  refine WL_nil ?_
  refine W_cond_f rfl ?_
  refine W_skip ?_
  refine W_seq ?_
  refine W_region_l ?_
  refine WL_stepM rfl (R_mv) ?_
  refine WL_stepM rfl (R_mv) ?_
  refine WL_step rfl (R_conv_int (r := 7) Try.underlying174 Try.underlying5 rfl (by decide)) ?_
  refine WL_step rfl (R_index_S Try.underlying9 rfl rfl (by omega) rfl) ?_
  refine WL_step rfl (R_conv_int Try.underlying5 Try.underlying3 rfl u8_in_i64) ?_
  refine WL_step rfl (R_add rfl rfl rfl) ?_
  refine WL_stepM rfl (R_as) ?_
  refine WL_nil ?_
  refine W_ret ?_
  exact ⟨_, rfl, rfl, H⟩
theorem len64_8 (w : World) : Ret Try.prog 106 #[.int .u64 8] w fun v w' => v = I 4 ∧ Hp w [] w' := by
  refine Ret_of_W (args := [_]) Try.func106 rfl Try.ntmps106 Try.results106 (by simp) ?_
  have H := Hp.refl w
  refine W_seq ?_
  refine W_region_l ?_
  refine WL_stepM rfl (R_as) ?_
  refine WL_nil ?_
  refine W_seq ?_
  refine W_seq ?_
  refine W_region_l ?_
  refine WL_stepM rfl (R_mv) ?_
  refine WL_step rfl (R_ge_f rfl rfl (by omega)) ?_
  refine WL_nil ?_
  refine W_cond_f rfl ?_
  refine W_skip ?_
  refine W_seq ?_
  refine W_seq ?_
  refine W_region_l ?_
  refine WL_stepM rfl (R_mv) ?_
  refine WL_step rfl (R_ge_f rfl rfl (by omega)) ?_
  refine WL_nil ?_
  refine W_cond_f rfl ?_
  refine W_skip ?_
  refine W_seq ?_
  refine W_seq ?_
  refine W_region_l ?_
  refine WL_stepM rfl (R_mv) ?_
  refine WL_step rfl (R_ge_f rfl rfl (by omega)) ?_
  refine WL_nil ?_
  refine W_cond_f rfl ?_
  refine W_skip ?_
  refine W_seq ?_
  refine W_region_l ?_
  refine WL_stepM rfl (R_mv) ?_
  refine WL_stepM rfl (R_mv) ?_
  refine WL_step rfl (R_conv_int (r := 8) Try.underlying174 Try.underlying5 rfl (by decide)) ?_
  refine WL_step rfl (R_index_S Try.underlying9 rfl rfl (by omega) rfl) ?_
  refine WL_step rfl (R_conv_int Try.underlying5 Try.underlying3 rfl u8_in_i64) ?_
  refine WL_step rfl (R_add rfl rfl rfl) ?_
  refine WL_stepM rfl (R_as) ?_
  refine WL_nil ?_
  refine W_ret ?_
  exact ⟨_, rfl, rfl, H⟩
theorem len64_9 (w : World) : Ret Try.prog 106 #[.int .u64 9] w fun v w' => v = I 4 ∧ Hp w [] w' := by
  refine Ret_of_W (args := [_]) Try.func106 rfl Try.ntmps106 Try.results106 (by simp) ?_
  have H := Hp.refl w
  refine W_seq ?_
  refine W_region_l ?_
  refine WL_stepM rfl (R_as) ?_
  refine WL_nil ?_
  refine W_seq ?_
  refine W_seq ?_
  refine W_region_l ?_
  refine WL_stepM rfl (R_mv) ?_
  refine WL_step rfl (R_ge_f rfl rfl (by omega)) ?_
  refine WL_nil ?_
  refine W_cond_f rfl ?_
  refine W_skip ?_
  refine W_seq ?_
  refine W_seq ?_
  refine W_region_l ?_
  refine WL_stepM rfl (R_mv) ?_
  refine WL_step rfl (R_ge_f rfl rfl (by omega)) ?_
  refine WL_nil ?_
  refine W_cond_f rfl ?_
  refine W_skip ?_
  refine W_seq ?_
  refine W_seq ?_
  refine W_region_l ?_
  refine WL_stepM rfl (R_mv) ?_
  refine WL_step rfl (R_ge_f rfl rfl (by omega)) ?_
  refine WL_nil ?_
  refine W_cond_f rfl ?_
  refine W_skip ?_
  refine W_seq ?_
  refine W_region_l ?_
  refine WL_stepM rfl (R_mv) ?_
  refine WL_stepM rfl (R_mv) ?_
  refine WL_step rfl (R_conv_int (r := 9) Try.underlying174 Try.underlying5 rfl (by decide)) ?_
  refine WL_step rfl (R_index_S Try.underlying9 rfl rfl (by omega) rfl) ?_
  refine WL_step rfl (R_conv_int Try.underlying5 Try.underlying3 rfl u8_in_i64) ?_
  refine WL_step rfl (R_add rfl rfl rfl) ?_
  refine WL_stepM rfl (R_as) ?_
  refine WL_nil ?_
  refine W_ret ?_
  exact ⟨_, rfl, rfl, H⟩
theorem len64_10 (w : World) : Ret Try.prog 106 #[.int .u64 10] w fun v w' => v = I 4 ∧ Hp w [] w' := by
  refine Ret_of_W (args := [_]) Try.func106 rfl Try.ntmps106 Try.results106 (by simp) ?_
  have H := Hp.refl w
  refine W_seq ?_
  refine W_region_l ?_
  refine WL_stepM rfl (R_as) ?_
  refine WL_nil ?_
  refine W_seq ?_
  refine W_seq ?_
  refine W_region_l ?_
  refine WL_stepM rfl (R_mv) ?_
  refine WL_step rfl (R_ge_f rfl rfl (by omega)) ?_
  refine WL_nil ?_
  refine W_cond_f rfl ?_
  refine W_skip ?_
  refine W_seq ?_
  refine W_seq ?_
  refine W_region_l ?_
  refine WL_stepM rfl (R_mv) ?_
  refine WL_step rfl (R_ge_f rfl rfl (by omega)) ?_
  refine WL_nil ?_
  refine W_cond_f rfl ?_
  refine W_skip ?_
  refine W_seq ?_
  refine W_seq ?_
  refine W_region_l ?_
  refine WL_stepM rfl (R_mv) ?_
  refine WL_step rfl (R_ge_f rfl rfl (by omega)) ?_
  refine WL_nil ?_
  refine W_cond_f rfl ?_
  refine W_skip ?_
  refine W_seq ?_
  refine W_region_l ?_
  refine WL_stepM rfl (R_mv) ?_
  refine WL_stepM rfl (R_mv) ?_
  refine WL_step rfl (R_conv_int (r := 10) Try.underlying174 Try.underlying5 rfl (by decide)) ?_
  refine WL_step rfl (R_index_S Try.underlying9 rfl rfl (by omega) rfl) ?_
  refine WL_step rfl (R_conv_int Try.underlying5 Try.underlying3 rfl u8_in_i64) ?_
  refine WL_step rfl (R_add rfl rfl rfl) ?_
  refine WL_stepM rfl (R_as) ?_
  refine WL_nil ?_
  refine W_ret ?_
  exact ⟨_, rfl, rfl, H⟩
theorem len64_11 (w : World) : Ret Try.prog 106 #[.int .u64 11] w fun v w' => v = I 4 ∧ Hp w [] w' := by
  refine Ret_of_W (args := [_]) Try.func106 rfl Try.ntmps106 Try.results106 (by simp) ?_
  have H := Hp.refl w
  refine W_seq ?_
  refine W_region_l ?_
  refine WL_stepM rfl (R_as) ?_
  refine WL_nil ?_
  refine W_seq ?_
  refine W_seq ?_
  refine W_region_l ?_
  refine WL_stepM rfl (R_mv) ?_
  refine WL_step rfl (R_ge_f rfl rfl (by omega)) ?_
  refine WL_nil ?_
  refine W_cond_f rfl ?_
  refine W_skip ?_
  refine W_seq ?_
  refine W_seq ?_
  refine W_region_l ?_
  refine WL_stepM rfl (R_mv) ?_
  refine WL_step rfl (R_ge_f rfl rfl (by omega)) ?_
  refine WL_nil ?_
  refine W_cond_f rfl ?_
  refine W_skip ?_
  refine W_seq ?_
  refine W_seq ?_
  refine W_region_l ?_
  refine WL_stepM rfl (R_mv) ?_
  refine WL_step rfl (R_ge_f rfl rfl (by omega)) ?_
  refine WL_nil ?_
  refine W_cond_f rfl ?_
  refine W_skip ?_
  refine W_seq ?_
  refine W_region_l ?_
  refine WL_stepM rfl (R_mv) ?_
  refine WL_stepM rfl (R_mv) ?_
  refine WL_step rfl (R_conv_int (r := 11) Try.underlying174 Try.underlying5 rfl (by decide)) ?_
  refine WL_step rfl (R_index_S Try.underlying9 rfl rfl (by omega) rfl) ?_
  refine WL_step rfl (R_conv_int Try.underlying5 Try.underlying3 rfl u8_in_i64) ?_
  refine WL_step rfl (R_add rfl rfl rfl) ?_
  refine WL_stepM rfl (R_as) ?_
  refine WL_nil ?_
  refine W_ret ?_
  exact ⟨_, rfl, rfl, H⟩
theorem len64_12 (w : World) : Ret Try.prog 106 #[.int .u64 12] w fun v w' => v = I 4 ∧ Hp w [] w' := by
  refine Ret_of_W (args := [_]) Try.func106 rfl Try.ntmps106 Try.results106 (by simp) ?_
  have H := Hp.refl w
  refine W_seq ?_
  refine W_region_l ?_
  refine WL_stepM rfl (R_as) ?_
  refine WL_nil ?_
  refine W_seq ?_
  refine W_seq ?_
  refine W_region_l ?_
  refine WL_stepM rfl (R_mv) ?_
  refine WL_step rfl (R_ge_f rfl rfl (by omega)) ?_
  refine WL_nil ?_
  refine W_cond_f rfl ?_
  refine W_skip ?_
  refine W_seq ?_
  refine W_seq ?_
  refine W_region_l ?_
  refine WL_stepM rfl (R_mv) ?_
  refine WL_step rfl (R_ge_f rfl rfl (by omega)) ?_
  refine WL_nil ?_
  refine W_cond_f rfl ?_
  refine W_skip ?_
  refine W_seq ?_
  refine W_seq ?_
  refine W_region_l ?_
  refine WL_stepM rfl (R_mv) ?_
  refine WL_step rfl (R_ge_f rfl rfl (by omega)) ?_
  refine WL_nil ?_
  refine W_cond_f rfl ?_
  refine W_skip ?_
  refine W_seq ?_
  refine W_region_l ?_
  refine WL_stepM rfl (R_mv) ?_
  refine WL_stepM rfl (R_mv) ?_
  refine WL_step rfl (R_conv_int (r := 12) Try.underlying174 Try.underlying5 rfl (by decide)) ?_
  refine WL_step rfl (R_index_S Try.underlying9 rfl rfl (by omega) rfl) ?_
  refine WL_step rfl (R_conv_int Try.underlying5 Try.underlying3 rfl u8_in_i64) ?_
  refine WL_step rfl (R_add rfl rfl rfl) ?_
  refine WL_stepM rfl (R_as) ?_
  refine WL_nil ?_
  refine W_ret ?_
  exact ⟨_, rfl, rfl, H⟩
theorem len64_13 (w : World) : Ret Try.prog 106 #[.int .u64 13] w fun v w' => v = I 4 ∧ Hp w [] w' := by
  refine Ret_of_W (args := [_]) Try.func106 rfl Try.ntmps106 Try.results106 (by simp) ?_
  have H := Hp.refl w
  refine W_seq ?_
  refine W_region_l ?_
  refine WL_stepM rfl (R_as) ?_
  refine WL_nil ?_
  refine W_seq ?_
  refine W_seq ?_
  refine W_region_l ?_
  refine WL_stepM rfl (R_mv) ?_
  refine WL_step rfl (R_ge_f rfl rfl (by omega)) ?_
  refine WL_nil ?_
  refine W_cond_f rfl ?_
  refine W_skip ?_
  refine W_seq ?_
  refine W_seq ?_
  refine W_region_l ?_
  refine WL_stepM rfl (R_mv) ?_
  refine WL_step rfl (R_ge_f rfl rfl (by omega)) ?_
  refine WL_nil ?_
  refine W_cond_f rfl ?_
  refine W_skip ?_
  refine W_seq ?_
  refine W_seq ?_
  refine W_region_l ?_
  refine WL_stepM rfl (R_mv) ?_
  refine WL_step rfl (R_ge_f rfl rfl (by omega)) ?_
  refine WL_nil ?_
  refine W_cond_f rfl ?_
  refine W_skip ?_
  refine W_seq ?_
  refine W_region_l ?_
  refine WL_stepM rfl (R_mv) ?_
  refine WL_stepM rfl (R_mv) ?_
  refine WL_step rfl (R_conv_int (r := 13) Try.underlying174 Try.underlying5 rfl (by decide)) ?_
  refine WL_step rfl (R_index_S Try.underlying9 rfl rfl (by omega) rfl) ?_
  refine WL_step rfl (R_conv_int Try.underlying5 Try.underlying3 rfl u8_in_i64) ?_
  refine WL_step rfl (R_add rfl rfl rfl) ?_
  refine WL_stepM rfl (R_as) ?_
  refine WL_nil ?_
  refine W_ret ?_
  exact ⟨_, rfl, rfl, H⟩
theorem len64_14 (w : World) : Ret Try.prog 106 #[.int .u64 14] w fun v w' => v = I 4 ∧ Hp w [] w' := by
  refine Ret_of_W (args := [_]) Try.func106 rfl Try.ntmps106 Try.results106 (by simp) ?_
  have H := Hp.refl w
  refine W_seq ?_
  refine W_region_l ?_
  refine WL_stepM rfl (R_as) ?_
  refine WL_nil ?_
  refine W_seq ?_
  refine W_seq ?_
  refine W_region_l ?_
  refine WL_stepM rfl (R_mv) ?_
  refine WL_step rfl (R_ge_f rfl rfl (by omega)) ?_
  refine WL_nil ?_
  refine W_cond_f rfl ?_
  refine W_skip ?_
  refine W_seq ?_
  refine W_seq ?_
  refine W_region_l ?_
  refine WL_stepM rfl (R_mv) ?_
  refine WL_step rfl (R_ge_f rfl rfl (by omega)) ?_
  refine WL_nil ?_
  refine W_cond_f rfl ?_
  refine W_skip ?_
  refine W_seq ?_
  refine W_seq ?_
  refine W_region_l ?_
  refine WL_stepM rfl (R_mv) ?_
  refine WL_step rfl (R_ge_f rfl rfl (by omega)) ?_
  refine WL_nil ?_
  refine W_cond_f rfl ?_
  refine W_skip ?_
  refine W_seq ?_
  refine W_region_l ?_
  refine WL_stepM rfl (R_mv) ?_
  refine WL_stepM rfl (R_mv) ?_
  refine WL_step rfl (R_conv_int (r := 14) Try.underlying174 Try.underlying5 rfl (by decide)) ?_
  refine WL_step rfl (R_index_S Try.underlying9 rfl rfl (by omega) rfl) ?_
  refine WL_step rfl (R_conv_int Try.underlying5 Try.underlying3 rfl u8_in_i64) ?_
  refine WL_step rfl (R_add rfl rfl rfl) ?_
  refine WL_stepM rfl (R_as) ?_
  refine WL_nil ?_
  refine W_ret ?_
  exact ⟨_, rfl, rfl, H⟩
theorem len64_15 (w : World) : Ret Try.prog 106 #[.int .u64 15] w fun v w' => v = I 4 ∧ Hp w [] w' := by
  refine Ret_of_W (args := [_]) Try.func106 rfl Try.ntmps106 Try.results106 (by simp) ?_
  have H := Hp.refl w
  refine W_seq ?_
  refine W_region_l ?_
  refine WL_stepM rfl (R_as) ?_
  refine WL_nil ?_
  refine W_seq ?_
  refine W_seq ?_
  refine W_region_l ?_
  refine WL_stepM rfl (R_mv) ?_
  refine WL_step rfl (R_ge_f rfl rfl (by omega)) ?_
  refine WL_nil ?_
  refine W_cond_f rfl ?_
  refine W_skip ?_
  refine W_seq ?_
  refine W_seq ?_
  refine W_region_l ?_
  refine WL_stepM rfl (R_mv) ?_
  refine WL_step rfl (R_ge_f rfl rfl (by omega)) ?_
  refine WL_nil ?_
  refine W_cond_f rfl ?_
  refine W_skip ?_
  refine W_seq ?_
  refine W_seq ?_
  refine W_region_l ?_
  refine WL_stepM rfl (R_mv) ?_
  refine WL_step rfl (R_ge_f rfl rfl (by omega)) ?_
  refine WL_nil ?_
  refine W_cond_f rfl ?_
  refine W_skip ?_
  refine W_seq ?_
  refine W_region_l ?_
  refine WL_stepM rfl (R_mv) ?_
  refine WL_stepM rfl (R_mv) ?_
  refine WL_step rfl (R_conv_int (r := 15) Try.underlying174 Try.underlying5 rfl (by decide)) ?_
  refine WL_step rfl (R_index_S Try.underlying9 rfl rfl (by omega) rfl) ?_
  refine WL_step rfl (R_conv_int Try.underlying5 Try.underlying3 rfl u8_in_i64) ?_
  refine WL_step rfl (R_add rfl rfl rfl) ?_
  refine WL_stepM rfl (R_as) ?_
  refine WL_nil ?_
  refine W_ret ?_
  exact ⟨_, rfl, rfl, H⟩
theorem len64_16 (w : World) : Ret Try.prog 106 #[.int .u64 16] w fun v w' => v = I 5 ∧ Hp w [] w' := by
  refine Ret_of_W (args := [_]) Try.func106 rfl Try.ntmps106 Try.results106 (by simp) ?_
  have H := Hp.refl w
  refine W_seq ?_
  refine W_region_l ?_
  refine WL_stepM rfl (R_as) ?_
  refine WL_nil ?_
  refine W_seq ?_
  refine W_seq ?_
  refine W_region_l ?_
  refine WL_stepM rfl (R_mv) ?_
  refine WL_step rfl (R_ge_f rfl rfl (by omega)) ?_
  refine WL_nil ?_
  refine W_cond_f rfl ?_
  refine W_skip ?_
  refine W_seq ?_
  refine W_seq ?_
  refine W_region_l ?_
  refine WL_stepM rfl (R_mv) ?_
  refine WL_step rfl (R_ge_f rfl rfl (by omega)) ?_
  refine WL_nil ?_
  refine W_cond_f rfl ?_
  refine W_skip ?_
  refine W_seq ?_
  refine W_seq ?_
  refine W_region_l ?_
  refine WL_stepM rfl (R_mv) ?_
  refine WL_step rfl (R_ge_f rfl rfl (by omega)) ?_
  refine WL_nil ?_
  refine W_cond_f rfl ?_
  refine W_skip ?_
  refine W_seq ?_
  refine W_region_l ?_
  refine WL_stepM rfl (R_mv) ?_
  refine WL_stepM rfl (R_mv) ?_
  refine WL_step rfl (R_conv_int (r := 16) Try.underlying174 Try.underlying5 rfl (by decide)) ?_
  refine WL_step rfl (R_index_S Try.underlying9 rfl rfl (by omega) rfl) ?_
  refine WL_step rfl (R_conv_int Try.underlying5 Try.underlying3 rfl u8_in_i64) ?_
  refine WL_step rfl (R_add rfl rfl rfl) ?_
  refine WL_stepM rfl (R_as) ?_
  refine WL_nil ?_
  refine W_ret ?_
  exact ⟨_, rfl, rfl, H⟩
theorem len64_17 (w : World) : Ret Try.prog 106 #[.int .u64 17] w fun v w' => v = I 5 ∧ Hp w [] w' := by
  refine Ret_of_W (args := [_]) Try.func106 rfl Try.ntmps106 Try.results106 (by simp) ?_
  have H := Hp.refl w
  refine W_seq ?_
  refine W_region_l ?_
  refine WL_stepM rfl (R_as) ?_
  refine WL_nil ?_
  refine W_seq ?_
  refine W_seq ?_
  refine W_region_l ?_
  refine WL_stepM rfl (R_mv) ?_
  refine WL_step rfl (R_ge_f rfl rfl (by omega)) ?_
  refine WL_nil ?_
  refine W_cond_f rfl ?_
  refine W_skip ?_
  refine W_seq ?_
  refine W_seq ?_
  refine W_region_l ?_
  refine WL_stepM rfl (R_mv) ?_
  refine WL_step rfl (R_ge_f rfl rfl (by omega)) ?_
  refine WL_nil ?_
  refine W_cond_f rfl ?_
  refine W_skip ?_
  refine W_seq ?_
  refine W_seq ?_
  refine W_region_l ?_
  refine WL_stepM rfl (R_mv) ?_
  refine WL_step rfl (R_ge_f rfl rfl (by omega)) ?_
  refine WL_nil ?_
  refine W_cond_f rfl ?_
  refine W_skip ?_
  refine W_seq ?_
  refine W_region_l ?_
  refine WL_stepM rfl (R_mv) ?_
  refine WL_stepM rfl (R_mv) ?_
  refine WL_step rfl (R_conv_int (r := 17) Try.underlying174 Try.underlying5 rfl (by decide)) ?_
  refine WL_step rfl (R_index_S Try.underlying9 rfl rfl (by omega) rfl) ?_
  refine WL_step rfl (R_conv_int Try.underlying5 Try.underlying3 rfl u8_in_i64) ?_
  refine WL_step rfl (R_add rfl rfl rfl) ?_
  refine WL_stepM rfl (R_as) ?_
  refine WL_nil ?_
  refine W_ret ?_
  exact ⟨_, rfl, rfl, H⟩
theorem len64_18 (w : World) : Ret Try.prog 106 #[.int .u64 18] w fun v w' => v = I 5 ∧ Hp w [] w' := by
  refine Ret_of_W (args := [_]) Try.func106 rfl Try.ntmps106 Try.results106 (by simp) ?_
  have H := Hp.refl w
  refine W_seq ?_
  refine W_region_l ?_
  refine WL_stepM rfl (R_as) ?_
  refine WL_nil ?_
  refine W_seq ?_
  refine W_seq ?_
  refine W_region_l ?_
  refine WL_stepM rfl (R_mv) ?_
  refine WL_step rfl (R_ge_f rfl rfl (by omega)) ?_
  refine WL_nil ?_
  refine W_cond_f rfl ?_
  refine W_skip ?_
  refine W_seq ?_
  refine W_seq ?_
  refine W_region_l ?_
  refine WL_stepM rfl (R_mv) ?_
  refine WL_step rfl (R_ge_f rfl rfl (by omega)) ?_
  refine WL_nil ?_
  refine W_cond_f rfl ?_
  refine W_skip ?_
  refine W_seq ?_
  refine W_seq ?_
  refine W_region_l ?_
  refine WL_stepM rfl (R_mv) ?_
  refine WL_step rfl (R_ge_f rfl rfl (by omega)) ?_
  refine WL_nil ?_
  refine W_cond_f rfl ?_
  refine W_skip ?_
  refine W_seq ?_
  refine W_region_l ?_
  refine WL_stepM rfl (R_mv) ?_
  refine WL_stepM rfl (R_mv) ?_
  refine WL_step rfl (R_conv_int (r := 18) Try.underlying174 Try.underlying5 rfl (by decide)) ?_
  refine WL_step rfl (R_index_S Try.underlying9 rfl rfl (by omega) rfl) ?_
  refine WL_step rfl (R_conv_int Try.underlying5 Try.underlying3 rfl u8_in_i64) ?_
  refine WL_step rfl (R_add rfl rfl rfl) ?_
  refine WL_stepM rfl (R_as) ?_
  refine WL_nil ?_
  refine W_ret ?_
  exact ⟨_, rfl, rfl, H⟩
theorem len64_19 (w : World) : Ret Try.prog 106 #[.int .u64 19] w fun v w' => v = I 5 ∧ Hp w [] w' := by
  refine Ret_of_W (args := [_]) Try.func106 rfl Try.ntmps106 Try.results106 (by simp) ?_
  have H := Hp.refl w
  refine W_seq ?_
  refine W_region_l ?_
  refine WL_stepM rfl (R_as) ?_
  refine WL_nil ?_
  refine W_seq ?_
  refine W_seq ?_
  refine W_region_l ?_
  refine WL_stepM rfl (R_mv) ?_
  refine WL_step rfl (R_ge_f rfl rfl (by omega)) ?_
  refine WL_nil ?_
  refine W_cond_f rfl ?_
  refine W_skip ?_
  refine W_seq ?_
  refine W_seq ?_
  refine W_region_l ?_
  refine WL_stepM rfl (R_mv) ?_
  refine WL_step rfl (R_ge_f rfl rfl (by omega)) ?_
  refine WL_nil ?_
  refine W_cond_f rfl ?_
  refine W_skip ?_
  refine W_seq ?_
  refine W_seq ?_
  refine W_region_l ?_
  refine WL_stepM rfl (R_mv) ?_
  refine WL_step rfl (R_ge_f rfl rfl (by omega)) ?_
  refine WL_nil ?_
  refine W_cond_f rfl ?_
  refine W_skip ?_
  refine W_seq ?_
  refine W_region_l ?_
  refine WL_stepM rfl (R_mv) ?_
  refine WL_stepM rfl (R_mv) ?_
  refine WL_step rfl (R_conv_int (r := 19) Try.underlying174 Try.underlying5 rfl (by decide)) ?_
  refine WL_step rfl (R_index_S Try.underlying9 rfl rfl (by omega) rfl) ?_
  refine WL_step rfl (R_conv_int Try.underlying5 Try.underlying3 rfl u8_in_i64) ?_
  refine WL_step rfl (R_add rfl rfl rfl) ?_
  refine WL_stepM rfl (R_as) ?_
  refine WL_nil ?_
  refine W_ret ?_
  exact ⟨_, rfl, rfl, H⟩
theorem len64_20 (w : World) : Ret Try.prog 106 #[.int .u64 20] w fun v w' => v = I 5 ∧ Hp w [] w' := by
  refine Ret_of_W (args := [_]) Try.func106 rfl Try.ntmps106 Try.results106 (by simp) ?_
  have H := Hp.refl w
  refine W_seq ?_
  refine W_region_l ?_
  refine WL_stepM rfl (R_as) ?_
  refine WL_nil ?_
  refine W_seq ?_
  refine W_seq ?_
  refine W_region_l ?_
  refine WL_stepM rfl (R_mv) ?_
  refine WL_step rfl (R_ge_f rfl rfl (by omega)) ?_
  refine WL_nil ?_
  refine W_cond_f rfl ?_
  refine W_skip ?_
  refine W_seq ?_
  refine W_seq ?_
  refine W_region_l ?_
  refine WL_stepM rfl (R_mv) ?_
  refine WL_step rfl (R_ge_f rfl rfl (by omega)) ?_
  refine WL_nil ?_
  refine W_cond_f rfl ?_
  refine W_skip ?_
  refine W_seq ?_
  refine W_seq ?_
  refine W_region_l ?_
  refine WL_stepM rfl (R_mv) ?_
  refine WL_step rfl (R_ge_f rfl rfl (by omega)) ?_
  refine WL_nil ?_
  refine W_cond_f rfl ?_
  refine W_skip ?_
  refine W_seq ?_
  refine W_region_l ?_
  refine WL_stepM rfl (R_mv) ?_
  refine WL_stepM rfl (R_mv) ?_
  refine WL_step rfl (R_conv_int (r := 20) Try.underlying174 Try.underlying5 rfl (by decide)) ?_
  refine WL_step rfl (R_index_S Try.underlying9 rfl rfl (by omega) rfl) ?_
  refine WL_step rfl (R_conv_int Try.underlying5 Try.underlying3 rfl u8_in_i64) ?_
  refine WL_step rfl (R_add rfl rfl rfl) ?_
  refine WL_stepM rfl (R_as) ?_
  refine WL_nil ?_
  refine W_ret ?_
  exact ⟨_, rfl, rfl, H⟩
theorem len64_21 (w : World) : Ret Try.prog 106 #[.int .u64 21] w fun v w' => v = I 5 ∧ Hp w [] w' := by
  refine Ret_of_W (args := [_]) Try.func106 rfl Try.ntmps106 Try.results106 (by simp) ?_
  have H := Hp.refl w
  refine W_seq ?_
  refine W_region_l ?_
  refine WL_stepM rfl (R_as) ?_
  refine WL_nil ?_
  refine W_seq ?_
  refine W_seq ?_
  refine W_region_l ?_
  refine WL_stepM rfl (R_mv) ?_
  refine WL_step rfl (R_ge_f rfl rfl (by omega)) ?_
  refine WL_nil ?_
  refine W_cond_f rfl ?_
  refine W_skip ?_
  refine W_seq ?_
  refine W_seq ?_
  refine W_region_l ?_
  refine WL_stepM rfl (R_mv) ?_
  refine WL_step rfl (R_ge_f rfl rfl (by omega)) ?_
  refine WL_nil ?_
  refine W_cond_f rfl ?_
  refine W_skip ?_
  refine W_seq ?_
  refine W_seq ?_
  refine W_region_l ?_
  refine WL_stepM rfl (R_mv) ?_
  refine WL_step rfl (R_ge_f rfl rfl (by omega)) ?_
  refine WL_nil ?_
  refine W_cond_f rfl ?_
  refine W_skip ?_
  refine W_seq ?_
  refine W_region_l ?_
  refine WL_stepM rfl (R_mv) ?_
  refine WL_stepM rfl (R_mv) ?_
  refine WL_step rfl (R_conv_int (r := 21) Try.underlying174 Try.underlying5 rfl (by decide)) ?_
  refine WL_step rfl (R_index_S Try.underlying9 rfl rfl (by omega) rfl) ?_
  refine WL_step rfl (R_conv_int Try.underlying5 Try.underlying3 rfl u8_in_i64) ?_
  refine WL_step rfl (R_add rfl rfl rfl) ?_
  refine WL_stepM rfl (R_as) ?_
  refine WL_nil ?_
  refine W_ret ?_
  exact ⟨_, rfl, rfl, H⟩
theorem len64_22 (w : World) : Ret Try.prog 106 #[.int .u64 22] w fun v w' => v = I 5 ∧ Hp w [] w' := by
  refine Ret_of_W (args := [_]) Try.func106 rfl Try.ntmps106 Try.results106 (by simp) ?_
  have H := Hp.refl w
  refine W_seq ?_
  refine W_region_l ?_
  refine WL_stepM rfl (R_as) ?_
  refine WL_nil ?_
  refine W_seq ?_
  refine W_seq ?_
  refine W_region_l ?_
  refine WL_stepM rfl (R_mv) ?_
  refine WL_step rfl (R_ge_f rfl rfl (by omega)) ?_
  refine WL_nil ?_
  refine W_cond_f rfl ?_
  refine W_skip ?_
  refine W_seq ?_
  refine W_seq ?_
  refine W_region_l ?_
  refine WL_stepM rfl (R_mv) ?_
  refine WL_step rfl (R_ge_f rfl rfl (by omega)) ?_
  refine WL_nil ?_
  refine W_cond_f rfl ?_
  refine W_skip ?_
  refine W_seq ?_
  refine W_seq ?_
  refine W_region_l ?_
  refine WL_stepM rfl (R_mv) ?_
  refine WL_step rfl (R_ge_f rfl rfl (by omega)) ?_
  refine WL_nil ?_
  refine W_cond_f rfl ?_
  refine W_skip ?_
  refine W_seq ?_
  refine W_region_l ?_
  refine WL_stepM rfl (R_mv) ?_
  refine WL_stepM rfl (R_mv) ?_
  refine WL_step rfl (R_conv_int (r := 22) Try.underlying174 Try.underlying5 rfl (by decide)) ?_
  refine WL_step rfl (R_index_S Try.underlying9 rfl rfl (by omega) rfl) ?_
  refine WL_step rfl (R_conv_int Try.underlying5 Try.underlying3 rfl u8_in_i64) ?_
  refine WL_step rfl (R_add rfl rfl rfl) ?_
  refine WL_stepM rfl (R_as) ?_
  refine WL_nil ?_
  refine W_ret ?_
  exact ⟨_, rfl, rfl, H⟩
theorem len64_23 (w : World) : Ret Try.prog 106 #[.int .u64 23] w fun v w' => v = I 5 ∧ Hp w [] w' := by
  refine Ret_of_W (args := [_]) Try.func106 rfl Try.ntmps106 Try.results106 (by simp) ?_
  have H := Hp.refl w
  refine W_seq ?_
  refine W_region_l ?_
  refine WL_stepM rfl (R_as) ?_
  refine WL_nil ?_
  refine W_seq ?_
  refine W_seq ?_
  refine W_region_l ?_
  refine WL_stepM rfl (R_mv) ?_
  refine WL_step rfl (R_ge_f rfl rfl (by omega)) ?_
  refine WL_nil ?_
  refine W_cond_f rfl ?_
  refine W_skip ?_
  refine W_seq ?_
  refine W_seq ?_
  refine W_region_l ?_
  refine WL_stepM rfl (R_mv) ?_
  refine WL_step rfl (R_ge_f rfl rfl (by omega)) ?_
  refine WL_nil ?_
  refine W_cond_f rfl ?_
  refine W_skip ?_
  refine W_seq ?_
  refine W_seq ?_
  refine W_region_l ?_
  refine WL_stepM rfl (R_mv) ?_
  refine WL_step rfl (R_ge_f rfl rfl (by omega)) ?_
  refine WL_nil ?_
  refine W_cond_f rfl ?_
  refine W_skip ?_
  refine W_seq ?_
  refine W_region_l ?_
  refine WL_stepM rfl (R_mv) ?_
  refine WL_stepM rfl (R_mv) ?_
  refine WL_step rfl (R_conv_int (r := 23) Try.underlying174 Try.underlying5 rfl (by decide)) ?_
  refine WL_step rfl (R_index_S Try.underlying9 rfl rfl (by omega) rfl) ?_
  refine WL_step rfl (R_conv_int Try.underlying5 Try.underlying3 rfl u8_in_i64) ?_
  refine WL_step rfl (R_add rfl rfl rfl) ?_
  refine WL_stepM rfl (R_as) ?_
  refine WL_nil ?_
  refine W_ret ?_
  exact ⟨_, rfl, rfl, H⟩
theorem len64_24 (w : World) : Ret Try.prog 106 #[.int .u64 24] w fun v w' => v = I 5 ∧ Hp w [] w' := by
  refine Ret_of_W (args := [_]) Try.func106 rfl Try.ntmps106 Try.results106 (by simp) ?_
  have H := Hp.refl w
  refine W_seq ?_
  refine W_region_l ?_
  refine WL_stepM rfl (R_as) ?_
  refine WL_nil ?_
  refine W_seq ?_
  refine W_seq ?_
  refine W_region_l ?_
  refine WL_stepM rfl (R_mv) ?_
  refine WL_step rfl (R_ge_f rfl rfl (by omega)) ?_
  refine WL_nil ?_
  refine W_cond_f rfl ?_
  refine W_skip ?_
  refine W_seq ?_
  refine W_seq ?_
  refine W_region_l ?_
  refine WL_stepM rfl (R_mv) ?_
  refine WL_step rfl (R_ge_f rfl rfl (by omega)) ?_
  refine WL_nil ?_
  refine W_cond_f rfl ?_
  refine W_skip ?_
  refine W_seq ?_
  refine W_seq ?_
  refine W_region_l ?_
  refine WL_stepM rfl (R_mv) ?_
  refine WL_step rfl (R_ge_f rfl rfl (by omega)) ?_
  refine WL_nil ?_
  refine W_cond_f rfl ?_
  refine W_skip ?_
  refine W_seq ?_
  refine W_region_l ?_
  refine WL_stepM rfl (R_mv) ?_
  refine WL_stepM rfl (R_mv) ?_
  refine WL_step rfl (R_conv_int (r := 24) Try.underlying174 Try.underlying5 rfl (by decide)) ?_
  refine WL_step rfl (R_index_S Try.underlying9 rfl rfl (by omega) rfl) ?_
  refine WL_step rfl (R_conv_int Try.underlying5 Try.underlying3 rfl u8_in_i64) ?_
  refine WL_step rfl (R_add rfl rfl rfl) ?_
  refine WL_stepM rfl (R_as) ?_
  refine WL_nil ?_
  refine W_ret ?_
  exact ⟨_, rfl, rfl, H⟩
theorem len64_25 (w : World) : Ret Try.prog 106 #[.int .u64 25] w fun v w' => v = I 5 ∧ Hp w [] w' := by
  refine Ret_of_W (args := [_]) Try.func106 rfl Try.ntmps106 Try.results106 (by simp) ?_
  have H := Hp.refl w
  refine W_seq ?_
  refine W_region_l ?_
  refine WL_stepM rfl (R_as) ?_
  refine WL_nil ?_
  refine W_seq ?_
  refine W_seq ?_
  refine W_region_l ?_
  refine WL_stepM rfl (R_mv) ?_
  refine WL_step rfl (R_ge_f rfl rfl (by omega)) ?_
  refine WL_nil ?_
  refine W_cond_f rfl ?_
  refine W_skip ?_
  refine W_seq ?_
  refine W_seq ?_
  refine W_region_l ?_
  refine WL_stepM rfl (R_mv) ?_
  refine WL_step rfl (R_ge_f rfl rfl (by omega)) ?_
  refine WL_nil ?_
  refine W_cond_f rfl ?_
  refine W_skip ?_
  refine W_seq ?_
  refine W_seq ?_
  refine W_region_l ?_
  refine WL_stepM rfl (R_mv) ?_
  refine WL_step rfl (R_ge_f rfl rfl (by omega)) ?_
  refine WL_nil ?_
  refine W_cond_f rfl ?_
  refine W_skip ?_
  refine W_seq ?_
  refine W_region_l ?_
  refine WL_stepM rfl (R_mv) ?_
  refine WL_stepM rfl (R_mv) ?_
  refine WL_step rfl (R_conv_int (r := 25) Try.underlying174 Try.underlying5 rfl (by decide)) ?_
  refine WL_step rfl (R_index_S Try.underlying9 rfl rfl (by omega) rfl) ?_
  refine WL_step rfl (R_conv_int Try.underlying5 Try.underlying3 rfl u8_in_i64) ?_
  refine WL_step rfl (R_add rfl rfl rfl) ?_
  refine WL_stepM rfl (R_as) ?_
  refine WL_nil ?_
  refine W_ret ?_
  exact ⟨_, rfl, rfl, H⟩
theorem len64_up {n : Nat} (h1 : 1 ≤ n) (h25 : n ≤ 25) (w : World) : Ret Try.prog 106 #[.int .u64 n] w fun v w' => ∃ k : Int, v = I k ∧ 1 ≤ k ∧ Hp w [] w' := by
  have key : ∀ {m k : Int}, 1 ≤ k → Ret Try.prog 106 #[.int .u64 m] w (fun v w' => v = I k ∧ Hp w [] w') → Ret Try.prog 106 #[.int .u64 m] w fun v w' => ∃ k : Int, v = I k ∧ 1 ≤ k ∧ Hp w [] w' :=
    fun hk h => h.mono (fun v w' hv => ⟨_, hv.1, hk, hv.2⟩)
  match n, h1, h25 with
  | 1, _, _ => exact key (by decide) (len64_1 w)
  | 2, _, _ => exact key (by decide) (len64_2 w)
  | 3, _, _ => exact key (by decide) (len64_3 w)
  | 4, _, _ => exact key (by decide) (len64_4 w)
  | 5, _, _ => exact key (by decide) (len64_5 w)
  | 6, _, _ => exact key (by decide) (len64_6 w)
  | 7, _, _ => exact key (by decide) (len64_7 w)
  | 8, _, _ => exact key (by decide) (len64_8 w)
  | 9, _, _ => exact key (by decide) (len64_9 w)
  | 10, _, _ => exact key (by decide) (len64_10 w)
  | 11, _, _ => exact key (by decide) (len64_11 w)
  | 12, _, _ => exact key (by decide) (len64_12 w)
  | 13, _, _ => exact key (by decide) (len64_13 w)
  | 14, _, _ => exact key (by decide) (len64_14 w)
  | 15, _, _ => exact key (by decide) (len64_15 w)
  | 16, _, _ => exact key (by decide) (len64_16 w)
  | 17, _, _ => exact key (by decide) (len64_17 w)
  | 18, _, _ => exact key (by decide) (len64_18 w)
  | 19, _, _ => exact key (by decide) (len64_19 w)
  | 20, _, _ => exact key (by decide) (len64_20 w)
  | 21, _, _ => exact key (by decide) (len64_21 w)
  | 22, _, _ => exact key (by decide) (len64_22 w)
  | 23, _, _ => exact key (by decide) (len64_23 w)
  | 24, _, _ => exact key (by decide) (len64_24 w)
  | 25, _, _ => exact key (by decide) (len64_25 w)
  | n + 26, _, h => exact absurd h (by omega)
theorem len_up {n : Nat} (h1 : 1 ≤ n) (h25 : n ≤ 25) (w : World) : Ret Try.prog 72 #[.int .u64 n] w fun v w' => ∃ k : Int, v = I k ∧ 1 ≤ k ∧ Hp w [] w' := by
  refine Ret_of_W (args := [_]) Try.func72 rfl Try.ntmps72 Try.results72 (by simp) ?_
  have H := Hp.refl w
  refine W_seq ?_
  refine W_region_l ?_
  refine WL_stepM rfl (R_as) ?_
  refine WL_nil ?_
  refine W_seq ?_
  refine W_cond_f rfl ?_
  refine W_skip ?_
  refine W_seq ?_
  refine W_region_l ?_
  refine WL_stepM rfl (R_mv) ?_
  (refine WL_call rfl (R_call rfl Try.call106 rfl) (len64_up h1 h25 _) ?_; rintro _ w11 ⟨k, rfl, hk, H1⟩; replace H := H.seq0 H1; clear H1)
  refine WL_stepM rfl (R_as) ?_
  refine WL_nil ?_
  refine W_ret ?_
  exact ⟨_, rfl, k, rfl, hk, H⟩

section
variable {w : World} {b ca n : Nat} {sp : List Value} {R : List (Int × Int)}
theorem insort_up (hb : w.heap[b]? = some (blk (rows rc R ++ sp) 36)) (hU : Up R) (hn : R.length = n) (hca : n ≤ ca) (hb25 : n ≤ 1000) (h1 : 1 ≤ n) : Ret Try.prog 97 #[sl b 0 n ca, I 0, I n, .func (.func 51) #[] #[]] w fun v w' => Hp w [] w' := by
  refine Ret_of_W (args := [_, _, _, _]) Try.func97 rfl Try.ntmps97 Try.results97 (by simp) ?_
  have H := Hp.refl w
  refine W_seq ?_
  refine W_region_l ?_
  refine WL_stepM rfl (R_mv) ?_
  refine WL_step rfl (R_add (r := 1) rfl rfl (by decide)) ?_
  refine WL_stepM rfl (R_as) ?_
  refine WL_nil ?_
  refine W_block ?_
  refine W_loopS [(8, 9), (12, 52)] (fun (k : Nat) E w' => 1 ≤ k ∧ k ≤ n ∧ E 8 = I k ∧ Hp w [] w') (fun k => n - k) 1 ?e0 ?r0
  · exact ⟨by omega, by omega, rfl, H⟩
  · (clear H; rintro k E w1 ⟨hk1, hk, h8, H⟩; refine W_kn h8 ?_)
    refine W_seq ?_
    refine W_seq ?_
    refine W_region_l ?_
    refine WL_stepM rfl (R_mv) ?_
    refine WL_stepM rfl (R_mv) ?_
    refine WL_step rfl (R_lt rfl rfl) ?_
    refine WL_nil ?_
    refine W_if rfl (fun h17 => ?_) (fun h17 => ?_)
    · refine W_skip ?_
      refine W_seq ?_
      refine W_block ?_
      refine W_seq ?_
      refine W_region_l ?_
      refine WL_stepM rfl (R_mv) ?_
      refine WL_stepM rfl (R_as) ?_
      refine WL_nil ?_
      refine W_block ?_
      refine W_rounds 0 ?_
      refine W_seq ?_
      refine W_seq ?_
      (obtain ⟨x, hx⟩ : ∃ x, R[k]? = some x := ⟨_, List.getElem?_eq_getElem (by omega)⟩; obtain ⟨y, hy⟩ : ∃ y, R[k - 1]? = some y := ⟨_, List.getElem?_eq_getElem (by omega)⟩; refine W_drawH (fun _ => false) (by kernel_rfl) H ?_; clear H; intro w29 H)
      refine WA_takeM 0 rfl rfl rfl (by kernel_rfl) (by kernel_rfl) H (fun _ hC => R_mv) ?_
      refine WA_takeM 1 rfl rfl rfl (by kernel_rfl) (by kernel_rfl) H (fun _ hC => R_mv) ?_
      refine WA_take 2 rfl rfl rfl (by kernel_rfl) (by kernel_rfl) H (fun _ hC => R_gt_t rfl rfl (by omega)) ?_
      refine WA_takeM 3 rfl rfl rfl (by kernel_rfl) (by kernel_rfl) H (fun _ hC => R_mv) ?_
      refine WA_takeGM 4 rfl rfl rfl rfl (by kernel_rfl) (by kernel_rfl) H (fun _ hC => R_mv) ?_
      refine WA_takeGM 5 rfl rfl rfl rfl (by kernel_rfl) (by kernel_rfl) H (fun _ hC => R_mv) ?_
      refine WA_takeGM 6 rfl rfl rfl rfl (by kernel_rfl) (by kernel_rfl) H (fun _ hC => R_mv) ?_
      refine WA_takeG 7 rfl rfl rfl rfl (by kernel_rfl) (by kernel_rfl) H (fun _ hC => R_indexAddr (off' := k * 2) Try.underlying51 Try.sizeOf36 rfl rfl (by omega) (by omega) (by omega)) ?_
      refine WA_takeG 8 rfl rfl rfl rfl (by kernel_rfl) (by kernel_rfl) H (fun _ hC => R_loadA (vs := rc x) Try.isAgg36 Try.sizeOf36 rfl (hC.blockN hb kNil) (rows_at hx) (by rw [List.length_append, rows_length rc_len]; show k * 2 + 2 ≤ _; omega)) ?_
      refine WA_takeGM 9 rfl rfl rfl rfl (by kernel_rfl) (by kernel_rfl) H (fun _ hC => R_mv) ?_
      refine WA_takeGM 10 rfl rfl rfl rfl (by kernel_rfl) (by kernel_rfl) H (fun _ hC => R_mv) ?_
      refine WA_takeG 11 rfl rfl rfl rfl (by kernel_rfl) (by kernel_rfl) H (fun _ hC => R_sub (r := ((k - 1 : Nat) : Int)) rfl rfl (by rw [w_i64 (by omega)]; omega)) ?_
      refine WA_takeG 12 rfl rfl rfl rfl (by kernel_rfl) (by kernel_rfl) H (fun _ hC => R_indexAddr (off' := (k - 1) * 2) Try.underlying51 Try.sizeOf36 rfl rfl (by omega) (by omega) (by omega)) ?_
      refine WA_takeG 13 rfl rfl rfl rfl (by kernel_rfl) (by kernel_rfl) H (fun _ hC => R_loadA (vs := rc y) Try.isAgg36 Try.sizeOf36 rfl (hC.blockN hb kNil) (rows_at hy) (by rw [List.length_append, rows_length rc_len]; show (k - 1) * 2 + 2 ≤ _; omega)) ?_
      refine WA_one (i := 14) (by kernel_rfl) ?_
      (refine WI_call rfl (.inr ⟨_, _, rfl, rfl⟩) (R_call rfl Try.call51 rfl) (cmp_ge (a := x) (b := y) _ (hU.le (k - 1) k _ _ (by omega) hy hx) (hU.lo _ (List.mem_of_getElem? hx)) (hU.lo _ (List.mem_of_getElem? hy))) (fun _ _ hR _ => by obtain ⟨z, _, _, hH⟩ := hR; exact H.seq0 hH) ?_; rintro _ w45 ⟨z, rfl, hz, H1⟩; replace H := H.seq0 H1; clear H1)
      refine WA_takeG 15 rfl rfl rfl rfl (by kernel_rfl) (by kernel_rfl) H (fun _ hC => R_lt_f rfl rfl (by omega)) ?_
      refine WA_takeM 16 rfl rfl rfl (by kernel_rfl) (by kernel_rfl) H (fun _ hC => R_pk_t rfl) ?_
      refine WA_done (by kernel_rfl) ?_
      refine W_cond_f rfl ?_
      refine W_exit ?_
      refine (if_pos rfl).mpr ?_
      refine W_region_l ?_
      refine WL_stepM rfl (R_mv) ?_
      refine WL_step rfl (R_add rfl rfl (w_i64 (by omega))) ?_
      refine WL_stepM rfl (R_as) ?_
      refine WL_nil ?_
      exact ⟨(same_mov rfl (same_updo rfl (same_mov rfl (same_mov rfl (same_updo rfl (same_updo rfl (same_updo rfl (same_updo rfl (same_updo rfl (same_mov rfl (same_mov rfl (same_updo rfl (same_updo rfl (same_mov rfl (same_mov rfl (same_mov rfl (same_mov rfl (same_updo rfl (same_mov rfl (same_mov rfl (same_mov rfl (same_mov rfl (same_know rfl (same_updo rfl (same_mov rfl (same_mov rfl same_ovr)))))))))))))))))))))))))), k + 1, by omega, by omega, by omega, rfl, H⟩
    · refine W_exit ?_
      refine (if_pos rfl).mpr ?_
      exact ⟨_, rfl, H⟩
theorem order2_up (hb : w.heap[b]? = some (blk (rows rc R ++ sp) 36)) (hU : Up R) (hn : R.length = n) (hca : n ≤ ca) {i j sw : Nat} (hij : i ≤ j) (hj : j < n) (hb25 : n ≤ 1000) : Ret Try.prog 134 #[sl b 0 n ca, I i, I j, ptr sw 0, .func (.func 51) #[] #[]] w fun v w' => v = .tuple #[I i, I j] ∧ Hp w [] w' := by
  refine Ret_of_W (args := [_, _, _, _, _]) Try.func134 rfl Try.ntmps134 Try.results134 (by simp) ?_
  have H := Hp.refl w
  obtain ⟨x, hx⟩ : ∃ x, R[j]? = some x := ⟨_, List.getElem?_eq_getElem (by omega)⟩
  obtain ⟨y, hy⟩ : ∃ y, R[i]? = some y := ⟨_, List.getElem?_eq_getElem (by omega)⟩
  refine W_seq ?_
  refine W_region_l ?_
  refine WL_stepM rfl (R_as) ?_
  refine WL_stepM rfl (R_as) ?_
  refine WL_nil ?_
  refine W_seq ?_
  refine W_seq ?_
  (refine W_drawH (fun _ => false) (by kernel_rfl) H ?_; clear H; intro w8 H)
  refine WA_takeM 0 rfl rfl rfl (by kernel_rfl) (by kernel_rfl) H (fun _ hC => R_mv) ?_
  refine WA_takeM 1 rfl rfl rfl (by kernel_rfl) (by kernel_rfl) H (fun _ hC => R_mv) ?_
  refine WA_takeM 2 rfl rfl rfl (by kernel_rfl) (by kernel_rfl) H (fun _ hC => R_mv) ?_
  refine WA_take 3 rfl rfl rfl (by kernel_rfl) (by kernel_rfl) H (fun _ hC => R_indexAddr (off' := j * 2) Try.underlying51 Try.sizeOf36 rfl rfl (by omega) (by omega) (by omega)) ?_
  refine WA_take 4 rfl rfl rfl (by kernel_rfl) (by kernel_rfl) H (fun _ hC => R_loadA (vs := rc x) Try.isAgg36 Try.sizeOf36 rfl (hC.blockN hb kNil) (rows_at hx) (by rw [List.length_append, rows_length rc_len]; show j * 2 + 2 ≤ _; omega)) ?_
  refine WA_takeM 5 rfl rfl rfl (by kernel_rfl) (by kernel_rfl) H (fun _ hC => R_mv) ?_
  refine WA_takeM 6 rfl rfl rfl (by kernel_rfl) (by kernel_rfl) H (fun _ hC => R_mv) ?_
  refine WA_take 7 rfl rfl rfl (by kernel_rfl) (by kernel_rfl) H (fun _ hC => R_indexAddr (off' := i * 2) Try.underlying51 Try.sizeOf36 rfl rfl (by omega) (by omega) (by omega)) ?_
  refine WA_take 8 rfl rfl rfl (by kernel_rfl) (by kernel_rfl) H (fun _ hC => R_loadA (vs := rc y) Try.isAgg36 Try.sizeOf36 rfl (hC.blockN hb kNil) (rows_at hy) (by rw [List.length_append, rows_length rc_len]; show i * 2 + 2 ≤ _; omega)) ?_
  refine WA_one (i := 9) (by kernel_rfl) ?_
  (refine WI_call rfl (.inl rfl) (R_call rfl Try.call51 rfl) (cmp_ge (a := x) (b := y) _ (hU.le i j _ _ (by omega) hy hx) (hU.lo _ (List.mem_of_getElem? hx)) (hU.lo _ (List.mem_of_getElem? hy))) (fun _ _ hR _ => by obtain ⟨z, _, _, hH⟩ := hR; exact H.seq0 hH) ?_; rintro _ w19 ⟨z, rfl, hz, H1⟩; replace H := H.seq0 H1; clear H1)
  refine WA_take 10 rfl rfl rfl (by kernel_rfl) (by kernel_rfl) H (fun _ hC => R_lt_f rfl rfl (by omega)) ?_
  refine WA_done (by kernel_rfl) ?_
  refine W_cond_f rfl ?_
  refine W_skip ?_
  refine W_seq ?_
  refine W_region_l ?_
  refine WL_stepM rfl (R_mv) ?_
  refine WL_stepM rfl (R_mv) ?_
  refine WL_stepM rfl (R_as) ?_
  refine WL_stepM rfl (R_as) ?_
  refine WL_nil ?_
  refine W_ret ?_
  exact ⟨_, rfl, rfl, H⟩
theorem median_up (hb : w.heap[b]? = some (blk (rows rc R ++ sp) 36)) (hU : Up R) (hn : R.length = n) (hca : n ≤ ca) {i j k sw : Nat} (hij : i ≤ j) (hjk : j ≤ k) (hk : k < n) (hb25 : n ≤ 1000) : Ret Try.prog 123 #[sl b 0 n ca, I i, I j, I k, ptr sw 0, .func (.func 51) #[] #[]] w fun v w' => v = I j ∧ Hp w [] w' := by
  refine Ret_of_W (args := [_, _, _, _, _, _]) Try.func123 rfl Try.ntmps123 Try.results123 (by simp) ?_
  have H := Hp.refl w
  refine W_seq ?_
  refine W_region_l ?_
  refine WL_stepM rfl (R_as) ?_
  refine WL_nil ?_
  refine W_seq ?_
  refine W_region_l ?_
  refine WL_stepM rfl (R_mv) ?_
  refine WL_stepM rfl (R_mv) ?_
  refine WL_stepM rfl (R_mv) ?_
  refine WL_stepM rfl (R_mv) ?_
  refine WL_stepM rfl (R_mv) ?_
  (refine WL_call rfl (R_call rfl Try.call134 rfl) (order2_up (i := i) (j := j) (H.blockN hb kNil) hU hn hca hij (by omega) hb25) ?_; rintro _ w12 ⟨rfl, H1⟩; replace H := H.seq0 H1; clear H1)
  refine WL_stepM rfl (R_mv) ?_
  refine WL_step rfl (R_extract rfl rfl) ?_
  refine WL_step rfl (R_extract rfl rfl) ?_
  refine WL_stepM rfl (R_as) ?_
  refine WL_stepM rfl (R_as) ?_
  refine WL_nil ?_
  refine W_seq ?_
  refine W_region_l ?_
  refine WL_stepM rfl (R_mv) ?_
  refine WL_stepM rfl (R_mv) ?_
  refine WL_stepM rfl (R_mv) ?_
  refine WL_stepM rfl (R_mv) ?_
  refine WL_stepM rfl (R_mv) ?_
  (refine WL_call rfl (R_call rfl Try.call134 rfl) (order2_up (i := j) (j := k) (H.blockN hb kNil) hU hn hca hjk (by omega) hb25) ?_; rintro _ w26 ⟨rfl, H1⟩; replace H := H.seq0 H1; clear H1)
  refine WL_stepM rfl (R_mv) ?_
  refine WL_step rfl (R_extract rfl rfl) ?_
  refine WL_step rfl (R_extract rfl rfl) ?_
  refine WL_stepM rfl (R_as) ?_
  refine WL_stepM rfl (R_as) ?_
  refine WL_nil ?_
  refine W_seq ?_
  refine W_region_l ?_
  refine WL_stepM rfl (R_mv) ?_
  refine WL_stepM rfl (R_mv) ?_
  refine WL_stepM rfl (R_mv) ?_
  refine WL_stepM rfl (R_mv) ?_
  refine WL_stepM rfl (R_mv) ?_
  (refine WL_call rfl (R_call rfl Try.call134 rfl) (order2_up (i := i) (j := j) (H.blockN hb kNil) hU hn hca hij (by omega) hb25) ?_; rintro _ w40 ⟨rfl, H1⟩; replace H := H.seq0 H1; clear H1)
  refine WL_stepM rfl (R_mv) ?_
  refine WL_step rfl (R_extract rfl rfl) ?_
  refine WL_step rfl (R_extract rfl rfl) ?_
  refine WL_stepM rfl (R_as) ?_
  refine WL_stepM rfl (R_as) ?_
  refine WL_nil ?_
  refine W_seq ?_
  refine W_region_l ?_
  refine WL_stepM rfl (R_mv) ?_
  refine WL_stepM rfl (R_as) ?_
  refine WL_nil ?_
  refine W_ret ?_
  exact ⟨_, rfl, rfl, H⟩
theorem choose_up (hb : w.heap[b]? = some (blk (rows rc R ++ sp) 36)) (hU : Up R) (hn : R.length = n) (hca : n ≤ ca) (h8 : 13 ≤ n) (h25 : n ≤ 25) : Ret Try.prog 100 #[sl b 0 n ca, I 0, I n, .func (.func 51) #[] #[]] w fun v w' => ∃ P : Nat, P ≤ n ∧ v = .tuple #[I P, I 1] ∧ Hp w [] w' := by
  refine Ret_of_W (args := [_, _, _, _]) Try.func100 rfl Try.ntmps100 Try.results100 (by simp) ?_
  have H := Hp.refl w
  obtain ⟨q, hq⟩ : ∃ q : Nat, n / 4 = q := ⟨_, rfl⟩
  refine W_seq ?_
  refine W_region_l ?_
  refine WL_stepM rfl (R_as) ?_
  refine WL_stepM rfl (R_as) ?_
  refine WL_nil ?_
  refine W_seq ?_
  refine W_region_l ?_
  refine WL_stepM rfl (R_mv) ?_
  refine WL_stepM rfl (R_mv) ?_
  refine WL_step rfl (R_sub rfl rfl (w_i64 (by omega))) ?_
  refine WL_stepM rfl (R_as) ?_
  refine WL_nil ?_
  refine W_seq ?_
  refine W_region_l ?_
  (refine WL_effn rfl (E_alloc (vs := [I 0]) H Try.zeroValue3 rfl) ?_; clear H; intro c11 w15 hc11 H)
  refine WL_nil ?_
  refine W_seq ?_
  refine W_region_l ?_
  refine WL_stepM rfl (R_mv) ?_
  refine WL_stepM rfl (R_mv) ?_
  refine WL_step rfl (R_quo rfl rfl (by omega) (quo_pos (by omega) (by omega) (by omega))) ?_
  refine WL_step rfl (R_mul rfl rfl (w_i64 (by omega))) ?_
  refine WL_step rfl (R_add (r := ((q : Nat) : Int)) rfl rfl (by rw [w_i64 (by omega)]; omega)) ?_
  refine WL_stepM rfl (R_as) ?_
  refine WL_nil ?_
  refine W_seq ?_
  refine W_region_l ?_
  refine WL_stepM rfl (R_mv) ?_
  refine WL_stepM rfl (R_mv) ?_
  refine WL_step rfl (R_quo rfl rfl (by omega) (quo_pos (by omega) (by omega) (by omega))) ?_
  refine WL_step rfl (R_mul rfl rfl (w_i64 (by omega))) ?_
  refine WL_step rfl (R_add (r := ((q * 2 : Nat) : Int)) rfl rfl (by rw [w_i64 (by omega)]; omega)) ?_
  refine WL_stepM rfl (R_as) ?_
  refine WL_nil ?_
  refine W_seq ?_
  refine W_region_l ?_
  refine WL_stepM rfl (R_mv) ?_
  refine WL_stepM rfl (R_mv) ?_
  refine WL_step rfl (R_quo rfl rfl (by omega) (quo_pos (by omega) (by omega) (by omega))) ?_
  refine WL_step rfl (R_mul rfl rfl (w_i64 (by omega))) ?_
  refine WL_step rfl (R_add (r := ((q * 3 : Nat) : Int)) rfl rfl (by rw [w_i64 (by omega)]; omega)) ?_
  refine WL_stepM rfl (R_as) ?_
  refine WL_nil ?_
  refine W_seq ?_
  refine W_seq ?_
  refine W_region_l ?_
  refine WL_stepM rfl (R_mv) ?_
  refine WL_step rfl (R_ge_t rfl rfl (by omega)) ?_
  refine WL_nil ?_
  refine W_cond_t rfl ?_
  refine W_seq ?_
  refine W_seq ?_
  refine W_region_l ?_
  refine WL_stepM rfl (R_mv) ?_
  refine WL_step rfl (R_ge_f rfl rfl (by omega)) ?_
  refine WL_nil ?_
  refine W_cond_f rfl ?_
  refine W_skip ?_
  refine W_region_l ?_
  refine WL_stepM rfl (R_mv) ?_
  refine WL_stepM rfl (R_mv) ?_
  refine WL_stepM rfl (R_mv) ?_
  refine WL_stepM rfl (R_mv) ?_
  refine WL_stepM rfl (R_mv) ?_
  (refine WL_call rfl (R_call rfl Try.call123 rfl) (median_up (i := q) (j := q * 2) (k := q * 3) (H.blockN hb (by repeat' first | exact kNil | apply kCons | apply kApp | assumption | exact OwnS.keys (by assumption))) hU hn hca (by omega) (by omega) (by omega) (by omega)) ?_; rintro _ w65 ⟨rfl, H1⟩; replace H := H.seq0 H1; clear H1)
  refine WL_stepM rfl (R_as) ?_
  refine WL_nil ?_
  refine W_seq ?_
  refine W_region_l ?_
  refine WL_step rfl (R_load Try.isAgg3 rfl (H.get .here) rfl) ?_
  refine WL_nil ?_
  refine W_block ?_
  refine W_seq ?_
  refine W_region_l ?_
  refine WL_step rfl (R_eq_t rfl rfl (by omega)) ?_
  refine WL_stepM rfl (R_as) ?_
  refine WL_nil ?_
  refine W_cond_t rfl ?_
  refine W_seq ?_
  refine W_region_l ?_
  refine WL_stepM rfl (R_mv) ?_
  refine WL_stepM rfl (R_as) ?_
  refine WL_stepM rfl (R_as) ?_
  refine WL_nil ?_
  refine W_ret ?_
  exact ⟨_, rfl, q * 2, by omega, rfl, H.none (by repeat' first | exact kNil | apply kCons | apply kApp | assumption | exact OwnS.keys (by assumption))⟩
theorem partial_up (hb : w.heap[b]? = some (blk (rows rc R ++ sp) 36)) (hU : Up R) (hn : R.length = n) (hca : n ≤ ca) (h1 : 1 ≤ n) (h25 : n ≤ 1000) : Ret Try.prog 102 #[sl b 0 n ca, I 0, I n, .func (.func 51) #[] #[]] w fun v w' => v = .bool true ∧ Hp w [] w' := by
  refine Ret_of_W (args := [_, _, _, _]) Try.func102 rfl Try.ntmps102 Try.results102 (by simp) ?_
  have H := Hp.refl w
  refine W_seq ?_
  refine W_region_l ?_
  refine WL_stepM rfl (R_as) ?_
  refine WL_nil ?_
  refine W_seq ?_
  refine W_region_l ?_
  refine WL_stepM rfl (R_mv) ?_
  refine WL_step rfl (R_add (r := 1) rfl rfl (by decide)) ?_
  refine WL_stepM rfl (R_as) ?_
  refine WL_nil ?_
  refine W_seq ?_
  refine W_seq ?_
  refine W_region_l ?_
  refine WL_stepM rfl (R_as) ?_
  refine WL_nil ?_
  refine W_block ?_
  refine W_rounds 0 ?_
  refine W_seq ?_
  refine W_seq ?_
  refine W_region_l ?_
  refine WL_stepM rfl (R_mv) ?_
  refine WL_step rfl (R_lt_t rfl rfl (by omega)) ?_
  refine WL_nil ?_
  refine W_cond_t rfl ?_
  refine W_skip ?_
  refine W_seq ?_
  refine W_block ?_
  refine W_seq ?_
  refine W_block ?_
  refine W_loopS [(9, 9), (19, 38)] (fun (k : Nat) E w' => 1 ≤ k ∧ k ≤ n ∧ E 9 = I k ∧ Hp w [] w') (fun k => n - k) 1 ?e2 ?r2
  · exact ⟨by omega, by omega, rfl, H⟩
  · (clear H; rintro k E w1 ⟨hk1, hk, h8, H⟩; refine W_kn h8 ?_; by_cases hlt : k < n)
    · refine W_seq ?_
      refine W_seq ?_
      (have _g := hlt; obtain ⟨x, hx⟩ : ∃ x, R[k]? = some x := ⟨_, List.getElem?_eq_getElem (by omega)⟩; obtain ⟨y, hy⟩ : ∃ y, R[k - 1]? = some y := ⟨_, List.getElem?_eq_getElem (by omega)⟩; refine W_drawH (fun _ => false) (by kernel_rfl) H ?_; clear H; intro w33 H)
      refine WA_takeM 0 rfl rfl rfl (by kernel_rfl) (by kernel_rfl) H (fun _ hC => R_mv) ?_
      refine WA_takeM 1 rfl rfl rfl (by kernel_rfl) (by kernel_rfl) H (fun _ hC => R_mv) ?_
      refine WA_take 2 rfl rfl rfl (by kernel_rfl) (by kernel_rfl) H (fun _ hC => R_lt_t rfl rfl (by omega)) ?_
      refine WA_takeM 3 rfl rfl rfl (by kernel_rfl) (by kernel_rfl) H (fun _ hC => R_mv) ?_
      refine WA_takeGM 4 rfl rfl rfl rfl (by kernel_rfl) (by kernel_rfl) H (fun _ hC => R_mv) ?_
      refine WA_takeGM 5 rfl rfl rfl rfl (by kernel_rfl) (by kernel_rfl) H (fun _ hC => R_mv) ?_
      refine WA_takeGM 6 rfl rfl rfl rfl (by kernel_rfl) (by kernel_rfl) H (fun _ hC => R_mv) ?_
      refine WA_takeG 7 rfl rfl rfl rfl (by kernel_rfl) (by kernel_rfl) H (fun _ hC => R_indexAddr (off' := k * 2) Try.underlying51 Try.sizeOf36 rfl rfl (by omega) (by omega) (by omega)) ?_
      refine WA_takeG 8 rfl rfl rfl rfl (by kernel_rfl) (by kernel_rfl) H (fun _ hC => R_loadA (vs := rc x) Try.isAgg36 Try.sizeOf36 rfl (hC.blockN hb kNil) (rows_at hx) (by rw [List.length_append, rows_length rc_len]; show k * 2 + 2 ≤ _; omega)) ?_
      refine WA_takeGM 9 rfl rfl rfl rfl (by kernel_rfl) (by kernel_rfl) H (fun _ hC => R_mv) ?_
      refine WA_takeGM 10 rfl rfl rfl rfl (by kernel_rfl) (by kernel_rfl) H (fun _ hC => R_mv) ?_
      refine WA_takeG 11 rfl rfl rfl rfl (by kernel_rfl) (by kernel_rfl) H (fun _ hC => R_sub (r := ((k - 1 : Nat) : Int)) rfl rfl (by rw [w_i64 (by omega)]; omega)) ?_
      refine WA_takeG 12 rfl rfl rfl rfl (by kernel_rfl) (by kernel_rfl) H (fun _ hC => R_indexAddr (off' := (k - 1) * 2) Try.underlying51 Try.sizeOf36 rfl rfl (by omega) (by omega) (by omega)) ?_
      refine WA_takeG 13 rfl rfl rfl rfl (by kernel_rfl) (by kernel_rfl) H (fun _ hC => R_loadA (vs := rc y) Try.isAgg36 Try.sizeOf36 rfl (hC.blockN hb kNil) (rows_at hy) (by rw [List.length_append, rows_length rc_len]; show (k - 1) * 2 + 2 ≤ _; omega)) ?_
      refine WA_one (i := 14) (by kernel_rfl) ?_
      (refine WI_call rfl (.inr ⟨_, _, rfl, rfl⟩) (R_call rfl Try.call51 rfl) (cmp_ge (a := x) (b := y) _ (hU.le (k - 1) k _ _ (by omega) hy hx) (hU.lo _ (List.mem_of_getElem? hx)) (hU.lo _ (List.mem_of_getElem? hy))) (fun _ _ hR _ => by obtain ⟨z, _, _, hH⟩ := hR; exact H.seq0 hH) ?_; rintro _ w49 ⟨z, rfl, hz, H1⟩; replace H := H.seq0 H1; clear H1)
      refine WA_takeG 15 rfl rfl rfl rfl (by kernel_rfl) (by kernel_rfl) H (fun _ hC => R_lt_f rfl rfl (by omega)) ?_
      refine WA_takeG 16 rfl rfl rfl rfl (by kernel_rfl) (by kernel_rfl) H (fun _ hC => R_not_f rfl) ?_
      refine WA_takeM 17 rfl rfl rfl (by kernel_rfl) (by kernel_rfl) H (fun _ hC => R_pk_t rfl) ?_
      refine WA_done (by kernel_rfl) ?_
      refine W_cond_t rfl ?_
      refine W_skip ?_
      refine W_block ?_
      refine W_region_l ?_
      refine WL_stepM rfl (R_mv) ?_
      refine WL_step rfl (R_add rfl rfl (w_i64 (by omega))) ?_
      refine WL_stepM rfl (R_as) ?_
      refine WL_nil ?_
      exact ⟨(same_mov rfl (same_updo rfl (same_mov rfl (same_mov rfl (same_updo rfl (same_updo rfl (same_updo rfl (same_updo rfl (same_updo rfl (same_updo rfl (same_mov rfl (same_mov rfl (same_updo rfl (same_updo rfl (same_mov rfl (same_mov rfl (same_mov rfl (same_mov rfl (same_updo rfl (same_mov rfl (same_mov rfl same_ovr))))))))))))))))))))), k + 1, by omega, by omega, by omega, rfl, H⟩
    · refine W_seq ?_
      refine W_seq ?_
      (refine W_drawH (fun _ => false) (by kernel_rfl) H ?_; clear H; intro w65 H)
      refine WA_takeM 0 rfl rfl rfl (by kernel_rfl) (by kernel_rfl) H (fun _ hC => R_mv) ?_
      refine WA_takeM 1 rfl rfl rfl (by kernel_rfl) (by kernel_rfl) H (fun _ hC => R_mv) ?_
      refine WA_take 2 rfl rfl rfl (by kernel_rfl) (by kernel_rfl) H (fun _ hC => R_lt_f rfl rfl (by omega)) ?_
      refine WA_takeM 3 rfl rfl rfl (by kernel_rfl) (by kernel_rfl) H (fun _ hC => R_mv) ?_
      refine WA_pass 4 rfl rfl rfl (fun h => nomatch h) (by kernel_rfl) (by kernel_rfl) H ?_
      refine WA_pass 5 rfl rfl rfl (fun h => nomatch h) (by kernel_rfl) (by kernel_rfl) H ?_
      refine WA_pass 6 rfl rfl rfl (fun h => nomatch h) (by kernel_rfl) (by kernel_rfl) H ?_
      refine WA_pass 7 rfl rfl rfl (fun h => nomatch h) (by kernel_rfl) (by kernel_rfl) H ?_
      refine WA_pass 8 rfl rfl rfl (fun h => nomatch h) (by kernel_rfl) (by kernel_rfl) H ?_
      refine WA_pass 9 rfl rfl rfl (fun h => nomatch h) (by kernel_rfl) (by kernel_rfl) H ?_
      refine WA_pass 10 rfl rfl rfl (fun h => nomatch h) (by kernel_rfl) (by kernel_rfl) H ?_
      refine WA_pass 11 rfl rfl rfl (fun h => nomatch h) (by kernel_rfl) (by kernel_rfl) H ?_
      refine WA_pass 12 rfl rfl rfl (fun h => nomatch h) (by kernel_rfl) (by kernel_rfl) H ?_
      refine WA_pass 13 rfl rfl rfl (fun h => nomatch h) (by kernel_rfl) (by kernel_rfl) H ?_
      refine WA_pass 14 rfl rfl rfl (fun h => nomatch h) (by kernel_rfl) (by kernel_rfl) H ?_
      refine WA_pass 15 rfl rfl rfl (fun h => nomatch h) (by kernel_rfl) (by kernel_rfl) H ?_
      refine WA_pass 16 rfl rfl rfl (fun h => nomatch h) (by kernel_rfl) (by kernel_rfl) H ?_
      refine WA_takeM 17 rfl rfl rfl (by kernel_rfl) (by kernel_rfl) H (fun _ hC => R_pk_f rfl) ?_
      refine WA_done (by kernel_rfl) ?_
      refine W_cond_f rfl ?_
      refine W_exit ?_
      refine (if_pos rfl).mpr ?_
      refine W_seq ?_
      refine W_seq ?_
      refine W_region_l ?_
      refine WL_stepM rfl (R_mv) ?_
      refine WL_stepM rfl (R_mv) ?_
      refine WL_step rfl (R_eq_t rfl rfl (by omega)) ?_
      refine WL_nil ?_
      refine W_cond_t rfl ?_
      refine W_seq ?_
      refine W_region_l ?_
      refine WL_stepM rfl (R_as) ?_
      refine WL_nil ?_
      refine W_ret ?_
      exact ⟨_, rfl, rfl, H⟩
theorem pdq_up (hb : w.heap[b]? = some (blk (rows rc R ++ sp) 36)) (hU : Up R) (hn : R.length = n) (hca : n ≤ ca) (h1 : 1 ≤ n) (h25 : n ≤ 25) {l : Int} (hl : 1 ≤ l) : Ret Try.prog 71 #[sl b 0 n ca, I 0, I n, I l, .func (.func 51) #[] #[]] w fun v w' => Hp w [] w' := by
  refine Ret_of_W (args := [_, _, _, _, _]) Try.func71 rfl Try.ntmps71 Try.results71 (by simp) ?_
  have H := Hp.refl w
  refine W_seq ?_
  refine W_region_l ?_
  refine WL_stepM rfl (R_as) ?_
  refine WL_nil ?_
  refine W_seq ?_
  refine W_region_l ?_
  refine WL_stepM rfl (R_as) ?_
  refine WL_nil ?_
  refine W_block ?_
  refine W_rounds 0 ?_
  refine W_block ?_
  refine W_seq ?_
  refine W_region_l ?_
  refine WL_stepM rfl (R_mv) ?_
  refine WL_stepM rfl (R_mv) ?_
  refine WL_step rfl (R_sub rfl rfl (w_i64 (by omega))) ?_
  refine WL_stepM rfl (R_as) ?_
  refine WL_nil ?_
  refine W_seq ?_
  refine W_seq ?_
  refine W_region_l ?_
  refine WL_stepM rfl (R_mv) ?_
  refine WL_step rfl (R_le rfl rfl) ?_
  refine WL_nil ?_
  refine W_if rfl (fun h24 => ?_) (fun h24 => ?_)
  · refine W_seq ?_
    refine W_region_l ?_
    refine WL_stepM rfl (R_mv) ?_
    refine WL_stepM rfl (R_mv) ?_
    refine WL_stepM rfl (R_mv) ?_
    refine WL_stepM rfl (R_mv) ?_
    (refine WL_call rfl (R_call rfl Try.call97 rfl) (insort_up (H.blockN hb kNil) hU hn hca (by omega) h1) ?_; rintro _ w31 H1; replace H := H.seq0 H1; clear H1)
    refine WL_nil ?_
    refine W_ret ?_
    exact ⟨_, rfl, H⟩
  · refine W_skip ?_
    refine W_seq ?_
    refine W_seq ?_
    refine W_region_l ?_
    refine WL_stepM rfl (R_mv) ?_
    refine WL_step rfl (R_eq_f rfl rfl (by omega)) ?_
    refine WL_nil ?_
    refine W_cond_f rfl ?_
    refine W_skip ?_
    refine W_seq ?_
    refine W_seq ?_
    refine W_region_l ?_
    refine WL_stepM rfl (R_mv) ?_
    refine WL_step rfl (R_not_t rfl) ?_
    refine WL_nil ?_
    refine W_cond_f rfl ?_
    refine W_skip ?_
    refine W_seq ?_
    refine W_region_l ?_
    refine WL_stepM rfl (R_mv) ?_
    refine WL_stepM rfl (R_mv) ?_
    refine WL_stepM rfl (R_mv) ?_
    refine WL_stepM rfl (R_mv) ?_
    (refine WL_call rfl (R_call rfl Try.call100 rfl) (choose_up (H.blockN hb kNil) hU hn hca (by omega) h25) ?_; rintro _ w58 ⟨P, hP, rfl, H1⟩; replace H := H.seq0 H1; clear H1)
    refine WL_stepM rfl (R_mv) ?_
    refine WL_step rfl (R_extract rfl rfl) ?_
    refine WL_step rfl (R_extract rfl rfl) ?_
    refine WL_stepM rfl (R_as) ?_
    refine WL_stepM rfl (R_as) ?_
    refine WL_nil ?_
    refine W_seq ?_
    refine W_seq ?_
    refine W_region_l ?_
    refine WL_stepM rfl (R_mv) ?_
    refine WL_step rfl (R_eq_f rfl rfl (by omega)) ?_
    refine WL_nil ?_
    refine W_cond_f rfl ?_
    refine W_skip ?_
    refine W_seq ?_
    refine W_seq ?_
    refine W_region_l ?_
    refine WL_stepM rfl (R_mv) ?_
    refine WL_stepM rfl (R_mv) ?_
    refine WL_guard_t rfl rfl ?_
    refine WL_stepM rfl (R_mv) ?_
    refine WL_stepM rfl (R_pk_t rfl) ?_
    refine WL_stepM rfl (R_mv) ?_
    refine WL_guard_t rfl rfl ?_
    refine WL_stepM rfl (R_mv) ?_
    refine WL_guard_t rfl rfl ?_
    refine WL_step rfl (R_eq_t rfl rfl (by omega)) ?_
    refine WL_stepM rfl (R_pk_t rfl) ?_
    refine WL_nil ?_
    refine W_cond_t rfl ?_
    refine W_seq ?_
    refine W_region_l ?_
    refine WL_stepM rfl (R_mv) ?_
    refine WL_stepM rfl (R_mv) ?_
    refine WL_stepM rfl (R_mv) ?_
    refine WL_stepM rfl (R_mv) ?_
    (refine WL_call rfl (R_call rfl Try.call102 rfl) (partial_up (H.blockN hb kNil) hU hn hca h1 (by omega)) ?_; rintro _ w95 ⟨rfl, H1⟩; replace H := H.seq0 H1; clear H1)
    refine WL_nil ?_
    refine W_cond_t rfl ?_
    refine W_ret ?_
    exact ⟨_, rfl, H⟩
theorem sort_up (hb : w.heap[b]? = some (blk (rows rc R ++ sp) 36)) (hU : Up R) (hn : R.length = n) (hca : n ≤ ca) (h1 : 1 ≤ n) (h25 : n ≤ 25) : Ret Try.prog 50 #[sl b 0 n ca, .func (.func 51) #[] #[]] w fun v w' => Hp w [] w' := by
  refine Ret_of_W (args := [_, _]) Try.func50 rfl Try.ntmps50 Try.results50 (by simp) ?_
  have H := Hp.refl w
  refine W_seq ?_
  refine W_region_l ?_
  refine WL_stepM rfl (R_mv) ?_
  refine WL_step rfl (R_len_slice Try.underlying51 rfl) ?_
  refine WL_stepM rfl (R_as) ?_
  refine WL_nil ?_
  refine W_region_l ?_
  refine WL_stepM rfl (R_mv) ?_
  refine WL_stepM rfl (R_mv) ?_
  refine WL_stepM rfl (R_mv) ?_
  refine WL_step rfl (R_conv_int Try.underlying3 Try.underlying145 rfl (w_u64 (by omega))) ?_
  (refine WL_call rfl (R_call rfl Try.call72 rfl) (len_up h1 h25 _) ?_; rintro _ w12 ⟨k, rfl, hk, H1⟩; replace H := H.seq0 H1; clear H1)
  refine WL_stepM rfl (R_mv) ?_
  (refine WL_call rfl (R_call rfl Try.call71 rfl) (pdq_up (H.blockN hb kNil) hU hn hca h1 h25 hk) ?_; rintro _ w14 H1; replace H := H.seq0 H1; clear H1)
  refine WL_nil ?_
  exact ⟨_, rfl, H⟩
end
end Go.Proofs.Ythonajikgljgmaa.Caps

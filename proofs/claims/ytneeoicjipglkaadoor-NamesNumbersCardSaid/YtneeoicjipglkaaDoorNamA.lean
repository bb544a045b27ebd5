/-
  The law NamesNumbers: numbers as texts.
-/
import Derived.Test.YtneeoicjipglkaaDoorFxZ
import Derived.Test.YtneeoicjipglkaaDoorFxX
import Derived.Test.YtneeoicjipglkaaDoorProg
namespace Go.Proofs.YtneeoicjipglkaaDoor.Nam
open Go Go.Proofs Go.Proofs.YtneeoicjipglkaaDoor.Fx
set_option maxRecDepth 100000
set_option linter.unusedVariables false
set_option linter.unusedSimpArgs false
set_option maxHeartbeats 4000000

/-- the third power of ten lies where it lay -/
def TabP (w : World) : Prop := w.cell? ⟨2, 2, none⟩ = some (.int .u64 100)
theorem len64_ret (w : World) : Ret Tryd.prog 41 #[.int .u64 132] w fun v w' => v = I 8 ∧ Hp w [] w' := by
  refine Ret_of_W (args := [_]) Tryd.func41 rfl Tryd.ntmps41 Tryd.results41 (by simp) ?_
  have H := Hp.refl w
  refine W_seq ?_
  refine W_region_l ?_
  refine WL_stepM rfl (R_as) ?_
  refine WL_nil ?_
  refine W_seq ?_
  refine W_seq ?_
  refine W_region_l ?_
  refine WL_stepM rfl (R_mv) ?_
  refine WL_step rfl (R_ge_f rfl rfl (by omega)) ?_
  refine WL_nil ?_
  refine W_cond_f rfl ?_
  refine W_skip ?_
  refine W_seq ?_
  refine W_seq ?_
  refine W_region_l ?_
  refine WL_stepM rfl (R_mv) ?_
  refine WL_step rfl (R_ge_f rfl rfl (by omega)) ?_
  refine WL_nil ?_
  refine W_cond_f rfl ?_
  refine W_skip ?_
  refine W_seq ?_
  refine W_seq ?_
  refine W_region_l ?_
  refine WL_stepM rfl (R_mv) ?_
  refine WL_step rfl (R_ge_f rfl rfl (by omega)) ?_
  refine WL_nil ?_
  refine W_cond_f rfl ?_
  refine W_skip ?_
  refine W_seq ?_
  refine W_region_l ?_
  refine WL_stepM rfl (R_mv) ?_
  refine WL_stepM rfl (R_mv) ?_
  refine WL_step rfl (R_conv_int (r := 132) Tryd.underlying67 Tryd.underlying5 rfl (by decide)) ?_
  refine WL_step rfl (R_indexS (u := 8) Tryd.underlying9 rfl rfl (by decide) (by decide)) ?_
  refine WL_step rfl (R_conv_int Tryd.underlying5 Tryd.underlying3 rfl u8_in_i64) ?_
  refine WL_step rfl (R_add rfl rfl rfl) ?_
  refine WL_stepM rfl (R_as) ?_
  refine WL_nil ?_
  refine W_ret ?_
  exact ⟨_, rfl, rfl, H⟩
theorem log10_ret (w : World) : Ret Tryd.prog 40 #[I 8] w fun v w' => v = I 2 ∧ Hp w [] w' := by
  refine Ret_of_W (args := [_]) Tryd.func40 rfl Tryd.ntmps40 Tryd.results40 (by simp) ?_
  have H := Hp.refl w
  refine W_seq ?_
  refine W_region_l ?_
  refine WL_stepM rfl (R_as) ?_
  refine WL_nil ?_
  refine W_seq ?_
  refine W_region_l ?_
  refine WL_stepM rfl (R_mv) ?_
  refine WL_step rfl (R_mul (r := 631304) rfl rfl (by decide)) ?_
  refine WL_step rfl (R_shr (r := 2) rfl rfl (by decide) (by decide)) ?_
  refine WL_stepM rfl (R_as) ?_
  refine WL_nil ?_
  refine W_ret ?_
  exact ⟨_, rfl, rfl, H⟩
theorem bool2_ret (w : World) : Ret Tryd.prog 42 #[.bool true] w fun v w' => v = I 1 ∧ Hp w [] w' := by
  refine Ret_of_W (args := [_]) Tryd.func42 rfl Tryd.ntmps42 Tryd.results42 (by simp) ?_
  have H := Hp.refl w
  refine W_seq ?_
  refine W_region_l ?_
  refine WL_stepM rfl (R_as) ?_
  refine WL_nil ?_
  refine W_seq ?_
  refine W_seq ?_
  refine W_region_l ?_
  refine WL_stepM rfl (R_mv) ?_
  refine WL_nil ?_
  refine W_cond_t rfl ?_
  refine W_seq ?_
  refine W_region_l ?_
  refine WL_stepM rfl (R_as) ?_
  refine WL_nil ?_
  refine W_ret ?_
  exact ⟨_, rfl, rfl, H⟩
theorem digits_ret {w : World} (hT : TabP w) : Ret Tryd.prog 37 #[.int .u64 132] w fun v w' => v = I 3 ∧ Hp w [] w' := by
  refine Ret_of_W (args := [_]) Tryd.func37 rfl Tryd.ntmps37 Tryd.results37 (by simp) ?_
  have H := Hp.refl w
  refine W_seq ?_
  refine W_region_l ?_
  refine WL_stepM rfl (R_as) ?_
  refine WL_nil ?_
  refine W_seq ?_
  refine W_region_l ?_
  refine WL_stepM rfl (R_mv) ?_
  (refine WL_call rfl (R_call rfl Tryd.call41 rfl) (len64_ret _) ?_; rintro _ w8 ⟨rfl, H1⟩; replace H := H.seq0 H1; clear H1)
  (refine WL_call rfl (R_call rfl Tryd.call40 rfl) (log10_ret _) ?_; rintro _ w9 ⟨rfl, H1⟩; replace H := H.seq0 H1; clear H1)
  refine WL_stepM rfl (R_as) ?_
  refine WL_nil ?_
  refine W_seq ?_
  refine W_region_l ?_
  refine WL_stepM rfl (R_mv) ?_
  refine WL_stepM rfl (R_mv) ?_
  refine WL_stepM rfl (R_mv) ?_
  refine WL_step rfl (R_indexAddrA (off' := 2) Tryd.underlying78 Tryd.sizeOf67 rfl rfl (by decide) (by decide) (by decide)) ?_
  refine WL_step rfl (R_load_cell Tryd.isAgg67 rfl (H.cellN hT (by repeat' first | exact kNil | apply kCons | apply kApp | assumption | exact OwnS.keys (by assumption)))) ?_
  refine WL_step rfl (R_ge_t rfl rfl (by omega)) ?_
  (refine WL_call rfl (R_call rfl Tryd.call42 rfl) (bool2_ret _) ?_; rintro _ w20 ⟨rfl, H1⟩; replace H := H.seq0 H1; clear H1)
  refine WL_step rfl (R_add (r := 3) rfl rfl (by decide)) ?_
  refine WL_stepM rfl (R_as) ?_
  refine WL_nil ?_
  refine W_ret ?_
  exact ⟨_, rfl, rfl, H⟩
theorem small_ret (w : World) : Ret Tryd.prog 36 #[I 0] w fun v w' => v = S [48] ∧ Hp w [] w' := by
  refine Ret_of_W (args := [_]) Tryd.func36 rfl Tryd.ntmps36 Tryd.results36 (by simp) ?_
  have H := Hp.refl w
  refine W_seq ?_
  refine W_region_l ?_
  refine WL_stepM rfl (R_as) ?_
  refine WL_nil ?_
  refine W_seq ?_
  refine W_seq ?_
  refine W_region_l ?_
  refine WL_stepM rfl (R_mv) ?_
  refine WL_step rfl (R_lt_t rfl rfl (by omega)) ?_
  refine WL_nil ?_
  refine W_cond_t rfl ?_
  refine W_seq ?_
  refine W_region_l ?_
  refine WL_stepM rfl (R_mv) ?_
  refine WL_stepM rfl (R_mv) ?_
  refine WL_step rfl (R_add (r := 1) rfl rfl (by decide)) ?_
  refine WL_step rfl (R_sliceStr (r := ⟨#[48]⟩) (i := 0) (j := 1) Tryd.underlying9 rfl (.some rfl) (.some rfl) (by decide) (by decide) (by decide) rfl) ?_
  refine WL_stepM rfl (R_as) ?_
  refine WL_nil ?_
  refine W_ret ?_
  exact ⟨_, rfl, rfl, H⟩
abbrev zz (n : Nat) : List Value := List.replicate n (U 0)
theorem base10_ret {w : World} {b : Nat} {e : TypeId} (hb : w.heap[b]? = some (blk (zz 24) e)) : Ret Tryd.prog 38 #[sl b 1 3 23, .int .u64 132] w fun v w' => Hp w [(b, blk ([U 0, U 49, U 51, U 50] ++ zz 20) e)] w' := by
  refine Ret_of_W (args := [_, _]) Tryd.func38 rfl Tryd.ntmps38 Tryd.results38 (by simp) ?_
  have H := Hp.focus0 hb
  refine W_seq ?_
  refine W_region_l ?_
  refine WL_stepM rfl (R_mv) ?_
  refine WL_step rfl (R_len_slice Tryd.underlying73 rfl) ?_
  refine WL_stepM rfl (R_as) ?_
  refine WL_nil ?_
  refine W_seq ?_
  refine W_block ?_
  refine W_rounds 0 ?_
  refine W_seq ?_
  refine W_seq ?_
  refine W_region_l ?_
  refine WL_stepM rfl (R_mv) ?_
  refine WL_step rfl (R_ge_f rfl rfl (by omega)) ?_
  refine WL_nil ?_
  refine W_cond_f rfl ?_
  refine W_exit ?_
  refine (if_pos rfl).mpr ?_
  refine W_seq ?_
  refine W_region_l ?_
  refine WL_stepM rfl (R_mv) ?_
  refine WL_step rfl (R_conv_int (r := 132) Tryd.underlying67 Tryd.underlying65 rfl (by decide)) ?_
  refine WL_stepM rfl (R_as) ?_
  refine WL_nil ?_
  refine W_seq ?_
  refine W_seq ?_
  refine W_region_l ?_
  refine WL_stepM rfl (R_mv) ?_
  refine WL_step rfl (R_ge_f rfl rfl (by omega)) ?_
  refine WL_nil ?_
  refine W_cond_f rfl ?_
  refine W_skip ?_
  refine W_seq ?_
  refine W_seq ?_
  refine W_region_l ?_
  refine WL_stepM rfl (R_mv) ?_
  refine WL_step rfl (R_ge_t rfl rfl (by omega)) ?_
  refine WL_nil ?_
  refine W_cond_t rfl ?_
  refine W_seq ?_
  refine W_region_l ?_
  refine WL_stepM rfl (R_mv) ?_
  refine WL_step rfl (R_rem (r := 32) rfl rfl (by decide) (by decide)) ?_
  refine WL_step rfl (R_mul (r := 64) rfl rfl (by decide)) ?_
  refine WL_stepM rfl (R_as) ?_
  refine WL_nil ?_
  refine W_seq ?_
  refine W_region_l ?_
  refine WL_stepM rfl (R_mv) ?_
  refine WL_step rfl (R_quo (r := 1) rfl rfl (by decide) (by decide)) ?_
  refine WL_stepM rfl (R_as) ?_
  refine WL_nil ?_
  refine W_seq ?_
  (refine W_draw (fun _ => True) (fun _ => false) (by kernel_rfl) H ?_; clear H; intro w54 H)
  refine WA_takeM 0 rfl rfl rfl (by kernel_rfl) (by kernel_rfl) trivial (fun _ hC => R_mv) ?_
  refine WA_takeM 1 rfl rfl rfl (by kernel_rfl) (by kernel_rfl) trivial (fun _ hC => R_mv) ?_
  refine WA_take 2 rfl rfl rfl (by kernel_rfl) (by kernel_rfl) trivial (fun _ hC => R_sub (r := 2) rfl rfl (by decide)) ?_
  refine WA_takeM 3 rfl rfl rfl (by kernel_rfl) (by kernel_rfl) trivial (fun _ hC => R_mv) ?_
  refine WA_takeM 4 rfl rfl rfl (by kernel_rfl) (by kernel_rfl) trivial (fun _ hC => R_mv) ?_
  refine WA_take 5 rfl rfl rfl (by kernel_rfl) (by kernel_rfl) trivial (fun _ hC => R_sub (r := 1) rfl rfl (by decide)) ?_
  refine WA_takeM 6 rfl rfl rfl (by kernel_rfl) (by kernel_rfl) trivial (fun _ hC => R_mv) ?_
  refine WA_take 7 rfl rfl rfl (by kernel_rfl) (by kernel_rfl) trivial (fun _ hC => R_add (r := 65) rfl rfl (by decide)) ?_
  refine WA_take 8 rfl rfl rfl (by kernel_rfl) (by kernel_rfl) trivial (fun _ hC => R_indexS (u := 50) Tryd.underlying9 rfl rfl (by decide) (by decide)) ?_
  refine WA_takeM 9 rfl rfl rfl (by kernel_rfl) (by kernel_rfl) trivial (fun _ hC => R_mv) ?_
  refine WA_take 10 rfl rfl rfl (by kernel_rfl) (by kernel_rfl) trivial (fun _ hC => R_indexS (u := 51) Tryd.underlying9 rfl rfl (by decide) (by decide)) ?_
  refine WA_take 11 rfl rfl rfl (by kernel_rfl) (by kernel_rfl) trivial (fun _ hC => R_indexAddr (off' := 3) Tryd.underlying73 Tryd.sizeOf5 rfl rfl (by decide) (by decide) (by decide)) ?_
  refine WA_one (i := 12) (by kernel_rfl) ?_
  (refine WI_effu rfl (.inl rfl) (E_store (v := U 50) H Tryd.sizeOf5 rfl rfl rfl .here (by simp)) (fun _ _ _ => trivial) ?_; clear H; intro w68 H)
  refine WA_take 13 rfl rfl rfl (by kernel_rfl) (by kernel_rfl) trivial (fun _ hC => R_indexAddr (off' := 2) Tryd.underlying73 Tryd.sizeOf5 rfl rfl (by decide) (by decide) (by decide)) ?_
  refine WA_one (i := 14) (by kernel_rfl) ?_
  (refine WI_effu rfl (.inl rfl) (E_store (v := U 51) H Tryd.sizeOf5 rfl rfl rfl .here (by simp)) (fun _ _ _ => trivial) ?_; clear H; intro w71 H)
  refine WA_done (by kernel_rfl) ?_
  refine W_region_l ?_
  refine WL_stepM rfl (R_mv) ?_
  refine WL_step rfl (R_sub (r := 1) rfl rfl (by decide)) ?_
  refine WL_stepM rfl (R_as) ?_
  refine WL_nil ?_
  refine W_seq ?_
  refine W_region_l ?_
  refine WL_stepM rfl (R_mv) ?_
  refine WL_step rfl (R_gt_t rfl rfl (by omega)) ?_
  refine WL_nil ?_
  refine W_cond_t rfl ?_
  refine W_region_l ?_
  refine WL_stepM rfl (R_mv) ?_
  refine WL_stepM rfl (R_mv) ?_
  refine WL_step rfl (R_add (r := 49) rfl rfl (by decide)) ?_
  refine WL_step rfl (R_conv_int (r := 49) Tryd.underlying65 Tryd.underlying5 rfl (by decide)) ?_
  refine WL_step rfl (R_indexAddr (off' := 1) Tryd.underlying73 Tryd.sizeOf5 rfl rfl (by decide) (by decide) (by decide)) ?_
  (refine WL_effu rfl (E_store (v := U 49) H Tryd.sizeOf5 rfl rfl rfl .here (by simp)) ?_; clear H; intro w90 H)
  refine WL_nil ?_
  exact ⟨_, rfl, H⟩
theorem format132_ret {w : World} (hT : TabP w) : Ret Tryd.prog 35 #[I 132, I 10] w fun v w' => v = S [49, 51, 50] ∧ Hp w [] w' := by
  refine Ret_of_W (args := [_, _]) Tryd.func35 rfl Tryd.ntmps35 Tryd.results35 (by simp) ?_
  have H := Hp.refl w
  refine W_seq ?_
  refine W_region_l ?_
  refine WL_stepM rfl (R_as) ?_
  refine WL_nil ?_
  refine W_seq ?_
  refine W_seq ?_
  refine W_region_l ?_
  refine WL_stepM rfl (R_mv) ?_
  refine WL_step rfl (R_eq_t rfl rfl (by omega)) ?_
  refine WL_nil ?_
  refine W_cond_t rfl ?_
  refine W_seq ?_
  refine W_seq ?_
  refine W_region_l ?_
  refine WL_stepM rfl (R_mv) ?_
  refine WL_step rfl (R_le_t rfl rfl (by omega)) ?_
  refine WL_stepM rfl (R_mv) ?_
  refine WL_guard_t rfl rfl ?_
  refine WL_stepM rfl (R_mv) ?_
  refine WL_guard_t rfl rfl ?_
  refine WL_step rfl (R_lt_f rfl rfl (by omega)) ?_
  refine WL_stepM rfl (R_pk_t rfl) ?_
  refine WL_nil ?_
  refine W_cond_f rfl ?_
  refine W_skip ?_
  refine W_seq ?_
  refine W_region_l ?_
  (refine WL_effn rfl (E_alloc (vs := zz 24) H Tryd.zeroValue71 rfl) ?_; clear H; intro c5 w28 hc5 H)
  refine WL_nil ?_
  refine W_seq ?_
  refine W_region_l ?_
  refine WL_stepM rfl (R_mv) ?_
  refine WL_step rfl (R_conv_int (r := 132) Tryd.underlying2 Tryd.underlying67 rfl (by decide)) ?_
  refine WL_stepM rfl (R_as) ?_
  refine WL_nil ?_
  refine W_seq ?_
  refine W_seq ?_
  refine W_region_l ?_
  refine WL_stepM rfl (R_mv) ?_
  refine WL_step rfl (R_lt_f rfl rfl (by omega)) ?_
  refine WL_nil ?_
  refine W_cond_f rfl ?_
  refine W_skip ?_
  refine W_seq ?_
  refine W_region_l ?_
  refine WL_stepM rfl (R_mv) ?_
  (refine WL_call rfl (R_call rfl Tryd.call37 rfl) (digits_ret (show TabP _ from H.cellN hT (by repeat' first | exact kNil | apply kCons | apply kApp | assumption | exact OwnS.keys (by assumption)))) ?_; rintro _ w47 ⟨rfl, H1⟩; replace H := H.seq0 H1; clear H1)
  refine WL_stepM rfl (R_as) ?_
  refine WL_nil ?_
  refine W_seq ?_
  refine W_region_l ?_
  refine WL_stepM rfl (R_mv) ?_
  refine WL_step rfl (R_add (r := 4) rfl rfl (by decide)) ?_
  refine WL_step rfl (R_sliceArr Tryd.underlying71 Tryd.sizeOf5 rfl (.some rfl) (.some rfl) (by omega) (by omega) (by omega) (by omega) rfl) ?_
  refine WL_stepM rfl (R_mv) ?_
  (refine WL_call rfl (R_call rfl Tryd.call38 rfl) (base10_ret (H.get .here)) ?_; rintro _ w56 H1; replace H := H.seq H1 (okSeq_set .here okSeq_nil); clear H1)
  refine WL_nil ?_
  refine W_seq ?_
  refine W_seq ?_
  refine W_region_l ?_
  refine WL_stepM rfl (R_mv) ?_
  refine WL_step rfl (R_lt_f rfl rfl (by omega)) ?_
  refine WL_nil ?_
  refine W_cond_f rfl ?_
  refine W_skip ?_
  refine W_seq ?_
  refine W_region_l ?_
  refine WL_stepM rfl (R_mv) ?_
  refine WL_step rfl (R_add (r := 4) rfl rfl (by decide)) ?_
  refine WL_step rfl (R_sliceArr Tryd.underlying71 Tryd.sizeOf5 rfl (.some rfl) (.some rfl) (by omega) (by omega) (by omega) (by omega) rfl) ?_
  refine WL_step rfl (R_conv_bs (xs := [49, 51, 50]) Tryd.underlying73 Tryd.underlying5 Tryd.underlying9 rfl (RdS.blk (c := [U 0, U 49, U 51, U 50] ++ zz 20) (off := 1) (H.get .here) rfl (by decide) (by decide))) ?_
  refine WL_stepM rfl (R_as) ?_
  refine WL_nil ?_
  refine W_ret ?_
  exact ⟨_, rfl, rfl, H.none (by repeat' first | exact kNil | apply kCons | apply kApp | assumption | exact OwnS.keys (by assumption))⟩
theorem format0_ret (w : World) : Ret Tryd.prog 35 #[I 0, I 10] w fun v w' => v = S [48] ∧ Hp w [] w' := by
  refine Ret_of_W (args := [_, _]) Tryd.func35 rfl Tryd.ntmps35 Tryd.results35 (by simp) ?_
  have H := Hp.refl w
  refine W_seq ?_
  refine W_region_l ?_
  refine WL_stepM rfl (R_as) ?_
  refine WL_nil ?_
  refine W_seq ?_
  refine W_seq ?_
  refine W_region_l ?_
  refine WL_stepM rfl (R_mv) ?_
  refine WL_step rfl (R_eq_t rfl rfl (by omega)) ?_
  refine WL_nil ?_
  refine W_cond_t rfl ?_
  refine W_seq ?_
  refine W_seq ?_
  refine W_region_l ?_
  refine WL_stepM rfl (R_mv) ?_
  refine WL_step rfl (R_le_t rfl rfl (by omega)) ?_
  refine WL_stepM rfl (R_mv) ?_
  refine WL_guard_t rfl rfl ?_
  refine WL_stepM rfl (R_mv) ?_
  refine WL_guard_t rfl rfl ?_
  refine WL_step rfl (R_lt_t rfl rfl (by omega)) ?_
  refine WL_stepM rfl (R_pk_t rfl) ?_
  refine WL_nil ?_
  refine W_cond_t rfl ?_
  refine W_seq ?_
  refine W_region_l ?_
  refine WL_stepM rfl (R_mv) ?_
  (refine WL_call rfl (R_call rfl Tryd.call36 rfl) (small_ret _) ?_; rintro _ w28 ⟨rfl, H1⟩; replace H := H.seq0 H1; clear H1)
  refine WL_stepM rfl (R_as) ?_
  refine WL_nil ?_
  refine W_ret ?_
  exact ⟨_, rfl, rfl, H⟩
end Go.Proofs.YtneeoicjipglkaaDoor.Nam

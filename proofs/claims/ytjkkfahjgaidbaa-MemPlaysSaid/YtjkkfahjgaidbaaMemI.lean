/-
  What Load and Store of the document do; Copy of package mem.
-/
import Derived.Test.YtjkkfahjgaidbaaMemC
import Derived.Test.YtjkkfahjgaidbaaRef1
namespace Go.Proofs.Ytjkkfahjgaidbaa.Mem
open Go Go.Proofs Go.Proofs.Ytjkkfahjgaidbaa.Fx
set_option maxRecDepth 100000
set_option linter.unusedVariables false
set_option linter.unusedSimpArgs false
set_option maxHeartbeats 1000000

section
variable {w : World} {p b : Nat} {xs : List UInt8} {N : Nat}

theorem rload_no (at_ n : Int) (hN : N ≤ 16384) (h : ¬ (0 ≤ at_ ∧ 0 ≤ n ∧ at_ ≤ N ∧ n ≤ N - at_)) :
    Ret Try.prog 23 #[sl b 0 N N, I at_, I n] w fun v w' => v = .tuple #[S [], I 1] ∧ Hp w [] w' := by
  refine Ret_of_W (args := [_, _, _]) Try.func23 rfl Try.ntmps23 Try.results23 (by simp) ?_
  have H := Hp.refl w
  refine W_seq ?_
  refine W_region_l ?_
  refine WL_stepM rfl (R_as) ?_
  refine WL_stepM rfl (R_as) ?_
  refine WL_nil ?_
  refine W_seq ?_
  refine W_seq ?_
  refine W_region_l ?_
  refine WL_stepM rfl (R_mv) ?_
  refine WL_stepM rfl (R_mv) ?_
  refine WL_stepM rfl (R_mv) ?_
  refine WL_step rfl (R_len_slice Try.underlying26 rfl) ?_
  (refine WL_call rfl (R_call rfl Try.call17 rfl) (Ref1.within_no _ h (by omega)) ?_; rintro _ w13 ⟨rfl, H1⟩; replace H := H.seq0 H1; clear H1)
  refine WL_step rfl (R_not_f rfl) ?_
  refine WL_nil ?_
  refine W_cond_t rfl ?_
  refine W_seq ?_
  refine W_region_l ?_
  refine WL_stepM rfl (R_as) ?_
  refine WL_stepM rfl (R_as) ?_
  refine WL_nil ?_
  refine W_ret ?_
  exact ⟨_, rfl, rfl, H⟩

theorem rload_yes (at_ n : Nat) (hb : w.heap[b]? = some (blk (xs.map U) 5)) (hx : xs.length = N) (hN : N ≤ 16384) (h : at_ + n ≤ N) :
    Ret Try.prog 23 #[sl b 0 N N, I at_, I n] w fun v w' => v = .tuple #[S ((xs.drop at_).take n), I 0] ∧ Hp w [] w' := by
  subst hx
  refine Ret_of_W (args := [_, _, _]) Try.func23 rfl Try.ntmps23 Try.results23 (by simp) ?_
  have H := Hp.refl w
  by_cases he : at_ < xs.length
  · refine W_seq ?_
    refine W_region_l ?_
    refine WL_stepM rfl (R_as) ?_
    refine WL_stepM rfl (R_as) ?_
    refine WL_nil ?_
    refine W_seq ?_
    refine W_seq ?_
    refine W_region_l ?_
    refine WL_stepM rfl (R_mv) ?_
    refine WL_stepM rfl (R_mv) ?_
    refine WL_stepM rfl (R_mv) ?_
    refine WL_step rfl (R_len_slice Try.underlying26 rfl) ?_
    (refine WL_call rfl (R_call rfl Try.call17 rfl) (Ref1.within_yes _ (by omega) (by omega) (by omega) (by omega) (by omega)) ?_; rintro _ w13 ⟨rfl, H1⟩; replace H := H.seq0 H1; clear H1)
    refine WL_step rfl (R_not_t rfl) ?_
    refine WL_nil ?_
    refine W_cond_f rfl ?_
    refine W_skip ?_
    refine W_seq ?_
    refine W_region_l ?_
    refine WL_stepM rfl (R_mv) ?_
    refine WL_stepM rfl (R_mv) ?_
    refine WL_stepM rfl (R_mv) ?_
    refine WL_stepM rfl (R_mv) ?_
    refine WL_step rfl (R_add rfl rfl (w_i64 (by omega))) ?_
    (refine WL_step rfl (R_slice (off' := at_) Try.underlying26 Try.sizeOf5 rfl (.some rfl) (.some rfl) (by omega) (by omega) (by omega) (by omega) (by omega) (by simp)) ?_; rw [show ((at_ : Int) + n - at_).toNat = n from by omega, show ((xs.length : Int) - at_).toNat = xs.length - at_ from by omega])
    refine WL_step rfl (R_conv_bs (xs := (xs.drop at_).take n) Try.underlying26 Try.underlying5 Try.underlying9 rfl (RdS.blk (H.block hb (by simp)) (by simp) (by simp; omega) (by omega))) ?_
    refine WL_stepM rfl (R_as) ?_
    refine WL_stepM rfl (R_as) ?_
    refine WL_nil ?_
    refine W_ret ?_
    exact ⟨_, rfl, rfl, H⟩
  · obtain rfl : n = 0 := by omega
    refine W_seq ?_
    refine W_region_l ?_
    refine WL_stepM rfl (R_as) ?_
    refine WL_stepM rfl (R_as) ?_
    refine WL_nil ?_
    refine W_seq ?_
    refine W_seq ?_
    refine W_region_l ?_
    refine WL_stepM rfl (R_mv) ?_
    refine WL_stepM rfl (R_mv) ?_
    refine WL_stepM rfl (R_mv) ?_
    refine WL_step rfl (R_len_slice Try.underlying26 rfl) ?_
    (refine WL_call rfl (R_call rfl Try.call17 rfl) (Ref1.within_yes _ (by omega) (by omega) (by omega) (by omega) (by omega)) ?_; rintro _ w13 ⟨rfl, H1⟩; replace H := H.seq0 H1; clear H1)
    refine WL_step rfl (R_not_t rfl) ?_
    refine WL_nil ?_
    refine W_cond_f rfl ?_
    refine W_skip ?_
    refine W_seq ?_
    refine W_region_l ?_
    refine WL_stepM rfl (R_mv) ?_
    refine WL_stepM rfl (R_mv) ?_
    refine WL_stepM rfl (R_mv) ?_
    refine WL_stepM rfl (R_mv) ?_
    refine WL_step rfl (R_add rfl rfl (w_i64 (by omega))) ?_
    refine WL_step rfl (R_sliceE Try.underlying26 Try.sizeOf5 rfl (.some rfl) (.some rfl) (by omega) (by omega)) ?_
    refine WL_step rfl (R_conv_bs (xs := (xs.drop at_).take 0) Try.underlying26 Try.underlying5 Try.underlying9 rfl (RdS.blk (H.block hb (by simp)) (by simp) (by simp) (by omega))) ?_
    refine WL_stepM rfl (R_as) ?_
    refine WL_stepM rfl (R_as) ?_
    refine WL_nil ?_
    refine W_ret ?_
    exact ⟨_, rfl, rfl, H⟩

theorem rstore_no {ys : List UInt8} (at_ : Int) (hN : N ≤ 16384) (hy : ys.length ≤ 100000) (h : ¬ (0 ≤ at_ ∧ at_ ≤ N ∧ (ys.length : Int) ≤ N - at_)) :
    Ret Try.prog 24 #[sl b 0 N N, I at_, S ys] w fun v w' => v = I 1 ∧ Hp w [] w' := by
  refine Ret_of_W (args := [_, _, _]) Try.func24 rfl Try.ntmps24 Try.results24 (by simp) ?_
  have H := Hp.refl w
  refine W_seq ?_
  refine W_region_l ?_
  refine WL_stepM rfl (R_as) ?_
  refine WL_nil ?_
  refine W_seq ?_
  refine W_seq ?_
  refine W_region_l ?_
  refine WL_stepM rfl (R_mv) ?_
  refine WL_stepM rfl (R_mv) ?_
  refine WL_step rfl (R_len_S Try.underlying9 rfl) ?_
  refine WL_stepM rfl (R_mv) ?_
  refine WL_step rfl (R_len_slice Try.underlying26 rfl) ?_
  (refine WL_call rfl (R_call rfl Try.call17 rfl) (Ref1.within_no _ (by omega) (by omega)) ?_; rintro _ w13 ⟨rfl, H1⟩; replace H := H.seq0 H1; clear H1)
  refine WL_step rfl (R_not_f rfl) ?_
  refine WL_nil ?_
  refine W_cond_t rfl ?_
  refine W_seq ?_
  refine W_region_l ?_
  refine WL_stepM rfl (R_as) ?_
  refine WL_nil ?_
  refine W_ret ?_
  exact ⟨_, rfl, rfl, H⟩

theorem rstore_yes {ys : List UInt8} (at_ : Nat) (hb : w.heap[b]? = some (blk (xs.map U) 5)) (hx : xs.length = N) (hN : N ≤ 16384) (h : at_ + ys.length ≤ N) :
    Ret Try.prog 24 #[sl b 0 N N, I at_, S ys] w fun v w' => v = I 0 ∧ Hp w [(b, blk ((put xs ys at_).map U) 5)] w' := by
  subst hx
  refine Ret_of_W (args := [_, _, _]) Try.func24 rfl Try.ntmps24 Try.results24 (by simp) ?_
  have H := Hp.refl w
  by_cases he : at_ < xs.length
  · refine W_seq ?_
    refine W_region_l ?_
    refine WL_stepM rfl (R_as) ?_
    refine WL_nil ?_
    refine W_seq ?_
    refine W_seq ?_
    refine W_region_l ?_
    refine WL_stepM rfl (R_mv) ?_
    refine WL_stepM rfl (R_mv) ?_
    refine WL_step rfl (R_len_S Try.underlying9 rfl) ?_
    refine WL_stepM rfl (R_mv) ?_
    refine WL_step rfl (R_len_slice Try.underlying26 rfl) ?_
    (refine WL_call rfl (R_call rfl Try.call17 rfl) (Ref1.within_yes _ (by omega) (by omega) (by omega) (by omega) (by omega)) ?_; rintro _ w13 ⟨rfl, H1⟩; replace H := H.seq0 H1; clear H1)
    refine WL_step rfl (R_not_t rfl) ?_
    refine WL_nil ?_
    refine W_cond_f rfl ?_
    refine W_skip ?_
    refine W_seq ?_
    (replace H := H.focus (H.block hb (by simp)) (by simp); refine W_region_l ?_)
    refine WL_stepM rfl (R_mv) ?_
    refine WL_stepM rfl (R_mv) ?_
    (refine WL_step rfl (R_slice (off' := at_) Try.underlying26 Try.sizeOf5 rfl (.some rfl) .none (by omega) (by omega) (by omega) (by omega) (by omega) (by simp)) ?_; rw [show ((xs.length : Int) - at_).toNat = xs.length - at_ from by omega])
    refine WL_stepM rfl (R_mv) ?_
    (refine WL_effm rfl (E_copy (xs := ys.map U) H .here Try.underlying26 Try.sizeOf5 rfl rfl S_csrc (by simp; omega) (by simp [Value.oneCell'])) ?_; clear H; rintro _ _ w24 rfl H; rw [List.length_map, Nat.min_eq_left (by omega), List.take_of_length_le (l := ys.map U) (by simp; omega), ← List.map_take, ← List.map_drop, ← List.map_append, ← List.map_append] at H)
    refine WL_nil ?_
    refine W_seq ?_
    refine W_region_l ?_
    refine WL_stepM rfl (R_as) ?_
    refine WL_nil ?_
    refine W_ret ?_
    exact ⟨_, rfl, rfl, H⟩
  · obtain rfl : ys = [] := List.length_eq_zero_iff.1 (by omega)
    have hput : put xs [] at_ = xs := by unfold put; simp
    refine W_seq ?_
    refine W_region_l ?_
    refine WL_stepM rfl (R_as) ?_
    refine WL_nil ?_
    refine W_seq ?_
    refine W_seq ?_
    refine W_region_l ?_
    refine WL_stepM rfl (R_mv) ?_
    refine WL_stepM rfl (R_mv) ?_
    refine WL_step rfl (R_len_S Try.underlying9 rfl) ?_
    refine WL_stepM rfl (R_mv) ?_
    refine WL_step rfl (R_len_slice Try.underlying26 rfl) ?_
    (refine WL_call rfl (R_call rfl Try.call17 rfl) (Ref1.within_yes _ (by omega) (by simp) (by omega) (by simp; omega) (by omega)) ?_; rintro _ w13 ⟨rfl, H1⟩; replace H := H.seq0 H1; clear H1)
    refine WL_step rfl (R_not_t rfl) ?_
    refine WL_nil ?_
    refine W_cond_f rfl ?_
    refine W_skip ?_
    refine W_seq ?_
    refine W_region_l ?_
    refine WL_stepM rfl (R_mv) ?_
    refine WL_stepM rfl (R_mv) ?_
    refine WL_step rfl (R_sliceE Try.underlying26 Try.sizeOf5 rfl (.some rfl) .none (by omega) (by omega)) ?_
    refine WL_stepM rfl (R_mv) ?_
    refine WL_step rfl (R_copy0 (xs := []) Try.underlying26 Try.sizeOf5 rfl rfl (S_csrc (xs := [])) (.inl rfl)) ?_
    refine WL_nil ?_
    refine W_seq ?_
    refine W_region_l ?_
    refine WL_stepM rfl (R_as) ?_
    refine WL_nil ?_
    refine W_ret ?_
    exact ⟨_, rfl, rfl, by rw [hput]; exact H.focus (H.block hb (by simp)) (by simp)⟩

theorem copy_ret (hp : w.heap[p]? = some (blk [sl b 0 N N] 88)) (hb : w.heap[b]? = some (blk (xs.map U) 5)) (hx : xs.length = N) (hN : N ≤ 16384) :
    Ret Try.prog 25 #[ptr p 0] w fun v w' => ∃ q u M, v = ptr q 0 ∧ OwnS w.heap.size 5 1 u N (xs.map U) M ∧ w.heap.size ≤ q ∧ Hp w ((q, blk [u] 88) :: M) w' := by
  subst hx
  refine Ret_of_W (args := [_]) Try.func25 rfl Try.ntmps25 Try.results25 (by simp) ?_
  have H := Hp.refl w
  refine W_seq ?_
  refine W_region_l ?_
  refine WL_stepM rfl (R_as) ?_
  refine WL_nil ?_
  refine W_seq ?_
  refine W_region_l ?_
  refine WL_stepM rfl (R_mv) ?_
  refine WL_step rfl (R_nilCheck rfl) ?_
  refine WL_step rfl (R_fieldAddr (off' := 0) Try.underlying88 rfl Try.sizeOf26 (by decide) rfl rfl) ?_
  refine WL_step rfl (R_load Try.isAgg26 rfl (H.block hp (by simp)) rfl) ?_
  (refine WL_call rfl (R_call rfl Try.call58 rfl) (Codec.clone_ret (xs := xs) (RdS.blk (c := xs.map U) (off := 0) (H.block hb (by simp)) (by rw [List.drop_zero, List.take_of_length_le (by simp)]) (by simp) (by omega)) (by omega)) ?_; rintro u w11 ⟨M, hO, H1⟩; have h11 := H.seqO hO H1; clear H H1 hO; obtain ⟨hO, H⟩ := h11; rw [List.append_nil] at H; obtain ⟨ao, ca, rfl⟩ := OwnS.form hO)
  refine WL_step rfl (R_build (vs := [(.slice _ _ _)]) rfl rfl) ?_
  (refine WL_effn rfl (E_box (v := (.agg (List.toArray [(.slice _ _ _)]))) H rfl rfl) ?_; clear H; intro b13 w13 hb13 H)
  refine WL_stepM rfl (R_as) ?_
  refine WL_nil ?_
  refine W_ret ?_
  exact ⟨_, rfl, _, _, M, rfl, hO, by assumption, H⟩
end

section
variable {w : World} {q N cap : Nat} {ao : Option Addr}
theorem size2_ret (hp : w.heap[q]? = some (blk [.slice ao N cap] 88)) :
    Ret Try.prog 22 #[ptr q 0] w fun v w' => v = I N ∧ Hp w [] w' := by
  refine Ret_of_W (args := [_]) Try.func22 rfl Try.ntmps22 Try.results22 (by simp) ?_
  have H := Hp.refl w
  refine W_seq ?_
  refine W_region_l ?_
  refine WL_stepM rfl (R_as) ?_
  refine WL_nil ?_
  refine W_seq ?_
  refine W_region_l ?_
  refine WL_stepM rfl (R_mv) ?_
  refine WL_step rfl (R_nilCheck rfl) ?_
  refine WL_step rfl (R_fieldAddr (off' := 0) Try.underlying88 rfl Try.sizeOf26 (by decide) rfl rfl) ?_
  refine WL_step rfl (R_load Try.isAgg26 rfl (H.block hp (by simp)) rfl) ?_
  refine WL_step rfl (R_len_slice Try.underlying26 rfl) ?_
  refine WL_stepM rfl (R_as) ?_
  refine WL_nil ?_
  refine W_ret ?_
  exact ⟨_, rfl, rfl, H⟩
theorem in2_yes (hp : w.heap[q]? = some (blk [.slice ao N cap] 88)) (hN : N ≤ 16384) (h : 3 ≤ N) :
    Ret Try.prog 57 #[ptr q 0, I 0, I 3] w fun v w' => v = .bool true ∧ Hp w [] w' := by
  refine Ret_of_W (args := [_, _, _]) Try.func57 rfl Try.ntmps57 Try.results57 (by simp) ?_
  have H := Hp.refl w
  refine W_seq ?_
  refine W_region_l ?_
  refine WL_stepM rfl (R_as) ?_
  refine WL_nil ?_
  refine W_seq ?_
  refine W_region_l ?_
  refine WL_stepM rfl (R_mv) ?_
  refine WL_step rfl (R_ge_t rfl rfl (by omega)) ?_
  refine WL_stepM rfl (R_mv) ?_
  refine WL_guard_t rfl rfl ?_
  refine WL_stepM rfl (R_mv) ?_
  refine WL_guard_t rfl rfl ?_
  refine WL_step rfl (R_ge_t rfl rfl (by omega)) ?_
  refine WL_stepM rfl (R_pk_t rfl) ?_
  refine WL_stepM rfl (R_mv) ?_
  refine WL_guard_t rfl rfl ?_
  refine WL_stepM rfl (R_mv) ?_
  refine WL_guard_t rfl rfl ?_
  refine WL_stepM rfl (R_mv) ?_
  refine WL_guard_t rfl rfl ?_
  refine WL_step rfl (R_nilCheck rfl) ?_
  refine WL_guard_t rfl rfl ?_
  refine WL_step rfl (R_fieldAddr (off' := 0) Try.underlying88 rfl Try.sizeOf26 (by decide) rfl rfl) ?_
  refine WL_guard_t rfl rfl ?_
  refine WL_step rfl (R_load Try.isAgg26 rfl (H.block hp (by simp)) rfl) ?_
  refine WL_guard_t rfl rfl ?_
  refine WL_step rfl (R_len_slice Try.underlying26 rfl) ?_
  refine WL_guard_t rfl rfl ?_
  refine WL_step rfl (R_le_t rfl rfl (by omega)) ?_
  refine WL_stepM rfl (R_pk_t rfl) ?_
  refine WL_stepM rfl (R_mv) ?_
  refine WL_guard_t rfl rfl ?_
  refine WL_stepM rfl (R_mv) ?_
  refine WL_guard_t rfl rfl ?_
  refine WL_stepM rfl (R_mv) ?_
  refine WL_guard_t rfl rfl ?_
  refine WL_step rfl (R_nilCheck rfl) ?_
  refine WL_guard_t rfl rfl ?_
  refine WL_step rfl (R_fieldAddr (off' := 0) Try.underlying88 rfl Try.sizeOf26 (by decide) rfl rfl) ?_
  refine WL_guard_t rfl rfl ?_
  refine WL_step rfl (R_load Try.isAgg26 rfl (H.block hp (by simp)) rfl) ?_
  refine WL_guard_t rfl rfl ?_
  refine WL_step rfl (R_len_slice Try.underlying26 rfl) ?_
  refine WL_guard_t rfl rfl ?_
  refine WL_stepM rfl (R_mv) ?_
  refine WL_guard_t rfl rfl ?_
  refine WL_step rfl (R_sub rfl rfl (w_i64 (by omega))) ?_
  refine WL_guard_t rfl rfl ?_
  refine WL_step rfl (R_le_t rfl rfl (by omega)) ?_
  refine WL_stepM rfl (R_pk_t rfl) ?_
  refine WL_stepM rfl (R_as) ?_
  refine WL_nil ?_
  refine W_ret ?_
  exact ⟨_, rfl, rfl, H⟩
theorem in2_no (hp : w.heap[q]? = some (blk [.slice ao N cap] 88)) (hN : N ≤ 16384) (h : N < 3) :
    Ret Try.prog 57 #[ptr q 0, I 0, I 3] w fun v w' => v = .bool false ∧ Hp w [] w' := by
  refine Ret_of_W (args := [_, _, _]) Try.func57 rfl Try.ntmps57 Try.results57 (by simp) ?_
  have H := Hp.refl w
  refine W_seq ?_
  refine W_region_l ?_
  refine WL_stepM rfl (R_as) ?_
  refine WL_nil ?_
  refine W_seq ?_
  refine W_region_l ?_
  refine WL_stepM rfl (R_mv) ?_
  refine WL_step rfl (R_ge_t rfl rfl (by omega)) ?_
  refine WL_stepM rfl (R_mv) ?_
  refine WL_guard_t rfl rfl ?_
  refine WL_stepM rfl (R_mv) ?_
  refine WL_guard_t rfl rfl ?_
  refine WL_step rfl (R_ge_t rfl rfl (by omega)) ?_
  refine WL_stepM rfl (R_pk_t rfl) ?_
  refine WL_stepM rfl (R_mv) ?_
  refine WL_guard_t rfl rfl ?_
  refine WL_stepM rfl (R_mv) ?_
  refine WL_guard_t rfl rfl ?_
  refine WL_stepM rfl (R_mv) ?_
  refine WL_guard_t rfl rfl ?_
  refine WL_step rfl (R_nilCheck rfl) ?_
  refine WL_guard_t rfl rfl ?_
  refine WL_step rfl (R_fieldAddr (off' := 0) Try.underlying88 rfl Try.sizeOf26 (by decide) rfl rfl) ?_
  refine WL_guard_t rfl rfl ?_
  refine WL_step rfl (R_load Try.isAgg26 rfl (H.block hp (by simp)) rfl) ?_
  refine WL_guard_t rfl rfl ?_
  refine WL_step rfl (R_len_slice Try.underlying26 rfl) ?_
  refine WL_guard_t rfl rfl ?_
  refine WL_step rfl (R_le_t rfl rfl (by omega)) ?_
  refine WL_stepM rfl (R_pk_t rfl) ?_
  refine WL_stepM rfl (R_mv) ?_
  refine WL_guard_t rfl rfl ?_
  refine WL_stepM rfl (R_mv) ?_
  refine WL_guard_t rfl rfl ?_
  refine WL_stepM rfl (R_mv) ?_
  refine WL_guard_t rfl rfl ?_
  refine WL_step rfl (R_nilCheck rfl) ?_
  refine WL_guard_t rfl rfl ?_
  refine WL_step rfl (R_fieldAddr (off' := 0) Try.underlying88 rfl Try.sizeOf26 (by decide) rfl rfl) ?_
  refine WL_guard_t rfl rfl ?_
  refine WL_step rfl (R_load Try.isAgg26 rfl (H.block hp (by simp)) rfl) ?_
  refine WL_guard_t rfl rfl ?_
  refine WL_step rfl (R_len_slice Try.underlying26 rfl) ?_
  refine WL_guard_t rfl rfl ?_
  refine WL_stepM rfl (R_mv) ?_
  refine WL_guard_t rfl rfl ?_
  refine WL_step rfl (R_sub rfl rfl (w_i64 (by omega))) ?_
  refine WL_guard_t rfl rfl ?_
  refine WL_step rfl (R_le_f rfl rfl (by omega)) ?_
  refine WL_stepM rfl (R_pk_t rfl) ?_
  refine WL_stepM rfl (R_as) ?_
  refine WL_nil ?_
  refine W_ret ?_
  exact ⟨_, rfl, rfl, H⟩

/-- three bytes put into a copy -/
theorem store2_ret {w0 : World} {u : Value} {xs : List UInt8} {M L : List (Nat × Obj)} {b4 : Nat} {ys : List Value} (H : Hp w0 ((b4, blk ys 5) :: (q, blk [u] 88) :: (M ++ L)) w) (hO : OwnS w0.heap.size 5 1 u N (xs.map U) M) (hN : N ≤ 16384)
    (hy : ys.length = 3) (hy1 : ∀ v ∈ ys, v.oneCell' = true) (hb4 : w0.heap.size ≤ b4) (hq : w0.heap.size ≤ q) :
    Ret Try.prog 14 #[ptr q 0, I 0, sl b4 0 3 3] w fun v w' => Hp w0 L w' := by
  refine Ret_of_W (args := [_, _, _]) Try.func14 rfl Try.ntmps14 Try.results14 (by simp) ?_
  have hk := hO.keys
  obtain ⟨ao, ca, rfl⟩ := hO.form
  by_cases h3 : 3 ≤ N
  · obtain ⟨b5, cap5, sp5, hv5, hb5, rfl, hsp5, hcap5⟩ := OwnS.pos hO (by omega)
    cases hv5
    have hxl := hO.1
    refine W_seq ?_
    refine W_region_l ?_
    refine WL_stepM rfl (R_as) ?_
    refine WL_nil ?_
    refine W_seq ?_
    refine W_seq ?_
    refine W_region_l ?_
    refine WL_stepM rfl (R_mv) ?_
    refine WL_stepM rfl (R_mv) ?_
    refine WL_stepM rfl (R_mv) ?_
    refine WL_step rfl (R_len_slice Try.underlying26 rfl) ?_
    (refine WL_call rfl (R_call rfl Try.call57 rfl) (in2_yes (H.get (.there .here)) hN h3) ?_; rintro _ w12 ⟨rfl, H1⟩; replace H := H.seq0 H1; clear H1)
    refine WL_step rfl (R_not_t rfl) ?_
    refine WL_nil ?_
    refine W_cond_f rfl ?_
    refine W_skip ?_
    refine W_seq ?_
    refine W_region_l ?_
    refine WL_stepM rfl (R_mv) ?_
    refine WL_step rfl (R_nilCheck rfl) ?_
    refine WL_step rfl (R_fieldAddr (off' := 0) Try.underlying88 rfl Try.sizeOf26 (by decide) rfl rfl) ?_
    refine WL_step rfl (R_load Try.isAgg26 rfl (H.get (.there .here)) rfl) ?_
    refine WL_stepM rfl (R_mv) ?_
    (refine WL_step rfl (R_slice (off' := 0) Try.underlying26 Try.sizeOf5 rfl (.some rfl) .none (by omega) (by omega) (by omega) (by omega) (by omega) (by simp)) ?_)
    refine WL_stepM rfl (R_mv) ?_
    (refine WL_effm rfl (E_copy (xs := ys) H (.there (.there .here)) Try.underlying26 Try.sizeOf5 rfl rfl (RdS.blk (c := ys) (H.get .here) (by rw [List.drop_zero, List.take_of_length_le (by omega)]) (by omega) (by omega)).csrc (by simp at hxl ⊢; omega) hy1) ?_; clear H; rintro _ _ w26 rfl H)
    refine WL_nil ?_
    refine W_seq ?_
    refine W_region_l ?_
    refine WL_stepM rfl (R_as) ?_
    refine WL_nil ?_
    refine W_ret ?_
    exact ⟨_, rfl, Hp.dropN (M := [_, _, _]) H (kCons hb4 (kCons hq (kCons hb5 kNil)))⟩
  · refine W_seq ?_
    refine W_region_l ?_
    refine WL_stepM rfl (R_as) ?_
    refine WL_nil ?_
    refine W_seq ?_
    refine W_seq ?_
    refine W_region_l ?_
    refine WL_stepM rfl (R_mv) ?_
    refine WL_stepM rfl (R_mv) ?_
    refine WL_stepM rfl (R_mv) ?_
    refine WL_step rfl (R_len_slice Try.underlying26 rfl) ?_
    (refine WL_call rfl (R_call rfl Try.call57 rfl) (in2_no (H.get (.there .here)) hN (by omega)) ?_; rintro _ w12 ⟨rfl, H1⟩; replace H := H.seq0 H1; clear H1)
    refine WL_step rfl (R_not_f rfl) ?_
    refine WL_nil ?_
    refine W_cond_t rfl ?_
    refine W_seq ?_
    refine W_region_l ?_
    refine WL_stepM rfl (R_as) ?_
    refine WL_nil ?_
    refine W_ret ?_
    exact ⟨_, rfl, Hp.dropN (M := (_ :: _ :: M)) H (kCons hb4 (kCons hq hk))⟩
end
end Go.Proofs.Ytjkkfahjgaidbaa.Mem

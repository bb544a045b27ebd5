/-
  What the functions of package mem do.
-/
import Derived.Test.YtlpmfldijgdcoaaGreatDoorClone
namespace Go.Proofs.YtlpmfldijgdcoaaGreatDoor.Mem
open Go Go.Proofs Go.Proofs.YtlpmfldijgdcoaaGreatDoor.Fx
set_option maxRecDepth 100000
set_option linter.unusedVariables false
set_option maxHeartbeats 1000000

/-- how many bytes so many frames have -/
def szOf (f : Int) : Nat := (64 * min (max f 0) 256).toNat

theorem new_ret (f : Int) (w : World) : Ret Tryz.prog 44 #[I f] w fun v w' => ∃ p b, v = ptr p 0 ∧
    Hp w [(p, blk [sl b 0 (szOf f) (szOf f)] 161), (b, blk (List.replicate (szOf f) (.int .u8 0)) 5)] w' ∧ w.heap.size ≤ p ∧ w.heap.size ≤ b := by
  refine Ret_of_W (args := [_]) Tryz.func44 rfl Tryz.ntmps44 Tryz.results44 (by simp) ?_
  have H := Hp.refl w
  refine W_seq ?_
  refine W_region_l ?_
  refine WL_stepM rfl (R_as) ?_
  refine WL_nil ?_
  refine W_seq ?_
  refine W_region_l ?_
  refine WL_stepM rfl (R_mv) ?_
  refine WL_step rfl (R_max rfl rfl rfl) ?_
  refine WL_step rfl (R_min rfl rfl rfl) ?_
  refine WL_step rfl (R_mul rfl rfl (w_i64 (by omega))) ?_
  (refine WL_effn rfl (E_makeSlice H Tryz.underlying36 Tryz.sizeOf5 Tryz.typeInfo5 Tryz.zeroValue5 rfl rfl rfl (by omega) (by omega) (by omega) (by simp only [Tryz.t5]; omega)) ?_; clear H; intro b11 w11 hb11 H)
  refine WL_step rfl (R_build (vs := [(.slice _ _ _)]) rfl rfl) ?_
  (refine WL_effn rfl (E_box (v := (.agg (List.toArray [(.slice _ _ _)]))) H rfl rfl) ?_; clear H; intro b13 w13 hb13 H)
  refine WL_stepM rfl (R_as) ?_
  refine WL_nil ?_
  refine W_ret ?_
  exact ⟨_, rfl, _, _, rfl, H, by assumption, by assumption⟩

section
variable {w : World} {p b : Nat} {xs : List UInt8} {N : Nat}

theorem in_yes (at_ n : Nat) (hp : w.heap[p]? = some (blk [sl b 0 N N] 161)) (hx : xs.length = N) (hN : xs.length ≤ 16384) (h : at_ + n ≤ xs.length) :
    Ret Tryz.prog 93 #[ptr p 0, I at_, I n] w fun v w' => v = .bool true ∧ Hp w [] w' := by
  subst hx
  refine Ret_of_W (args := [_, _, _]) Tryz.func93 rfl Tryz.ntmps93 Tryz.results93 (by simp) ?_
  have H := Hp.refl w
  refine W_seq ?_
  refine W_region_l ?_
  refine WL_stepM rfl (R_as) ?_
  refine WL_nil ?_
  refine W_seq ?_
  refine W_region_l ?_
  refine WL_stepM rfl (R_mv) ?_
  refine WL_step rfl (R_ge_t rfl rfl (by omega)) ?_
  refine WL_stepM rfl (R_mv) ?_
  refine WL_guard_t rfl rfl ?_
  refine WL_stepM rfl (R_mv) ?_
  refine WL_guard_t rfl rfl ?_
  refine WL_step rfl (R_ge_t rfl rfl (by omega)) ?_
  refine WL_stepM rfl (R_pk_t rfl) ?_
  refine WL_stepM rfl (R_mv) ?_
  refine WL_guard_t rfl rfl ?_
  refine WL_stepM rfl (R_mv) ?_
  refine WL_guard_t rfl rfl ?_
  refine WL_stepM rfl (R_mv) ?_
  refine WL_guard_t rfl rfl ?_
  refine WL_step rfl (R_nilCheck rfl) ?_
  refine WL_guard_t rfl rfl ?_
  refine WL_step rfl (R_fieldAddr (off' := 0) Tryz.underlying161 rfl Tryz.sizeOf36 (by decide) rfl rfl) ?_
  refine WL_guard_t rfl rfl ?_
  refine WL_step rfl (R_load Tryz.isAgg36 rfl (H.block hp (by simp)) rfl) ?_
  refine WL_guard_t rfl rfl ?_
  refine WL_step rfl (R_len_slice Tryz.underlying36 rfl) ?_
  refine WL_guard_t rfl rfl ?_
  refine WL_step rfl (R_le_t rfl rfl (by omega)) ?_
  refine WL_stepM rfl (R_pk_t rfl) ?_
  refine WL_stepM rfl (R_mv) ?_
  refine WL_guard_t rfl rfl ?_
  refine WL_stepM rfl (R_mv) ?_
  refine WL_guard_t rfl rfl ?_
  refine WL_stepM rfl (R_mv) ?_
  refine WL_guard_t rfl rfl ?_
  refine WL_step rfl (R_nilCheck rfl) ?_
  refine WL_guard_t rfl rfl ?_
  refine WL_step rfl (R_fieldAddr (off' := 0) Tryz.underlying161 rfl Tryz.sizeOf36 (by decide) rfl rfl) ?_
  refine WL_guard_t rfl rfl ?_
  refine WL_step rfl (R_load Tryz.isAgg36 rfl (H.block hp (by simp)) rfl) ?_
  refine WL_guard_t rfl rfl ?_
  refine WL_step rfl (R_len_slice Tryz.underlying36 rfl) ?_
  refine WL_guard_t rfl rfl ?_
  refine WL_stepM rfl (R_mv) ?_
  refine WL_guard_t rfl rfl ?_
  refine WL_step rfl (R_sub rfl rfl (w_i64 (by omega))) ?_
  refine WL_guard_t rfl rfl ?_
  refine WL_step rfl (R_le_t rfl rfl (by omega)) ?_
  refine WL_stepM rfl (R_pk_t rfl) ?_
  refine WL_stepM rfl (R_as) ?_
  refine WL_nil ?_
  refine W_ret ?_
  exact ⟨_, rfl, rfl, H⟩

theorem load_yes (at_ n : Nat) (hp : w.heap[p]? = some (blk [sl b 0 N N] 161)) (hb : w.heap[b]? = some (blk (xs.map U) 5)) (hx : xs.length = N) (hN : xs.length ≤ 16384) (h : at_ + n ≤ xs.length) :
    Ret Tryz.prog 60 #[ptr p 0, I at_, I n] w fun v w' => ∃ u M, v = .tuple #[u, I 0] ∧ OwnS w.heap.size 5 1 u n (((xs.drop at_).take n).map U) M ∧ Hp w M w' := by
  subst hx
  refine Ret_of_W (args := [_, _, _]) Tryz.func60 rfl Tryz.ntmps60 Tryz.results60 (by simp) ?_
  have H := Hp.refl w
  have hl : ((xs.drop at_).take n).length = n := by simp; omega
  by_cases he : at_ < xs.length
  · refine W_seq ?_
    refine W_region_l ?_
    refine WL_stepM rfl (R_as) ?_
    refine WL_stepM rfl (R_as) ?_
    refine WL_nil ?_
    refine W_seq ?_
    refine W_seq ?_
    refine W_region_l ?_
    refine WL_stepM rfl (R_mv) ?_
    refine WL_stepM rfl (R_mv) ?_
    refine WL_stepM rfl (R_mv) ?_
    (refine WL_call rfl (R_call rfl Tryz.call93 rfl) (in_yes _ _ hp rfl hN h) ?_; rintro _ w12 ⟨rfl, H1⟩; replace H := H.seq0 H1; clear H1)
    refine WL_step rfl (R_not_t rfl) ?_
    refine WL_nil ?_
    refine W_cond_f rfl ?_
    refine W_skip ?_
    refine W_seq ?_
    refine W_region_l ?_
    refine WL_stepM rfl (R_mv) ?_
    refine WL_step rfl (R_nilCheck rfl) ?_
    refine WL_step rfl (R_fieldAddr (off' := 0) Tryz.underlying161 rfl Tryz.sizeOf36 (by decide) rfl rfl) ?_
    refine WL_step rfl (R_load Tryz.isAgg36 rfl (H.block hp (by simp)) rfl) ?_
    refine WL_stepM rfl (R_mv) ?_
    refine WL_stepM rfl (R_mv) ?_
    refine WL_stepM rfl (R_mv) ?_
    refine WL_step rfl (R_add rfl rfl (w_i64 (by omega))) ?_
    refine WL_step rfl (R_slice (off' := at_) Tryz.underlying36 Tryz.sizeOf5 rfl (.some rfl) (.some rfl) (by omega) (by omega) (by omega) (by omega) (by omega) (by simp)) ?_
    (rw [show ((at_ : Int) + n - at_).toNat = n from by omega, show ((xs.length : Int) - at_).toNat = xs.length - at_ from by omega]; refine WL_call rfl (R_call rfl Tryz.call65 rfl) (Codec.clone_ret (xs := (xs.drop at_).take n) (RdS.blk (H.block hb (by simp)) (by simp) (by simp; omega) (by omega)) (by omega)) ?_; rintro u w28 ⟨M, hO, H1⟩; rw [hl] at hO; have h28 := H.seqO hO H1; clear H H1 hO; obtain ⟨hO, H⟩ := h28; rw [List.append_nil] at H)
    refine WL_stepM rfl (R_as) ?_
    refine WL_stepM rfl (R_as) ?_
    refine WL_nil ?_
    refine W_ret ?_
    exact ⟨_, rfl, u, M, rfl, hO, H⟩
  · obtain rfl : n = 0 := by omega
    refine W_seq ?_
    refine W_region_l ?_
    refine WL_stepM rfl (R_as) ?_
    refine WL_stepM rfl (R_as) ?_
    refine WL_nil ?_
    refine W_seq ?_
    refine W_seq ?_
    refine W_region_l ?_
    refine WL_stepM rfl (R_mv) ?_
    refine WL_stepM rfl (R_mv) ?_
    refine WL_stepM rfl (R_mv) ?_
    (refine WL_call rfl (R_call rfl Tryz.call93 rfl) (in_yes _ _ hp rfl hN h) ?_; rintro _ w12 ⟨rfl, H1⟩; replace H := H.seq0 H1; clear H1)
    refine WL_step rfl (R_not_t rfl) ?_
    refine WL_nil ?_
    refine W_cond_f rfl ?_
    refine W_skip ?_
    refine W_seq ?_
    refine W_region_l ?_
    refine WL_stepM rfl (R_mv) ?_
    refine WL_step rfl (R_nilCheck rfl) ?_
    refine WL_step rfl (R_fieldAddr (off' := 0) Tryz.underlying161 rfl Tryz.sizeOf36 (by decide) rfl rfl) ?_
    refine WL_step rfl (R_load Tryz.isAgg36 rfl (H.block hp (by simp)) rfl) ?_
    refine WL_stepM rfl (R_mv) ?_
    refine WL_stepM rfl (R_mv) ?_
    refine WL_stepM rfl (R_mv) ?_
    refine WL_step rfl (R_add rfl rfl (w_i64 (by omega))) ?_
    refine WL_step rfl (R_sliceE Tryz.underlying36 Tryz.sizeOf5 rfl (.some rfl) (.some rfl) (by omega) (by omega)) ?_
    (refine WL_call rfl (R_call rfl Tryz.call65 rfl) (Codec.clone_ret (xs := (xs.drop at_).take 0) (RdS.blk (H.block hb (by simp)) (by simp) (by simp) (by omega)) (by omega)) ?_; rintro u w28 ⟨M, hO, H1⟩; rw [hl] at hO; have h28 := H.seqO hO H1; clear H H1 hO; obtain ⟨hO, H⟩ := h28; rw [List.append_nil] at H)
    refine WL_stepM rfl (R_as) ?_
    refine WL_stepM rfl (R_as) ?_
    refine WL_nil ?_
    refine W_ret ?_
    exact ⟨_, rfl, u, M, rfl, hO, H⟩

/-- bytes with others put in from a place on -/
def put (xs ys : List UInt8) (at_ : Nat) : List UInt8 := xs.take at_ ++ ys ++ xs.drop (at_ + ys.length)

theorem store_yes {l : Value} {ys : List UInt8} (at_ : Nat) (hp : w.heap[p]? = some (blk [sl b 0 N N] 161)) (hb : w.heap[b]? = some (blk (xs.map U) 5)) (hx : xs.length = N) (hN : xs.length ≤ 16384) (hl : RdS w l (ys.map U))
    (h : at_ + ys.length ≤ xs.length) :
    Ret Tryz.prog 151 #[ptr p 0, I at_, l] w fun v w' => v = I 0 ∧ Hp w [(b, blk ((put xs ys at_).map U) 5)] w' := by
  subst hx
  refine Ret_of_W (args := [_, _, _]) Tryz.func151 rfl Tryz.ntmps151 Tryz.results151 (by simp) ?_
  have H := Hp.refl w
  obtain ⟨ao, ca, rfl, hca, hra⟩ := id hl
  simp only [List.length_map] at hl ⊢
  by_cases he : at_ < xs.length
  · refine W_seq ?_
    refine W_region_l ?_
    refine WL_stepM rfl (R_as) ?_
    refine WL_nil ?_
    refine W_seq ?_
    refine W_seq ?_
    refine W_region_l ?_
    refine WL_stepM rfl (R_mv) ?_
    refine WL_stepM rfl (R_mv) ?_
    refine WL_stepM rfl (R_mv) ?_
    refine WL_step rfl (R_len_slice Tryz.underlying36 rfl) ?_
    (refine WL_call rfl (R_call rfl Tryz.call93 rfl) (in_yes _ _ hp rfl hN h) ?_; rintro _ w12 ⟨rfl, H1⟩; replace H := H.seq0 H1; clear H1)
    refine WL_step rfl (R_not_t rfl) ?_
    refine WL_nil ?_
    refine W_cond_f rfl ?_
    refine W_skip ?_
    refine W_seq ?_
    (have H0 := H; replace H := H.focus (H.block hb (by simp)) (by simp); refine W_region_l ?_)
    refine WL_stepM rfl (R_mv) ?_
    refine WL_step rfl (R_nilCheck rfl) ?_
    refine WL_step rfl (R_fieldAddr (off' := 0) Tryz.underlying161 rfl Tryz.sizeOf36 (by decide) rfl rfl) ?_
    refine WL_step rfl (R_load Tryz.isAgg36 rfl (H0.block hp (by simp)) rfl) ?_
    refine WL_stepM rfl (R_mv) ?_
    (refine WL_step rfl (R_slice (off' := at_) Tryz.underlying36 Tryz.sizeOf5 rfl (.some rfl) .none (by omega) (by omega) (by omega) (by omega) (by omega) (by simp)) ?_; rw [show ((xs.length : Int) - at_).toNat = xs.length - at_ from by omega])
    refine WL_stepM rfl (R_mv) ?_
    (refine WL_effm rfl (E_copy H .here Tryz.underlying36 Tryz.sizeOf5 rfl rfl ((hl.same H0).csrc) (by simp; omega) (by simp [Value.oneCell'])) ?_; clear H; rintro _ _ w26 rfl H; rw [List.length_map, Nat.min_eq_left (by omega), List.take_of_length_le (l := ys.map U) (by simp; omega), ← List.map_take, ← List.map_drop, ← List.map_append, ← List.map_append] at H)
    refine WL_nil ?_
    refine W_seq ?_
    refine W_region_l ?_
    refine WL_stepM rfl (R_as) ?_
    refine WL_nil ?_
    refine W_ret ?_
    exact ⟨_, rfl, rfl, H⟩
  · obtain rfl : ys = [] := List.length_eq_zero_iff.1 (by omega)
    have hput : put xs [] at_ = xs := by unfold put; simp
    refine W_seq ?_
    refine W_region_l ?_
    refine WL_stepM rfl (R_as) ?_
    refine WL_nil ?_
    refine W_seq ?_
    refine W_seq ?_
    refine W_region_l ?_
    refine WL_stepM rfl (R_mv) ?_
    refine WL_stepM rfl (R_mv) ?_
    refine WL_stepM rfl (R_mv) ?_
    refine WL_step rfl (R_len_slice Tryz.underlying36 rfl) ?_
    (refine WL_call rfl (R_call rfl Tryz.call93 rfl) (in_yes _ _ hp rfl hN h) ?_; rintro _ w12 ⟨rfl, H1⟩; replace H := H.seq0 H1; clear H1)
    refine WL_step rfl (R_not_t rfl) ?_
    refine WL_nil ?_
    refine W_cond_f rfl ?_
    refine W_skip ?_
    refine W_seq ?_
    refine W_region_l ?_
    refine WL_stepM rfl (R_mv) ?_
    refine WL_step rfl (R_nilCheck rfl) ?_
    refine WL_step rfl (R_fieldAddr (off' := 0) Tryz.underlying161 rfl Tryz.sizeOf36 (by decide) rfl rfl) ?_
    refine WL_step rfl (R_load Tryz.isAgg36 rfl (H.block hp (by simp)) rfl) ?_
    refine WL_stepM rfl (R_mv) ?_
    refine WL_step rfl (R_sliceE Tryz.underlying36 Tryz.sizeOf5 rfl (.some rfl) .none (by omega) (by omega)) ?_
    refine WL_stepM rfl (R_mv) ?_
    refine WL_step rfl (R_copy0 Tryz.underlying36 Tryz.sizeOf5 rfl rfl ((hl.same H).csrc) (.inl rfl)) ?_
    refine WL_nil ?_
    refine W_seq ?_
    refine W_region_l ?_
    refine WL_stepM rfl (R_as) ?_
    refine WL_nil ?_
    refine W_ret ?_
    exact ⟨_, rfl, rfl, by rw [hput]; exact H.focus (H.block hb (by simp)) (by simp)⟩

theorem size_ret (hp : w.heap[p]? = some (blk [sl b 0 N N] 161)) (hx : xs.length = N) :
    Ret Tryz.prog 78 #[ptr p 0] w fun v w' => v = I xs.length ∧ Hp w [] w' := by
  subst hx
  refine Ret_of_W (args := [_]) Tryz.func78 rfl Tryz.ntmps78 Tryz.results78 (by simp) ?_
  have H := Hp.refl w
  refine W_seq ?_
  refine W_region_l ?_
  refine WL_stepM rfl (R_as) ?_
  refine WL_nil ?_
  refine W_seq ?_
  refine W_region_l ?_
  refine WL_stepM rfl (R_mv) ?_
  refine WL_step rfl (R_nilCheck rfl) ?_
  refine WL_step rfl (R_fieldAddr (off' := 0) Tryz.underlying161 rfl Tryz.sizeOf36 (by decide) rfl rfl) ?_
  refine WL_step rfl (R_load Tryz.isAgg36 rfl (H.block hp (by simp)) rfl) ?_
  refine WL_step rfl (R_len_slice Tryz.underlying36 rfl) ?_
  refine WL_stepM rfl (R_as) ?_
  refine WL_nil ?_
  refine W_ret ?_
  exact ⟨_, rfl, rfl, H⟩
end
end Go.Proofs.YtlpmfldijgdcoaaGreatDoor.Mem

/-
  Sums of bytes, and blank ones.
-/
import Derived.Test.YtlpmfldijgdcoaaGreatDoorFxM4
import Derived.Test.YtlpmfldijgdcoaaGreatDoorProg
namespace Go.Proofs.YtlpmfldijgdcoaaGreatDoor.Codec
open Go Go.Proofs Go.Proofs.YtlpmfldijgdcoaaGreatDoor.Fx
set_option maxRecDepth 100000
set_option linter.unusedVariables false

/-- the sum of bytes, and of how many there are -/
def sumB (xs : List UInt8) : UInt8 := xs.foldl (· + ·) (UInt8.ofNat xs.length)

theorem sum_ret {xs : List UInt8} {w : World} {l : Value} (hl : RdS w l (xs.map U)) (hb : xs.length ≤ 9223372036854775807) :
    Ret Tryz.prog 125 #[l] w fun v w' => v = U (sumB xs) ∧ Hp w [] w' := by
  refine Ret_of_W (args := [_]) Tryz.func125 rfl Tryz.ntmps125 Tryz.results125 (by simp) ?_
  have H := Hp.refl w
  obtain ⟨ao, ca, rfl, hca, hra⟩ := id hl
  simp only [List.length_map] at hl ⊢
  refine W_seq ?_
  refine W_region_l ?_
  refine WL_stepM rfl (R_as) ?_
  refine WL_nil ?_
  refine W_seq ?_
  refine W_region_l ?_
  refine WL_stepM rfl (R_mv) ?_
  refine WL_step rfl (R_len_slice Tryz.underlying36 rfl) ?_
  refine WL_step rfl (R_conv_int Tryz.underlying3 Tryz.underlying5 rfl u8_ofNat) ?_
  refine WL_stepM rfl (R_as) ?_
  refine WL_nil ?_
  refine W_seq ?_
  refine W_seq ?_
  refine W_region_l ?_
  refine WL_stepM rfl (R_mv) ?_
  refine WL_step rfl (R_len_slice Tryz.underlying36 rfl) ?_
  refine WL_stepM rfl (R_mv) ?_
  refine WL_nil ?_
  refine W_block ?_
  refine W_loop (fun (i : Nat) E w' => i ≤ xs.length ∧ E 9 = .slice ao xs.length ca ∧ E 10 = I xs.length ∧ E 11 = I i ∧ E 3 = U ((xs.take i).foldl (· + ·) (UInt8.ofNat xs.length)) ∧ Hp w [] w') (fun i => xs.length - i) 0 ?_ ?_
  · exact ⟨by omega, rfl, rfl, rfl, rfl, H⟩
  · (clear H; rintro i E w1 ⟨hi, h0, h1, h2, h3, H⟩; refine W_know4 h0 h1 h2 h3 ?_; by_cases hlt : i < xs.length)
    · refine W_seq ?_
      refine W_region_l ?_
      refine WL_step rfl (R_lt_t rfl rfl (by omega)) ?_
      refine WL_nil ?_
      refine W_seq ?_
      refine W_cond_t rfl ?_
      refine W_skip ?_
      refine W_seq ?_
      refine W_block ?_
      refine W_seq ?_
      (obtain ⟨b1, o1, rfl, hc1⟩ := hl.cell (i := i) (u := U xs[i]) (by rw [List.getElem?_map, List.getElem?_eq_getElem (by omega)]; rfl); refine W_region_l ?_)
      refine WL_step rfl (R_indexAddr Tryz.underlying36 Tryz.sizeOf5 rfl rfl (by omega) (by omega) idx_cast1) ?_
      refine WL_step rfl (R_load_cell Tryz.isAgg5 rfl (H.cell hc1 (by simp))) ?_
      refine WL_stepM rfl (R_as) ?_
      refine WL_nil ?_
      refine W_region_l ?_
      refine WL_stepM rfl (R_mv) ?_
      refine WL_stepM rfl (R_mv) ?_
      refine WL_step rfl (R_add rfl rfl u8_add) ?_
      refine WL_stepM rfl (R_as) ?_
      refine WL_nil ?_
      refine W_region_l ?_
      refine WL_step rfl (R_add rfl rfl (w_i64 (by omega))) ?_
      refine WL_stepM rfl (R_mv) ?_
      refine WL_nil ?_
      exact ⟨i + 1, by omega, by omega, rfl, rfl, rfl, (by rw [List.take_succ_eq_append_getElem hlt, List.foldl_append]; rfl), H⟩
    · refine W_seq ?_
      refine W_region_l ?_
      refine WL_step rfl (R_lt_f rfl rfl (by omega)) ?_
      refine WL_nil ?_
      refine W_seq ?_
      refine W_cond_f rfl ?_
      refine W_exit ?_
      refine (if_pos rfl).mpr ?_
      refine W_seq ?_
      refine W_region_l ?_
      refine WL_stepM rfl (R_mv) ?_
      refine WL_stepM rfl (R_as) ?_
      refine WL_nil ?_
      refine W_ret ?_
      exact ⟨_, rfl, congrArg U (by unfold sumB; rw [List.take_of_length_le (l := xs) (i := i) (by omega)]), H⟩

theorem notz_ret (x : UInt8) (w : World) : Ret Tryz.prog 192 #[U x] w fun v w' => v = .bool (decide (x ≠ 0)) ∧ Hp w [] w' := by
  refine Ret_of_W (args := [_]) Tryz.func192 rfl Tryz.ntmps192 Tryz.results192 (by simp) ?_
  refine W_seq ?_
  refine W_region_l ?_
  refine WL_stepM rfl (R_as) ?_
  refine WL_nil ?_
  refine W_seq ?_
  refine W_region_l ?_
  refine WL_stepM rfl (R_mv) ?_
  refine WL_step rfl (R_ne rfl rfl) ?_
  refine WL_stepM rfl (R_as) ?_
  refine WL_nil ?_
  refine W_ret ?_
  exact ⟨_, rfl, congrArg Value.bool (decide_eq_decide.2 u8_ne), Hp.refl _⟩

theorem indexFunc_ret {xs : List UInt8} {w : World} {l : Value} (hl : RdS w l (xs.map U)) (hb : xs.length ≤ 9223372036854775807) :
    Ret Tryz.prog 232 #[l, .func (.func 192) #[] #[]] w fun v w' => ∃ r : Int, v = I r ∧ (0 ≤ r ↔ ∃ x ∈ xs, x ≠ 0) ∧ Hp w [] w' := by
  refine Ret_of_W (args := [_, _]) Tryz.func232 rfl Tryz.ntmps232 Tryz.results232 (by simp) ?_
  have H := Hp.refl w
  obtain ⟨ao, ca, rfl, hca, hra⟩ := id hl
  simp only [List.length_map] at hl ⊢
  refine W_seq ?_
  refine W_region_l ?_
  refine WL_stepM rfl (R_as) ?_
  refine WL_nil ?_
  refine W_seq ?_
  refine W_seq ?_
  refine W_region_l ?_
  refine WL_stepM rfl (R_mv) ?_
  refine WL_step rfl (R_len_slice Tryz.underlying36 rfl) ?_
  refine WL_stepM rfl (R_mv) ?_
  refine WL_nil ?_
  refine W_block ?_
  refine W_loop (fun (i : Nat) E w' => i ≤ xs.length ∧ E 0 = .slice ao xs.length ca ∧ E 1 = .func (.func 192) #[] #[] ∧ E 7 = I xs.length ∧ E 8 = I i ∧ (∀ x ∈ xs.take i, x = 0) ∧ Hp w [] w') (fun i => xs.length - i) 0 ?_ ?_
  · exact ⟨by omega, rfl, rfl, rfl, rfl, (by simp), H⟩
  · (clear H; rintro i E w1 ⟨hi, h0, h1, h2, h3, hz, H⟩; refine W_know4 h0 h1 h2 h3 ?_; by_cases hlt : i < xs.length)
    · refine W_seq ?_
      refine W_region_l ?_
      refine WL_step rfl (R_lt_t rfl rfl (by omega)) ?_
      refine WL_nil ?_
      refine W_seq ?_
      refine W_cond_t rfl ?_
      refine W_skip ?_
      refine W_seq ?_
      refine W_block ?_
      refine W_seq ?_
      refine W_region_l ?_
      refine WL_stepM rfl (R_mv) ?_
      refine WL_stepM rfl (R_as) ?_
      refine WL_nil ?_
      refine W_seq ?_
      (obtain ⟨b1, o1, rfl, hc1⟩ := hl.cell (i := i) (u := U xs[i]) (by rw [List.getElem?_map, List.getElem?_eq_getElem (by omega)]; rfl); refine W_region_l ?_)
      refine WL_stepM rfl (R_mv) ?_
      refine WL_stepM rfl (R_mv) ?_
      refine WL_stepM rfl (R_mv) ?_
      refine WL_step rfl (R_indexAddr Tryz.underlying36 Tryz.sizeOf5 rfl rfl (by omega) (by omega) idx_cast1) ?_
      refine WL_step rfl (R_load_cell Tryz.isAgg5 rfl (H.cell hc1 (by simp))) ?_
      (refine WL_call rfl (R_call rfl Tryz.call192 rfl) (notz_ret _ _) ?_; rintro _ w37 ⟨rfl, H1⟩; replace H := H.seq0 H1; clear H1)
      refine WL_nil ?_
      refine W_if rfl (fun hne => ?_) (fun hne => ?_)
      · refine W_seq ?_
        refine W_region_l ?_
        refine WL_stepM rfl (R_mv) ?_
        refine WL_stepM rfl (R_as) ?_
        refine WL_nil ?_
        refine W_ret ?_
        (exact ⟨_, rfl, _, rfl, ⟨fun _ => ⟨xs[i], List.getElem_mem hlt, hne⟩, fun _ => by omega⟩, H⟩)
      · refine W_skip ?_
        refine W_region_l ?_
        refine WL_step rfl (R_add rfl rfl (w_i64 (by omega))) ?_
        refine WL_stepM rfl (R_mv) ?_
        refine WL_nil ?_
        (exact ⟨i + 1, by omega, by omega, rfl, rfl, rfl, rfl, (by intro x hx; rw [List.take_succ_eq_append_getElem hlt] at hx; rcases List.mem_append.1 hx with hx | hx; exact hz x hx; rw [List.mem_singleton.1 hx]; exact Classical.not_not.1 hne), H⟩)
    · refine W_seq ?_
      refine W_region_l ?_
      refine WL_step rfl (R_lt_f rfl rfl (by omega)) ?_
      refine WL_nil ?_
      refine W_seq ?_
      refine W_cond_f rfl ?_
      refine W_exit ?_
      refine (if_pos rfl).mpr ?_
      refine W_seq ?_
      refine W_region_l ?_
      refine WL_stepM rfl (R_as) ?_
      refine WL_nil ?_
      refine W_ret ?_
      exact ⟨_, rfl, _, rfl, ⟨fun h => by omega, fun ⟨x, hx, hn⟩ => (hn (hz x (by rw [List.take_of_length_le (by omega)]; exact hx))).elim⟩, H⟩

theorem containsFunc_ret {xs : List UInt8} {w : World} {l : Value} (hl : RdS w l (xs.map U)) (hb : xs.length ≤ 9223372036854775807) :
    Ret Tryz.prog 191 #[l, .func (.func 192) #[] #[]] w fun v w' => v = .bool (decide (∃ x ∈ xs, x ≠ 0)) ∧ Hp w [] w' := by
  refine Ret_of_W (args := [_, _]) Tryz.func191 rfl Tryz.ntmps191 Tryz.results191 (by simp) ?_
  have H := Hp.refl w
  refine W_seq ?_
  refine W_region_l ?_
  refine WL_stepM rfl (R_as) ?_
  refine WL_nil ?_
  refine W_seq ?_
  refine W_region_l ?_
  refine WL_stepM rfl (R_mv) ?_
  refine WL_stepM rfl (R_mv) ?_
  (refine WL_call rfl (R_call rfl Tryz.call232 rfl) (indexFunc_ret hl hb) ?_; rintro _ w9 ⟨r, rfl, hr, H1⟩; replace H := H.seq0 H1; clear H1)
  refine WL_step rfl (R_ge rfl rfl) ?_
  refine WL_stepM rfl (R_as) ?_
  refine WL_nil ?_
  refine W_ret ?_
  exact ⟨_, rfl, congrArg Value.bool (decide_eq_decide.2 hr), H⟩

theorem blank_ret {xs : List UInt8} {w : World} {l : Value} (hl : RdS w l (xs.map U)) (hb : xs.length ≤ 9223372036854775807) :
    Ret Tryz.prog 146 #[l] w fun v w' => v = .bool (decide (∀ x ∈ xs, x = 0)) ∧ Hp w [] w' := by
  refine Ret_of_W (args := [_]) Tryz.func146 rfl Tryz.ntmps146 Tryz.results146 (by simp) ?_
  have H := Hp.refl w
  refine W_seq ?_
  refine W_region_l ?_
  refine WL_stepM rfl (R_as) ?_
  refine WL_nil ?_
  refine W_seq ?_
  refine W_region_l ?_
  refine WL_stepM rfl (R_mv) ?_
  (refine WL_call rfl (R_call rfl Tryz.call191 rfl) (containsFunc_ret hl hb) ?_; rintro _ w8 ⟨rfl, H1⟩; replace H := H.seq0 H1; clear H1)
  refine WL_step rfl (R_not_d rfl) ?_
  refine WL_stepM rfl (R_as) ?_
  refine WL_nil ?_
  refine W_ret ?_
  exact ⟨_, rfl, congrArg Value.bool (decide_eq_decide.2 (by simp)), H⟩

end Go.Proofs.YtlpmfldijgdcoaaGreatDoor.Codec

/-
  Numbers in two bytes.
-/
namespace Go.Proofs.YtlpmfldijgdcoaaGreatDoor.Codec
open Go Go.Proofs Go.Proofs.YtlpmfldijgdcoaaGreatDoor.Fx
set_option maxRecDepth 100000
set_option linter.unusedVariables false

theorem put2_yes {c : List Value} {w : World} {b off len cap e k m : Nat} (hb : w.heap[b]? = some (blk c e)) (h1 : k + 2 ≤ len) (h2 : off + len ≤ c.length) (h3 : m ≤ 65535) (hlc : len ≤ 9223372036854775807) :
    Ret Tryz.prog 200 #[sl b off len cap, I k, I m] w fun v w' => v = .bool true ∧ Hp w [(b, blk ((c.set (off + k) (U (UInt8.ofNat (m / 256)))).set (off + k + 1) (U (UInt8.ofNat m))) e)] w' := by
  refine Ret_of_W (args := [_, _, _]) Tryz.func200 rfl Tryz.ntmps200 Tryz.results200 (by simp) ?_
  have H := Hp.focus0 hb
  refine W_seq ?_
  refine W_region_l ?_
  refine WL_stepM rfl (R_as) ?_
  refine WL_nil ?_
  refine W_seq ?_
  refine W_seq ?_
  refine W_region_l ?_
  refine WL_stepM rfl (R_mv) ?_
  refine WL_step rfl (R_lt_f rfl rfl (by omega)) ?_
  refine WL_stepM rfl (R_mv) ?_
  refine WL_guard_t rfl rfl ?_
  refine WL_stepM rfl (R_mv) ?_
  refine WL_guard_t rfl rfl ?_
  refine WL_stepM rfl (R_mv) ?_
  refine WL_guard_t rfl rfl ?_
  refine WL_step rfl (R_len_slice Tryz.underlying36 rfl) ?_
  refine WL_guard_t rfl rfl ?_
  refine WL_step rfl (R_sub rfl rfl (w_i64 (by omega))) ?_
  refine WL_guard_t rfl rfl ?_
  refine WL_step rfl (R_gt_f rfl rfl (by omega)) ?_
  refine WL_stepM rfl (R_pk_f rfl) ?_
  refine WL_stepM rfl (R_mv) ?_
  refine WL_guard_t rfl rfl ?_
  refine WL_stepM rfl (R_mv) ?_
  refine WL_guard_t rfl rfl ?_
  refine WL_step rfl (R_lt_f rfl rfl (by omega)) ?_
  refine WL_stepM rfl (R_pk_f rfl) ?_
  refine WL_stepM rfl (R_mv) ?_
  refine WL_guard_t rfl rfl ?_
  refine WL_stepM rfl (R_mv) ?_
  refine WL_guard_t rfl rfl ?_
  refine WL_step rfl (R_gt_f rfl rfl (by omega)) ?_
  refine WL_stepM rfl (R_pk_f rfl) ?_
  refine WL_nil ?_
  refine W_cond_f rfl ?_
  refine W_skip ?_
  refine W_seq ?_
  refine W_region_l ?_
  refine WL_stepM rfl (R_mv) ?_
  refine WL_stepM rfl (R_mv) ?_
  refine WL_stepM rfl (R_mv) ?_
  refine WL_stepM rfl (R_mv) ?_
  refine WL_step rfl (R_add rfl rfl (w_i64 (by omega))) ?_
  refine WL_stepM rfl (R_mv) ?_
  refine WL_step rfl (R_shr rfl rfl (by decide) (shr_any 256 (by decide))) ?_
  refine WL_step rfl (R_conv_int Tryz.underlying3 Tryz.underlying5 rfl u8_ofNat) ?_
  refine WL_stepM rfl (R_mv) ?_
  refine WL_step rfl (R_conv_int Tryz.underlying3 Tryz.underlying5 rfl u8_ofNat) ?_
  refine WL_step rfl (R_indexAddr Tryz.underlying36 Tryz.sizeOf5 rfl rfl (by omega) (by omega) idx_cast1) ?_
  (refine WL_effu rfl (E_store (v := (.int _ _)) H Tryz.sizeOf5 rfl rfl rfl .here (by omega)) ?_; clear H; intro w50 H)
  refine WL_step rfl (R_indexAddr (off' := off + k + 1) Tryz.underlying36 Tryz.sizeOf5 rfl rfl (by omega) (by omega) (by omega)) ?_
  (refine WL_effu rfl (E_store (v := (.int _ _)) H Tryz.sizeOf5 rfl rfl rfl .here (by simp; omega)) ?_; clear H; intro w52 H)
  refine WL_nil ?_
  refine W_seq ?_
  refine W_region_l ?_
  refine WL_stepM rfl (R_as) ?_
  refine WL_nil ?_
  refine W_ret ?_
  exact ⟨_, rfl, rfl, H⟩

theorem get2_yes {xs : List UInt8} {w : World} {l : Value} {k : Nat} (hl : RdS w l (xs.map U)) (hb : xs.length ≤ 9223372036854775807) (h : k + 2 ≤ xs.length) :
    Ret Tryz.prog 201 #[l, I k] w fun v w' => v = .tuple #[I ((xs[k]'(by omega)).toNat * 256 + (xs[k + 1]'(by omega)).toNat), .bool true] ∧ Hp w [] w' := by
  refine Ret_of_W (args := [_, _]) Tryz.func201 rfl Tryz.ntmps201 Tryz.results201 (by simp) ?_
  have H := Hp.refl w
  obtain ⟨ao, ca, rfl, hca, hra⟩ := id hl
  obtain ⟨b, off, rfl, hc⟩ : ∃ b off, ao = some ⟨b, off, none⟩ ∧ ∀ j u, (xs.map U)[j]? = some u → w.cell? ⟨b, off + j, none⟩ = some u := by
    rcases hra with h0 | h0
    · simp at h0; subst h0; simp at h
    · exact h0
  have hc1 := hc k (U (xs[k]'(by omega))) (by rw [List.getElem?_map, List.getElem?_eq_getElem (by omega)]; rfl)
  have hc2 := hc (k + 1) (U (xs[k + 1]'(by omega))) (by rw [List.getElem?_map, List.getElem?_eq_getElem (by omega)]; rfl)
  have hk1 := (xs[k]'(by omega)).toNat_lt
  have hk2 := (xs[k + 1]'(by omega)).toNat_lt
  simp only [List.length_map] at hl ⊢
  refine W_seq ?_
  refine W_region_l ?_
  refine WL_stepM rfl (R_as) ?_
  refine WL_stepM rfl (R_as) ?_
  refine WL_nil ?_
  refine W_seq ?_
  refine W_seq ?_
  refine W_region_l ?_
  refine WL_stepM rfl (R_mv) ?_
  refine WL_step rfl (R_lt_f rfl rfl (by omega)) ?_
  refine WL_stepM rfl (R_mv) ?_
  refine WL_guard_t rfl rfl ?_
  refine WL_stepM rfl (R_mv) ?_
  refine WL_guard_t rfl rfl ?_
  refine WL_stepM rfl (R_mv) ?_
  refine WL_guard_t rfl rfl ?_
  refine WL_step rfl (R_len_slice Tryz.underlying36 rfl) ?_
  refine WL_guard_t rfl rfl ?_
  refine WL_step rfl (R_sub rfl rfl (w_i64 (by omega))) ?_
  refine WL_guard_t rfl rfl ?_
  refine WL_step rfl (R_gt_f rfl rfl (by omega)) ?_
  refine WL_stepM rfl (R_pk_f rfl) ?_
  refine WL_nil ?_
  refine W_cond_f rfl ?_
  refine W_skip ?_
  refine W_seq ?_
  (refine W_drawH (fun _ => false) (by kernel_rfl) H ?_; clear H; intro w27 H)
  refine WA_takeM 0 rfl rfl rfl (by kernel_rfl) (by kernel_rfl) H (fun _ hC => R_mv) ?_
  refine WA_takeM 1 rfl rfl rfl (by kernel_rfl) (by kernel_rfl) H (fun _ hC => R_mv) ?_
  refine WA_take 2 rfl rfl rfl (by kernel_rfl) (by kernel_rfl) H (fun _ hC => R_indexAddr Tryz.underlying36 Tryz.sizeOf5 rfl rfl (by omega) (by omega) idx_cast1) ?_
  refine WA_take 3 rfl rfl rfl (by kernel_rfl) (by kernel_rfl) H (fun _ hC => R_load_cell Tryz.isAgg5 rfl (hC.cell hc1 (by simp))) ?_
  refine WA_take 4 rfl rfl rfl (by kernel_rfl) (by kernel_rfl) H (fun _ hC => R_conv_int Tryz.underlying5 Tryz.underlying3 rfl u8_in_i64) ?_
  refine WA_take 5 rfl rfl rfl (by kernel_rfl) (by kernel_rfl) H (fun _ hC => R_shl rfl rfl (by decide) (shl_i64 256 (by decide) (by omega))) ?_
  refine WA_takeM 6 rfl rfl rfl (by kernel_rfl) (by kernel_rfl) H (fun _ hC => R_mv) ?_
  refine WA_takeM 7 rfl rfl rfl (by kernel_rfl) (by kernel_rfl) H (fun _ hC => R_mv) ?_
  refine WA_take 8 rfl rfl rfl (by kernel_rfl) (by kernel_rfl) H (fun _ hC => R_add rfl rfl (w_i64 (by omega))) ?_
  refine WA_take 9 rfl rfl rfl (by kernel_rfl) (by kernel_rfl) H (fun _ hC => R_indexAddr (off' := off + (k + 1)) Tryz.underlying36 Tryz.sizeOf5 rfl rfl (by omega) (by omega) (by omega)) ?_
  refine WA_take 10 rfl rfl rfl (by kernel_rfl) (by kernel_rfl) H (fun _ hC => R_load_cell Tryz.isAgg5 rfl (hC.cell hc2 (by simp))) ?_
  refine WA_take 11 rfl rfl rfl (by kernel_rfl) (by kernel_rfl) H (fun _ hC => R_conv_int Tryz.underlying5 Tryz.underlying3 rfl u8_in_i64) ?_
  refine WA_take 12 rfl rfl rfl (by kernel_rfl) (by kernel_rfl) H (fun _ hC => R_bits rfl rfl (by simp) (or_bytes _ _)) ?_
  refine WA_takeM 13 rfl rfl rfl (by kernel_rfl) (by kernel_rfl) H (fun _ hC => R_as) ?_
  refine WA_takeM 14 rfl rfl rfl (by kernel_rfl) (by kernel_rfl) H (fun _ hC => R_as) ?_
  refine WA_done (by kernel_rfl) ?_
  refine W_ret ?_
  exact ⟨_, rfl, rfl, H⟩
end Go.Proofs.YtlpmfldijgdcoaaGreatDoor.Codec

/-
  What slices.Equal of bytes does.
-/
namespace Go.Proofs.YtlpmfldijgdcoaaGreatDoor.Codec
open Go Go.Proofs Go.Proofs.YtlpmfldijgdcoaaGreatDoor.Fx
set_option maxRecDepth 100000
set_option linter.unusedVariables false
set_option linter.unusedSimpArgs false

theorem take_snoc_eq {xs ys : List UInt8} {i : Nat} (h : xs.take i = ys.take i) (hx : i < xs.length) (hy : i < ys.length) (he : xs[i] = ys[i]) : xs.take (i + 1) = ys.take (i + 1) := by
  rw [List.take_succ_eq_append_getElem hx, List.take_succ_eq_append_getElem hy, h, he]

theorem equal_ret {xs ys : List UInt8} {w : World} {a b : Value} (ha : RdS w a (xs.map U)) (hb : RdS w b (ys.map U)) (hl : xs.length ≤ 1000000000) (hl2 : ys.length ≤ 1000000000) :
    Ret Tryz.prog 197 #[a, b] w fun v w' => v = .bool (decide (xs = ys)) ∧ Hp w [] w' := by
  refine Ret_of_W (args := [_, _]) Tryz.func197 rfl Tryz.ntmps197 Tryz.results197 (by simp) ?_
  have H := Hp.refl w
  obtain ⟨ao, ca, rfl, hca, hra⟩ := id ha
  obtain ⟨bo, cb, rfl, hcb, hrb⟩ := id hb
  simp only [List.length_map] at ha hb ⊢
  by_cases hlen : xs.length = ys.length
  · refine W_seq ?_
    refine W_region_l ?_
    refine WL_stepM rfl (R_as) ?_
    refine WL_nil ?_
    refine W_seq ?_
    refine W_seq ?_
    refine W_region_l ?_
    refine WL_stepM rfl (R_mv) ?_
    refine WL_step rfl (R_len_slice Tryz.underlying36 rfl) ?_
    refine WL_stepM rfl (R_mv) ?_
    refine WL_step rfl (R_len_slice Tryz.underlying36 rfl) ?_
    refine WL_step rfl (R_ne_f rfl rfl (by omega)) ?_
    refine WL_nil ?_
    refine W_cond_f rfl ?_
    refine W_skip ?_
    refine W_seq ?_
    refine W_seq ?_
    refine W_region_l ?_
    refine WL_stepM rfl (R_mv) ?_
    refine WL_step rfl (R_len_slice Tryz.underlying36 rfl) ?_
    refine WL_stepM rfl (R_mv) ?_
    refine WL_nil ?_
    refine W_block ?_
    refine W_loop (fun (i : Nat) E w' => i ≤ xs.length ∧ xs.take i = ys.take i ∧ E 0 = .slice ao xs.length ca ∧ E 1 = .slice bo ys.length cb ∧ E 12 = I xs.length ∧ E 13 = I i ∧ Hp w [] w') (fun i => xs.length - i) 0 ?_ ?_
    · exact ⟨by omega, by simp, rfl, rfl, rfl, rfl, H⟩
    · (clear H; rintro i E w1 ⟨hi, ht, h0, h1, h2, h3, H⟩; refine W_know4 h0 h1 h2 h3 ?_; by_cases hlt : i < xs.length)
      · refine W_seq ?_
        refine W_region_l ?_
        refine WL_step rfl (R_lt_t rfl rfl (by omega)) ?_
        refine WL_nil ?_
        refine W_seq ?_
        refine W_cond_t rfl ?_
        refine W_skip ?_
        refine W_seq ?_
        refine W_block ?_
        refine W_seq ?_
        refine W_region_l ?_
        refine WL_stepM rfl (R_mv) ?_
        refine WL_stepM rfl (R_as) ?_
        refine WL_nil ?_
        refine W_seq ?_
        (obtain ⟨b1, o1, rfl, hc1⟩ := ha.cell (i := i) (u := U xs[i]) (by rw [List.getElem?_map, List.getElem?_eq_getElem hlt]; rfl); obtain ⟨b2, o2, rfl, hc2⟩ := hb.cell (i := i) (u := U ys[i]) (by rw [List.getElem?_map, List.getElem?_eq_getElem (show i < ys.length by omega)]; rfl); by_cases hne : xs[i] = ys[i] <;> (refine W_drawH (fun _ => false) (by kernel_rfl) H ?_; clear H; intro w2 H))
        · refine WA_takeM 0 rfl rfl rfl (by kernel_rfl) (by kernel_rfl) H (fun _ hC => R_mv) ?_
          refine WA_takeM 1 rfl rfl rfl (by kernel_rfl) (by kernel_rfl) H (fun _ hC => R_mv) ?_
          refine WA_take 2 rfl rfl rfl (by kernel_rfl) (by kernel_rfl) H (fun _ hC => R_indexAddr Tryz.underlying36 Tryz.sizeOf5 rfl rfl (by omega) (by omega) idx_cast1) ?_
          refine WA_take 3 rfl rfl rfl (by kernel_rfl) (by kernel_rfl) H (fun _ hC => R_load_cell Tryz.isAgg5 rfl (hC.cell hc1 (by simp))) ?_
          refine WA_takeM 4 rfl rfl rfl (by kernel_rfl) (by kernel_rfl) H (fun _ hC => R_mv) ?_
          refine WA_takeM 5 rfl rfl rfl (by kernel_rfl) (by kernel_rfl) H (fun _ hC => R_mv) ?_
          refine WA_take 6 rfl rfl rfl (by kernel_rfl) (by kernel_rfl) H (fun _ hC => R_indexAddr Tryz.underlying36 Tryz.sizeOf5 rfl rfl (by omega) (by omega) idx_cast1) ?_
          refine WA_take 7 rfl rfl rfl (by kernel_rfl) (by kernel_rfl) H (fun _ hC => R_load_cell Tryz.isAgg5 rfl (hC.cell hc2 (by simp))) ?_
          refine WA_take 8 rfl rfl rfl (by kernel_rfl) (by kernel_rfl) H (fun _ hC => R_ne_f rfl rfl (by rw [hne])) ?_
          refine WA_done (by kernel_rfl) ?_
          refine W_cond_f rfl ?_
          refine W_skip ?_
          refine W_region_l ?_
          refine WL_step rfl (R_add rfl rfl (w_i64 (by omega))) ?_
          refine WL_stepM rfl (R_mv) ?_
          refine WL_nil ?_
          exact ⟨i + 1, by omega, by omega, take_snoc_eq ht hlt (by omega) hne, rfl, rfl, rfl, rfl, H⟩
        · refine WA_takeM 0 rfl rfl rfl (by kernel_rfl) (by kernel_rfl) H (fun _ hC => R_mv) ?_
          refine WA_takeM 1 rfl rfl rfl (by kernel_rfl) (by kernel_rfl) H (fun _ hC => R_mv) ?_
          refine WA_take 2 rfl rfl rfl (by kernel_rfl) (by kernel_rfl) H (fun _ hC => R_indexAddr Tryz.underlying36 Tryz.sizeOf5 rfl rfl (by omega) (by omega) idx_cast1) ?_
          refine WA_take 3 rfl rfl rfl (by kernel_rfl) (by kernel_rfl) H (fun _ hC => R_load_cell Tryz.isAgg5 rfl (hC.cell hc1 (by simp))) ?_
          refine WA_takeM 4 rfl rfl rfl (by kernel_rfl) (by kernel_rfl) H (fun _ hC => R_mv) ?_
          refine WA_takeM 5 rfl rfl rfl (by kernel_rfl) (by kernel_rfl) H (fun _ hC => R_mv) ?_
          refine WA_take 6 rfl rfl rfl (by kernel_rfl) (by kernel_rfl) H (fun _ hC => R_indexAddr Tryz.underlying36 Tryz.sizeOf5 rfl rfl (by omega) (by omega) idx_cast1) ?_
          refine WA_take 7 rfl rfl rfl (by kernel_rfl) (by kernel_rfl) H (fun _ hC => R_load_cell Tryz.isAgg5 rfl (hC.cell hc2 (by simp))) ?_
          refine WA_take 8 rfl rfl rfl (by kernel_rfl) (by kernel_rfl) H (fun _ hC => R_ne_t rfl rfl (fun h => hne (u8_eq.1 h))) ?_
          refine WA_done (by kernel_rfl) ?_
          refine W_cond_t rfl ?_
          refine W_seq ?_
          refine W_region_l ?_
          refine WL_stepM rfl (R_as) ?_
          refine WL_nil ?_
          refine W_ret ?_
          exact ⟨_, rfl, congrArg Value.bool (decide_eq_false (fun e => hne (by subst e; rfl))).symm, H⟩
      · refine W_seq ?_
        refine W_region_l ?_
        refine WL_step rfl (R_lt_f rfl rfl (by omega)) ?_
        refine WL_nil ?_
        refine W_seq ?_
        refine W_cond_f rfl ?_
        refine W_exit ?_
        refine (if_pos rfl).mpr ?_
        refine W_seq ?_
        refine W_region_l ?_
        refine WL_stepM rfl (R_as) ?_
        refine WL_nil ?_
        refine W_ret ?_
        exact ⟨_, rfl, congrArg Value.bool (decide_eq_true (by rw [List.take_of_length_le (l := xs) (i := i) (by omega), List.take_of_length_le (l := ys) (i := i) (by omega)] at ht; exact ht)).symm, H⟩
  · refine W_seq ?_
    refine W_region_l ?_
    refine WL_stepM rfl (R_as) ?_
    refine WL_nil ?_
    refine W_seq ?_
    refine W_seq ?_
    refine W_region_l ?_
    refine WL_stepM rfl (R_mv) ?_
    refine WL_step rfl (R_len_slice Tryz.underlying36 rfl) ?_
    refine WL_stepM rfl (R_mv) ?_
    refine WL_step rfl (R_len_slice Tryz.underlying36 rfl) ?_
    refine WL_step rfl (R_ne_t rfl rfl (by omega)) ?_
    refine WL_nil ?_
    refine W_cond_t rfl ?_
    refine W_seq ?_
    refine W_region_l ?_
    refine WL_stepM rfl (R_as) ?_
    refine WL_nil ?_
    refine W_ret ?_
    exact ⟨_, rfl, congrArg Value.bool (decide_eq_false (fun e => by subst e; exact hlen rfl)).symm, H⟩
end Go.Proofs.YtlpmfldijgdcoaaGreatDoor.Codec

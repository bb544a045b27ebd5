/-
  Numbers in two bytes.
-/
import Derived.Test.YtcpkhgdjckogjaaBytA
import Derived.Test.YtcpkhgdjckogjaaProg
namespace Go.Proofs.Ytcpkhgdjckogjaa.Codec
open Go Go.Proofs Go.Proofs.Ytcpkhgdjckogjaa.Fx
set_option maxRecDepth 100000
set_option linter.unusedVariables false

theorem put2_no {xs : List Value} {w : World} {l : Value} (at_ n : Int) (hl : RdS w l xs) (hb : xs.length ≤ 9223372036854775807) (h : at_ < 0 ∨ (xs.length : Int) - 2 < at_ ∨ n < 0 ∨ 65535 < n) :
    Ret Try.prog 64 #[l, I at_, I n] w fun v w' => v = .bool false ∧ Hp w [] w' := by
  refine Ret_of_W (args := [_, _, _]) Try.func64 rfl Try.ntmps64 Try.results64 (by simp) ?_
  have H := Hp.refl w
  obtain ⟨ao, ca, rfl, hca, hra⟩ := id hl
  by_cases h1 : at_ < 0
  · refine W_seq ?_
    refine W_region_l ?_
    refine WL_stepM rfl (R_as) ?_
    refine WL_nil ?_
    refine W_seq ?_
    refine W_seq ?_
    refine W_region_l ?_
    refine WL_stepM rfl (R_mv) ?_
    refine WL_step rfl (R_lt_t rfl rfl (by omega)) ?_
    refine WL_stepM rfl (R_mv) ?_
    refine WL_guard_f rfl rfl (by decide) ?_
    refine WL_guard_f rfl rfl (by decide) ?_
    refine WL_guard_f rfl rfl (by decide) ?_
    refine WL_guard_f rfl rfl (by decide) ?_
    refine WL_guard_f rfl rfl (by decide) ?_
    refine WL_stepM rfl (R_pk_t rfl) ?_
    refine WL_stepM rfl (R_mv) ?_
    refine WL_guard_f rfl rfl (by decide) ?_
    refine WL_guard_f rfl rfl (by decide) ?_
    refine WL_stepM rfl (R_pk_t rfl) ?_
    refine WL_stepM rfl (R_mv) ?_
    refine WL_guard_f rfl rfl (by decide) ?_
    refine WL_guard_f rfl rfl (by decide) ?_
    refine WL_stepM rfl (R_pk_t rfl) ?_
    refine WL_nil ?_
    refine W_cond_t rfl ?_
    refine W_seq ?_
    refine W_region_l ?_
    refine WL_stepM rfl (R_as) ?_
    refine WL_nil ?_
    refine W_ret ?_
    exact ⟨_, rfl, rfl, H⟩
  · by_cases h2 : (xs.length : Int) - 2 < at_
    · refine W_seq ?_
      refine W_region_l ?_
      refine WL_stepM rfl (R_as) ?_
      refine WL_nil ?_
      refine W_seq ?_
      refine W_seq ?_
      refine W_region_l ?_
      refine WL_stepM rfl (R_mv) ?_
      refine WL_step rfl (R_lt_f rfl rfl (by omega)) ?_
      refine WL_stepM rfl (R_mv) ?_
      refine WL_guard_t rfl rfl ?_
      refine WL_stepM rfl (R_mv) ?_
      refine WL_guard_t rfl rfl ?_
      refine WL_stepM rfl (R_mv) ?_
      refine WL_guard_t rfl rfl ?_
      refine WL_step rfl (R_len_slice Try.underlying22 rfl) ?_
      refine WL_guard_t rfl rfl ?_
      refine WL_step rfl (R_sub rfl rfl (w_i64 (by omega))) ?_
      refine WL_guard_t rfl rfl ?_
      refine WL_step rfl (R_gt_t rfl rfl (by omega)) ?_
      refine WL_stepM rfl (R_pk_f rfl) ?_
      refine WL_stepM rfl (R_mv) ?_
      refine WL_guard_f rfl rfl (by decide) ?_
      refine WL_guard_f rfl rfl (by decide) ?_
      refine WL_stepM rfl (R_pk_t rfl) ?_
      refine WL_stepM rfl (R_mv) ?_
      refine WL_guard_f rfl rfl (by decide) ?_
      refine WL_guard_f rfl rfl (by decide) ?_
      refine WL_stepM rfl (R_pk_t rfl) ?_
      refine WL_nil ?_
      refine W_cond_t rfl ?_
      refine W_seq ?_
      refine W_region_l ?_
      refine WL_stepM rfl (R_as) ?_
      refine WL_nil ?_
      refine W_ret ?_
      exact ⟨_, rfl, rfl, H⟩
    · by_cases h3 : n < 0
      · refine W_seq ?_
        refine W_region_l ?_
        refine WL_stepM rfl (R_as) ?_
        refine WL_nil ?_
        refine W_seq ?_
        refine W_seq ?_
        refine W_region_l ?_
        refine WL_stepM rfl (R_mv) ?_
        refine WL_step rfl (R_lt_f rfl rfl (by omega)) ?_
        refine WL_stepM rfl (R_mv) ?_
        refine WL_guard_t rfl rfl ?_
        refine WL_stepM rfl (R_mv) ?_
        refine WL_guard_t rfl rfl ?_
        refine WL_stepM rfl (R_mv) ?_
        refine WL_guard_t rfl rfl ?_
        refine WL_step rfl (R_len_slice Try.underlying22 rfl) ?_
        refine WL_guard_t rfl rfl ?_
        refine WL_step rfl (R_sub rfl rfl (w_i64 (by omega))) ?_
        refine WL_guard_t rfl rfl ?_
        refine WL_step rfl (R_gt_f rfl rfl (by omega)) ?_
        refine WL_stepM rfl (R_pk_f rfl) ?_
        refine WL_stepM rfl (R_mv) ?_
        refine WL_guard_t rfl rfl ?_
        refine WL_stepM rfl (R_mv) ?_
        refine WL_guard_t rfl rfl ?_
        refine WL_step rfl (R_lt_t rfl rfl (by omega)) ?_
        refine WL_stepM rfl (R_pk_f rfl) ?_
        refine WL_stepM rfl (R_mv) ?_
        refine WL_guard_f rfl rfl (by decide) ?_
        refine WL_guard_f rfl rfl (by decide) ?_
        refine WL_stepM rfl (R_pk_t rfl) ?_
        refine WL_nil ?_
        refine W_cond_t rfl ?_
        refine W_seq ?_
        refine W_region_l ?_
        refine WL_stepM rfl (R_as) ?_
        refine WL_nil ?_
        refine W_ret ?_
        exact ⟨_, rfl, rfl, H⟩
      · refine W_seq ?_
        refine W_region_l ?_
        refine WL_stepM rfl (R_as) ?_
        refine WL_nil ?_
        refine W_seq ?_
        refine W_seq ?_
        refine W_region_l ?_
        refine WL_stepM rfl (R_mv) ?_
        refine WL_step rfl (R_lt_f rfl rfl (by omega)) ?_
        refine WL_stepM rfl (R_mv) ?_
        refine WL_guard_t rfl rfl ?_
        refine WL_stepM rfl (R_mv) ?_
        refine WL_guard_t rfl rfl ?_
        refine WL_stepM rfl (R_mv) ?_
        refine WL_guard_t rfl rfl ?_
        refine WL_step rfl (R_len_slice Try.underlying22 rfl) ?_
        refine WL_guard_t rfl rfl ?_
        refine WL_step rfl (R_sub rfl rfl (w_i64 (by omega))) ?_
        refine WL_guard_t rfl rfl ?_
        refine WL_step rfl (R_gt_f rfl rfl (by omega)) ?_
        refine WL_stepM rfl (R_pk_f rfl) ?_
        refine WL_stepM rfl (R_mv) ?_
        refine WL_guard_t rfl rfl ?_
        refine WL_stepM rfl (R_mv) ?_
        refine WL_guard_t rfl rfl ?_
        refine WL_step rfl (R_lt_f rfl rfl (by omega)) ?_
        refine WL_stepM rfl (R_pk_f rfl) ?_
        refine WL_stepM rfl (R_mv) ?_
        refine WL_guard_t rfl rfl ?_
        refine WL_stepM rfl (R_mv) ?_
        refine WL_guard_t rfl rfl ?_
        refine WL_step rfl (R_gt_t rfl rfl (by omega)) ?_
        refine WL_stepM rfl (R_pk_f rfl) ?_
        refine WL_nil ?_
        refine W_cond_t rfl ?_
        refine W_seq ?_
        refine W_region_l ?_
        refine WL_stepM rfl (R_as) ?_
        refine WL_nil ?_
        refine W_ret ?_
        exact ⟨_, rfl, rfl, H⟩

theorem put2_yes {c : List Value} {w : World} {b off len cap e k m : Nat} (hb : w.heap[b]? = some (blk c e)) (h1 : k + 2 ≤ len) (h2 : off + len ≤ c.length) (h3 : m ≤ 65535) (hlc : len ≤ 9223372036854775807) :
    Ret Try.prog 64 #[sl b off len cap, I k, I m] w fun v w' => v = .bool true ∧ Hp w [(b, blk ((c.set (off + k) (U (UInt8.ofNat (m / 256)))).set (off + k + 1) (U (UInt8.ofNat m))) e)] w' := by
  refine Ret_of_W (args := [_, _, _]) Try.func64 rfl Try.ntmps64 Try.results64 (by simp) ?_
  have H := Hp.focus0 hb
  refine W_seq ?_
  refine W_region_l ?_
  refine WL_stepM rfl (R_as) ?_
  refine WL_nil ?_
  refine W_seq ?_
  refine W_seq ?_
  refine W_region_l ?_
  refine WL_stepM rfl (R_mv) ?_
  refine WL_step rfl (R_lt_f rfl rfl (by omega)) ?_
  refine WL_stepM rfl (R_mv) ?_
  refine WL_guard_t rfl rfl ?_
  refine WL_stepM rfl (R_mv) ?_
  refine WL_guard_t rfl rfl ?_
  refine WL_stepM rfl (R_mv) ?_
  refine WL_guard_t rfl rfl ?_
  refine WL_step rfl (R_len_slice Try.underlying22 rfl) ?_
  refine WL_guard_t rfl rfl ?_
  refine WL_step rfl (R_sub rfl rfl (w_i64 (by omega))) ?_
  refine WL_guard_t rfl rfl ?_
  refine WL_step rfl (R_gt_f rfl rfl (by omega)) ?_
  refine WL_stepM rfl (R_pk_f rfl) ?_
  refine WL_stepM rfl (R_mv) ?_
  refine WL_guard_t rfl rfl ?_
  refine WL_stepM rfl (R_mv) ?_
  refine WL_guard_t rfl rfl ?_
  refine WL_step rfl (R_lt_f rfl rfl (by omega)) ?_
  refine WL_stepM rfl (R_pk_f rfl) ?_
  refine WL_stepM rfl (R_mv) ?_
  refine WL_guard_t rfl rfl ?_
  refine WL_stepM rfl (R_mv) ?_
  refine WL_guard_t rfl rfl ?_
  refine WL_step rfl (R_gt_f rfl rfl (by omega)) ?_
  refine WL_stepM rfl (R_pk_f rfl) ?_
  refine WL_nil ?_
  refine W_cond_f rfl ?_
  refine W_skip ?_
  refine W_seq ?_
  refine W_region_l ?_
  refine WL_stepM rfl (R_mv) ?_
  refine WL_stepM rfl (R_mv) ?_
  refine WL_stepM rfl (R_mv) ?_
  refine WL_stepM rfl (R_mv) ?_
  refine WL_step rfl (R_add rfl rfl (w_i64 (by omega))) ?_
  refine WL_stepM rfl (R_mv) ?_
  refine WL_step rfl (R_shr rfl rfl (by decide) (shr_any 256 (by decide))) ?_
  refine WL_step rfl (R_conv_int Try.underlying3 Try.underlying5 rfl u8_ofNat) ?_
  refine WL_stepM rfl (R_mv) ?_
  refine WL_step rfl (R_conv_int Try.underlying3 Try.underlying5 rfl u8_ofNat) ?_
  refine WL_step rfl (R_indexAddr Try.underlying22 Try.sizeOf5 rfl rfl (by omega) (by omega) idx_cast1) ?_
  (refine WL_effu rfl (E_store (v := (.int _ _)) H Try.sizeOf5 rfl rfl rfl .here (by omega)) ?_; clear H; intro w50 H)
  refine WL_step rfl (R_indexAddr (off' := off + k + 1) Try.underlying22 Try.sizeOf5 rfl rfl (by omega) (by omega) (by omega)) ?_
  (refine WL_effu rfl (E_store (v := (.int _ _)) H Try.sizeOf5 rfl rfl rfl .here (by simp; omega)) ?_; clear H; intro w52 H)
  refine WL_nil ?_
  refine W_seq ?_
  refine W_region_l ?_
  refine WL_stepM rfl (R_as) ?_
  refine WL_nil ?_
  refine W_ret ?_
  exact ⟨_, rfl, rfl, H⟩

theorem get2_no {xs : List Value} {w : World} {l : Value} (at_ : Int) (hl : RdS w l xs) (hb : xs.length ≤ 9223372036854775807) (h : at_ < 0 ∨ (xs.length : Int) - 2 < at_) :
    Ret Try.prog 66 #[l, I at_] w fun v w' => v = .tuple #[I 0, .bool false] ∧ Hp w [] w' := by
  refine Ret_of_W (args := [_, _]) Try.func66 rfl Try.ntmps66 Try.results66 (by simp) ?_
  have H := Hp.refl w
  obtain ⟨ao, ca, rfl, hca, hra⟩ := id hl
  by_cases h1 : at_ < 0
  · refine W_seq ?_
    refine W_region_l ?_
    refine WL_stepM rfl (R_as) ?_
    refine WL_stepM rfl (R_as) ?_
    refine WL_nil ?_
    refine W_seq ?_
    refine W_seq ?_
    refine W_region_l ?_
    refine WL_stepM rfl (R_mv) ?_
    refine WL_step rfl (R_lt_t rfl rfl (by omega)) ?_
    refine WL_stepM rfl (R_mv) ?_
    refine WL_guard_f rfl rfl (by decide) ?_
    refine WL_guard_f rfl rfl (by decide) ?_
    refine WL_guard_f rfl rfl (by decide) ?_
    refine WL_guard_f rfl rfl (by decide) ?_
    refine WL_guard_f rfl rfl (by decide) ?_
    refine WL_stepM rfl (R_pk_t rfl) ?_
    refine WL_nil ?_
    refine W_cond_t rfl ?_
    refine W_seq ?_
    refine W_region_l ?_
    refine WL_stepM rfl (R_as) ?_
    refine WL_stepM rfl (R_as) ?_
    refine WL_nil ?_
    refine W_ret ?_
    exact ⟨_, rfl, rfl, H⟩
  · refine W_seq ?_
    refine W_region_l ?_
    refine WL_stepM rfl (R_as) ?_
    refine WL_stepM rfl (R_as) ?_
    refine WL_nil ?_
    refine W_seq ?_
    refine W_seq ?_
    refine W_region_l ?_
    refine WL_stepM rfl (R_mv) ?_
    refine WL_step rfl (R_lt_f rfl rfl (by omega)) ?_
    refine WL_stepM rfl (R_mv) ?_
    refine WL_guard_t rfl rfl ?_
    refine WL_stepM rfl (R_mv) ?_
    refine WL_guard_t rfl rfl ?_
    refine WL_stepM rfl (R_mv) ?_
    refine WL_guard_t rfl rfl ?_
    refine WL_step rfl (R_len_slice Try.underlying22 rfl) ?_
    refine WL_guard_t rfl rfl ?_
    refine WL_step rfl (R_sub rfl rfl (w_i64 (by omega))) ?_
    refine WL_guard_t rfl rfl ?_
    refine WL_step rfl (R_gt_t rfl rfl (by omega)) ?_
    refine WL_stepM rfl (R_pk_f rfl) ?_
    refine WL_nil ?_
    refine W_cond_t rfl ?_
    refine W_seq ?_
    refine W_region_l ?_
    refine WL_stepM rfl (R_as) ?_
    refine WL_stepM rfl (R_as) ?_
    refine WL_nil ?_
    refine W_ret ?_
    exact ⟨_, rfl, rfl, H⟩

theorem get2_yes {xs : List UInt8} {w : World} {l : Value} {k : Nat} (hl : RdS w l (xs.map U)) (hb : xs.length ≤ 9223372036854775807) (h : k + 2 ≤ xs.length) :
    Ret Try.prog 66 #[l, I k] w fun v w' => v = .tuple #[I ((xs[k]'(by omega)).toNat * 256 + (xs[k + 1]'(by omega)).toNat), .bool true] ∧ Hp w [] w' := by
  refine Ret_of_W (args := [_, _]) Try.func66 rfl Try.ntmps66 Try.results66 (by simp) ?_
  have H := Hp.refl w
  obtain ⟨ao, ca, rfl, hca, hra⟩ := id hl
  obtain ⟨b, off, rfl, hc⟩ : ∃ b off, ao = some ⟨b, off, none⟩ ∧ ∀ j u, (xs.map U)[j]? = some u → w.cell? ⟨b, off + j, none⟩ = some u := by
    rcases hra with h0 | h0
    · simp at h0; subst h0; simp at h
    · exact h0
  have hc1 := hc k (U (xs[k]'(by omega))) (by rw [List.getElem?_map, List.getElem?_eq_getElem (by omega)]; rfl)
  have hc2 := hc (k + 1) (U (xs[k + 1]'(by omega))) (by rw [List.getElem?_map, List.getElem?_eq_getElem (by omega)]; rfl)
  have hk1 := (xs[k]'(by omega)).toNat_lt
  have hk2 := (xs[k + 1]'(by omega)).toNat_lt
  simp only [List.length_map] at hl ⊢
  refine W_seq ?_
  refine W_region_l ?_
  refine WL_stepM rfl (R_as) ?_
  refine WL_stepM rfl (R_as) ?_
  refine WL_nil ?_
  refine W_seq ?_
  refine W_seq ?_
  refine W_region_l ?_
  refine WL_stepM rfl (R_mv) ?_
  refine WL_step rfl (R_lt_f rfl rfl (by omega)) ?_
  refine WL_stepM rfl (R_mv) ?_
  refine WL_guard_t rfl rfl ?_
  refine WL_stepM rfl (R_mv) ?_
  refine WL_guard_t rfl rfl ?_
  refine WL_stepM rfl (R_mv) ?_
  refine WL_guard_t rfl rfl ?_
  refine WL_step rfl (R_len_slice Try.underlying22 rfl) ?_
  refine WL_guard_t rfl rfl ?_
  refine WL_step rfl (R_sub rfl rfl (w_i64 (by omega))) ?_
  refine WL_guard_t rfl rfl ?_
  refine WL_step rfl (R_gt_f rfl rfl (by omega)) ?_
  refine WL_stepM rfl (R_pk_f rfl) ?_
  refine WL_nil ?_
  refine W_cond_f rfl ?_
  refine W_skip ?_
  refine W_seq ?_
  (refine W_drawH (fun _ => false) (by kernel_rfl) H ?_; clear H; intro w27 H)
  refine WA_takeM 0 rfl rfl rfl (by kernel_rfl) (by kernel_rfl) H (fun _ hC => R_mv) ?_
  refine WA_takeM 1 rfl rfl rfl (by kernel_rfl) (by kernel_rfl) H (fun _ hC => R_mv) ?_
  refine WA_take 2 rfl rfl rfl (by kernel_rfl) (by kernel_rfl) H (fun _ hC => R_indexAddr Try.underlying22 Try.sizeOf5 rfl rfl (by omega) (by omega) idx_cast1) ?_
  refine WA_take 3 rfl rfl rfl (by kernel_rfl) (by kernel_rfl) H (fun _ hC => R_load_cell Try.isAgg5 rfl (hC.cell hc1 (by simp))) ?_
  refine WA_take 4 rfl rfl rfl (by kernel_rfl) (by kernel_rfl) H (fun _ hC => R_conv_int Try.underlying5 Try.underlying3 rfl u8_in_i64) ?_
  refine WA_take 5 rfl rfl rfl (by kernel_rfl) (by kernel_rfl) H (fun _ hC => R_shl rfl rfl (by decide) (shl_i64 256 (by decide) (by omega))) ?_
  refine WA_takeM 6 rfl rfl rfl (by kernel_rfl) (by kernel_rfl) H (fun _ hC => R_mv) ?_
  refine WA_takeM 7 rfl rfl rfl (by kernel_rfl) (by kernel_rfl) H (fun _ hC => R_mv) ?_
  refine WA_take 8 rfl rfl rfl (by kernel_rfl) (by kernel_rfl) H (fun _ hC => R_add rfl rfl (w_i64 (by omega))) ?_
  refine WA_take 9 rfl rfl rfl (by kernel_rfl) (by kernel_rfl) H (fun _ hC => R_indexAddr (off' := off + (k + 1)) Try.underlying22 Try.sizeOf5 rfl rfl (by omega) (by omega) (by omega)) ?_
  refine WA_take 10 rfl rfl rfl (by kernel_rfl) (by kernel_rfl) H (fun _ hC => R_load_cell Try.isAgg5 rfl (hC.cell hc2 (by simp))) ?_
  refine WA_take 11 rfl rfl rfl (by kernel_rfl) (by kernel_rfl) H (fun _ hC => R_conv_int Try.underlying5 Try.underlying3 rfl u8_in_i64) ?_
  refine WA_take 12 rfl rfl rfl (by kernel_rfl) (by kernel_rfl) H (fun _ hC => R_bits rfl rfl (by simp) (or_bytes _ _)) ?_
  refine WA_takeM 13 rfl rfl rfl (by kernel_rfl) (by kernel_rfl) H (fun _ hC => R_as) ?_
  refine WA_takeM 14 rfl rfl rfl (by kernel_rfl) (by kernel_rfl) H (fun _ hC => R_as) ?_
  refine WA_done (by kernel_rfl) ?_
  refine W_ret ?_
  exact ⟨_, rfl, rfl, H⟩
end Go.Proofs.Ytcpkhgdjckogjaa.Codec

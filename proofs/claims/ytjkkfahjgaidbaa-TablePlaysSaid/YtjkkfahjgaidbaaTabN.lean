/-
  What the reference's Names do: what is there, taken, given back.
-/
import Derived.Test.YtjkkfahjgaidbaaTabR
namespace Go.Proofs.Ytjkkfahjgaidbaa.TabR
open Go Go.Proofs Go.Proofs.Ytjkkfahjgaidbaa.Fx Go.Proofs.Ytjkkfahjgaidbaa.Tab
set_option maxRecDepth 100000
set_option linter.unusedVariables false
set_option linter.unusedSimpArgs false
set_option maxHeartbeats 4000000

section
variable {w : World} {nb bL cap : Nat} {l : List Pl} {sp : List Value} {N : Nat}
theorem open_pos (h0 : N ≠ 0) (hn : w.heap[nb]? = some (blk [vR N bL cap] 120)) (hb : ∀ p ∈ LR N bL l sp, w.heap[p.1]? = some p.2) :
    w.heap[nb]? = some (blk [sl bL 0 N cap] 120) ∧ w.heap[bL]? = some (blk (rows rc l ++ sp) 122) := by
  rw [vR_pos h0] at hn
  rw [LR_pos h0] at hb
  exact ⟨hn, hb _ (.head _)⟩

theorem has_yes {i : Nat} {a : Pl} (hn : w.heap[nb]? = some (blk [vR N bL cap] 120)) (hb : ∀ p ∈ LR N bL l sp, w.heap[p.1]? = some p.2) (hN : l.length = N) (hN2 : N ≤ 256) (h : l[i]? = some a) (hg : a.g ≤ 1000001) (hu : a.u = true) :
    Ret Try.prog 45 #[ptr nb 0, I (i + 256 * a.g : Nat)] w fun v w' => v = .bool true ∧ Hp w [] w' := by
  have hi := (List.getElem?_eq_some_iff.1 h).1
  obtain ⟨hn, hb⟩ := open_pos (by omega) hn hb
  refine Ret_of_W (args := [_, _]) Try.func45 rfl Try.ntmps45 Try.results45 (by simp) ?_
  have H := Hp.refl w
  have hus := rc_u (sp := sp) h
  have hgs := rc_g (sp := sp) h
  rw [hu] at hus
  refine W_seq ?_
  refine W_region_l ?_
  refine WL_stepM rfl (R_as) ?_
  refine WL_nil ?_
  refine W_seq ?_
  refine W_region_l ?_
  refine WL_stepM rfl (R_mv) ?_
  refine WL_step rfl (R_bits (r := (i : Int)) rfl rfl (by simp) ((and_mask_i64 8 256 (by decide) rfl (by decide)).trans (by omega))) ?_
  refine WL_stepM rfl (R_as) ?_
  refine WL_nil ?_
  refine W_seq ?_
  refine W_region_l ?_
  refine WL_stepM rfl (R_mv) ?_
  refine WL_step rfl (R_ge_t rfl rfl (by omega)) ?_
  refine WL_stepM rfl (R_mv) ?_
  refine WL_guard_t rfl rfl ?_
  refine WL_stepM rfl (R_mv) ?_
  refine WL_guard_t rfl rfl ?_
  refine WL_stepM rfl (R_mv) ?_
  refine WL_guard_t rfl rfl ?_
  refine WL_step rfl (R_nilCheck rfl) ?_
  refine WL_guard_t rfl rfl ?_
  refine WL_step rfl (R_fieldAddr (off' := 0) Try.underlying120 rfl Try.sizeOf118 (by decide) rfl rfl) ?_
  refine WL_guard_t rfl rfl ?_
  refine WL_step rfl (R_load Try.isAgg118 rfl (H.block hn (by simp)) rfl) ?_
  refine WL_guard_t rfl rfl ?_
  refine WL_step rfl (R_len_slice Try.underlying118 rfl) ?_
  refine WL_guard_t rfl rfl ?_
  refine WL_step rfl (R_lt_t rfl rfl (by omega)) ?_
  refine WL_stepM rfl (R_pk_t rfl) ?_
  refine WL_stepM rfl (R_mv) ?_
  refine WL_guard_t rfl rfl ?_
  refine WL_stepM rfl (R_mv) ?_
  refine WL_guard_t rfl rfl ?_
  refine WL_step rfl (R_nilCheck rfl) ?_
  refine WL_guard_t rfl rfl ?_
  refine WL_step rfl (R_fieldAddr (off' := 0) Try.underlying120 rfl Try.sizeOf118 (by decide) rfl rfl) ?_
  refine WL_guard_t rfl rfl ?_
  refine WL_step rfl (R_load Try.isAgg118 rfl (H.block hn (by simp)) rfl) ?_
  refine WL_guard_t rfl rfl ?_
  refine WL_stepM rfl (R_mv) ?_
  refine WL_guard_t rfl rfl ?_
  refine WL_step rfl (R_indexAddr Try.underlying118 Try.sizeOf122 rfl rfl (by omega) (by omega) idx0_castn) ?_
  refine WL_guard_t rfl rfl ?_
  refine WL_step rfl (R_fieldAddr (off' := _ + 1) Try.underlying122 rfl Try.sizeOf4 (by decide) rfl rfl) ?_
  refine WL_guard_t rfl rfl ?_
  refine WL_step rfl (R_load Try.isAgg4 rfl (H.block hb (by simp)) hus) ?_
  refine WL_stepM rfl (R_pk_t rfl) ?_
  refine WL_stepM rfl (R_mv) ?_
  refine WL_guard_t rfl rfl ?_
  refine WL_stepM rfl (R_mv) ?_
  refine WL_guard_t rfl rfl ?_
  refine WL_step rfl (R_nilCheck rfl) ?_
  refine WL_guard_t rfl rfl ?_
  refine WL_step rfl (R_fieldAddr (off' := 0) Try.underlying120 rfl Try.sizeOf118 (by decide) rfl rfl) ?_
  refine WL_guard_t rfl rfl ?_
  refine WL_step rfl (R_load Try.isAgg118 rfl (H.block hn (by simp)) rfl) ?_
  refine WL_guard_t rfl rfl ?_
  refine WL_stepM rfl (R_mv) ?_
  refine WL_guard_t rfl rfl ?_
  refine WL_step rfl (R_indexAddr Try.underlying118 Try.sizeOf122 rfl rfl (by omega) (by omega) idx0_castn) ?_
  refine WL_guard_t rfl rfl ?_
  refine WL_step rfl (R_fieldAddr Try.underlying122 rfl Try.sizeOf3 (by decide) rfl rfl) ?_
  refine WL_guard_t rfl rfl ?_
  refine WL_step rfl (R_load Try.isAgg3 rfl (H.block hb (by simp)) hgs) ?_
  refine WL_guard_t rfl rfl ?_
  refine WL_stepM rfl (R_mv) ?_
  refine WL_guard_t rfl rfl ?_
  refine WL_step rfl (R_shr (r := (a.g : Int)) rfl rfl (by decide) ((shr_any 256 (by decide)).trans (by omega))) ?_
  refine WL_guard_t rfl rfl ?_
  refine WL_step rfl (R_eq_t rfl rfl rfl) ?_
  refine WL_stepM rfl (R_pk_t rfl) ?_
  refine WL_stepM rfl (R_as) ?_
  refine WL_nil ?_
  refine W_ret ?_
  exact ⟨_, rfl, rfl, H⟩

theorem has_no {n : Int} (hn : w.heap[nb]? = some (blk [vR N bL cap] 120)) (hb : ∀ p ∈ LR N bL l sp, w.heap[p.1]? = some p.2) (hN : l.length = N) (hN2 : N ≤ 256) (hg : ∀ a ∈ l, a.g ≤ 1000001)
    (hno : ∀ (i : Nat) (a : Pl), l[i]? = some a → a.u = true → n ≠ ((i + 256 * a.g : Nat) : Int)) :
    Ret Try.prog 45 #[ptr nb 0, I n] w fun v w' => v = .bool false ∧ Hp w [] w' := by
  refine Ret_of_W (args := [_, _]) Try.func45 rfl Try.ntmps45 Try.results45 (by simp) ?_
  have H := Hp.refl w
  by_cases h0 : n < 0
  · refine W_seq ?_
    refine W_region_l ?_
    refine WL_stepM rfl (R_as) ?_
    refine WL_nil ?_
    refine W_seq ?_
    refine W_region_l ?_
    refine WL_stepM rfl (R_mv) ?_
    refine WL_step rfl (R_bits rfl rfl (by simp) (and_mask_i64 8 256 (by decide) rfl (by decide))) ?_
    refine WL_stepM rfl (R_as) ?_
    refine WL_nil ?_
    refine W_seq ?_
    refine W_region_l ?_
    refine WL_stepM rfl (R_mv) ?_
    refine WL_step rfl (R_ge_f rfl rfl (by omega)) ?_
    refine WL_stepM rfl (R_mv) ?_
    refine WL_guard_f rfl rfl (by decide) ?_
    refine WL_guard_f rfl rfl (by decide) ?_
    refine WL_guard_f rfl rfl (by decide) ?_
    refine WL_guard_f rfl rfl (by decide) ?_
    refine WL_guard_f rfl rfl (by decide) ?_
    refine WL_guard_f rfl rfl (by decide) ?_
    refine WL_guard_f rfl rfl (by decide) ?_
    refine WL_stepM rfl (R_pk_f rfl) ?_
    refine WL_stepM rfl (R_mv) ?_
    refine WL_guard_f rfl rfl (by decide) ?_
    refine WL_guard_f rfl rfl (by decide) ?_
    refine WL_guard_f rfl rfl (by decide) ?_
    refine WL_guard_f rfl rfl (by decide) ?_
    refine WL_guard_f rfl rfl (by decide) ?_
    refine WL_guard_f rfl rfl (by decide) ?_
    refine WL_guard_f rfl rfl (by decide) ?_
    refine WL_guard_f rfl rfl (by decide) ?_
    refine WL_stepM rfl (R_pk_f rfl) ?_
    refine WL_stepM rfl (R_mv) ?_
    refine WL_guard_f rfl rfl (by decide) ?_
    refine WL_guard_f rfl rfl (by decide) ?_
    refine WL_guard_f rfl rfl (by decide) ?_
    refine WL_guard_f rfl rfl (by decide) ?_
    refine WL_guard_f rfl rfl (by decide) ?_
    refine WL_guard_f rfl rfl (by decide) ?_
    refine WL_guard_f rfl rfl (by decide) ?_
    refine WL_guard_f rfl rfl (by decide) ?_
    refine WL_guard_f rfl rfl (by decide) ?_
    refine WL_guard_f rfl rfl (by decide) ?_
    refine WL_guard_f rfl rfl (by decide) ?_
    refine WL_stepM rfl (R_pk_f rfl) ?_
    refine WL_stepM rfl (R_as) ?_
    refine WL_nil ?_
    refine W_ret ?_
    exact ⟨_, rfl, rfl, H⟩
  · obtain ⟨i, hi⟩ : ∃ i : Nat, n % 256 = (i : Int) := ⟨(n % 256).toNat, by omega⟩
    by_cases hN0 : N = 0
    · subst hN0
      have hn' : w.heap[nb]? = some (blk [nilS] 120) := hn
      refine W_seq ?_
      refine W_region_l ?_
      refine WL_stepM rfl (R_as) ?_
      refine WL_nil ?_
      refine W_seq ?_
      refine W_region_l ?_
      refine WL_stepM rfl (R_mv) ?_
      refine WL_step rfl (R_bits (r := (i : Int)) rfl rfl (by simp) ((and_mask_i64 8 256 (by decide) rfl (by decide)).trans hi)) ?_
      refine WL_stepM rfl (R_as) ?_
      refine WL_nil ?_
      refine W_seq ?_
      refine W_region_l ?_
      refine WL_stepM rfl (R_mv) ?_
      refine WL_step rfl (R_ge_t rfl rfl (by omega)) ?_
      refine WL_stepM rfl (R_mv) ?_
      refine WL_guard_t rfl rfl ?_
      refine WL_stepM rfl (R_mv) ?_
      refine WL_guard_t rfl rfl ?_
      refine WL_stepM rfl (R_mv) ?_
      refine WL_guard_t rfl rfl ?_
      refine WL_step rfl (R_nilCheck rfl) ?_
      refine WL_guard_t rfl rfl ?_
      refine WL_step rfl (R_fieldAddr (off' := 0) Try.underlying120 rfl Try.sizeOf118 (by decide) rfl rfl) ?_
      refine WL_guard_t rfl rfl ?_
      refine WL_step rfl (R_load (v := nilS) Try.isAgg118 rfl (H.block hn' (by simp)) rfl) ?_
      refine WL_guard_t rfl rfl ?_
      refine WL_step rfl (R_len_slice (len := 0) Try.underlying118 rfl) ?_
      refine WL_guard_t rfl rfl ?_
      refine WL_step rfl (R_lt_f rfl rfl (by omega)) ?_
      refine WL_stepM rfl (R_pk_t rfl) ?_
      refine WL_stepM rfl (R_mv) ?_
      refine WL_guard_f rfl rfl (by decide) ?_
      refine WL_guard_f rfl rfl (by decide) ?_
      refine WL_guard_f rfl rfl (by decide) ?_
      refine WL_guard_f rfl rfl (by decide) ?_
      refine WL_guard_f rfl rfl (by decide) ?_
      refine WL_guard_f rfl rfl (by decide) ?_
      refine WL_guard_f rfl rfl (by decide) ?_
      refine WL_guard_f rfl rfl (by decide) ?_
      refine WL_stepM rfl (R_pk_f rfl) ?_
      refine WL_stepM rfl (R_mv) ?_
      refine WL_guard_f rfl rfl (by decide) ?_
      refine WL_guard_f rfl rfl (by decide) ?_
      refine WL_guard_f rfl rfl (by decide) ?_
      refine WL_guard_f rfl rfl (by decide) ?_
      refine WL_guard_f rfl rfl (by decide) ?_
      refine WL_guard_f rfl rfl (by decide) ?_
      refine WL_guard_f rfl rfl (by decide) ?_
      refine WL_guard_f rfl rfl (by decide) ?_
      refine WL_guard_f rfl rfl (by decide) ?_
      refine WL_guard_f rfl rfl (by decide) ?_
      refine WL_guard_f rfl rfl (by decide) ?_
      refine WL_stepM rfl (R_pk_f rfl) ?_
      refine WL_stepM rfl (R_as) ?_
      refine WL_nil ?_
      refine W_ret ?_
      exact ⟨_, rfl, rfl, H⟩
    · obtain ⟨hn, hb⟩ := open_pos hN0 hn hb
      by_cases h1 : N ≤ i
      · refine W_seq ?_
        refine W_region_l ?_
        refine WL_stepM rfl (R_as) ?_
        refine WL_nil ?_
        refine W_seq ?_
        refine W_region_l ?_
        refine WL_stepM rfl (R_mv) ?_
        refine WL_step rfl (R_bits (r := (i : Int)) rfl rfl (by simp) ((and_mask_i64 8 256 (by decide) rfl (by decide)).trans hi)) ?_
        refine WL_stepM rfl (R_as) ?_
        refine WL_nil ?_
        refine W_seq ?_
        refine W_region_l ?_
        refine WL_stepM rfl (R_mv) ?_
        refine WL_step rfl (R_ge_t rfl rfl (by omega)) ?_
        refine WL_stepM rfl (R_mv) ?_
        refine WL_guard_t rfl rfl ?_
        refine WL_stepM rfl (R_mv) ?_
        refine WL_guard_t rfl rfl ?_
        refine WL_stepM rfl (R_mv) ?_
        refine WL_guard_t rfl rfl ?_
        refine WL_step rfl (R_nilCheck rfl) ?_
        refine WL_guard_t rfl rfl ?_
        refine WL_step rfl (R_fieldAddr (off' := 0) Try.underlying120 rfl Try.sizeOf118 (by decide) rfl rfl) ?_
        refine WL_guard_t rfl rfl ?_
        refine WL_step rfl (R_load Try.isAgg118 rfl (H.block hn (by simp)) rfl) ?_
        refine WL_guard_t rfl rfl ?_
        refine WL_step rfl (R_len_slice Try.underlying118 rfl) ?_
        refine WL_guard_t rfl rfl ?_
        refine WL_step rfl (R_lt_f rfl rfl (by omega)) ?_
        refine WL_stepM rfl (R_pk_t rfl) ?_
        refine WL_stepM rfl (R_mv) ?_
        refine WL_guard_f rfl rfl (by decide) ?_
        refine WL_guard_f rfl rfl (by decide) ?_
        refine WL_guard_f rfl rfl (by decide) ?_
        refine WL_guard_f rfl rfl (by decide) ?_
        refine WL_guard_f rfl rfl (by decide) ?_
        refine WL_guard_f rfl rfl (by decide) ?_
        refine WL_guard_f rfl rfl (by decide) ?_
        refine WL_guard_f rfl rfl (by decide) ?_
        refine WL_stepM rfl (R_pk_f rfl) ?_
        refine WL_stepM rfl (R_mv) ?_
        refine WL_guard_f rfl rfl (by decide) ?_
        refine WL_guard_f rfl rfl (by decide) ?_
        refine WL_guard_f rfl rfl (by decide) ?_
        refine WL_guard_f rfl rfl (by decide) ?_
        refine WL_guard_f rfl rfl (by decide) ?_
        refine WL_guard_f rfl rfl (by decide) ?_
        refine WL_guard_f rfl rfl (by decide) ?_
        refine WL_guard_f rfl rfl (by decide) ?_
        refine WL_guard_f rfl rfl (by decide) ?_
        refine WL_guard_f rfl rfl (by decide) ?_
        refine WL_guard_f rfl rfl (by decide) ?_
        refine WL_stepM rfl (R_pk_f rfl) ?_
        refine WL_stepM rfl (R_as) ?_
        refine WL_nil ?_
        refine W_ret ?_
        exact ⟨_, rfl, rfl, H⟩
      · obtain ⟨a, h⟩ : ∃ a, l[i]? = some a := ⟨_, List.getElem?_eq_getElem (by omega)⟩
        have hus := rc_u (sp := sp) h
        have hgs := rc_g (sp := sp) h
        have hga := hg a (List.mem_of_getElem? h)
        by_cases hu : a.u = true
        · have hne := hno i a h hu
          rw [hu] at hus
          refine W_seq ?_
          refine W_region_l ?_
          refine WL_stepM rfl (R_as) ?_
          refine WL_nil ?_
          refine W_seq ?_
          refine W_region_l ?_
          refine WL_stepM rfl (R_mv) ?_
          refine WL_step rfl (R_bits (r := (i : Int)) rfl rfl (by simp) ((and_mask_i64 8 256 (by decide) rfl (by decide)).trans hi)) ?_
          refine WL_stepM rfl (R_as) ?_
          refine WL_nil ?_
          refine W_seq ?_
          refine W_region_l ?_
          refine WL_stepM rfl (R_mv) ?_
          refine WL_step rfl (R_ge_t rfl rfl (by omega)) ?_
          refine WL_stepM rfl (R_mv) ?_
          refine WL_guard_t rfl rfl ?_
          refine WL_stepM rfl (R_mv) ?_
          refine WL_guard_t rfl rfl ?_
          refine WL_stepM rfl (R_mv) ?_
          refine WL_guard_t rfl rfl ?_
          refine WL_step rfl (R_nilCheck rfl) ?_
          refine WL_guard_t rfl rfl ?_
          refine WL_step rfl (R_fieldAddr (off' := 0) Try.underlying120 rfl Try.sizeOf118 (by decide) rfl rfl) ?_
          refine WL_guard_t rfl rfl ?_
          refine WL_step rfl (R_load Try.isAgg118 rfl (H.block hn (by simp)) rfl) ?_
          refine WL_guard_t rfl rfl ?_
          refine WL_step rfl (R_len_slice Try.underlying118 rfl) ?_
          refine WL_guard_t rfl rfl ?_
          refine WL_step rfl (R_lt_t rfl rfl (by omega)) ?_
          refine WL_stepM rfl (R_pk_t rfl) ?_
          refine WL_stepM rfl (R_mv) ?_
          refine WL_guard_t rfl rfl ?_
          refine WL_stepM rfl (R_mv) ?_
          refine WL_guard_t rfl rfl ?_
          refine WL_step rfl (R_nilCheck rfl) ?_
          refine WL_guard_t rfl rfl ?_
          refine WL_step rfl (R_fieldAddr (off' := 0) Try.underlying120 rfl Try.sizeOf118 (by decide) rfl rfl) ?_
          refine WL_guard_t rfl rfl ?_
          refine WL_step rfl (R_load Try.isAgg118 rfl (H.block hn (by simp)) rfl) ?_
          refine WL_guard_t rfl rfl ?_
          refine WL_stepM rfl (R_mv) ?_
          refine WL_guard_t rfl rfl ?_
          refine WL_step rfl (R_indexAddr Try.underlying118 Try.sizeOf122 rfl rfl (by omega) (by omega) idx0_castn) ?_
          refine WL_guard_t rfl rfl ?_
          refine WL_step rfl (R_fieldAddr (off' := _ + 1) Try.underlying122 rfl Try.sizeOf4 (by decide) rfl rfl) ?_
          refine WL_guard_t rfl rfl ?_
          refine WL_step rfl (R_load Try.isAgg4 rfl (H.block hb (by simp)) hus) ?_
          refine WL_stepM rfl (R_pk_t rfl) ?_
          refine WL_stepM rfl (R_mv) ?_
          refine WL_guard_t rfl rfl ?_
          refine WL_stepM rfl (R_mv) ?_
          refine WL_guard_t rfl rfl ?_
          refine WL_step rfl (R_nilCheck rfl) ?_
          refine WL_guard_t rfl rfl ?_
          refine WL_step rfl (R_fieldAddr (off' := 0) Try.underlying120 rfl Try.sizeOf118 (by decide) rfl rfl) ?_
          refine WL_guard_t rfl rfl ?_
          refine WL_step rfl (R_load Try.isAgg118 rfl (H.block hn (by simp)) rfl) ?_
          refine WL_guard_t rfl rfl ?_
          refine WL_stepM rfl (R_mv) ?_
          refine WL_guard_t rfl rfl ?_
          refine WL_step rfl (R_indexAddr Try.underlying118 Try.sizeOf122 rfl rfl (by omega) (by omega) idx0_castn) ?_
          refine WL_guard_t rfl rfl ?_
          refine WL_step rfl (R_fieldAddr Try.underlying122 rfl Try.sizeOf3 (by decide) rfl rfl) ?_
          refine WL_guard_t rfl rfl ?_
          refine WL_step rfl (R_load Try.isAgg3 rfl (H.block hb (by simp)) hgs) ?_
          refine WL_guard_t rfl rfl ?_
          refine WL_stepM rfl (R_mv) ?_
          refine WL_guard_t rfl rfl ?_
          refine WL_step rfl (R_shr (r := n / 256) rfl rfl (by decide) (shr_any 256 (by decide))) ?_
          refine WL_guard_t rfl rfl ?_
          refine WL_step rfl (R_eq_f rfl rfl (fun e => hne (by omega))) ?_
          refine WL_stepM rfl (R_pk_t rfl) ?_
          refine WL_stepM rfl (R_as) ?_
          refine WL_nil ?_
          refine W_ret ?_
          exact ⟨_, rfl, rfl, H⟩
        · rw [Bool.not_eq_true] at hu
          rw [hu] at hus
          refine W_seq ?_
          refine W_region_l ?_
          refine WL_stepM rfl (R_as) ?_
          refine WL_nil ?_
          refine W_seq ?_
          refine W_region_l ?_
          refine WL_stepM rfl (R_mv) ?_
          refine WL_step rfl (R_bits (r := (i : Int)) rfl rfl (by simp) ((and_mask_i64 8 256 (by decide) rfl (by decide)).trans hi)) ?_
          refine WL_stepM rfl (R_as) ?_
          refine WL_nil ?_
          refine W_seq ?_
          refine W_region_l ?_
          refine WL_stepM rfl (R_mv) ?_
          refine WL_step rfl (R_ge_t rfl rfl (by omega)) ?_
          refine WL_stepM rfl (R_mv) ?_
          refine WL_guard_t rfl rfl ?_
          refine WL_stepM rfl (R_mv) ?_
          refine WL_guard_t rfl rfl ?_
          refine WL_stepM rfl (R_mv) ?_
          refine WL_guard_t rfl rfl ?_
          refine WL_step rfl (R_nilCheck rfl) ?_
          refine WL_guard_t rfl rfl ?_
          refine WL_step rfl (R_fieldAddr (off' := 0) Try.underlying120 rfl Try.sizeOf118 (by decide) rfl rfl) ?_
          refine WL_guard_t rfl rfl ?_
          refine WL_step rfl (R_load Try.isAgg118 rfl (H.block hn (by simp)) rfl) ?_
          refine WL_guard_t rfl rfl ?_
          refine WL_step rfl (R_len_slice Try.underlying118 rfl) ?_
          refine WL_guard_t rfl rfl ?_
          refine WL_step rfl (R_lt_t rfl rfl (by omega)) ?_
          refine WL_stepM rfl (R_pk_t rfl) ?_
          refine WL_stepM rfl (R_mv) ?_
          refine WL_guard_t rfl rfl ?_
          refine WL_stepM rfl (R_mv) ?_
          refine WL_guard_t rfl rfl ?_
          refine WL_step rfl (R_nilCheck rfl) ?_
          refine WL_guard_t rfl rfl ?_
          refine WL_step rfl (R_fieldAddr (off' := 0) Try.underlying120 rfl Try.sizeOf118 (by decide) rfl rfl) ?_
          refine WL_guard_t rfl rfl ?_
          refine WL_step rfl (R_load Try.isAgg118 rfl (H.block hn (by simp)) rfl) ?_
          refine WL_guard_t rfl rfl ?_
          refine WL_stepM rfl (R_mv) ?_
          refine WL_guard_t rfl rfl ?_
          refine WL_step rfl (R_indexAddr Try.underlying118 Try.sizeOf122 rfl rfl (by omega) (by omega) idx0_castn) ?_
          refine WL_guard_t rfl rfl ?_
          refine WL_step rfl (R_fieldAddr (off' := _ + 1) Try.underlying122 rfl Try.sizeOf4 (by decide) rfl rfl) ?_
          refine WL_guard_t rfl rfl ?_
          refine WL_step rfl (R_load Try.isAgg4 rfl (H.block hb (by simp)) hus) ?_
          refine WL_stepM rfl (R_pk_t rfl) ?_
          refine WL_stepM rfl (R_mv) ?_
          refine WL_guard_f rfl rfl (by decide) ?_
          refine WL_guard_f rfl rfl (by decide) ?_
          refine WL_guard_f rfl rfl (by decide) ?_
          refine WL_guard_f rfl rfl (by decide) ?_
          refine WL_guard_f rfl rfl (by decide) ?_
          refine WL_guard_f rfl rfl (by decide) ?_
          refine WL_guard_f rfl rfl (by decide) ?_
          refine WL_guard_f rfl rfl (by decide) ?_
          refine WL_guard_f rfl rfl (by decide) ?_
          refine WL_guard_f rfl rfl (by decide) ?_
          refine WL_guard_f rfl rfl (by decide) ?_
          refine WL_stepM rfl (R_pk_f rfl) ?_
          refine WL_stepM rfl (R_as) ?_
          refine WL_nil ?_
          refine W_ret ?_
          exact ⟨_, rfl, rfl, H⟩

theorem radd_yes {i : Nat} {a : Pl} (hn : w.heap[nb]? = some (blk [vR N bL cap] 120)) (hb : ∀ p ∈ LR N bL l sp, w.heap[p.1]? = some p.2) (hN : l.length = N) (hN2 : N ≤ 256) (h : l[i]? = some a) (hf : free a) (hlt : ∀ j a', j < i → l[j]? = some a' → ¬ free a') (v : Value) :
    Ret Try.prog 47 #[ptr nb 0] w fun r w' => r = .tuple #[I (i + 256 * a.g : Nat), .bool true] ∧ Hp w (LR N bL (l.set i ⟨v, a.g, true⟩) sp) w' := by
  have hi := (List.getElem?_eq_some_iff.1 h).1
  obtain ⟨hn, hb⟩ := open_pos (by omega) hn hb
  rw [LR_pos (by omega)]
  refine Ret_of_W (args := [_]) Try.func47 rfl Try.ntmps47 Try.results47 (by simp) ?_
  have H := (Hp.focus0 hn).focus hb (by simpa using ne_of_obj hb hn (by simp))
  have hga := hf.2
  have hlen := rows_length rc_len l
  refine W_seq ?_
  refine W_region_l ?_
  refine WL_stepM rfl (R_as) ?_
  refine WL_stepM rfl (R_as) ?_
  refine WL_nil ?_
  refine W_seq ?_
  refine W_seq ?_
  refine W_region_l ?_
  refine WL_stepM rfl (R_as) ?_
  refine WL_nil ?_
  refine W_block ?_
  refine W_loop (fun (j : Nat) E w' => j ≤ i ∧ E 0 = ptr nb 0 ∧ E 4 = I j ∧ Hp w [(bL, blk (rows rc l ++ sp) 122), (nb, blk [sl bL 0 N cap] 120)] w') (fun j => i - j) 0 ?_ ?_
  · exact ⟨by omega, rfl, rfl, H⟩
  · (clear H; rintro j E w1 ⟨hj, h0, h1, H⟩; refine W_know2 h0 h1 ?_)
    refine W_seq ?_
    refine W_seq ?_
    refine W_region_l ?_
    refine WL_stepM rfl (R_mv) ?_
    refine WL_stepM rfl (R_mv) ?_
    refine WL_step rfl (R_nilCheck rfl) ?_
    refine WL_step rfl (R_fieldAddr (off' := 0) Try.underlying120 rfl Try.sizeOf118 (by decide) rfl rfl) ?_
    refine WL_step rfl (R_load Try.isAgg118 rfl (H.get (.there .here)) rfl) ?_
    refine WL_step rfl (R_len_slice Try.underlying118 rfl) ?_
    refine WL_step rfl (R_lt_t rfl rfl (by omega)) ?_
    refine WL_nil ?_
    refine W_cond_t rfl ?_
    refine W_skip ?_
    refine W_seq ?_
    refine W_block ?_
    refine W_seq ?_
    ((rcases Nat.lt_or_ge j i with hji | hji; obtain ⟨⟨av, ag, au⟩, h2⟩ : ∃ a, l[j]? = some a := ⟨_, List.getElem?_eq_getElem (by omega)⟩; have hnf := hlt j _ hji h2; have hus := rc_u (sp := sp) h2; have hgs := rc_g (sp := sp) h2; cases au; have hag : ¬ ag ≤ 1000000 := (fun h => hnf ⟨rfl, h⟩); rotate_left; rotate_left; obtain rfl : j = i := (by omega); have hus := rc_u (sp := sp) h; rw [hf.1] at hus; have hgs := rc_g (sp := sp) h; rotate_left)) <;> refine W_region_l ?_
    · refine WL_stepM rfl (R_mv) ?_
      refine WL_step rfl (R_nilCheck rfl) ?_
      refine WL_step rfl (R_fieldAddr (off' := 0) Try.underlying120 rfl Try.sizeOf118 (by decide) rfl rfl) ?_
      refine WL_step rfl (R_load Try.isAgg118 rfl (H.get (.there .here)) rfl) ?_
      refine WL_stepM rfl (R_mv) ?_
      refine WL_step rfl (R_indexAddr Try.underlying118 Try.sizeOf122 rfl rfl (by omega) (by omega) idx0_castn) ?_
      refine WL_step rfl (R_fieldAddr (off' := _ + 1) Try.underlying122 rfl Try.sizeOf4 (by decide) rfl rfl) ?_
      refine WL_step rfl (R_load Try.isAgg4 rfl (H.get .here) hus) ?_
      refine WL_step rfl (R_not_f rfl) ?_
      refine WL_stepM rfl (R_mv) ?_
      refine WL_guard_t rfl rfl ?_
      refine WL_stepM rfl (R_mv) ?_
      refine WL_guard_t rfl rfl ?_
      refine WL_step rfl (R_nilCheck rfl) ?_
      refine WL_guard_t rfl rfl ?_
      refine WL_step rfl (R_fieldAddr (off' := 0) Try.underlying120 rfl Try.sizeOf118 (by decide) rfl rfl) ?_
      refine WL_guard_t rfl rfl ?_
      refine WL_step rfl (R_load Try.isAgg118 rfl (H.get (.there .here)) rfl) ?_
      refine WL_guard_t rfl rfl ?_
      refine WL_stepM rfl (R_mv) ?_
      refine WL_guard_t rfl rfl ?_
      refine WL_step rfl (R_indexAddr Try.underlying118 Try.sizeOf122 rfl rfl (by omega) (by omega) idx0_castn) ?_
      refine WL_guard_t rfl rfl ?_
      refine WL_step rfl (R_fieldAddr Try.underlying122 rfl Try.sizeOf3 (by decide) rfl rfl) ?_
      refine WL_guard_t rfl rfl ?_
      refine WL_step rfl (R_load (v := I ag) Try.isAgg3 rfl (H.get .here) hgs) ?_
      refine WL_guard_t rfl rfl ?_
      refine WL_step rfl (R_le_f rfl rfl (by omega)) ?_
      refine WL_stepM rfl (R_pk_t rfl) ?_
      refine WL_nil ?_
      refine W_cond_f rfl ?_
      refine W_skip ?_
      refine W_region_l ?_
      refine WL_stepM rfl (R_mv) ?_
      refine WL_step rfl (R_add rfl rfl (w_i64 (by omega))) ?_
      refine WL_stepM rfl (R_as) ?_
      refine WL_nil ?_
      exact ⟨j + 1, by omega, by omega, rfl, rfl, H⟩
    · refine WL_stepM rfl (R_mv) ?_
      refine WL_step rfl (R_nilCheck rfl) ?_
      refine WL_step rfl (R_fieldAddr (off' := 0) Try.underlying120 rfl Try.sizeOf118 (by decide) rfl rfl) ?_
      refine WL_step rfl (R_load Try.isAgg118 rfl (H.get (.there .here)) rfl) ?_
      refine WL_stepM rfl (R_mv) ?_
      refine WL_step rfl (R_indexAddr Try.underlying118 Try.sizeOf122 rfl rfl (by omega) (by omega) idx0_castn) ?_
      refine WL_step rfl (R_fieldAddr (off' := _ + 1) Try.underlying122 rfl Try.sizeOf4 (by decide) rfl rfl) ?_
      refine WL_step rfl (R_load Try.isAgg4 rfl (H.get .here) hus) ?_
      refine WL_step rfl (R_not_t rfl) ?_
      refine WL_stepM rfl (R_mv) ?_
      refine WL_guard_f rfl rfl (by decide) ?_
      refine WL_guard_f rfl rfl (by decide) ?_
      refine WL_guard_f rfl rfl (by decide) ?_
      refine WL_guard_f rfl rfl (by decide) ?_
      refine WL_guard_f rfl rfl (by decide) ?_
      refine WL_guard_f rfl rfl (by decide) ?_
      refine WL_guard_f rfl rfl (by decide) ?_
      refine WL_guard_f rfl rfl (by decide) ?_
      refine WL_guard_f rfl rfl (by decide) ?_
      refine WL_stepM rfl (R_pk_f rfl) ?_
      refine WL_nil ?_
      refine W_cond_f rfl ?_
      refine W_skip ?_
      refine W_region_l ?_
      refine WL_stepM rfl (R_mv) ?_
      refine WL_step rfl (R_add rfl rfl (w_i64 (by omega))) ?_
      refine WL_stepM rfl (R_as) ?_
      refine WL_nil ?_
      exact ⟨j + 1, by omega, by omega, rfl, rfl, H⟩
    · refine WL_stepM rfl (R_mv) ?_
      refine WL_step rfl (R_nilCheck rfl) ?_
      refine WL_step rfl (R_fieldAddr (off' := 0) Try.underlying120 rfl Try.sizeOf118 (by decide) rfl rfl) ?_
      refine WL_step rfl (R_load Try.isAgg118 rfl (H.get (.there .here)) rfl) ?_
      refine WL_stepM rfl (R_mv) ?_
      refine WL_step rfl (R_indexAddr Try.underlying118 Try.sizeOf122 rfl rfl (by omega) (by omega) idx0_castn) ?_
      refine WL_step rfl (R_fieldAddr (off' := _ + 1) Try.underlying122 rfl Try.sizeOf4 (by decide) rfl rfl) ?_
      refine WL_step rfl (R_load Try.isAgg4 rfl (H.get .here) hus) ?_
      refine WL_step rfl (R_not_f rfl) ?_
      refine WL_stepM rfl (R_mv) ?_
      refine WL_guard_t rfl rfl ?_
      refine WL_stepM rfl (R_mv) ?_
      refine WL_guard_t rfl rfl ?_
      refine WL_step rfl (R_nilCheck rfl) ?_
      refine WL_guard_t rfl rfl ?_
      refine WL_step rfl (R_fieldAddr (off' := 0) Try.underlying120 rfl Try.sizeOf118 (by decide) rfl rfl) ?_
      refine WL_guard_t rfl rfl ?_
      refine WL_step rfl (R_load Try.isAgg118 rfl (H.get (.there .here)) rfl) ?_
      refine WL_guard_t rfl rfl ?_
      refine WL_stepM rfl (R_mv) ?_
      refine WL_guard_t rfl rfl ?_
      refine WL_step rfl (R_indexAddr Try.underlying118 Try.sizeOf122 rfl rfl (by omega) (by omega) idx0_castn) ?_
      refine WL_guard_t rfl rfl ?_
      refine WL_step rfl (R_fieldAddr Try.underlying122 rfl Try.sizeOf3 (by decide) rfl rfl) ?_
      refine WL_guard_t rfl rfl ?_
      refine WL_step rfl (R_load (v := I a.g) Try.isAgg3 rfl (H.get .here) hgs) ?_
      refine WL_guard_t rfl rfl ?_
      refine WL_step rfl (R_le_t rfl rfl (by omega)) ?_
      refine WL_stepM rfl (R_pk_t rfl) ?_
      refine WL_nil ?_
      refine W_cond_t rfl ?_
      refine W_seq ?_
      refine W_region_l ?_
      refine WL_stepM rfl (R_mv) ?_
      refine WL_step rfl (R_nilCheck rfl) ?_
      refine WL_step rfl (R_fieldAddr (off' := 0) Try.underlying120 rfl Try.sizeOf118 (by decide) rfl rfl) ?_
      refine WL_step rfl (R_load Try.isAgg118 rfl (H.get (.there .here)) rfl) ?_
      refine WL_stepM rfl (R_mv) ?_
      refine WL_step rfl (R_indexAddr Try.underlying118 Try.sizeOf122 rfl rfl (by omega) (by omega) idx0_castn) ?_
      refine WL_step rfl (R_fieldAddr (off' := _ + 1) Try.underlying122 rfl Try.sizeOf4 (by decide) rfl rfl) ?_
      (refine WL_effu rfl (E_store (v := (.bool _)) H Try.sizeOf4 rfl rfl rfl .here (by simp; omega)) ?_; clear H; intro w139 H)
      refine WL_nil ?_
      refine W_seq ?_
      (replace H : Hp w [(bL, blk ((rows rc l ++ sp).set (j * 2 + 1) (.bool true)) 122), (nb, blk [sl bL 0 N cap] 120)] _ := H; rw [List.set_append_left _ _ (by omega), rows_set (j := 1) (v := .bool true) (a' := ⟨v, a.g, true⟩) rc_len h (by decide) rfl] at H; refine W_region_l ?_)
      refine WL_stepM rfl (R_mv) ?_
      refine WL_stepM rfl (R_mv) ?_
      refine WL_step rfl (R_nilCheck rfl) ?_
      refine WL_step rfl (R_fieldAddr (off' := 0) Try.underlying120 rfl Try.sizeOf118 (by decide) rfl rfl) ?_
      refine WL_step rfl (R_load Try.isAgg118 rfl (H.get (.there .here)) rfl) ?_
      refine WL_stepM rfl (R_mv) ?_
      refine WL_step rfl (R_indexAddr Try.underlying118 Try.sizeOf122 rfl rfl (by omega) (by omega) idx0_castn) ?_
      refine WL_step rfl (R_fieldAddr Try.underlying122 rfl Try.sizeOf3 (by decide) rfl rfl) ?_
      refine WL_step rfl (R_load (v := I a.g) Try.isAgg3 rfl (H.get .here) (rc_g (a := ⟨v, a.g, true⟩) (List.getElem?_set_self hi))) ?_
      refine WL_step rfl (R_mul (r := ((256 * a.g : Nat) : Int)) rfl rfl (by rw [w_i64 (by omega)]; omega)) ?_
      refine WL_step rfl (R_add (r := ((j + 256 * a.g : Nat) : Int)) rfl rfl (by rw [w_i64 (by omega)]; omega)) ?_
      refine WL_stepM rfl (R_as) ?_
      refine WL_stepM rfl (R_as) ?_
      refine WL_nil ?_
      refine W_ret ?_
      exact ⟨_, rfl, rfl, H.swap2.back hn⟩

theorem radd_no (hn : w.heap[nb]? = some (blk [vR N bL cap] 120)) (hb : ∀ p ∈ LR N bL l sp, w.heap[p.1]? = some p.2) (hN : l.length = N) (hN2 : N ≤ 256) (hg : ∀ a ∈ l, a.g ≤ 1000001) (hno : ∀ a ∈ l, ¬ free a) :
    Ret Try.prog 47 #[ptr nb 0] w fun r w' => r = .tuple #[I 0, .bool false] ∧ Hp w [] w' := by
  refine Ret_of_W (args := [_]) Try.func47 rfl Try.ntmps47 Try.results47 (by simp) ?_
  have H := Hp.refl w
  by_cases hN0 : N = 0
  · subst hN0
    have hn' : w.heap[nb]? = some (blk [nilS] 120) := hn
    refine W_seq ?_
    refine W_region_l ?_
    refine WL_stepM rfl (R_as) ?_
    refine WL_stepM rfl (R_as) ?_
    refine WL_nil ?_
    refine W_seq ?_
    refine W_seq ?_
    refine W_region_l ?_
    refine WL_stepM rfl (R_as) ?_
    refine WL_nil ?_
    refine W_block ?_
    refine W_rounds 0 ?_
    refine W_seq ?_
    refine W_seq ?_
    refine W_region_l ?_
    refine WL_stepM rfl (R_mv) ?_
    refine WL_stepM rfl (R_mv) ?_
    refine WL_step rfl (R_nilCheck rfl) ?_
    refine WL_step rfl (R_fieldAddr (off' := 0) Try.underlying120 rfl Try.sizeOf118 (by decide) rfl rfl) ?_
    refine WL_step rfl (R_load (v := nilS) Try.isAgg118 rfl (H.block hn' (by simp)) rfl) ?_
    refine WL_step rfl (R_len_slice (len := 0) Try.underlying118 rfl) ?_
    refine WL_step rfl (R_lt_f rfl rfl (by omega)) ?_
    refine WL_nil ?_
    refine W_cond_f rfl ?_
    refine W_exit ?_
    refine (if_pos rfl).mpr ?_
    refine W_seq ?_
    refine W_region_l ?_
    refine WL_stepM rfl (R_as) ?_
    refine WL_stepM rfl (R_as) ?_
    refine WL_nil ?_
    refine W_ret ?_
    exact ⟨_, rfl, rfl, H⟩
  · obtain ⟨hn, hb⟩ := open_pos hN0 hn hb
    refine W_seq ?_
    refine W_region_l ?_
    refine WL_stepM rfl (R_as) ?_
    refine WL_stepM rfl (R_as) ?_
    refine WL_nil ?_
    refine W_seq ?_
    refine W_seq ?_
    refine W_region_l ?_
    refine WL_stepM rfl (R_as) ?_
    refine WL_nil ?_
    refine W_block ?_
    refine W_loop (fun (j : Nat) E w' => j ≤ N ∧ E 0 = ptr nb 0 ∧ E 4 = I j ∧ Hp w [] w') (fun j => N - j) 0 ?_ ?_
    · exact ⟨by omega, rfl, rfl, H⟩
    · (clear H; rintro j E w1 ⟨hj, h0, h1, H⟩; refine W_know2 h0 h1 ?_)
      refine W_seq ?_
      refine W_seq ?_
      refine W_region_l ?_
      refine WL_stepM rfl (R_mv) ?_
      refine WL_stepM rfl (R_mv) ?_
      refine WL_step rfl (R_nilCheck rfl) ?_
      refine WL_step rfl (R_fieldAddr (off' := 0) Try.underlying120 rfl Try.sizeOf118 (by decide) rfl rfl) ?_
      refine WL_step rfl (R_load Try.isAgg118 rfl (H.block hn (by simp)) rfl) ?_
      refine WL_step rfl (R_len_slice Try.underlying118 rfl) ?_
      refine WL_step rfl (R_lt rfl rfl) ?_
      refine WL_nil ?_
      refine W_if rfl (fun h26 => ?_) (fun h26 => ?_)
      · refine W_skip ?_
        refine W_seq ?_
        refine W_block ?_
        refine W_seq ?_
        ((obtain ⟨⟨av, ag, au⟩, h2⟩ : ∃ a, l[j]? = some a := ⟨_, List.getElem?_eq_getElem (by omega)⟩; have hnf := hno _ (List.mem_of_getElem? h2); have hus := rc_u (sp := sp) h2; have hgs := rc_g (sp := sp) h2; cases au; have hag : ¬ ag ≤ 1000000 := (fun h => hnf ⟨rfl, h⟩))) <;> refine W_region_l ?_
        · refine WL_stepM rfl (R_mv) ?_
          refine WL_step rfl (R_nilCheck rfl) ?_
          refine WL_step rfl (R_fieldAddr (off' := 0) Try.underlying120 rfl Try.sizeOf118 (by decide) rfl rfl) ?_
          refine WL_step rfl (R_load Try.isAgg118 rfl (H.block hn (by simp)) rfl) ?_
          refine WL_stepM rfl (R_mv) ?_
          refine WL_step rfl (R_indexAddr Try.underlying118 Try.sizeOf122 rfl rfl (by omega) (by omega) idx0_castn) ?_
          refine WL_step rfl (R_fieldAddr (off' := _ + 1) Try.underlying122 rfl Try.sizeOf4 (by decide) rfl rfl) ?_
          refine WL_step rfl (R_load Try.isAgg4 rfl (H.block hb (by simp)) hus) ?_
          refine WL_step rfl (R_not_f rfl) ?_
          refine WL_stepM rfl (R_mv) ?_
          refine WL_guard_t rfl rfl ?_
          refine WL_stepM rfl (R_mv) ?_
          refine WL_guard_t rfl rfl ?_
          refine WL_step rfl (R_nilCheck rfl) ?_
          refine WL_guard_t rfl rfl ?_
          refine WL_step rfl (R_fieldAddr (off' := 0) Try.underlying120 rfl Try.sizeOf118 (by decide) rfl rfl) ?_
          refine WL_guard_t rfl rfl ?_
          refine WL_step rfl (R_load Try.isAgg118 rfl (H.block hn (by simp)) rfl) ?_
          refine WL_guard_t rfl rfl ?_
          refine WL_stepM rfl (R_mv) ?_
          refine WL_guard_t rfl rfl ?_
          refine WL_step rfl (R_indexAddr Try.underlying118 Try.sizeOf122 rfl rfl (by omega) (by omega) idx0_castn) ?_
          refine WL_guard_t rfl rfl ?_
          refine WL_step rfl (R_fieldAddr Try.underlying122 rfl Try.sizeOf3 (by decide) rfl rfl) ?_
          refine WL_guard_t rfl rfl ?_
          refine WL_step rfl (R_load (v := I ag) Try.isAgg3 rfl (H.block hb (by simp)) hgs) ?_
          refine WL_guard_t rfl rfl ?_
          refine WL_step rfl (R_le_f rfl rfl (by omega)) ?_
          refine WL_stepM rfl (R_pk_t rfl) ?_
          refine WL_nil ?_
          refine W_cond_f rfl ?_
          refine W_skip ?_
          refine W_region_l ?_
          refine WL_stepM rfl (R_mv) ?_
          refine WL_step rfl (R_add rfl rfl (w_i64 (by omega))) ?_
          refine WL_stepM rfl (R_as) ?_
          refine WL_nil ?_
          exact ⟨j + 1, by omega, by omega, rfl, rfl, H⟩
        · refine WL_stepM rfl (R_mv) ?_
          refine WL_step rfl (R_nilCheck rfl) ?_
          refine WL_step rfl (R_fieldAddr (off' := 0) Try.underlying120 rfl Try.sizeOf118 (by decide) rfl rfl) ?_
          refine WL_step rfl (R_load Try.isAgg118 rfl (H.block hn (by simp)) rfl) ?_
          refine WL_stepM rfl (R_mv) ?_
          refine WL_step rfl (R_indexAddr Try.underlying118 Try.sizeOf122 rfl rfl (by omega) (by omega) idx0_castn) ?_
          refine WL_step rfl (R_fieldAddr (off' := _ + 1) Try.underlying122 rfl Try.sizeOf4 (by decide) rfl rfl) ?_
          refine WL_step rfl (R_load Try.isAgg4 rfl (H.block hb (by simp)) hus) ?_
          refine WL_step rfl (R_not_t rfl) ?_
          refine WL_stepM rfl (R_mv) ?_
          refine WL_guard_f rfl rfl (by decide) ?_
          refine WL_guard_f rfl rfl (by decide) ?_
          refine WL_guard_f rfl rfl (by decide) ?_
          refine WL_guard_f rfl rfl (by decide) ?_
          refine WL_guard_f rfl rfl (by decide) ?_
          refine WL_guard_f rfl rfl (by decide) ?_
          refine WL_guard_f rfl rfl (by decide) ?_
          refine WL_guard_f rfl rfl (by decide) ?_
          refine WL_guard_f rfl rfl (by decide) ?_
          refine WL_stepM rfl (R_pk_f rfl) ?_
          refine WL_nil ?_
          refine W_cond_f rfl ?_
          refine W_skip ?_
          refine W_region_l ?_
          refine WL_stepM rfl (R_mv) ?_
          refine WL_step rfl (R_add rfl rfl (w_i64 (by omega))) ?_
          refine WL_stepM rfl (R_as) ?_
          refine WL_nil ?_
          exact ⟨j + 1, by omega, by omega, rfl, rfl, H⟩
      · refine W_exit ?_
        refine (if_pos rfl).mpr ?_
        refine W_seq ?_
        refine W_region_l ?_
        refine WL_stepM rfl (R_as) ?_
        refine WL_stepM rfl (R_as) ?_
        refine WL_nil ?_
        refine W_ret ?_
        exact ⟨_, rfl, rfl, H⟩

theorem rdrop_yes {i : Nat} {a : Pl} (hn : w.heap[nb]? = some (blk [vR N bL cap] 120)) (hb : ∀ p ∈ LR N bL l sp, w.heap[p.1]? = some p.2) (hN : l.length = N) (hN2 : N ≤ 256) (h : l[i]? = some a) (hg : a.g ≤ 1000001) (hu : a.u = true) (v : Value) :
    Ret Try.prog 52 #[ptr nb 0, I (i + 256 * a.g : Nat)] w fun r w' => r = .bool true ∧ Hp w (LR N bL (l.set i ⟨v, a.g + 1, false⟩) sp) w' := by
  have hi := (List.getElem?_eq_some_iff.1 h).1
  have hh := has_yes hn hb hN hN2 h hg hu
  obtain ⟨hn, hb⟩ := open_pos (by omega) hn hb
  rw [LR_pos (by omega)]
  refine Ret_of_W (args := [_, _]) Try.func52 rfl Try.ntmps52 Try.results52 (by simp) ?_
  have H := Hp.refl w
  have hlen := rows_length rc_len l
  refine W_seq ?_
  refine W_region_l ?_
  refine WL_stepM rfl (R_as) ?_
  refine WL_nil ?_
  refine W_seq ?_
  refine W_seq ?_
  refine W_region_l ?_
  refine WL_stepM rfl (R_mv) ?_
  refine WL_stepM rfl (R_mv) ?_
  (refine WL_call rfl (R_call rfl Try.call45 rfl) hh ?_; rintro _ w10 ⟨rfl, H1⟩; replace H := H1; clear H1)
  refine WL_step rfl (R_not_t rfl) ?_
  refine WL_nil ?_
  refine W_cond_f rfl ?_
  refine W_skip ?_
  refine W_seq ?_
  (replace H := H.focus (H.block hb (by simp)) (by simp); refine W_draw (fun w2 => w2.heap[nb]? = some (blk [sl bL 0 N cap] 120) ∧ w2.cell? ⟨bL, i * 2 + 0, none⟩ = some (I a.g)) (fun j => Nat.beq j 18) (by kernel_rfl) H ?_; clear H; intro w16 H)
  refine WA_takeM 0 rfl rfl rfl (by kernel_rfl) (by kernel_rfl) ⟨H.block hn (by simpa using ne_of_obj hn hb (by simp)), (cell_blk (H.get .here) (i * 2 + 0)).trans (rc_g h)⟩ (fun _ hC => R_mv) ?_
  refine WA_take 1 rfl rfl rfl (by kernel_rfl) (by kernel_rfl) ⟨H.block hn (by simpa using ne_of_obj hn hb (by simp)), (cell_blk (H.get .here) (i * 2 + 0)).trans (rc_g h)⟩ (fun _ hC => R_nilCheck rfl) ?_
  refine WA_take 2 rfl rfl rfl (by kernel_rfl) (by kernel_rfl) ⟨H.block hn (by simpa using ne_of_obj hn hb (by simp)), (cell_blk (H.get .here) (i * 2 + 0)).trans (rc_g h)⟩ (fun _ hC => R_fieldAddr (off' := 0) Try.underlying120 rfl Try.sizeOf118 (by decide) rfl rfl) ?_
  refine WA_take 3 rfl rfl rfl (by kernel_rfl) (by kernel_rfl) ⟨H.block hn (by simpa using ne_of_obj hn hb (by simp)), (cell_blk (H.get .here) (i * 2 + 0)).trans (rc_g h)⟩ (fun _ hC => R_load (v := sl bL 0 N cap) Try.isAgg118 rfl hC.1 rfl) ?_
  refine WA_takeM 4 rfl rfl rfl (by kernel_rfl) (by kernel_rfl) ⟨H.block hn (by simpa using ne_of_obj hn hb (by simp)), (cell_blk (H.get .here) (i * 2 + 0)).trans (rc_g h)⟩ (fun _ hC => R_mv) ?_
  refine WA_take 5 rfl rfl rfl (by kernel_rfl) (by kernel_rfl) ⟨H.block hn (by simpa using ne_of_obj hn hb (by simp)), (cell_blk (H.get .here) (i * 2 + 0)).trans (rc_g h)⟩ (fun _ hC => R_bits (r := (i : Int)) rfl rfl (by simp) ((and_mask_i64 8 256 (by decide) rfl (by decide)).trans (by omega))) ?_
  refine WA_takeM 6 rfl rfl rfl (by kernel_rfl) (by kernel_rfl) ⟨H.block hn (by simpa using ne_of_obj hn hb (by simp)), (cell_blk (H.get .here) (i * 2 + 0)).trans (rc_g h)⟩ (fun _ hC => R_mv) ?_
  refine WA_take 7 rfl rfl rfl (by kernel_rfl) (by kernel_rfl) ⟨H.block hn (by simpa using ne_of_obj hn hb (by simp)), (cell_blk (H.get .here) (i * 2 + 0)).trans (rc_g h)⟩ (fun _ hC => R_nilCheck rfl) ?_
  refine WA_take 8 rfl rfl rfl (by kernel_rfl) (by kernel_rfl) ⟨H.block hn (by simpa using ne_of_obj hn hb (by simp)), (cell_blk (H.get .here) (i * 2 + 0)).trans (rc_g h)⟩ (fun _ hC => R_fieldAddr (off' := 0) Try.underlying120 rfl Try.sizeOf118 (by decide) rfl rfl) ?_
  refine WA_take 9 rfl rfl rfl (by kernel_rfl) (by kernel_rfl) ⟨H.block hn (by simpa using ne_of_obj hn hb (by simp)), (cell_blk (H.get .here) (i * 2 + 0)).trans (rc_g h)⟩ (fun _ hC => R_load (v := sl bL 0 N cap) Try.isAgg118 rfl hC.1 rfl) ?_
  refine WA_takeM 10 rfl rfl rfl (by kernel_rfl) (by kernel_rfl) ⟨H.block hn (by simpa using ne_of_obj hn hb (by simp)), (cell_blk (H.get .here) (i * 2 + 0)).trans (rc_g h)⟩ (fun _ hC => R_mv) ?_
  refine WA_take 11 rfl rfl rfl (by kernel_rfl) (by kernel_rfl) ⟨H.block hn (by simpa using ne_of_obj hn hb (by simp)), (cell_blk (H.get .here) (i * 2 + 0)).trans (rc_g h)⟩ (fun _ hC => R_bits (r := (i : Int)) rfl rfl (by simp) ((and_mask_i64 8 256 (by decide) rfl (by decide)).trans (by omega))) ?_
  refine WA_take 12 rfl rfl rfl (by kernel_rfl) (by kernel_rfl) ⟨H.block hn (by simpa using ne_of_obj hn hb (by simp)), (cell_blk (H.get .here) (i * 2 + 0)).trans (rc_g h)⟩ (fun _ hC => R_indexAddr Try.underlying118 Try.sizeOf122 rfl rfl (by omega) (by omega) idx0_castn) ?_
  refine WA_take 13 rfl rfl rfl (by kernel_rfl) (by kernel_rfl) ⟨H.block hn (by simpa using ne_of_obj hn hb (by simp)), (cell_blk (H.get .here) (i * 2 + 0)).trans (rc_g h)⟩ (fun _ hC => R_fieldAddr Try.underlying122 rfl Try.sizeOf3 (by decide) rfl rfl) ?_
  refine WA_take 14 rfl rfl rfl (by kernel_rfl) (by kernel_rfl) ⟨H.block hn (by simpa using ne_of_obj hn hb (by simp)), (cell_blk (H.get .here) (i * 2 + 0)).trans (rc_g h)⟩ (fun _ hC => R_load_cell (v := I a.g) Try.isAgg3 rfl hC.2) ?_
  refine WA_take 15 rfl rfl rfl (by kernel_rfl) (by kernel_rfl) ⟨H.block hn (by simpa using ne_of_obj hn hb (by simp)), (cell_blk (H.get .here) (i * 2 + 0)).trans (rc_g h)⟩ (fun _ hC => R_add (r := ((a.g + 1 : Nat) : Int)) rfl rfl (by rw [w_i64 (by omega)]; omega)) ?_
  refine WA_take 16 rfl rfl rfl (by kernel_rfl) (by kernel_rfl) ⟨H.block hn (by simpa using ne_of_obj hn hb (by simp)), (cell_blk (H.get .here) (i * 2 + 0)).trans (rc_g h)⟩ (fun _ hC => R_buildL (places := [(0, 1), (1, 1)]) (vs := [(.int _ _), (.bool _)]) Try.underlying122 Try.typeInfo122 rfl rfl (by kernel_rfl) rfl rfl rfl) ?_
  refine WA_take 17 rfl rfl rfl (by kernel_rfl) (by kernel_rfl) ⟨H.block hn (by simpa using ne_of_obj hn hb (by simp)), (cell_blk (H.get .here) (i * 2 + 0)).trans (rc_g h)⟩ (fun _ hC => R_indexAddr Try.underlying118 Try.sizeOf122 rfl rfl (by omega) (by omega) idx0_castn) ?_
  refine WA_one (i := 18) (by kernel_rfl) ?_
  (refine WI_effu rfl (.inl rfl) (E_storeA (vs := rc ⟨v, a.g + 1, false⟩) H Try.sizeOf122 rfl rfl (by simp [rc, Value.oneCell']) .here (by simp only [List.length_append, hlen, rc_len]; omega)) (fun _ _ h => absurd h (by decide)) ?_; clear H; intro w36 H)
  refine WA_done (by kernel_rfl) ?_
  refine W_seq ?_
  (replace H : Hp w [(bL, blk ((rows rc l ++ sp).take (i * 2) ++ rc ⟨v, a.g + 1, false⟩ ++ (rows rc l ++ sp).drop (i * 2 + (rc ⟨v, a.g + 1, false⟩).length)) 122)] _ := H; rw [rc_len, List.take_append_of_le_length (by omega), List.drop_append_of_le_length (by omega), ← List.append_assoc, rows_put rc_len hi] at H; refine W_region_l ?_)
  refine WL_stepM rfl (R_as) ?_
  refine WL_nil ?_
  refine W_ret ?_
  exact ⟨_, rfl, rfl, H⟩

theorem rdrop_no {n : Int} (hn : w.heap[nb]? = some (blk [vR N bL cap] 120)) (hb : ∀ p ∈ LR N bL l sp, w.heap[p.1]? = some p.2) (hN : l.length = N) (hN2 : N ≤ 256) (hg : ∀ a ∈ l, a.g ≤ 1000001)
    (hno : ∀ (i : Nat) (a : Pl), l[i]? = some a → a.u = true → n ≠ ((i + 256 * a.g : Nat) : Int)) :
    Ret Try.prog 52 #[ptr nb 0, I n] w fun v w' => v = .bool false ∧ Hp w [] w' := by
  have hh := has_no hn hb hN hN2 hg hno
  refine Ret_of_W (args := [_, _]) Try.func52 rfl Try.ntmps52 Try.results52 (by simp) ?_
  have H := Hp.refl w
  refine W_seq ?_
  refine W_region_l ?_
  refine WL_stepM rfl (R_as) ?_
  refine WL_nil ?_
  refine W_seq ?_
  refine W_seq ?_
  refine W_region_l ?_
  refine WL_stepM rfl (R_mv) ?_
  refine WL_stepM rfl (R_mv) ?_
  (refine WL_call rfl (R_call rfl Try.call45 rfl) hh ?_; rintro _ w10 ⟨rfl, H1⟩; replace H := H.seq0 H1; clear H1)
  refine WL_step rfl (R_not_f rfl) ?_
  refine WL_nil ?_
  refine W_cond_t rfl ?_
  refine W_seq ?_
  refine W_region_l ?_
  refine WL_stepM rfl (R_as) ?_
  refine WL_nil ?_
  refine W_ret ?_
  exact ⟨_, rfl, rfl, H⟩

theorem rall_ret (hn : w.heap[nb]? = some (blk [vR N bL cap] 120)) (hb : ∀ p ∈ LR N bL l sp, w.heap[p.1]? = some p.2) (hN : l.length = N) (hN2 : N ≤ 256) (hg : ∀ a ∈ l, a.g ≤ 1000001) :
    Ret Try.prog 53 #[ptr nb 0] w fun v w' => ∃ M, OwnS w.heap.size 3 1 v (namesFrom 0 l).length ((namesFrom 0 l).map I) M ∧ Hp w M w' := by
  refine Ret_of_W (args := [_]) Try.func53 rfl Try.ntmps53 Try.results53 (by simp) ?_
  have H := Hp.refl w
  have hO := OwnS.nil w.heap.size 3 1
  have hnl := namesFrom_le l 0
  by_cases hN0 : N = 0
  · subst hN0
    have hn' : w.heap[nb]? = some (blk [nilS] 120) := hn
    obtain rfl : l = [] := List.eq_nil_of_length_eq_zero hN
    refine W_seq ?_
    refine W_region_l ?_
    refine WL_stepM rfl (R_as) ?_
    refine WL_nil ?_
    refine W_seq ?_
    refine W_region_l ?_
    refine WL_stepM rfl (R_as) ?_
    refine WL_nil ?_
    refine W_seq ?_
    refine W_seq ?_
    refine W_region_l ?_
    refine WL_stepM rfl (R_as) ?_
    refine WL_nil ?_
    refine W_block ?_
    refine W_rounds 0 ?_
    refine W_seq ?_
    refine W_seq ?_
    refine W_region_l ?_
    refine WL_stepM rfl (R_mv) ?_
    refine WL_stepM rfl (R_mv) ?_
    refine WL_step rfl (R_nilCheck rfl) ?_
    refine WL_step rfl (R_fieldAddr (off' := 0) Try.underlying120 rfl Try.sizeOf118 (by decide) rfl rfl) ?_
    refine WL_step rfl (R_load (v := nilS) Try.isAgg118 rfl (H.block hn' (by simp)) rfl) ?_
    refine WL_step rfl (R_len_slice (len := 0) Try.underlying118 rfl) ?_
    refine WL_step rfl (R_lt_f rfl rfl (by omega)) ?_
    refine WL_nil ?_
    refine W_cond_f rfl ?_
    refine W_exit ?_
    refine (if_pos rfl).mpr ?_
    refine W_seq ?_
    refine W_region_l ?_
    refine WL_stepM rfl (R_mv) ?_
    refine WL_stepM rfl (R_as) ?_
    refine WL_nil ?_
    refine W_ret ?_
    exact ⟨_, rfl, [], hO, H⟩
  · obtain ⟨hn, hb⟩ := open_pos hN0 hn hb
    refine W_seq ?_
    refine W_region_l ?_
    refine WL_stepM rfl (R_as) ?_
    refine WL_nil ?_
    refine W_seq ?_
    refine W_region_l ?_
    refine WL_stepM rfl (R_as) ?_
    refine WL_nil ?_
    refine W_seq ?_
    refine W_seq ?_
    refine W_region_l ?_
    refine WL_stepM rfl (R_as) ?_
    refine WL_nil ?_
    refine W_block ?_
    refine W_loop (fun (i : Nat) E w' => ∃ v M out, i ≤ N ∧ E 0 = ptr nb 0 ∧ E 3 = v ∧ E 4 = I i ∧ out ++ namesFrom i (l.drop i) = namesFrom 0 l ∧ OwnS w.heap.size 3 1 v out.length (out.map I) M ∧ Hp w M w') (fun i => N - i) 0 ?_ ?_
    · exact ⟨_, [], [], by omega, rfl, rfl, rfl, rfl, hO, H⟩
    · (clear H hO; rintro i E w1 ⟨v, M, out, hi, h0, h3, h1, hout, hO, H⟩; refine W_know3 h0 h3 h1 ?_; have hol := congrArg List.length hout; rw [List.length_append] at hol)
      refine W_seq ?_
      refine W_seq ?_
      refine W_region_l ?_
      refine WL_stepM rfl (R_mv) ?_
      refine WL_stepM rfl (R_mv) ?_
      refine WL_step rfl (R_nilCheck rfl) ?_
      refine WL_step rfl (R_fieldAddr (off' := 0) Try.underlying120 rfl Try.sizeOf118 (by decide) rfl rfl) ?_
      refine WL_step rfl (R_load (v := sl bL 0 N cap) Try.isAgg118 rfl (H.blockN hn (by repeat' first | exact kNil | apply kCons | apply kApp | assumption | exact OwnS.keys (by assumption))) rfl) ?_
      refine WL_step rfl (R_len_slice Try.underlying118 rfl) ?_
      refine WL_step rfl (R_lt rfl rfl) ?_
      refine WL_nil ?_
      refine W_if rfl (fun h29 => ?_) (fun h29 => ?_)
      · refine W_skip ?_
        refine W_seq ?_
        refine W_block ?_
        refine W_seq ?_
        ((obtain ⟨⟨av, ag, au⟩, h⟩ : ∃ a, l[i]? = some a := ⟨_, List.getElem?_eq_getElem (by omega)⟩; have hga := hg _ (List.mem_of_getElem? h); simp only at hga; rw [List.drop_eq_getElem_cons (by omega), (List.getElem?_eq_some_iff.1 h).2] at hout; have hus := rc_u (sp := sp) h; have hgs := rc_g (sp := sp) h; cases au)) <;> refine W_region_l ?_
        · refine WL_stepM rfl (R_mv) ?_
          refine WL_step rfl (R_nilCheck rfl) ?_
          refine WL_step rfl (R_fieldAddr (off' := 0) Try.underlying120 rfl Try.sizeOf118 (by decide) rfl rfl) ?_
          refine WL_step rfl (R_load (v := sl bL 0 N cap) Try.isAgg118 rfl (H.blockN hn (by repeat' first | exact kNil | apply kCons | apply kApp | assumption | exact OwnS.keys (by assumption))) rfl) ?_
          refine WL_stepM rfl (R_mv) ?_
          refine WL_step rfl (R_indexAddr Try.underlying118 Try.sizeOf122 rfl rfl (by omega) (by omega) idx0_castn) ?_
          refine WL_step rfl (R_fieldAddr (off' := _ + 1) Try.underlying122 rfl Try.sizeOf4 (by decide) rfl rfl) ?_
          refine WL_step rfl (R_load Try.isAgg4 rfl (H.blockN hb (by repeat' first | exact kNil | apply kCons | apply kApp | assumption | exact OwnS.keys (by assumption))) hus) ?_
          refine WL_nil ?_
          refine W_cond_f rfl ?_
          refine W_skip ?_
          refine W_region_l ?_
          refine WL_stepM rfl (R_mv) ?_
          refine WL_step rfl (R_add rfl rfl (w_i64 (by omega))) ?_
          refine WL_stepM rfl (R_as) ?_
          refine WL_nil ?_
          exact ⟨i + 1, by omega, v, M, out, by omega, rfl, rfl, rfl, hout, hO, H⟩
        · refine WL_stepM rfl (R_mv) ?_
          refine WL_step rfl (R_nilCheck rfl) ?_
          refine WL_step rfl (R_fieldAddr (off' := 0) Try.underlying120 rfl Try.sizeOf118 (by decide) rfl rfl) ?_
          refine WL_step rfl (R_load (v := sl bL 0 N cap) Try.isAgg118 rfl (H.blockN hn (by repeat' first | exact kNil | apply kCons | apply kApp | assumption | exact OwnS.keys (by assumption))) rfl) ?_
          refine WL_stepM rfl (R_mv) ?_
          refine WL_step rfl (R_indexAddr Try.underlying118 Try.sizeOf122 rfl rfl (by omega) (by omega) idx0_castn) ?_
          refine WL_step rfl (R_fieldAddr (off' := _ + 1) Try.underlying122 rfl Try.sizeOf4 (by decide) rfl rfl) ?_
          refine WL_step rfl (R_load Try.isAgg4 rfl (H.blockN hb (by repeat' first | exact kNil | apply kCons | apply kApp | assumption | exact OwnS.keys (by assumption))) hus) ?_
          refine WL_nil ?_
          refine W_cond_t rfl ?_
          refine W_region_l ?_
          refine WL_stepM rfl (R_mv) ?_
          refine WL_stepM rfl (R_mv) ?_
          refine WL_stepM rfl (R_mv) ?_
          refine WL_step rfl (R_nilCheck rfl) ?_
          refine WL_step rfl (R_fieldAddr (off' := 0) Try.underlying120 rfl Try.sizeOf118 (by decide) rfl rfl) ?_
          refine WL_step rfl (R_load (v := sl bL 0 N cap) Try.isAgg118 rfl (H.blockN hn (by repeat' first | exact kNil | apply kCons | apply kApp | assumption | exact OwnS.keys (by assumption))) rfl) ?_
          refine WL_stepM rfl (R_mv) ?_
          refine WL_step rfl (R_indexAddr Try.underlying118 Try.sizeOf122 rfl rfl (by omega) (by omega) idx0_castn) ?_
          refine WL_step rfl (R_fieldAddr Try.underlying122 rfl Try.sizeOf3 (by decide) rfl rfl) ?_
          refine WL_step rfl (R_load (v := I ag) Try.isAgg3 rfl (H.blockN hb (by repeat' first | exact kNil | apply kCons | apply kApp | assumption | exact OwnS.keys (by assumption))) hgs) ?_
          refine WL_step rfl (R_mul (r := ((256 * ag : Nat) : Int)) rfl rfl (by rw [w_i64 (by omega)]; omega)) ?_
          refine WL_step rfl (R_add (r := ((i + 256 * ag : Nat) : Int)) rfl rfl (by rw [w_i64 (by omega)]; omega)) ?_
          (refine WL_effn rfl (E_buildOnes (vs := [(.int _ _)]) H Try.underlying51 Try.sizeOf3 Try.zeroValue3 rfl rfl (by decide) rfl rfl (by simp [Value.oneCell'])) ?_; clear H; intro b75 w75 hb75 H)
          (refine WL_effm rfl (E_append H (.there .last) hO Try.underlying51 Try.typeInfo3 rfl rfl rfl rfl rfl rfl (src_one Try.underlying51 (H.get .here) rfl) (by omega) (by simp only [Try.t3]; omega)) ?_; clear H hO; intro vN MN w76 hO H; replace H := H.pop (by assumption))
          refine WL_stepM rfl (R_as) ?_
          refine WL_nil ?_
          refine W_region_l ?_
          refine WL_stepM rfl (R_mv) ?_
          refine WL_step rfl (R_add rfl rfl (w_i64 (by omega))) ?_
          refine WL_stepM rfl (R_as) ?_
          refine WL_nil ?_
          exact ⟨i + 1, by omega, vN, MN, out ++ [((i + 256 * ag : Nat) : Int)], by omega, rfl, rfl, rfl, (by rw [List.append_assoc]; exact hout), (by rw [List.length_append, List.map_append]; exact hO), H⟩
      · refine W_exit ?_
        refine (if_pos rfl).mpr ?_
        refine W_seq ?_
        refine W_region_l ?_
        refine WL_stepM rfl (R_mv) ?_
        refine WL_stepM rfl (R_as) ?_
        refine WL_nil ?_
        refine W_ret ?_
        (rw [List.drop_of_length_le (by omega)] at hout; simp only [namesFrom, List.append_nil] at hout; subst hout; exact ⟨_, rfl, M, hO, H⟩)
end
end Go.Proofs.Ytjkkfahjgaidbaa.TabR

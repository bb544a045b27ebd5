/-
  What the functions of package table do, over functions.
-/
import Derived.Test.YtjkkfahjgaidbaaTableG
import Derived.Test.YtjkkfahjgaidbaaFxZ
namespace Go.Proofs.Ytjkkfahjgaidbaa.TabF
open Go Go.Proofs Go.Proofs.Ytjkkfahjgaidbaa.Fx Go.Proofs.Ytjkkfahjgaidbaa.Tab
set_option maxRecDepth 100000
set_option linter.unusedVariables false
set_option linter.unusedSimpArgs false
set_option maxHeartbeats 1000000

abbrev zS : Value := .nilFunc
/-- the function that keeps the block b -/
abbrev fv (b : Nat) : Value := .func (.func 36) #[] #[ptr b 0]
section
variable {w : World} {p b : Nat} {l : List Pl} {N : Nat}

theorem name_ret {i : Nat} {a : Pl} (hp : w.heap[p]? = some (blk [sl b 0 N N] 106)) (hb : w.heap[b]? = some (blk (rows plc l) 108)) (hN : l.length = N) (hN2 : N ≤ 256) (h : l[i]? = some a) (hg : a.g ≤ 1000001) :
    Ret Try.prog 62 #[ptr p 0, I i] w fun v w' => v = I (i + 256 * a.g : Nat) ∧ Hp w [] w' := by
  refine Ret_of_W (args := [_, _]) Try.func62 rfl Try.ntmps62 Try.results62 (by simp) ?_
  have H := Hp.refl w
  have hi := (List.getElem?_eq_some_iff.1 h).1
  refine W_seq ?_
  refine W_region_l ?_
  refine WL_stepM rfl (R_as) ?_
  refine WL_nil ?_
  refine W_seq ?_
  refine W_region_l ?_
  refine WL_stepM rfl (R_mv) ?_
  refine WL_stepM rfl (R_mv) ?_
  refine WL_step rfl (R_nilCheck rfl) ?_
  refine WL_step rfl (R_fieldAddr (off' := 0) Try.underlying106 rfl Try.sizeOf104 (by decide) rfl rfl) ?_
  refine WL_step rfl (R_load Try.isAgg104 rfl (H.block hp (by simp)) rfl) ?_
  refine WL_stepM rfl (R_mv) ?_
  refine WL_step rfl (R_indexAddr Try.underlying104 Try.sizeOf108 rfl rfl (by omega) (by omega) idx0_castn) ?_
  refine WL_step rfl (R_fieldAddr (off' := _ + 1) Try.underlying108 rfl Try.sizeOf3 (by decide) rfl rfl) ?_
  refine WL_step rfl (R_load Try.isAgg3 rfl (H.block hb (by simp)) (pl_gen h)) ?_
  refine WL_step rfl (R_mul (r := ((256 * a.g : Nat) : Int)) rfl rfl (by rw [w_i64 (by omega)]; omega)) ?_
  refine WL_step rfl (R_add (r := ((i + 256 * a.g : Nat) : Int)) rfl rfl (by rw [w_i64 (by omega)]; omega)) ?_
  refine WL_stepM rfl (R_as) ?_
  refine WL_nil ?_
  refine W_ret ?_
  exact ⟨_, rfl, rfl, H⟩

theorem at_yes {i : Nat} {a : Pl} (hp : w.heap[p]? = some (blk [sl b 0 N N] 106)) (hb : w.heap[b]? = some (blk (rows plc l) 108)) (hN : l.length = N) (hN2 : N ≤ 256) (h : l[i]? = some a) (hg : a.g ≤ 1000001) (hu : a.u = true) :
    Ret Try.prog 64 #[ptr p 0, I (i + 256 * a.g : Nat)] w fun v w' => v = ptr b (i * 3) ∧ Hp w [] w' := by
  refine Ret_of_W (args := [_, _]) Try.func64 rfl Try.ntmps64 Try.results64 (by simp) ?_
  have H := Hp.refl w
  have hi := (List.getElem?_eq_some_iff.1 h).1
  have hus := pl_used h
  rw [hu] at hus
  refine W_seq ?_
  refine W_region_l ?_
  refine WL_stepM rfl (R_as) ?_
  refine WL_nil ?_
  refine W_seq ?_
  refine W_region_l ?_
  refine WL_stepM rfl (R_mv) ?_
  refine WL_step rfl (R_bits (r := (i : Int)) rfl rfl (by simp) ((and_mask_i64 8 256 (by decide) rfl (by decide)).trans (by omega))) ?_
  refine WL_stepM rfl (R_as) ?_
  refine WL_nil ?_
  refine W_seq ?_
  refine W_seq ?_
  refine W_region_l ?_
  refine WL_stepM rfl (R_mv) ?_
  refine WL_step rfl (R_lt_f rfl rfl (by omega)) ?_
  refine WL_stepM rfl (R_mv) ?_
  refine WL_guard_t rfl rfl ?_
  refine WL_stepM rfl (R_mv) ?_
  refine WL_guard_t rfl rfl ?_
  refine WL_stepM rfl (R_mv) ?_
  refine WL_guard_t rfl rfl ?_
  refine WL_step rfl (R_nilCheck rfl) ?_
  refine WL_guard_t rfl rfl ?_
  refine WL_step rfl (R_fieldAddr (off' := 0) Try.underlying106 rfl Try.sizeOf104 (by decide) rfl rfl) ?_
  refine WL_guard_t rfl rfl ?_
  refine WL_step rfl (R_load Try.isAgg104 rfl (H.block hp (by simp)) rfl) ?_
  refine WL_guard_t rfl rfl ?_
  refine WL_step rfl (R_len_slice Try.underlying104 rfl) ?_
  refine WL_guard_t rfl rfl ?_
  refine WL_step rfl (R_ge_f rfl rfl (by omega)) ?_
  refine WL_stepM rfl (R_pk_f rfl) ?_
  refine WL_stepM rfl (R_mv) ?_
  refine WL_guard_t rfl rfl ?_
  refine WL_stepM rfl (R_mv) ?_
  refine WL_guard_t rfl rfl ?_
  refine WL_step rfl (R_nilCheck rfl) ?_
  refine WL_guard_t rfl rfl ?_
  refine WL_step rfl (R_fieldAddr (off' := 0) Try.underlying106 rfl Try.sizeOf104 (by decide) rfl rfl) ?_
  refine WL_guard_t rfl rfl ?_
  refine WL_step rfl (R_load Try.isAgg104 rfl (H.block hp (by simp)) rfl) ?_
  refine WL_guard_t rfl rfl ?_
  refine WL_stepM rfl (R_mv) ?_
  refine WL_guard_t rfl rfl ?_
  refine WL_step rfl (R_indexAddr Try.underlying104 Try.sizeOf108 rfl rfl (by omega) (by omega) idx0_castn) ?_
  refine WL_guard_t rfl rfl ?_
  refine WL_step rfl (R_fieldAddr (off' := _ + 2) Try.underlying108 rfl Try.sizeOf4 (by decide) rfl rfl) ?_
  refine WL_guard_t rfl rfl ?_
  refine WL_step rfl (R_load Try.isAgg4 rfl (H.block hb (by simp)) hus) ?_
  refine WL_guard_t rfl rfl ?_
  refine WL_step rfl (R_not_t rfl) ?_
  refine WL_stepM rfl (R_pk_f rfl) ?_
  refine WL_stepM rfl (R_mv) ?_
  refine WL_guard_t rfl rfl ?_
  refine WL_stepM rfl (R_mv) ?_
  refine WL_guard_t rfl rfl ?_
  refine WL_stepM rfl (R_mv) ?_
  refine WL_guard_t rfl rfl ?_
  (refine WL_call rfl (R_call rfl Try.call62 rfl) (name_ret (H.block hp (by simp)) (H.block hb (by simp)) hN hN2 h hg) ?_; rintro _ w58 ⟨rfl, H1⟩; replace H := H.seq0 H1; clear H1)
  refine WL_guard_t rfl rfl ?_
  refine WL_stepM rfl (R_mv) ?_
  refine WL_guard_t rfl rfl ?_
  refine WL_step rfl (R_ne_f rfl rfl (by omega)) ?_
  refine WL_stepM rfl (R_pk_f rfl) ?_
  refine WL_nil ?_
  refine W_cond_f rfl ?_
  refine W_skip ?_
  refine W_seq ?_
  refine W_region_l ?_
  refine WL_stepM rfl (R_mv) ?_
  refine WL_step rfl (R_nilCheck rfl) ?_
  refine WL_step rfl (R_fieldAddr (off' := 0) Try.underlying106 rfl Try.sizeOf104 (by decide) rfl rfl) ?_
  refine WL_step rfl (R_load Try.isAgg104 rfl (H.block hp (by simp)) rfl) ?_
  refine WL_stepM rfl (R_mv) ?_
  refine WL_step rfl (R_indexAddr Try.underlying104 Try.sizeOf108 rfl rfl (by omega) (by omega) idx0_castn) ?_
  refine WL_stepM rfl (R_as) ?_
  refine WL_nil ?_
  refine W_ret ?_
  exact ⟨_, rfl, rfl, H⟩

theorem at_no {n : Int} (hp : w.heap[p]? = some (blk [sl b 0 N N] 106)) (hb : w.heap[b]? = some (blk (rows plc l) 108)) (hN : l.length = N) (hN2 : N ≤ 256) (hg : ∀ a ∈ l, a.g ≤ 1000001)
    (hn : ∀ (i : Nat) (a : Pl), l[i]? = some a → a.u = true → n ≠ ((i + 256 * a.g : Nat) : Int)) :
    Ret Try.prog 64 #[ptr p 0, I n] w fun v w' => v = .pointer none ∧ Hp w [] w' := by
  refine Ret_of_W (args := [_, _]) Try.func64 rfl Try.ntmps64 Try.results64 (by simp) ?_
  have H := Hp.refl w
  by_cases h0 : n < 0
  · refine W_seq ?_
    refine W_region_l ?_
    refine WL_stepM rfl (R_as) ?_
    refine WL_nil ?_
    refine W_seq ?_
    refine W_region_l ?_
    refine WL_stepM rfl (R_mv) ?_
    refine WL_step rfl (R_bits rfl rfl (by simp) (and_mask_i64 8 256 (by decide) rfl (by decide))) ?_
    refine WL_stepM rfl (R_as) ?_
    refine WL_nil ?_
    refine W_seq ?_
    refine W_seq ?_
    refine W_region_l ?_
    refine WL_stepM rfl (R_mv) ?_
    refine WL_step rfl (R_lt_t rfl rfl (by omega)) ?_
    refine WL_stepM rfl (R_mv) ?_
    refine WL_guard_f rfl rfl (by decide) ?_
    refine WL_guard_f rfl rfl (by decide) ?_
    refine WL_guard_f rfl rfl (by decide) ?_
    refine WL_guard_f rfl rfl (by decide) ?_
    refine WL_guard_f rfl rfl (by decide) ?_
    refine WL_guard_f rfl rfl (by decide) ?_
    refine WL_guard_f rfl rfl (by decide) ?_
    refine WL_stepM rfl (R_pk_t rfl) ?_
    refine WL_stepM rfl (R_mv) ?_
    refine WL_guard_f rfl rfl (by decide) ?_
    refine WL_guard_f rfl rfl (by decide) ?_
    refine WL_guard_f rfl rfl (by decide) ?_
    refine WL_guard_f rfl rfl (by decide) ?_
    refine WL_guard_f rfl rfl (by decide) ?_
    refine WL_guard_f rfl rfl (by decide) ?_
    refine WL_guard_f rfl rfl (by decide) ?_
    refine WL_guard_f rfl rfl (by decide) ?_
    refine WL_guard_f rfl rfl (by decide) ?_
    refine WL_stepM rfl (R_pk_t rfl) ?_
    refine WL_stepM rfl (R_mv) ?_
    refine WL_guard_f rfl rfl (by decide) ?_
    refine WL_guard_f rfl rfl (by decide) ?_
    refine WL_guard_f rfl rfl (by decide) ?_
    refine WL_guard_f rfl rfl (by decide) ?_
    refine WL_guard_f rfl rfl (by decide) ?_
    refine WL_stepM rfl (R_pk_t rfl) ?_
    refine WL_nil ?_
    refine W_cond_t rfl ?_
    refine W_seq ?_
    refine W_region_l ?_
    refine WL_stepM rfl (R_as) ?_
    refine WL_nil ?_
    refine W_ret ?_
    exact ⟨_, rfl, rfl, H⟩
  · obtain ⟨i, hi⟩ : ∃ i : Nat, n % 256 = (i : Int) := ⟨(n % 256).toNat, by omega⟩
    by_cases h1 : N ≤ i
    · refine W_seq ?_
      refine W_region_l ?_
      refine WL_stepM rfl (R_as) ?_
      refine WL_nil ?_
      refine W_seq ?_
      refine W_region_l ?_
      refine WL_stepM rfl (R_mv) ?_
      refine WL_step rfl (R_bits (r := (i : Int)) rfl rfl (by simp) ((and_mask_i64 8 256 (by decide) rfl (by decide)).trans hi)) ?_
      refine WL_stepM rfl (R_as) ?_
      refine WL_nil ?_
      refine W_seq ?_
      refine W_seq ?_
      refine W_region_l ?_
      refine WL_stepM rfl (R_mv) ?_
      refine WL_step rfl (R_lt_f rfl rfl (by omega)) ?_
      refine WL_stepM rfl (R_mv) ?_
      refine WL_guard_t rfl rfl ?_
      refine WL_stepM rfl (R_mv) ?_
      refine WL_guard_t rfl rfl ?_
      refine WL_stepM rfl (R_mv) ?_
      refine WL_guard_t rfl rfl ?_
      refine WL_step rfl (R_nilCheck rfl) ?_
      refine WL_guard_t rfl rfl ?_
      refine WL_step rfl (R_fieldAddr (off' := 0) Try.underlying106 rfl Try.sizeOf104 (by decide) rfl rfl) ?_
      refine WL_guard_t rfl rfl ?_
      refine WL_step rfl (R_load Try.isAgg104 rfl (H.block hp (by simp)) rfl) ?_
      refine WL_guard_t rfl rfl ?_
      refine WL_step rfl (R_len_slice Try.underlying104 rfl) ?_
      refine WL_guard_t rfl rfl ?_
      refine WL_step rfl (R_ge_t rfl rfl (by omega)) ?_
      refine WL_stepM rfl (R_pk_f rfl) ?_
      refine WL_stepM rfl (R_mv) ?_
      refine WL_guard_f rfl rfl (by decide) ?_
      refine WL_guard_f rfl rfl (by decide) ?_
      refine WL_guard_f rfl rfl (by decide) ?_
      refine WL_guard_f rfl rfl (by decide) ?_
      refine WL_guard_f rfl rfl (by decide) ?_
      refine WL_guard_f rfl rfl (by decide) ?_
      refine WL_guard_f rfl rfl (by decide) ?_
      refine WL_guard_f rfl rfl (by decide) ?_
      refine WL_guard_f rfl rfl (by decide) ?_
      refine WL_stepM rfl (R_pk_t rfl) ?_
      refine WL_stepM rfl (R_mv) ?_
      refine WL_guard_f rfl rfl (by decide) ?_
      refine WL_guard_f rfl rfl (by decide) ?_
      refine WL_guard_f rfl rfl (by decide) ?_
      refine WL_guard_f rfl rfl (by decide) ?_
      refine WL_guard_f rfl rfl (by decide) ?_
      refine WL_stepM rfl (R_pk_t rfl) ?_
      refine WL_nil ?_
      refine W_cond_t rfl ?_
      refine W_seq ?_
      refine W_region_l ?_
      refine WL_stepM rfl (R_as) ?_
      refine WL_nil ?_
      refine W_ret ?_
      exact ⟨_, rfl, rfl, H⟩
    · obtain ⟨a, h⟩ : ∃ a, l[i]? = some a := ⟨_, List.getElem?_eq_getElem (by omega)⟩
      have hus := pl_used h
      by_cases hu : a.u = true
      · have hne := hn i a h hu
        rw [hu] at hus
        refine W_seq ?_
        refine W_region_l ?_
        refine WL_stepM rfl (R_as) ?_
        refine WL_nil ?_
        refine W_seq ?_
        refine W_region_l ?_
        refine WL_stepM rfl (R_mv) ?_
        refine WL_step rfl (R_bits (r := (i : Int)) rfl rfl (by simp) ((and_mask_i64 8 256 (by decide) rfl (by decide)).trans hi)) ?_
        refine WL_stepM rfl (R_as) ?_
        refine WL_nil ?_
        refine W_seq ?_
        refine W_seq ?_
        refine W_region_l ?_
        refine WL_stepM rfl (R_mv) ?_
        refine WL_step rfl (R_lt_f rfl rfl (by omega)) ?_
        refine WL_stepM rfl (R_mv) ?_
        refine WL_guard_t rfl rfl ?_
        refine WL_stepM rfl (R_mv) ?_
        refine WL_guard_t rfl rfl ?_
        refine WL_stepM rfl (R_mv) ?_
        refine WL_guard_t rfl rfl ?_
        refine WL_step rfl (R_nilCheck rfl) ?_
        refine WL_guard_t rfl rfl ?_
        refine WL_step rfl (R_fieldAddr (off' := 0) Try.underlying106 rfl Try.sizeOf104 (by decide) rfl rfl) ?_
        refine WL_guard_t rfl rfl ?_
        refine WL_step rfl (R_load Try.isAgg104 rfl (H.block hp (by simp)) rfl) ?_
        refine WL_guard_t rfl rfl ?_
        refine WL_step rfl (R_len_slice Try.underlying104 rfl) ?_
        refine WL_guard_t rfl rfl ?_
        refine WL_step rfl (R_ge_f rfl rfl (by omega)) ?_
        refine WL_stepM rfl (R_pk_f rfl) ?_
        refine WL_stepM rfl (R_mv) ?_
        refine WL_guard_t rfl rfl ?_
        refine WL_stepM rfl (R_mv) ?_
        refine WL_guard_t rfl rfl ?_
        refine WL_step rfl (R_nilCheck rfl) ?_
        refine WL_guard_t rfl rfl ?_
        refine WL_step rfl (R_fieldAddr (off' := 0) Try.underlying106 rfl Try.sizeOf104 (by decide) rfl rfl) ?_
        refine WL_guard_t rfl rfl ?_
        refine WL_step rfl (R_load Try.isAgg104 rfl (H.block hp (by simp)) rfl) ?_
        refine WL_guard_t rfl rfl ?_
        refine WL_stepM rfl (R_mv) ?_
        refine WL_guard_t rfl rfl ?_
        refine WL_step rfl (R_indexAddr Try.underlying104 Try.sizeOf108 rfl rfl (by omega) (by omega) idx0_castn) ?_
        refine WL_guard_t rfl rfl ?_
        refine WL_step rfl (R_fieldAddr (off' := _ + 2) Try.underlying108 rfl Try.sizeOf4 (by decide) rfl rfl) ?_
        refine WL_guard_t rfl rfl ?_
        refine WL_step rfl (R_load Try.isAgg4 rfl (H.block hb (by simp)) hus) ?_
        refine WL_guard_t rfl rfl ?_
        refine WL_step rfl (R_not_t rfl) ?_
        refine WL_stepM rfl (R_pk_f rfl) ?_
        refine WL_stepM rfl (R_mv) ?_
        refine WL_guard_t rfl rfl ?_
        refine WL_stepM rfl (R_mv) ?_
        refine WL_guard_t rfl rfl ?_
        refine WL_stepM rfl (R_mv) ?_
        refine WL_guard_t rfl rfl ?_
        (refine WL_call rfl (R_call rfl Try.call62 rfl) (name_ret (H.block hp (by simp)) (H.block hb (by simp)) hN hN2 h (hg a (List.mem_of_getElem? h))) ?_; rintro _ w58 ⟨rfl, H1⟩; replace H := H.seq0 H1; clear H1)
        refine WL_guard_t rfl rfl ?_
        refine WL_stepM rfl (R_mv) ?_
        refine WL_guard_t rfl rfl ?_
        refine WL_step rfl (R_ne_t rfl rfl (fun e => hne e.symm)) ?_
        refine WL_stepM rfl (R_pk_f rfl) ?_
        refine WL_nil ?_
        refine W_cond_t rfl ?_
        refine W_seq ?_
        refine W_region_l ?_
        refine WL_stepM rfl (R_as) ?_
        refine WL_nil ?_
        refine W_ret ?_
        exact ⟨_, rfl, rfl, H⟩
      · rw [Bool.not_eq_true] at hu
        rw [hu] at hus
        refine W_seq ?_
        refine W_region_l ?_
        refine WL_stepM rfl (R_as) ?_
        refine WL_nil ?_
        refine W_seq ?_
        refine W_region_l ?_
        refine WL_stepM rfl (R_mv) ?_
        refine WL_step rfl (R_bits (r := (i : Int)) rfl rfl (by simp) ((and_mask_i64 8 256 (by decide) rfl (by decide)).trans hi)) ?_
        refine WL_stepM rfl (R_as) ?_
        refine WL_nil ?_
        refine W_seq ?_
        refine W_seq ?_
        refine W_region_l ?_
        refine WL_stepM rfl (R_mv) ?_
        refine WL_step rfl (R_lt_f rfl rfl (by omega)) ?_
        refine WL_stepM rfl (R_mv) ?_
        refine WL_guard_t rfl rfl ?_
        refine WL_stepM rfl (R_mv) ?_
        refine WL_guard_t rfl rfl ?_
        refine WL_stepM rfl (R_mv) ?_
        refine WL_guard_t rfl rfl ?_
        refine WL_step rfl (R_nilCheck rfl) ?_
        refine WL_guard_t rfl rfl ?_
        refine WL_step rfl (R_fieldAddr (off' := 0) Try.underlying106 rfl Try.sizeOf104 (by decide) rfl rfl) ?_
        refine WL_guard_t rfl rfl ?_
        refine WL_step rfl (R_load Try.isAgg104 rfl (H.block hp (by simp)) rfl) ?_
        refine WL_guard_t rfl rfl ?_
        refine WL_step rfl (R_len_slice Try.underlying104 rfl) ?_
        refine WL_guard_t rfl rfl ?_
        refine WL_step rfl (R_ge_f rfl rfl (by omega)) ?_
        refine WL_stepM rfl (R_pk_f rfl) ?_
        refine WL_stepM rfl (R_mv) ?_
        refine WL_guard_t rfl rfl ?_
        refine WL_stepM rfl (R_mv) ?_
        refine WL_guard_t rfl rfl ?_
        refine WL_step rfl (R_nilCheck rfl) ?_
        refine WL_guard_t rfl rfl ?_
        refine WL_step rfl (R_fieldAddr (off' := 0) Try.underlying106 rfl Try.sizeOf104 (by decide) rfl rfl) ?_
        refine WL_guard_t rfl rfl ?_
        refine WL_step rfl (R_load Try.isAgg104 rfl (H.block hp (by simp)) rfl) ?_
        refine WL_guard_t rfl rfl ?_
        refine WL_stepM rfl (R_mv) ?_
        refine WL_guard_t rfl rfl ?_
        refine WL_step rfl (R_indexAddr Try.underlying104 Try.sizeOf108 rfl rfl (by omega) (by omega) idx0_castn) ?_
        refine WL_guard_t rfl rfl ?_
        refine WL_step rfl (R_fieldAddr (off' := _ + 2) Try.underlying108 rfl Try.sizeOf4 (by decide) rfl rfl) ?_
        refine WL_guard_t rfl rfl ?_
        refine WL_step rfl (R_load Try.isAgg4 rfl (H.block hb (by simp)) hus) ?_
        refine WL_guard_t rfl rfl ?_
        refine WL_step rfl (R_not_f rfl) ?_
        refine WL_stepM rfl (R_pk_f rfl) ?_
        refine WL_stepM rfl (R_mv) ?_
        refine WL_guard_f rfl rfl (by decide) ?_
        refine WL_guard_f rfl rfl (by decide) ?_
        refine WL_guard_f rfl rfl (by decide) ?_
        refine WL_guard_f rfl rfl (by decide) ?_
        refine WL_guard_f rfl rfl (by decide) ?_
        refine WL_stepM rfl (R_pk_t rfl) ?_
        refine WL_nil ?_
        refine W_cond_t rfl ?_
        refine W_seq ?_
        refine W_region_l ?_
        refine WL_stepM rfl (R_as) ?_
        refine WL_nil ?_
        refine W_ret ?_
        exact ⟨_, rfl, rfl, H⟩
end
section
variable {w : World} {p b : Nat} {l : List Pl} {N : Nat}

theorem get_yes {i : Nat} {a : Pl} (hp : w.heap[p]? = some (blk [sl b 0 N N] 106)) (hb : w.heap[b]? = some (blk (rows plc l) 108)) (hN : l.length = N) (hN2 : N ≤ 256) (h : l[i]? = some a) (hg : a.g ≤ 1000001) (hu : a.u = true) :
    Ret Try.prog 40 #[ptr p 0, I (i + 256 * a.g : Nat)] w fun v w' => v = .tuple #[a.v, .bool true] ∧ Hp w [] w' := by
  refine Ret_of_W (args := [_, _]) Try.func40 rfl Try.ntmps40 Try.results40 (by simp) ?_
  have H := Hp.refl w
  refine W_seq ?_
  refine W_region_l ?_
  refine WL_stepM rfl (R_as) ?_
  refine WL_stepM rfl (R_as) ?_
  refine WL_nil ?_
  refine W_seq ?_
  refine W_region_l ?_
  refine WL_stepM rfl (R_mv) ?_
  refine WL_stepM rfl (R_mv) ?_
  (refine WL_call rfl (R_call rfl Try.call64 rfl) (at_yes (H.block hp (by simp)) (H.block hb (by simp)) hN hN2 h hg hu) ?_; rintro _ w10 ⟨rfl, H1⟩; replace H := H.seq0 H1; clear H1)
  refine WL_stepM rfl (R_as) ?_
  refine WL_nil ?_
  refine W_seq ?_
  refine W_seq ?_
  refine W_region_l ?_
  refine WL_stepM rfl (R_mv) ?_
  refine WL_step rfl (R_eq_ptr_nil Try.underlying111 rfl rfl) ?_
  refine WL_nil ?_
  refine W_cond_f rfl ?_
  refine W_skip ?_
  refine W_seq ?_
  refine W_region_l ?_
  refine WL_stepM rfl (R_mv) ?_
  refine WL_step rfl (R_nilCheck rfl) ?_
  refine WL_step rfl (R_fieldAddr Try.underlying108 rfl Try.sizeOf43 (by decide) rfl rfl) ?_
  refine WL_step rfl (R_load Try.isAgg43 rfl (H.block hb (by simp)) (pl_val h)) ?_
  refine WL_stepM rfl (R_as) ?_
  refine WL_stepM rfl (R_as) ?_
  refine WL_nil ?_
  refine W_ret ?_
  exact ⟨_, rfl, rfl, H⟩

theorem get_no {n : Int} (hp : w.heap[p]? = some (blk [sl b 0 N N] 106)) (hb : w.heap[b]? = some (blk (rows plc l) 108)) (hN : l.length = N) (hN2 : N ≤ 256) (hg : ∀ a ∈ l, a.g ≤ 1000001)
    (hn : ∀ (i : Nat) (a : Pl), l[i]? = some a → a.u = true → n ≠ ((i + 256 * a.g : Nat) : Int)) :
    Ret Try.prog 40 #[ptr p 0, I n] w fun v w' => v = .tuple #[zS, .bool false] ∧ Hp w [] w' := by
  refine Ret_of_W (args := [_, _]) Try.func40 rfl Try.ntmps40 Try.results40 (by simp) ?_
  have H := Hp.refl w
  refine W_seq ?_
  refine W_region_l ?_
  refine WL_stepM rfl (R_as) ?_
  refine WL_stepM rfl (R_as) ?_
  refine WL_nil ?_
  refine W_seq ?_
  refine W_region_l ?_
  refine WL_stepM rfl (R_mv) ?_
  refine WL_stepM rfl (R_mv) ?_
  (refine WL_call rfl (R_call rfl Try.call64 rfl) (at_no (H.block hp (by simp)) (H.block hb (by simp)) hN hN2 hg hn) ?_; rintro _ w10 ⟨rfl, H1⟩; replace H := H.seq0 H1; clear H1)
  refine WL_stepM rfl (R_as) ?_
  refine WL_nil ?_
  refine W_seq ?_
  refine W_seq ?_
  refine W_region_l ?_
  refine WL_stepM rfl (R_mv) ?_
  refine WL_step rfl (R_eq_nil_nil Try.underlying111 rfl rfl) ?_
  refine WL_nil ?_
  refine W_cond_t rfl ?_
  refine W_seq ?_
  refine W_region_l ?_
  refine WL_stepM rfl (R_as) ?_
  refine WL_nil ?_
  refine W_seq ?_
  refine W_region_l ?_
  refine WL_stepM rfl (R_mv) ?_
  refine WL_stepM rfl (R_as) ?_
  refine WL_stepM rfl (R_as) ?_
  refine WL_nil ?_
  refine W_ret ?_
  exact ⟨_, rfl, rfl, H⟩

end
def zeroPl : Pl := ⟨zS, 0, false⟩
def newPl : Pl := ⟨zS, 1, false⟩

theorem rep_step {i n : Nat} (h : i < n) : (List.replicate i newPl ++ List.replicate (n - i) zeroPl).set i newPl = List.replicate (i + 1) newPl ++ List.replicate (n - (i + 1)) zeroPl := by
  rw [List.set_append, if_neg (by simp), List.length_replicate, Nat.sub_self, show n - i = (n - (i + 1)) + 1 from by omega, List.replicate_succ, List.set_cons_zero, List.replicate_succ', List.append_assoc]
  rfl

theorem rep_get {i n : Nat} (h : i < n) : (List.replicate i newPl ++ List.replicate (n - i) zeroPl)[i]? = some zeroPl := by
  rw [List.getElem?_append_right (by simp), List.length_replicate, Nat.sub_self, List.getElem?_replicate, if_pos (by omega)]

theorem new_ret (n : Int) (w : World) : Ret Try.prog 33 #[I n] w fun v w' => ∃ p b, v = ptr p 0 ∧
    Hp w [(p, blk [sl b 0 (szOf n) (szOf n)] 106), (b, blk (rows plc (List.replicate (szOf n) newPl)) 108)] w' ∧ w.heap.size ≤ p ∧ w.heap.size ≤ b := by
  refine Ret_of_W (args := [_]) Try.func33 rfl Try.ntmps33 Try.results33 (by simp) ?_
  have H := Hp.refl w
  obtain ⟨m, hm, hm2⟩ : ∃ m : Nat, min (max n 0) 256 = (m : Int) ∧ szOf n = m := ⟨szOf n, by unfold szOf; omega, rfl⟩
  have hm3 : m ≤ 256 := by omega
  rw [hm2]
  refine W_seq ?_
  refine W_region_l ?_
  refine WL_stepM rfl (R_as) ?_
  refine WL_nil ?_
  refine W_seq ?_
  refine W_region_l ?_
  refine WL_stepM rfl (R_mv) ?_
  refine WL_step rfl (R_max rfl rfl rfl) ?_
  refine WL_step rfl (R_min rfl rfl hm) ?_
  (refine WL_effn rfl (E_makeSliceA (zs := plc zeroPl) H Try.underlying104 Try.sizeOf108 Try.typeInfo108 Try.zeroValue108 rfl rfl rfl rfl (by omega) (by omega) (by omega) (by simp only [Try.t108]; omega)) ?_; clear H; intro b w10 hb H; rw [Int.toNat_natCast, rows_rep] at H; rw [Int.toNat_natCast])
  refine WL_step rfl (R_buildL (places := [(0, 1)]) (vs := [(.slice _ _ _)]) Try.underlying106 Try.typeInfo106 rfl rfl (by kernel_rfl) rfl rfl rfl) ?_
  (refine WL_effn rfl (E_box (vs := [sl b 0 m m]) H rfl rfl) ?_; clear H; intro p w12 hp H)
  refine WL_stepM rfl (R_as) ?_
  refine WL_nil ?_
  refine W_seq ?_
  refine W_seq ?_
  refine W_region_l ?_
  refine WL_stepM rfl (R_mv) ?_
  refine WL_step rfl (R_nilCheck rfl) ?_
  refine WL_step rfl (R_fieldAddr (off' := 0) Try.underlying106 rfl Try.sizeOf104 (by decide) rfl rfl) ?_
  refine WL_step rfl (R_load Try.isAgg104 rfl (H.get .here) rfl) ?_
  refine WL_step rfl (R_len_slice Try.underlying104 rfl) ?_
  refine WL_stepM rfl (R_mv) ?_
  refine WL_nil ?_
  refine W_block ?_
  refine W_loop (fun (i : Nat) E w' => i ≤ m ∧ E 3 = ptr p 0 ∧ E 15 = I m ∧ E 16 = I i ∧ Hp w [(p, blk [sl b 0 m m] 106), (b, blk (rows plc (List.replicate i newPl ++ List.replicate (m - i) zeroPl)) 108)] w') (fun i => m - i) 0 ?_ ?_
  · exact ⟨by omega, rfl, rfl, rfl, H⟩
  · (clear H; rintro i E w1 ⟨hi, h0, h1, h2, H⟩; refine W_know3 h0 h1 h2 ?_; by_cases hlt : i < m)
    · refine W_seq ?_
      refine W_region_l ?_
      refine WL_step rfl (R_lt_t rfl rfl (by omega)) ?_
      refine WL_nil ?_
      refine W_seq ?_
      refine W_cond_t rfl ?_
      refine W_skip ?_
      refine W_seq ?_
      refine W_block ?_
      refine W_seq ?_
      refine W_region_l ?_
      refine WL_stepM rfl (R_mv) ?_
      refine WL_stepM rfl (R_as) ?_
      refine WL_nil ?_
      (have hlen := rows_length plc_len (List.replicate i newPl ++ List.replicate (m - i) zeroPl); rw [List.length_append, List.length_replicate, List.length_replicate] at hlen; refine W_region_l ?_)
      refine WL_stepM rfl (R_mv) ?_
      refine WL_step rfl (R_nilCheck rfl) ?_
      refine WL_step rfl (R_fieldAddr (off' := 0) Try.underlying106 rfl Try.sizeOf104 (by decide) rfl rfl) ?_
      refine WL_step rfl (R_load Try.isAgg104 rfl (H.get .here) rfl) ?_
      refine WL_stepM rfl (R_mv) ?_
      refine WL_step rfl (R_indexAddr Try.underlying104 Try.sizeOf108 rfl rfl (by omega) (by omega) idx0_castn) ?_
      refine WL_step rfl (R_fieldAddr (off' := _ + 1) Try.underlying108 rfl Try.sizeOf3 (by decide) rfl rfl) ?_
      (refine WL_effu rfl (E_store (v := (.int _ _)) H Try.sizeOf3 rfl rfl rfl (.there .here) (by omega)) ?_; clear H; intro w51 H)
      refine WL_nil ?_
      (rw [rows_set (j := 1) (v := I 1) (a' := newPl) plc_len (rep_get hlt) (by decide) rfl, rep_step hlt] at H; refine W_region_l ?_)
      refine WL_step rfl (R_add rfl rfl (w_i64 (by omega))) ?_
      refine WL_stepM rfl (R_mv) ?_
      refine WL_nil ?_
      exact ⟨i + 1, by omega, by omega, rfl, rfl, rfl, H⟩
    · refine W_seq ?_
      refine W_region_l ?_
      refine WL_step rfl (R_lt_f rfl rfl (by omega)) ?_
      refine WL_nil ?_
      refine W_seq ?_
      refine W_cond_f rfl ?_
      refine W_exit ?_
      refine (if_pos rfl).mpr ?_
      refine W_seq ?_
      refine W_region_l ?_
      refine WL_stepM rfl (R_mv) ?_
      refine WL_stepM rfl (R_as) ?_
      refine WL_nil ?_
      refine W_ret ?_
      (obtain rfl : i = m := (by omega); rw [Nat.sub_self, List.replicate_zero, List.append_nil] at H; exact ⟨_, rfl, _, _, rfl, H, by assumption, by assumption⟩)
section
variable {w : World} {p b : Nat} {l : List Pl} {N : Nat}

theorem add_ret (hp : w.heap[p]? = some (blk [sl b 0 N N] 106)) (hb : w.heap[b]? = some (blk (rows plc l) 108)) (hN : l.length = N) (hN2 : N ≤ 256) (hg : ∀ a ∈ l, a.g ≤ 1000001) (hv : ∀ a ∈ l, a.v.oneCell' = true) (x : Nat) :
    Ret Try.prog 35 #[ptr p 0, fv x] w fun v w' =>
      (∃ i a, l[i]? = some a ∧ free a ∧ (∀ j a', j < i → l[j]? = some a' → ¬ free a') ∧ v = .tuple #[I (i + 256 * a.g : Nat), .bool true] ∧ Hp w [(b, blk (rows plc (l.set i ⟨(fv x), a.g, true⟩)) 108)] w') ∨
      ((∀ a ∈ l, ¬ free a) ∧ v = .tuple #[I 0, .bool false] ∧ Hp w [] w') := by
  refine Ret_of_W (args := [_, _]) Try.func35 rfl Try.ntmps35 Try.results35 (by simp) ?_
  have H := (Hp.focus0 hp).focus hb (by simpa using ne_of_obj hb hp (by simp))
  have hlen := rows_length plc_len l
  refine W_seq ?_
  refine W_region_l ?_
  refine WL_stepM rfl (R_as) ?_
  refine WL_stepM rfl (R_as) ?_
  refine WL_nil ?_
  refine W_seq ?_
  refine W_seq ?_
  refine W_region_l ?_
  refine WL_stepM rfl (R_mv) ?_
  refine WL_step rfl (R_nilCheck rfl) ?_
  refine WL_step rfl (R_fieldAddr (off' := 0) Try.underlying106 rfl Try.sizeOf104 (by decide) rfl rfl) ?_
  refine WL_step rfl (R_load Try.isAgg104 rfl (H.get (.there .here)) rfl) ?_
  refine WL_step rfl (R_len_slice Try.underlying104 rfl) ?_
  refine WL_stepM rfl (R_mv) ?_
  refine WL_nil ?_
  refine W_block ?_
  refine W_loop (fun (i : Nat) E w' => i ≤ N ∧ E 0 = ptr p 0 ∧ E 1 = (fv x) ∧ E 11 = sl b 0 N N ∧ E 12 = I N ∧ E 13 = I i ∧ (∀ j a', j < i → l[j]? = some a' → ¬ free a') ∧ Hp w [(b, blk (rows plc l) 108), (p, blk [sl b 0 N N] 106)] w') (fun i => N - i) 0 ?_ ?_
  · exact ⟨by omega, rfl, rfl, rfl, rfl, rfl, fun j a' hj _ => absurd hj (by omega), H⟩
  · (clear H; rintro i E w1 ⟨hi, h0, h1, h2, h3, h4, hf, H⟩; refine W_know5 h0 h1 h2 h3 h4 ?_; by_cases hlt : i < N)
    · refine W_seq ?_
      refine W_region_l ?_
      refine WL_step rfl (R_lt_t rfl rfl (by omega)) ?_
      refine WL_nil ?_
      refine W_seq ?_
      refine W_cond_t rfl ?_
      refine W_skip ?_
      refine W_seq ?_
      refine W_block ?_
      refine W_seq ?_
      (obtain ⟨⟨av, ag, au⟩, h⟩ : ∃ a, l[i]? = some a := ⟨_, List.getElem?_eq_getElem (by omega)⟩; have hone := hv _ (List.mem_of_getElem? h); simp only at hone; cases au <;> by_cases hg6 : ag ≤ 1000000 <;> refine W_region_l ?_)
      · refine WL_stepM rfl (R_mv) ?_
        refine WL_step rfl (R_indexAddr Try.underlying104 Try.sizeOf108 rfl rfl (by omega) (by omega) idx0_castn) ?_
        refine WL_step rfl (R_loadA (vs := [av, I ag, .bool _]) Try.isAgg108 Try.sizeOf108 rfl (H.get .here) (pl_all h) (by omega)) ?_
        (refine WL_effn rfl (E_alloc H Try.zeroValue108 rfl) ?_; clear H; intro b34 w34 hb34 H)
        refine WL_stepM rfl (R_as) ?_
        (refine WL_effu rfl (E_storeA (vs := [av, I ag, .bool _]) H Try.sizeOf108 rfl rfl (plc_one (a := ⟨av, ag, _⟩) hone) .here (by simp)) ?_; clear H; intro w36 H; simp only [List.take_zero, List.nil_append, List.length_cons, List.length_nil, Nat.zero_add, List.drop_succ_cons, List.drop_zero, List.append_nil] at H)
        refine WL_nil ?_
        refine W_seq ?_
        refine W_region_l ?_
        refine WL_step rfl (R_fieldAddr (off' := 2) Try.underlying108 rfl Try.sizeOf4 (by decide) rfl rfl) ?_
        refine WL_step rfl (R_load Try.isAgg4 rfl (H.get .here) rfl) ?_
        refine WL_step rfl (R_not_f rfl) ?_
        refine WL_stepM rfl (R_mv) ?_
        refine WL_guard_t rfl rfl ?_
        refine WL_step rfl (R_fieldAddr (off' := 1) Try.underlying108 rfl Try.sizeOf3 (by decide) rfl rfl) ?_
        refine WL_guard_t rfl rfl ?_
        refine WL_step rfl (R_load Try.isAgg3 rfl (H.get .here) rfl) ?_
        refine WL_guard_t rfl rfl ?_
        refine WL_step rfl (R_le_t rfl rfl (by omega)) ?_
        refine WL_stepM rfl (R_pk_t rfl) ?_
        refine WL_nil ?_
        refine W_cond_t rfl ?_
        refine W_seq ?_
        (refine W_draw (Kp [(p, blk [sl b 0 N N] 106)]) (fun _ => false) (by kernel_rfl) H ?_; clear H; intro w54 H)
        refine WA_takeM 0 rfl rfl rfl (by kernel_rfl) (by kernel_rfl) (H.kp.sub (by simp)) (fun _ hC => R_mv) ?_
        refine WA_take 1 rfl rfl rfl (by kernel_rfl) (by kernel_rfl) (H.kp.sub (by simp)) (fun _ hC => R_nilCheck rfl) ?_
        refine WA_take 2 rfl rfl rfl (by kernel_rfl) (by kernel_rfl) (H.kp.sub (by simp)) (fun _ hC => R_fieldAddr (off' := 0) Try.underlying106 rfl Try.sizeOf104 (by decide) rfl rfl) ?_
        refine WA_take 3 rfl rfl rfl (by kernel_rfl) (by kernel_rfl) (H.kp.sub (by simp)) (fun _ hC => R_load Try.isAgg104 rfl (hC.get .here) rfl) ?_
        refine WA_takeM 4 rfl rfl rfl (by kernel_rfl) (by kernel_rfl) (H.kp.sub (by simp)) (fun _ hC => R_mv) ?_
        refine WA_takeM 5 rfl rfl rfl (by kernel_rfl) (by kernel_rfl) (H.kp.sub (by simp)) (fun _ hC => R_mv) ?_
        refine WA_take 6 rfl rfl rfl (by kernel_rfl) (by kernel_rfl) (H.kp.sub (by simp)) (fun _ hC => R_nilCheck rfl) ?_
        refine WA_take 7 rfl rfl rfl (by kernel_rfl) (by kernel_rfl) (H.kp.sub (by simp)) (fun _ hC => R_fieldAddr (off' := 0) Try.underlying106 rfl Try.sizeOf104 (by decide) rfl rfl) ?_
        refine WA_take 8 rfl rfl rfl (by kernel_rfl) (by kernel_rfl) (H.kp.sub (by simp)) (fun _ hC => R_load Try.isAgg104 rfl (hC.get .here) rfl) ?_
        refine WA_takeM 9 rfl rfl rfl (by kernel_rfl) (by kernel_rfl) (H.kp.sub (by simp)) (fun _ hC => R_mv) ?_
        refine WA_takeM 10 rfl rfl rfl (by kernel_rfl) (by kernel_rfl) (H.kp.sub (by simp)) (fun _ hC => R_mv) ?_
        refine WA_take 11 rfl rfl rfl (by kernel_rfl) (by kernel_rfl) (H.kp.sub (by simp)) (fun _ hC => R_indexAddr Try.underlying104 Try.sizeOf108 rfl rfl (by omega) (by omega) idx0_castn) ?_
        refine WA_take 12 rfl rfl rfl (by kernel_rfl) (by kernel_rfl) (H.kp.sub (by simp)) (fun _ hC => R_fieldAddr Try.underlying108 rfl Try.sizeOf43 (by decide) rfl rfl) ?_
        refine WA_one (i := 13) (by kernel_rfl) ?_
        (refine WI_effu rfl (.inl rfl) (E_store (v := (.func _ _ _)) H Try.sizeOf43 rfl rfl rfl (.there .here) (by simp; omega)) (fun _ H => (by first | exact fun h => absurd h (by decide) | exact fun _ => H | exact fun _ => H.none (by repeat' first | exact kNil | apply kCons | apply kApp | assumption | exact OwnS.keys (by assumption)) | exact fun _ => H.dropN (by repeat' first | exact kNil | apply kCons | apply kApp | assumption | exact OwnS.keys (by assumption)) | exact fun _ => H.pop (by assumption) | exact fun _ => (H.pop (by assumption)).pop (by assumption) | exact fun _ => H.kp | exact fun _ => H.kp.tail | exact fun _ => H.kp.tail.tail | exact fun _ => H.kp.tail.tail.tail | exact fun _ => H.kp.sub (by simp) | exact fun _ => Kp.nil | exact fun _ => H.kh (by simp) (by repeat' first | exact kNil | apply kCons | apply kApp | assumption | exact OwnS.keys (by assumption)))) ?_; clear H; intro w69 H)
        refine WA_take 14 rfl rfl rfl (by kernel_rfl) (by kernel_rfl) (H.kp.sub (by simp)) (fun _ hC => R_indexAddr Try.underlying104 Try.sizeOf108 rfl rfl (by omega) (by omega) idx0_castn) ?_
        refine WA_take 15 rfl rfl rfl (by kernel_rfl) (by kernel_rfl) (H.kp.sub (by simp)) (fun _ hC => R_fieldAddr (off' := _ + 2) Try.underlying108 rfl Try.sizeOf4 (by decide) rfl rfl) ?_
        refine WA_one (i := 16) (by kernel_rfl) ?_
        (refine WI_effu rfl (.inl rfl) (E_store (v := (.bool _)) H Try.sizeOf4 rfl rfl rfl (.there .here) (by simp; omega)) (fun _ H => (by first | exact fun h => absurd h (by decide) | exact fun _ => H | exact fun _ => H.none (by repeat' first | exact kNil | apply kCons | apply kApp | assumption | exact OwnS.keys (by assumption)) | exact fun _ => H.dropN (by repeat' first | exact kNil | apply kCons | apply kApp | assumption | exact OwnS.keys (by assumption)) | exact fun _ => H.pop (by assumption) | exact fun _ => (H.pop (by assumption)).pop (by assumption) | exact fun _ => H.kp | exact fun _ => H.kp.tail | exact fun _ => H.kp.tail.tail | exact fun _ => H.kp.tail.tail.tail | exact fun _ => H.kp.sub (by simp) | exact fun _ => Kp.nil | exact fun _ => H.kh (by simp) (by repeat' first | exact kNil | apply kCons | apply kApp | assumption | exact OwnS.keys (by assumption)))) ?_; clear H; intro w73 H)
        refine WA_done (by kernel_rfl) ?_
        refine W_seq ?_
        (replace H : Hp w [(_, blk [av, I ag, .bool false] _), (b, blk (((rows plc l).set (i * 3 + 0) ((fv x))).set (i * 3 + 2) (.bool true)) 108), (p, blk [sl b 0 N N] 106)] _ := H; rw [add_set h] at H; refine W_region_l ?_)
        refine WL_stepM rfl (R_mv) ?_
        refine WL_stepM rfl (R_mv) ?_
        (refine WL_call rfl (R_call rfl Try.call62 rfl) (name_ret (a := ⟨(fv x), ag, true⟩) (H.get (.there (.there .here))) (H.get (.there .here)) (by simpa using hN) hN2 (List.getElem?_set_self (by omega)) (by show ag ≤ 1000001; omega)) ?_; rintro _ w79 ⟨rfl, H1⟩; replace H := H.seq0 H1; clear H1)
        refine WL_stepM rfl (R_as) ?_
        refine WL_stepM rfl (R_as) ?_
        refine WL_nil ?_
        refine W_ret ?_
        exact ⟨_, rfl, .inl ⟨i, _, h, ⟨rfl, hg6⟩, hf, rfl, (H.pop (by assumption)).swap2.back hp⟩⟩
      · refine WL_stepM rfl (R_mv) ?_
        refine WL_step rfl (R_indexAddr Try.underlying104 Try.sizeOf108 rfl rfl (by omega) (by omega) idx0_castn) ?_
        refine WL_step rfl (R_loadA (vs := [av, I ag, .bool _]) Try.isAgg108 Try.sizeOf108 rfl (H.get .here) (pl_all h) (by omega)) ?_
        (refine WL_effn rfl (E_alloc H Try.zeroValue108 rfl) ?_; clear H; intro b88 w88 hb88 H)
        refine WL_stepM rfl (R_as) ?_
        (refine WL_effu rfl (E_storeA (vs := [av, I ag, .bool _]) H Try.sizeOf108 rfl rfl (plc_one (a := ⟨av, ag, _⟩) hone) .here (by simp)) ?_; clear H; intro w90 H; simp only [List.take_zero, List.nil_append, List.length_cons, List.length_nil, Nat.zero_add, List.drop_succ_cons, List.drop_zero, List.append_nil] at H)
        refine WL_nil ?_
        refine W_seq ?_
        refine W_region_l ?_
        refine WL_step rfl (R_fieldAddr (off' := 2) Try.underlying108 rfl Try.sizeOf4 (by decide) rfl rfl) ?_
        refine WL_step rfl (R_load Try.isAgg4 rfl (H.get .here) rfl) ?_
        refine WL_step rfl (R_not_f rfl) ?_
        refine WL_stepM rfl (R_mv) ?_
        refine WL_guard_t rfl rfl ?_
        refine WL_step rfl (R_fieldAddr (off' := 1) Try.underlying108 rfl Try.sizeOf3 (by decide) rfl rfl) ?_
        refine WL_guard_t rfl rfl ?_
        refine WL_step rfl (R_load Try.isAgg3 rfl (H.get .here) rfl) ?_
        refine WL_guard_t rfl rfl ?_
        refine WL_step rfl (R_le_f rfl rfl (by omega)) ?_
        refine WL_stepM rfl (R_pk_t rfl) ?_
        refine WL_nil ?_
        refine W_cond_f rfl ?_
        refine W_skip ?_
        refine W_region_l ?_
        refine WL_step rfl (R_add rfl rfl (w_i64 (by omega))) ?_
        refine WL_stepM rfl (R_mv) ?_
        refine WL_nil ?_
        exact ⟨i + 1, by omega, by omega, rfl, rfl, rfl, rfl, rfl, (fun j a' hj hja hfr => by rcases Nat.lt_or_ge j i with h' | h'; exact hf j a' h' hja hfr; obtain rfl : j = i := (by omega); rw [h] at hja; cases hja; first | exact hg6 hfr.2 | exact Bool.noConfusion hfr.1), H.pop (by assumption)⟩
      · refine WL_stepM rfl (R_mv) ?_
        refine WL_step rfl (R_indexAddr Try.underlying104 Try.sizeOf108 rfl rfl (by omega) (by omega) idx0_castn) ?_
        refine WL_step rfl (R_loadA (vs := [av, I ag, .bool _]) Try.isAgg108 Try.sizeOf108 rfl (H.get .here) (pl_all h) (by omega)) ?_
        (refine WL_effn rfl (E_alloc H Try.zeroValue108 rfl) ?_; clear H; intro b116 w116 hb116 H)
        refine WL_stepM rfl (R_as) ?_
        (refine WL_effu rfl (E_storeA (vs := [av, I ag, .bool _]) H Try.sizeOf108 rfl rfl (plc_one (a := ⟨av, ag, _⟩) hone) .here (by simp)) ?_; clear H; intro w118 H; simp only [List.take_zero, List.nil_append, List.length_cons, List.length_nil, Nat.zero_add, List.drop_succ_cons, List.drop_zero, List.append_nil] at H)
        refine WL_nil ?_
        refine W_seq ?_
        refine W_region_l ?_
        refine WL_step rfl (R_fieldAddr (off' := 2) Try.underlying108 rfl Try.sizeOf4 (by decide) rfl rfl) ?_
        refine WL_step rfl (R_load Try.isAgg4 rfl (H.get .here) rfl) ?_
        refine WL_step rfl (R_not_t rfl) ?_
        refine WL_stepM rfl (R_mv) ?_
        refine WL_guard_f rfl rfl (by decide) ?_
        refine WL_guard_f rfl rfl (by decide) ?_
        refine WL_guard_f rfl rfl (by decide) ?_
        refine WL_stepM rfl (R_pk_f rfl) ?_
        refine WL_nil ?_
        refine W_cond_f rfl ?_
        refine W_skip ?_
        refine W_region_l ?_
        refine WL_step rfl (R_add rfl rfl (w_i64 (by omega))) ?_
        refine WL_stepM rfl (R_mv) ?_
        refine WL_nil ?_
        exact ⟨i + 1, by omega, by omega, rfl, rfl, rfl, rfl, rfl, (fun j a' hj hja hfr => by rcases Nat.lt_or_ge j i with h' | h'; exact hf j a' h' hja hfr; obtain rfl : j = i := (by omega); rw [h] at hja; cases hja; first | exact hg6 hfr.2 | exact Bool.noConfusion hfr.1), H.pop (by assumption)⟩
      · refine WL_stepM rfl (R_mv) ?_
        refine WL_step rfl (R_indexAddr Try.underlying104 Try.sizeOf108 rfl rfl (by omega) (by omega) idx0_castn) ?_
        refine WL_step rfl (R_loadA (vs := [av, I ag, .bool _]) Try.isAgg108 Try.sizeOf108 rfl (H.get .here) (pl_all h) (by omega)) ?_
        (refine WL_effn rfl (E_alloc H Try.zeroValue108 rfl) ?_; clear H; intro b141 w141 hb141 H)
        refine WL_stepM rfl (R_as) ?_
        (refine WL_effu rfl (E_storeA (vs := [av, I ag, .bool _]) H Try.sizeOf108 rfl rfl (plc_one (a := ⟨av, ag, _⟩) hone) .here (by simp)) ?_; clear H; intro w143 H; simp only [List.take_zero, List.nil_append, List.length_cons, List.length_nil, Nat.zero_add, List.drop_succ_cons, List.drop_zero, List.append_nil] at H)
        refine WL_nil ?_
        refine W_seq ?_
        refine W_region_l ?_
        refine WL_step rfl (R_fieldAddr (off' := 2) Try.underlying108 rfl Try.sizeOf4 (by decide) rfl rfl) ?_
        refine WL_step rfl (R_load Try.isAgg4 rfl (H.get .here) rfl) ?_
        refine WL_step rfl (R_not_t rfl) ?_
        refine WL_stepM rfl (R_mv) ?_
        refine WL_guard_f rfl rfl (by decide) ?_
        refine WL_guard_f rfl rfl (by decide) ?_
        refine WL_guard_f rfl rfl (by decide) ?_
        refine WL_stepM rfl (R_pk_f rfl) ?_
        refine WL_nil ?_
        refine W_cond_f rfl ?_
        refine W_skip ?_
        refine W_region_l ?_
        refine WL_step rfl (R_add rfl rfl (w_i64 (by omega))) ?_
        refine WL_stepM rfl (R_mv) ?_
        refine WL_nil ?_
        exact ⟨i + 1, by omega, by omega, rfl, rfl, rfl, rfl, rfl, (fun j a' hj hja hfr => by rcases Nat.lt_or_ge j i with h' | h'; exact hf j a' h' hja hfr; obtain rfl : j = i := (by omega); rw [h] at hja; cases hja; first | exact hg6 hfr.2 | exact Bool.noConfusion hfr.1), H.pop (by assumption)⟩
    · refine W_seq ?_
      refine W_region_l ?_
      refine WL_step rfl (R_lt_f rfl rfl (by omega)) ?_
      refine WL_nil ?_
      refine W_seq ?_
      refine W_cond_f rfl ?_
      refine W_exit ?_
      refine (if_pos rfl).mpr ?_
      refine W_seq ?_
      refine W_region_l ?_
      refine WL_stepM rfl (R_as) ?_
      refine WL_stepM rfl (R_as) ?_
      refine WL_nil ?_
      refine W_ret ?_
      exact ⟨_, rfl, .inr ⟨fun a ha hfr => by obtain ⟨j, hj⟩ := List.mem_iff_getElem?.1 ha; exact hf j a (by have := (List.getElem?_eq_some_iff.1 hj).1; omega) hj hfr, rfl, (H.back hb).back hp⟩⟩
end
section
variable {w : World} {p b : Nat} {l : List Pl} {N : Nat}

theorem names_ret (hp : w.heap[p]? = some (blk [sl b 0 N N] 106)) (hb : w.heap[b]? = some (blk (rows plc l) 108)) (hN : l.length = N) (hN2 : N ≤ 256) (hg : ∀ a ∈ l, a.g ≤ 1000001)
    (hv : ∀ a ∈ l, a.v.oneCell' = true) :
    Ret Try.prog 66 #[ptr p 0] w fun v w' => ∃ M, OwnS w.heap.size 3 1 v (namesFrom 0 l).length ((namesFrom 0 l).map I) M ∧ Hp w M w' := by
  refine Ret_of_W (args := [_]) Try.func66 rfl Try.ntmps66 Try.results66 (by simp) ?_
  have H := Hp.refl w
  have hlen := rows_length plc_len l
  have hO := OwnS.nil w.heap.size 3 1
  have hnl := namesFrom_le l 0
  refine W_seq ?_
  refine W_region_l ?_
  refine WL_stepM rfl (R_as) ?_
  refine WL_nil ?_
  refine W_seq ?_
  refine W_region_l ?_
  refine WL_stepM rfl (R_as) ?_
  refine WL_nil ?_
  refine W_seq ?_
  refine W_seq ?_
  refine W_region_l ?_
  refine WL_stepM rfl (R_mv) ?_
  refine WL_step rfl (R_nilCheck rfl) ?_
  refine WL_step rfl (R_fieldAddr (off' := 0) Try.underlying106 rfl Try.sizeOf104 (by decide) rfl rfl) ?_
  refine WL_step rfl (R_load Try.isAgg104 rfl (H.block hp (by simp)) rfl) ?_
  refine WL_step rfl (R_len_slice Try.underlying104 rfl) ?_
  refine WL_stepM rfl (R_mv) ?_
  refine WL_nil ?_
  refine W_block ?_
  refine W_loop (fun (i : Nat) E w' => ∃ v M out, i ≤ N ∧ E 0 = ptr p 0 ∧ E 3 = v ∧ E 9 = sl b 0 N N ∧ E 10 = I N ∧ E 11 = I i ∧ out ++ namesFrom i (l.drop i) = namesFrom 0 l ∧ OwnS w.heap.size 3 1 v out.length (out.map I) M ∧ Hp w M w') (fun i => N - i) 0 ?_ ?_
  · exact ⟨_, [], [], by omega, rfl, rfl, rfl, rfl, rfl, rfl, hO, H⟩
  · (clear H hO; rintro i E w1 ⟨v, M, out, hi, h0, h3, h1, h2, h4, hout, hO, H⟩; refine W_know5 h0 h3 h1 h2 h4 ?_; have hol := congrArg List.length hout; rw [List.length_append] at hol; by_cases hlt : i < N)
    · refine W_seq ?_
      refine W_region_l ?_
      refine WL_step rfl (R_lt_t rfl rfl (by omega)) ?_
      refine WL_nil ?_
      refine W_seq ?_
      refine W_cond_t rfl ?_
      refine W_skip ?_
      refine W_seq ?_
      refine W_block ?_
      refine W_seq ?_
      (obtain ⟨⟨av, ag, au⟩, h⟩ : ∃ a, l[i]? = some a := ⟨_, List.getElem?_eq_getElem (by omega)⟩; have hone := hv _ (List.mem_of_getElem? h); have hga := hg _ (List.mem_of_getElem? h); simp only at hone hga; rw [List.drop_eq_getElem_cons (by omega), (List.getElem?_eq_some_iff.1 h).2] at hout; cases au <;> refine W_region_l ?_)
      · refine WL_stepM rfl (R_mv) ?_
        refine WL_step rfl (R_indexAddr Try.underlying104 Try.sizeOf108 rfl rfl (by omega) (by omega) idx0_castn) ?_
        refine WL_step rfl (R_loadA (vs := [av, I ag, .bool _]) Try.isAgg108 Try.sizeOf108 rfl (H.blockN hb (by repeat' first | exact kNil | apply kCons | apply kApp | assumption | exact OwnS.keys (by assumption))) (pl_all h) (by omega)) ?_
        (refine WL_effn rfl (E_alloc H Try.zeroValue108 rfl) ?_; clear H; intro b37 w37 hb37 H)
        refine WL_stepM rfl (R_as) ?_
        (refine WL_effu rfl (E_storeA (vs := [av, I ag, .bool _]) H Try.sizeOf108 rfl rfl (plc_one (a := ⟨av, ag, _⟩) hone) .here (by simp)) ?_; clear H; intro w39 H; simp only [List.take_zero, List.nil_append, List.length_cons, List.length_nil, Nat.zero_add, List.drop_succ_cons, List.drop_zero, List.append_nil] at H)
        refine WL_nil ?_
        refine W_seq ?_
        refine W_region_l ?_
        refine WL_step rfl (R_fieldAddr (off' := 2) Try.underlying108 rfl Try.sizeOf4 (by decide) rfl rfl) ?_
        refine WL_step rfl (R_load Try.isAgg4 rfl (H.get .here) rfl) ?_
        refine WL_nil ?_
        refine W_cond_f rfl ?_
        refine W_skip ?_
        refine W_region_l ?_
        refine WL_step rfl (R_add rfl rfl (w_i64 (by omega))) ?_
        refine WL_stepM rfl (R_mv) ?_
        refine WL_nil ?_
        exact ⟨i + 1, by omega, v, M, out, by omega, rfl, rfl, rfl, rfl, rfl, hout, hO, H.pop (by assumption)⟩
      · refine WL_stepM rfl (R_mv) ?_
        refine WL_step rfl (R_indexAddr Try.underlying104 Try.sizeOf108 rfl rfl (by omega) (by omega) idx0_castn) ?_
        refine WL_step rfl (R_loadA (vs := [av, I ag, .bool _]) Try.isAgg108 Try.sizeOf108 rfl (H.blockN hb (by repeat' first | exact kNil | apply kCons | apply kApp | assumption | exact OwnS.keys (by assumption))) (pl_all h) (by omega)) ?_
        (refine WL_effn rfl (E_alloc H Try.zeroValue108 rfl) ?_; clear H; intro b56 w56 hb56 H)
        refine WL_stepM rfl (R_as) ?_
        (refine WL_effu rfl (E_storeA (vs := [av, I ag, .bool _]) H Try.sizeOf108 rfl rfl (plc_one (a := ⟨av, ag, _⟩) hone) .here (by simp)) ?_; clear H; intro w58 H; simp only [List.take_zero, List.nil_append, List.length_cons, List.length_nil, Nat.zero_add, List.drop_succ_cons, List.drop_zero, List.append_nil] at H)
        refine WL_nil ?_
        refine W_seq ?_
        refine W_region_l ?_
        refine WL_step rfl (R_fieldAddr (off' := 2) Try.underlying108 rfl Try.sizeOf4 (by decide) rfl rfl) ?_
        refine WL_step rfl (R_load Try.isAgg4 rfl (H.get .here) rfl) ?_
        refine WL_nil ?_
        refine W_cond_t rfl ?_
        refine W_region_l ?_
        refine WL_stepM rfl (R_mv) ?_
        refine WL_stepM rfl (R_mv) ?_
        refine WL_stepM rfl (R_mv) ?_
        (refine WL_call rfl (R_call rfl Try.call62 rfl) (name_ret (H.blockN hp (by repeat' first | exact kNil | apply kCons | apply kApp | assumption | exact OwnS.keys (by assumption))) (H.blockN hb (by repeat' first | exact kNil | apply kCons | apply kApp | assumption | exact OwnS.keys (by assumption))) hN hN2 h hga) ?_; rintro _ w70 ⟨rfl, H1⟩; replace H := H.seq0 H1; clear H1)
        (refine WL_effn rfl (E_buildOnes (vs := [(.int _ _)]) H Try.underlying51 Try.sizeOf3 Try.zeroValue3 rfl rfl (by decide) rfl rfl (by simp [Value.oneCell'])) ?_; clear H; intro b71 w71 hb71 H)
        (refine WL_effm rfl (E_append H (.there (.there .last)) hO Try.underlying51 Try.typeInfo3 rfl rfl rfl rfl rfl rfl (src_one Try.underlying51 (H.get .here) rfl) (by omega) (by simp only [Try.t3]; omega)) ?_; clear H hO; intro vN MN w72 hO H; replace H := H.pop (by assumption))
        refine WL_stepM rfl (R_as) ?_
        refine WL_nil ?_
        refine W_region_l ?_
        refine WL_step rfl (R_add rfl rfl (w_i64 (by omega))) ?_
        refine WL_stepM rfl (R_mv) ?_
        refine WL_nil ?_
        exact ⟨i + 1, by omega, vN, MN, out ++ [((i + 256 * ag : Nat) : Int)], by omega, rfl, rfl, rfl, rfl, rfl, (by rw [List.append_assoc]; exact hout), (by rw [List.length_append, List.map_append]; exact hO), H.pop (by assumption)⟩
    · refine W_seq ?_
      refine W_region_l ?_
      refine WL_step rfl (R_lt_f rfl rfl (by omega)) ?_
      refine WL_nil ?_
      refine W_seq ?_
      refine W_cond_f rfl ?_
      refine W_exit ?_
      refine (if_pos rfl).mpr ?_
      refine W_seq ?_
      refine W_region_l ?_
      refine WL_stepM rfl (R_mv) ?_
      refine WL_stepM rfl (R_as) ?_
      refine WL_nil ?_
      refine W_ret ?_
      (rw [List.drop_of_length_le (by omega)] at hout; simp only [namesFrom, List.append_nil] at hout; subst hout; exact ⟨_, rfl, M, hO, H⟩)
end
section
variable {w : World} {p b : Nat} {l : List Pl} {N : Nat}

theorem add_yes {i : Nat} {a : Pl} (hp : w.heap[p]? = some (blk [sl b 0 N N] 106)) (hb : w.heap[b]? = some (blk (rows plc l) 108)) (hN : l.length = N) (hN2 : N ≤ 256) (hg : ∀ a ∈ l, a.g ≤ 1000001)
    (hv : ∀ a ∈ l, a.v.oneCell' = true) (x : Nat) (h : l[i]? = some a) (hf : free a) (hlt : ∀ j a', j < i → l[j]? = some a' → ¬ free a') :
    Ret Try.prog 35 #[ptr p 0, fv x] w fun v w' => v = .tuple #[I (i + 256 * a.g : Nat), .bool true] ∧ Hp w [(b, blk (rows plc (l.set i ⟨(fv x), a.g, true⟩)) 108)] w' := by
  refine (add_ret hp hb hN hN2 hg hv x).mono ?_
  rintro v w' (⟨i', a', h', hf', hlt', hv', H⟩ | ⟨hno, _⟩)
  · rcases Nat.lt_trichotomy i i' with hh | rfl | hh
    · exact (hlt' i a hh h hf).elim
    · rw [h] at h'; cases h'; exact ⟨hv', H⟩
    · exact (hlt i' a' hh h' hf').elim
  · exact (hno a (List.mem_of_getElem? h) hf).elim

theorem add_no (hp : w.heap[p]? = some (blk [sl b 0 N N] 106)) (hb : w.heap[b]? = some (blk (rows plc l) 108)) (hN : l.length = N) (hN2 : N ≤ 256) (hg : ∀ a ∈ l, a.g ≤ 1000001)
    (hv : ∀ a ∈ l, a.v.oneCell' = true) (x : Nat) (hno : ∀ a ∈ l, ¬ free a) :
    Ret Try.prog 35 #[ptr p 0, fv x] w fun v w' => v = .tuple #[I 0, .bool false] ∧ Hp w [] w' := by
  refine (add_ret hp hb hN hN2 hg hv x).mono ?_
  rintro v w' (⟨i', a', h', hf', _⟩ | ⟨_, hv', H⟩)
  · exact (hno a' (List.mem_of_getElem? h') hf').elim
  · exact ⟨hv', H⟩
end



section
variable {w : World} {p b : Nat} {l : List Pl} {N : Nat}
theorem len_ret (hp : w.heap[p]? = some (blk [sl b 0 N N] 106)) (hb : w.heap[b]? = some (blk (rows plc l) 108)) (hN : l.length = N) (hN2 : N ≤ 256) (hg : ∀ a ∈ l, a.g ≤ 1000001)
    (hv : ∀ a ∈ l, a.v.oneCell' = true) :
    Ret Try.prog 42 #[ptr p 0] w fun v w' => v = I (namesFrom 0 l).length ∧ Hp w [] w' := by
  refine Ret_of_W (args := [_]) Try.func42 rfl Try.ntmps42 Try.results42 (by simp) ?_
  have H := Hp.refl w
  refine W_seq ?_
  refine W_region_l ?_
  refine WL_stepM rfl (R_as) ?_
  refine WL_nil ?_
  refine W_seq ?_
  refine W_region_l ?_
  refine WL_stepM rfl (R_mv) ?_
  (refine WL_call rfl (R_call rfl Try.call66 rfl) (names_ret (H.block hp (by simp)) (H.block hb (by simp)) hN hN2 hg hv) ?_; rintro v w8 ⟨M, hO, H1⟩; obtain ⟨ao, ca, rfl⟩ := OwnS.form hO; replace H := H.seqD H1 hO.keys; clear H1)
  refine WL_step rfl (R_len_slice Try.underlying51 rfl) ?_
  refine WL_stepM rfl (R_as) ?_
  refine WL_nil ?_
  refine W_ret ?_
  exact ⟨_, rfl, rfl, H⟩
end
theorem fun_ret {w : World} {b : Nat} {x : Int} (hb : w.heap[b]? = some (blk [I x] 3)) : Ret Try.prog 36 #[ptr b 0] w fun v w' => v = I x ∧ Hp w [] w' := by
  refine Ret_of_W (args := [_]) Try.func36 rfl Try.ntmps36 Try.results36 (by simp) ?_
  have H := Hp.refl w
  refine W_seq ?_
  refine W_region_l ?_
  refine WL_stepM rfl (R_as) ?_
  refine WL_nil ?_
  refine W_seq ?_
  refine W_region_l ?_
  refine WL_step rfl (R_load (v := I x) Try.isAgg3 rfl (H.block hb (by simp)) rfl) ?_
  refine WL_stepM rfl (R_as) ?_
  refine WL_nil ?_
  refine W_ret ?_
  exact ⟨_, rfl, rfl, H⟩
end Go.Proofs.Ytjkkfahjgaidbaa.TabF

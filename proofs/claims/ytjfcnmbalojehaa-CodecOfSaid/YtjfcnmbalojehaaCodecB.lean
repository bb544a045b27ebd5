/-
  Package codec's own try, and what a sum is.
-/
import Derived.Test.YtjfcnmbalojehaaCodecA
namespace Go.Proofs.Ytjfcnmbalojehaa.Codec
open Go Go.Proofs Go.Proofs.Ytjfcnmbalojehaa.Fx
set_option maxRecDepth 100000
set_option linter.unusedVariables false
set_option maxHeartbeats 1000000

theorem awake_ret (w : World) : Ret Try.prog 22 #[] w fun v w' => v = .bool true ∧ Hp w [] w' := by
  refine Ret_of_W (args := []) Try.func22 rfl Try.ntmps22 Try.results22 (by simp) ?_
  have H := Hp.refl w
  refine W_seq ?_
  refine W_region_l ?_
  refine WL_stepM rfl (R_as) ?_
  refine WL_nil ?_
  refine W_seq ?_
  refine W_region_l ?_
  (refine WL_effn rfl (E_makeSlice H Try.underlying43 Try.sizeOf5 Try.typeInfo5 Try.zeroValue5 rfl rfl rfl (by omega) (by omega) (by omega) (by simp only [Try.t5]; omega)) ?_; clear H; intro b7 w7 hb7 H)
  refine WL_stepM rfl (R_as) ?_
  refine WL_nil ?_
  refine W_seq ?_
  refine W_region_l ?_
  refine WL_stepM rfl (R_mv) ?_
  (refine WL_call rfl (R_call rfl Try.call28 rfl) (put2_yes (k := 1) (m := 258) (H.get .here) (by omega) (by simp) (by omega) (by omega)) ?_; rintro _ w13 ⟨rfl, H1⟩; replace H := H.seq H1 (okSeq_set .here okSeq_nil); clear H1)
  refine WL_stepM rfl (R_as) ?_
  refine WL_nil ?_
  refine W_seq ?_
  refine W_region_l ?_
  refine WL_stepM rfl (R_mv) ?_
  (refine WL_call rfl (R_call rfl Try.call30 rfl) (get2_yes (xs := [0, 1, 2, 0]) (k := 1) (RdS.blk (H.get .here) rfl (by simp) (by simp)) (by simp) (by simp)) ?_; rintro _ w19 ⟨rfl, H1⟩; replace H := H.seq0 H1; clear H1)
  refine WL_stepM rfl (R_mv) ?_
  refine WL_step rfl (R_extract rfl rfl) ?_
  refine WL_step rfl (R_extract rfl rfl) ?_
  refine WL_stepM rfl (R_as) ?_
  refine WL_stepM rfl (R_as) ?_
  refine WL_nil ?_
  refine W_seq ?_
  refine W_region_l ?_
  (refine WL_effn rfl (E_buildOnes (vs := [(.int _ _), (.int _ _)]) H Try.underlying43 Try.sizeOf5 Try.zeroValue5 rfl rfl (by decide) rfl rfl (by simp [Value.oneCell'])) ?_; clear H; intro b28 w28 hb28 H)
  (refine WL_call rfl (R_call rfl Try.call23 rfl) (sum_ret (xs := [1, 2]) (RdS.blk (H.get .here) rfl (by simp) (by simp)) (by simp)) ?_; rintro _ w29 ⟨rfl, H1⟩; rw [show sumB [1, 2] = 5 from rfl]; replace H := H.seq0 H1; clear H1)
  refine WL_step rfl (R_eq_t rfl rfl (by decide)) ?_
  refine WL_stepM rfl (R_mv) ?_
  refine WL_guard_t rfl rfl ?_
  refine WL_stepM rfl (R_mv) ?_
  refine WL_stepM rfl (R_pk_t rfl) ?_
  refine WL_stepM rfl (R_mv) ?_
  refine WL_guard_t rfl rfl ?_
  refine WL_stepM rfl (R_mv) ?_
  refine WL_guard_t rfl rfl ?_
  refine WL_step rfl (R_eq_t rfl rfl (by decide)) ?_
  refine WL_stepM rfl (R_pk_t rfl) ?_
  refine WL_stepM rfl (R_mv) ?_
  refine WL_guard_t rfl rfl ?_
  refine WL_stepM rfl (R_mv) ?_
  refine WL_stepM rfl (R_pk_t rfl) ?_
  refine WL_stepM rfl (R_mv) ?_
  refine WL_guard_t rfl rfl ?_
  refine WL_stepM rfl (R_mv) ?_
  refine WL_guard_t rfl rfl ?_
  refine WL_step rfl (R_indexAddr (off' := 1) Try.underlying43 Try.sizeOf5 rfl rfl (by omega) (by omega) rfl) ?_
  refine WL_guard_t rfl rfl ?_
  refine WL_step rfl (R_load Try.isAgg5 rfl (H.get (.there .here)) rfl) ?_
  refine WL_guard_t rfl rfl ?_
  refine WL_step rfl (R_eq_t rfl rfl (by decide)) ?_
  refine WL_stepM rfl (R_pk_t rfl) ?_
  refine WL_stepM rfl (R_mv) ?_
  refine WL_guard_t rfl rfl ?_
  refine WL_stepM rfl (R_mv) ?_
  refine WL_guard_t rfl rfl ?_
  refine WL_step rfl (R_indexAddr (off' := 2) Try.underlying43 Try.sizeOf5 rfl rfl (by omega) (by omega) rfl) ?_
  refine WL_guard_t rfl rfl ?_
  refine WL_step rfl (R_load Try.isAgg5 rfl (H.get (.there .here)) rfl) ?_
  refine WL_guard_t rfl rfl ?_
  refine WL_step rfl (R_eq_t rfl rfl (by decide)) ?_
  refine WL_stepM rfl (R_pk_t rfl) ?_
  refine WL_stepM rfl (R_mv) ?_
  refine WL_guard_t rfl rfl ?_
  refine WL_stepM rfl (R_mv) ?_
  refine WL_guard_t rfl rfl ?_
  (refine WL_call rfl (R_call rfl Try.call25 rfl) (blank_ret (xs := [0, 1, 2, 0]) (RdS.blk (H.get (.there .here)) rfl (by simp) (by simp)) (by simp)) ?_; rintro _ w69 ⟨rfl, H1⟩; rw [show decide (∀ x ∈ ([0, 1, 2, 0] : List UInt8), x = 0) = false from by decide]; replace H := H.seq0 H1; clear H1)
  refine WL_guard_t rfl rfl ?_
  refine WL_step rfl (R_not_f rfl) ?_
  refine WL_stepM rfl (R_pk_t rfl) ?_
  refine WL_stepM rfl (R_mv) ?_
  refine WL_guard_t rfl rfl ?_
  (refine WL_call rfl (R_call rfl Try.call25 rfl) (blank_ret (xs := []) RdS.nil (by simp)) ?_; rintro _ w75 ⟨rfl, H1⟩; rw [show decide (∀ x ∈ ([] : List UInt8), x = 0) = true from by decide]; replace H := H.seq0 H1; clear H1)
  refine WL_stepM rfl (R_pk_t rfl) ?_
  refine WL_stepM rfl (R_as) ?_
  refine WL_nil ?_
  refine W_ret ?_
  exact ⟨_, rfl, rfl, (H.pop (by assumption)).pop (by assumption)⟩

theorem foldl_add (c : UInt8) (xs : List UInt8) : xs.foldl (· + ·) c = c + xs.foldl (· + ·) 0 := by
  induction xs generalizing c with
  | nil => simp
  | cons x xs ih => rw [List.foldl_cons, List.foldl_cons, ih, ih (0 + x)]; simp [UInt8.add_assoc]

theorem sumB_append (xs ys : List UInt8) : sumB (xs ++ ys) = sumB xs + sumB ys := by
  unfold sumB
  rw [List.foldl_append, foldl_add _ ys, foldl_add _ xs, foldl_add (UInt8.ofNat xs.length) xs, foldl_add (UInt8.ofNat ys.length) ys, List.length_append, UInt8.ofNat_add]
  simp only [UInt8.add_assoc]
  congr 1
  rw [UInt8.add_comm (UInt8.ofNat ys.length), UInt8.add_assoc]
  congr 1
  exact UInt8.add_comm _ _

theorem sumB_comm (xs ys : List UInt8) : sumB (xs ++ ys) = sumB (ys ++ xs) := by
  rw [sumB_append, sumB_append, UInt8.add_comm]

theorem sumB_turn (xs : List UInt8) (q : Nat) : sumB (xs.drop q ++ xs.take q) = sumB xs := by
  rw [sumB_comm, List.take_append_drop]

theorem sumB_one (x : UInt8) : sumB [x] = 1 + x := by
  unfold sumB; simp

theorem sumB_more (xs : List UInt8) : sumB (xs ++ [0]) = sumB xs + 1 := by
  rw [sumB_append, sumB_one]; simp

theorem sumB_up (xs : List UInt8) (j : Nat) (h : j < xs.length) : sumB (xs.set j (xs[j] + 1)) = sumB xs + 1 := by
  have e1 : xs = xs.take j ++ ([xs[j]] ++ xs.drop (j + 1)) := by simp
  have e2 : xs.set j (xs[j] + 1) = xs.take j ++ ([xs[j] + 1] ++ xs.drop (j + 1)) := by
    rw [List.set_eq_take_append_cons_drop, if_pos h]; rfl
  rw [e2]
  conv => rhs; rw [e1]
  rw [sumB_append, sumB_append, sumB_append, sumB_append, sumB_one, sumB_one]
  generalize sumB (xs.take j) = a
  generalize sumB (xs.drop (j + 1)) = b
  generalize xs[j] = x
  simp only [UInt8.add_assoc]
  congr 2
  congr 1
  exact UInt8.add_comm _ _

theorem turn_get (xs : List UInt8) (r i k : Nat) (hi : i < xs.length) (hk : k = (i + r) % xs.length) : (xs.drop (r % xs.length) ++ xs.take (r % xs.length))[i]? = xs[k]? := by
  have hn : 0 < xs.length := by omega
  have hq := Nat.mod_lt r hn
  have e0 : (i + r) % xs.length = (i + r % xs.length) % xs.length := by simp [Nat.add_mod]
  subst hk
  rw [e0]
  clear e0
  generalize r % xs.length = q at hq
  rw [List.getElem?_append, List.length_drop]
  split
  · rename_i h
    rw [List.getElem?_drop, Nat.mod_eq_of_lt (by omega), Nat.add_comm]
  · rename_i h
    rw [List.getElem?_take, if_pos (by omega)]
    congr 1
    rw [Nat.mod_eq_sub_mod (by omega), Nat.mod_eq_of_lt (by omega)]
    omega
end Go.Proofs.Ytjfcnmbalojehaa.Codec

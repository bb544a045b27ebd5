/-
  Either of two Bells that both are.
-/
import Derived.Test.YtjfcnmbalojehaaBellC
import Derived.Test.YtjfcnmbalojehaaSameInts
import Derived.Test.YtjfcnmbalojehaaFxM
import Derived.Test.YtjfcnmbalojehaaFxO
namespace Go.Proofs.Ytjfcnmbalojehaa.Bell
open Go Go.Proofs Go.Proofs.Ytjfcnmbalojehaa.Fx
set_option maxRecDepth 100000
set_option linter.unusedVariables false

abbrev bp (b : Nat) : Obj := blk [.chan (some b)] 90
abbrev bc (c : Nat) (xs : List Int) (s r : Nat) : Obj := .chan c (xs.map I).toArray false s r false

section
variable {w0 w : World} {p q b b2 c s r c2 s2 r2 : Nat} {L : List (Nat × Obj)}

theorem either_first {x : Int} {xs : List Int} (q : Nat) (H : Hp w0 ((p, bp b) :: (b, bc c (x :: xs) s r) :: L) w) :
    Ret Try.prog 16 #[ptr p 0, ptr q 0] w fun v w' => v = .tuple #[I x, I 0, .bool true] ∧ Hp w0 ((p, bp b) :: (b, bc c xs s (r + 1)) :: L) w' := by
  refine Ret_of_W (args := [_, _]) Try.func16 rfl Try.ntmps16 Try.results16 (by simp) ?_
  refine W_seq ?_
  refine W_region_l ?_
  refine WL_stepM rfl (R_as) ?_
  refine WL_stepM rfl (R_as) ?_
  refine WL_stepM rfl (R_as) ?_
  refine WL_nil ?_
  refine W_seq ?_
  refine W_seq ?_
  refine W_region_l ?_
  refine WL_stepM rfl (R_mv) ?_
  refine WL_stepM rfl (R_mv) ?_
  (refine WL_effn rfl (E_buildOnes (vs := [(.pointer _), (.pointer _)]) H Try.underlying91 Try.sizeOf23 Try.zeroValue23 rfl rfl (by decide) rfl rfl (by simp [Value.oneCell'])) ?_; clear H; intro b12 w12 hb12 H)
  refine WL_step rfl (R_len_slice Try.underlying91 rfl) ?_
  refine WL_stepM rfl (R_mv) ?_
  refine WL_nil ?_
  refine W_block ?_
  refine W_rounds 2 ?_
  refine W_seq ?_
  refine W_region_l ?_
  refine WL_step rfl (R_lt_t rfl rfl (by omega)) ?_
  refine WL_nil ?_
  refine W_seq ?_
  refine W_cond_t rfl ?_
  refine W_skip ?_
  refine W_seq ?_
  refine W_block ?_
  refine W_seq ?_
  refine W_region_l ?_
  refine WL_stepM rfl (R_mv) ?_
  refine WL_step rfl (R_indexAddr (off' := 0) Try.underlying91 Try.sizeOf23 rfl rfl (by omega) (by omega) rfl) ?_
  refine WL_step rfl (R_load Try.isAgg23 rfl (H.get .here) rfl) ?_
  refine WL_stepM rfl (R_as) ?_
  refine WL_stepM rfl (R_as) ?_
  refine WL_nil ?_
  refine W_seq ?_
  refine W_seq ?_
  refine W_region_l ?_
  refine WL_stepM rfl (R_mv) ?_
  refine WL_step rfl (R_eq_ptr_nil Try.underlying23 rfl rfl) ?_
  refine WL_nil ?_
  refine W_cond_f rfl ?_
  refine W_skip ?_
  refine W_seq ?_
  refine W_region_l ?_
  refine WL_stepM rfl (R_mv) ?_
  (refine WL_call rfl (R_call rfl Try.call18 rfl) (take_some (H.get (.there .here)) (H.get (.there (.there .here)))) ?_; rintro _ w46 ⟨rfl, H1⟩; replace H := H.seq H1 (okSeq_set (.there (.there .here)) okSeq_nil); clear H1)
  refine WL_stepM rfl (R_mv) ?_
  refine WL_step rfl (R_extract rfl rfl) ?_
  refine WL_step rfl (R_extract rfl rfl) ?_
  refine WL_stepM rfl (R_as) ?_
  refine WL_stepM rfl (R_as) ?_
  refine WL_nil ?_
  refine W_seq ?_
  refine W_region_l ?_
  refine WL_stepM rfl (R_mv) ?_
  refine WL_nil ?_
  refine W_cond_t rfl ?_
  refine W_seq ?_
  refine W_region_l ?_
  refine WL_stepM rfl (R_mv) ?_
  refine WL_stepM rfl (R_mv) ?_
  refine WL_stepM rfl (R_as) ?_
  refine WL_stepM rfl (R_as) ?_
  refine WL_stepM rfl (R_as) ?_
  refine WL_nil ?_
  refine W_ret ?_
  exact ⟨_, rfl, rfl, H.pop (by assumption)⟩

theorem either_second {x : Int} {xs : List Int} (H : Hp w0 ((p, bp b) :: (b, bc c [] s r) :: (q, bp b2) :: (b2, bc c2 (x :: xs) s2 r2) :: L) w) :
    Ret Try.prog 16 #[ptr p 0, ptr q 0] w fun v w' => v = .tuple #[I x, I 1, .bool true] ∧ Hp w0 ((p, bp b) :: (b, bc c [] s r) :: (q, bp b2) :: (b2, bc c2 xs s2 (r2 + 1)) :: L) w' := by
  refine Ret_of_W (args := [_, _]) Try.func16 rfl Try.ntmps16 Try.results16 (by simp) ?_
  refine W_seq ?_
  refine W_region_l ?_
  refine WL_stepM rfl (R_as) ?_
  refine WL_stepM rfl (R_as) ?_
  refine WL_stepM rfl (R_as) ?_
  refine WL_nil ?_
  refine W_seq ?_
  refine W_seq ?_
  refine W_region_l ?_
  refine WL_stepM rfl (R_mv) ?_
  refine WL_stepM rfl (R_mv) ?_
  (refine WL_effn rfl (E_buildOnes (vs := [(.pointer _), (.pointer _)]) H Try.underlying91 Try.sizeOf23 Try.zeroValue23 rfl rfl (by decide) rfl rfl (by simp [Value.oneCell'])) ?_; clear H; intro b12 w12 hb12 H)
  refine WL_step rfl (R_len_slice Try.underlying91 rfl) ?_
  refine WL_stepM rfl (R_mv) ?_
  refine WL_nil ?_
  refine W_block ?_
  refine W_rounds 2 ?_
  refine W_seq ?_
  refine W_region_l ?_
  refine WL_step rfl (R_lt_t rfl rfl (by omega)) ?_
  refine WL_nil ?_
  refine W_seq ?_
  refine W_cond_t rfl ?_
  refine W_skip ?_
  refine W_seq ?_
  refine W_block ?_
  refine W_seq ?_
  refine W_region_l ?_
  refine WL_stepM rfl (R_mv) ?_
  refine WL_step rfl (R_indexAddr (off' := 0) Try.underlying91 Try.sizeOf23 rfl rfl (by omega) (by omega) rfl) ?_
  refine WL_step rfl (R_load Try.isAgg23 rfl (H.get .here) rfl) ?_
  refine WL_stepM rfl (R_as) ?_
  refine WL_stepM rfl (R_as) ?_
  refine WL_nil ?_
  refine W_seq ?_
  refine W_seq ?_
  refine W_region_l ?_
  refine WL_stepM rfl (R_mv) ?_
  refine WL_step rfl (R_eq_ptr_nil Try.underlying23 rfl rfl) ?_
  refine WL_nil ?_
  refine W_cond_f rfl ?_
  refine W_skip ?_
  refine W_seq ?_
  refine W_region_l ?_
  refine WL_stepM rfl (R_mv) ?_
  (refine WL_call rfl (R_call rfl Try.call18 rfl) (take_none (H.get (.there .here)) (H.get (.there (.there .here)))) ?_; rintro _ w46 ⟨rfl, H1⟩; replace H := H.seq0 H1; clear H1)
  refine WL_stepM rfl (R_mv) ?_
  refine WL_step rfl (R_extract rfl rfl) ?_
  refine WL_step rfl (R_extract rfl rfl) ?_
  refine WL_stepM rfl (R_as) ?_
  refine WL_stepM rfl (R_as) ?_
  refine WL_nil ?_
  refine W_seq ?_
  refine W_region_l ?_
  refine WL_stepM rfl (R_mv) ?_
  refine WL_nil ?_
  refine W_cond_f rfl ?_
  refine W_skip ?_
  refine W_region_l ?_
  refine WL_step rfl (R_add (r := 1) rfl rfl (by decide)) ?_
  refine WL_stepM rfl (R_mv) ?_
  refine WL_nil ?_
  refine Rn_succ ?_
  refine W_seq ?_
  refine W_region_l ?_
  refine WL_step rfl (R_lt_t rfl rfl (by omega)) ?_
  refine WL_nil ?_
  refine W_seq ?_
  refine W_cond_t rfl ?_
  refine W_skip ?_
  refine W_seq ?_
  refine W_block ?_
  refine W_seq ?_
  refine W_region_l ?_
  refine WL_stepM rfl (R_mv) ?_
  refine WL_step rfl (R_indexAddr (off' := 1) Try.underlying91 Try.sizeOf23 rfl rfl (by omega) (by omega) rfl) ?_
  refine WL_step rfl (R_load Try.isAgg23 rfl (H.get .here) rfl) ?_
  refine WL_stepM rfl (R_as) ?_
  refine WL_stepM rfl (R_as) ?_
  refine WL_nil ?_
  refine W_seq ?_
  refine W_seq ?_
  refine W_region_l ?_
  refine WL_stepM rfl (R_mv) ?_
  refine WL_step rfl (R_eq_ptr_nil Try.underlying23 rfl rfl) ?_
  refine WL_nil ?_
  refine W_cond_f rfl ?_
  refine W_skip ?_
  refine W_seq ?_
  refine W_region_l ?_
  refine WL_stepM rfl (R_mv) ?_
  (refine WL_call rfl (R_call rfl Try.call18 rfl) (take_some (H.get (.there (.there (.there .here)))) (H.get (.there (.there (.there (.there .here)))))) ?_; rintro _ w92 ⟨rfl, H1⟩; replace H := H.seq H1 (okSeq_set (.there (.there (.there (.there .here)))) okSeq_nil); clear H1)
  refine WL_stepM rfl (R_mv) ?_
  refine WL_step rfl (R_extract rfl rfl) ?_
  refine WL_step rfl (R_extract rfl rfl) ?_
  refine WL_stepM rfl (R_as) ?_
  refine WL_stepM rfl (R_as) ?_
  refine WL_nil ?_
  refine W_seq ?_
  refine W_region_l ?_
  refine WL_stepM rfl (R_mv) ?_
  refine WL_nil ?_
  refine W_cond_t rfl ?_
  refine W_seq ?_
  refine W_region_l ?_
  refine WL_stepM rfl (R_mv) ?_
  refine WL_stepM rfl (R_mv) ?_
  refine WL_stepM rfl (R_as) ?_
  refine WL_stepM rfl (R_as) ?_
  refine WL_stepM rfl (R_as) ?_
  refine WL_nil ?_
  refine W_ret ?_
  exact ⟨_, rfl, rfl, H.pop (by assumption)⟩

theorem either_neither (H : Hp w0 ((p, bp b) :: (b, bc c [] s r) :: (q, bp b2) :: (b2, bc c2 [] s2 r2) :: L) w) :
    Ret Try.prog 16 #[ptr p 0, ptr q 0] w fun v w' => v = .tuple #[I 0, I 0, .bool false] ∧ Hp w0 ((p, bp b) :: (b, bc c [] s r) :: (q, bp b2) :: (b2, bc c2 [] s2 r2) :: L) w' := by
  refine Ret_of_W (args := [_, _]) Try.func16 rfl Try.ntmps16 Try.results16 (by simp) ?_
  refine W_seq ?_
  refine W_region_l ?_
  refine WL_stepM rfl (R_as) ?_
  refine WL_stepM rfl (R_as) ?_
  refine WL_stepM rfl (R_as) ?_
  refine WL_nil ?_
  refine W_seq ?_
  refine W_seq ?_
  refine W_region_l ?_
  refine WL_stepM rfl (R_mv) ?_
  refine WL_stepM rfl (R_mv) ?_
  (refine WL_effn rfl (E_buildOnes (vs := [(.pointer _), (.pointer _)]) H Try.underlying91 Try.sizeOf23 Try.zeroValue23 rfl rfl (by decide) rfl rfl (by simp [Value.oneCell'])) ?_; clear H; intro b12 w12 hb12 H)
  refine WL_step rfl (R_len_slice Try.underlying91 rfl) ?_
  refine WL_stepM rfl (R_mv) ?_
  refine WL_nil ?_
  refine W_block ?_
  refine W_rounds 3 ?_
  refine W_seq ?_
  refine W_region_l ?_
  refine WL_step rfl (R_lt_t rfl rfl (by omega)) ?_
  refine WL_nil ?_
  refine W_seq ?_
  refine W_cond_t rfl ?_
  refine W_skip ?_
  refine W_seq ?_
  refine W_block ?_
  refine W_seq ?_
  refine W_region_l ?_
  refine WL_stepM rfl (R_mv) ?_
  refine WL_step rfl (R_indexAddr (off' := 0) Try.underlying91 Try.sizeOf23 rfl rfl (by omega) (by omega) rfl) ?_
  refine WL_step rfl (R_load Try.isAgg23 rfl (H.get .here) rfl) ?_
  refine WL_stepM rfl (R_as) ?_
  refine WL_stepM rfl (R_as) ?_
  refine WL_nil ?_
  refine W_seq ?_
  refine W_seq ?_
  refine W_region_l ?_
  refine WL_stepM rfl (R_mv) ?_
  refine WL_step rfl (R_eq_ptr_nil Try.underlying23 rfl rfl) ?_
  refine WL_nil ?_
  refine W_cond_f rfl ?_
  refine W_skip ?_
  refine W_seq ?_
  refine W_region_l ?_
  refine WL_stepM rfl (R_mv) ?_
  (refine WL_call rfl (R_call rfl Try.call18 rfl) (take_none (H.get (.there .here)) (H.get (.there (.there .here)))) ?_; rintro _ w46 ⟨rfl, H1⟩; replace H := H.seq0 H1; clear H1)
  refine WL_stepM rfl (R_mv) ?_
  refine WL_step rfl (R_extract rfl rfl) ?_
  refine WL_step rfl (R_extract rfl rfl) ?_
  refine WL_stepM rfl (R_as) ?_
  refine WL_stepM rfl (R_as) ?_
  refine WL_nil ?_
  refine W_seq ?_
  refine W_region_l ?_
  refine WL_stepM rfl (R_mv) ?_
  refine WL_nil ?_
  refine W_cond_f rfl ?_
  refine W_skip ?_
  refine W_region_l ?_
  refine WL_step rfl (R_add (r := 1) rfl rfl (by decide)) ?_
  refine WL_stepM rfl (R_mv) ?_
  refine WL_nil ?_
  refine Rn_succ ?_
  refine W_seq ?_
  refine W_region_l ?_
  refine WL_step rfl (R_lt_t rfl rfl (by omega)) ?_
  refine WL_nil ?_
  refine W_seq ?_
  refine W_cond_t rfl ?_
  refine W_skip ?_
  refine W_seq ?_
  refine W_block ?_
  refine W_seq ?_
  refine W_region_l ?_
  refine WL_stepM rfl (R_mv) ?_
  refine WL_step rfl (R_indexAddr (off' := 1) Try.underlying91 Try.sizeOf23 rfl rfl (by omega) (by omega) rfl) ?_
  refine WL_step rfl (R_load Try.isAgg23 rfl (H.get .here) rfl) ?_
  refine WL_stepM rfl (R_as) ?_
  refine WL_stepM rfl (R_as) ?_
  refine WL_nil ?_
  refine W_seq ?_
  refine W_seq ?_
  refine W_region_l ?_
  refine WL_stepM rfl (R_mv) ?_
  refine WL_step rfl (R_eq_ptr_nil Try.underlying23 rfl rfl) ?_
  refine WL_nil ?_
  refine W_cond_f rfl ?_
  refine W_skip ?_
  refine W_seq ?_
  refine W_region_l ?_
  refine WL_stepM rfl (R_mv) ?_
  (refine WL_call rfl (R_call rfl Try.call18 rfl) (take_none (H.get (.there (.there (.there .here)))) (H.get (.there (.there (.there (.there .here)))))) ?_; rintro _ w92 ⟨rfl, H1⟩; replace H := H.seq0 H1; clear H1)
  refine WL_stepM rfl (R_mv) ?_
  refine WL_step rfl (R_extract rfl rfl) ?_
  refine WL_step rfl (R_extract rfl rfl) ?_
  refine WL_stepM rfl (R_as) ?_
  refine WL_stepM rfl (R_as) ?_
  refine WL_nil ?_
  refine W_seq ?_
  refine W_region_l ?_
  refine WL_stepM rfl (R_mv) ?_
  refine WL_nil ?_
  refine W_cond_f rfl ?_
  refine W_skip ?_
  refine W_region_l ?_
  refine WL_step rfl (R_add (r := 2) rfl rfl (by decide)) ?_
  refine WL_stepM rfl (R_mv) ?_
  refine WL_nil ?_
  refine Rn_succ ?_
  refine W_seq ?_
  refine W_region_l ?_
  refine WL_step rfl (R_lt_f rfl rfl (by omega)) ?_
  refine WL_nil ?_
  refine W_seq ?_
  refine W_cond_f rfl ?_
  refine W_exit ?_
  refine (if_pos rfl).mpr ?_
  refine W_seq ?_
  refine W_region_l ?_
  refine WL_stepM rfl (R_as) ?_
  refine WL_stepM rfl (R_as) ?_
  refine WL_stepM rfl (R_as) ?_
  refine WL_nil ?_
  refine W_ret ?_
  exact ⟨_, rfl, rfl, H.pop (by assumption)⟩

theorem turn4 {a b c d : Nat × Obj} (H : Hp w0 (a :: b :: c :: d :: L) w) : Hp w0 (c :: d :: a :: b :: L) w :=
  H.perm (((List.perm_append_comm (l₁ := [a, b]) (l₂ := [c, d]))).append_right L)
theorem behind4 {x a b c d : Nat × Obj} (H : Hp w0 (x :: a :: b :: c :: d :: L) w) : Hp w0 (a :: b :: c :: d :: x :: L) w :=
  H.perm (((List.perm_append_comm (l₁ := [x]) (l₂ := [a, b, c, d]))).append_right L)
theorem ahead4 {x a b c d : Nat × Obj} (H : Hp w0 (a :: b :: c :: d :: x :: L) w) : Hp w0 (x :: a :: b :: c :: d :: L) w :=
  H.perm (((List.perm_append_comm (l₁ := [a, b, c, d]) (l₂ := [x]))).append_right L)
end

theorem ringI_room {w : World} {p b c s r : Nat} {xs : List Int} (m : Int) (hp : w.heap[p]? = some (bp b)) (hb : w.heap[b]? = some (bc c xs s r)) (h : xs.length < c) :
    Ret Try.prog 15 #[ptr p 0, I m] w fun v w' => v = .bool true ∧ Hp w [(b, bc c (xs ++ [m]) (s + 1) r)] w' := by
  have := ring_room m hp hb (by rw [List.length_map]; exact h)
  rw [show xs.map I ++ [I m] = (xs ++ [m]).map I by simp] at this
  exact this
theorem ringI_full {w : World} {p b c s r : Nat} {xs : List Int} (m : Int) (hp : w.heap[p]? = some (bp b)) (hb : w.heap[b]? = some (bc c xs s r)) (h : c ≤ xs.length) :
    Ret Try.prog 15 #[ptr p 0, I m] w fun v w' => v = .bool false ∧ Hp w [] w' := ring_full m hp hb (by rw [List.length_map]; exact h)

/-- a call that comes in -/
structure BOp where
  k : Int
  n : Int
  b : Int
def bopC (o : BOp) : List Value := [I o.k, I o.n, I o.b]
theorem bopC_len (o : BOp) : (bopC o).length = 3 := rfl
end Go.Proofs.Ytjfcnmbalojehaa.Bell

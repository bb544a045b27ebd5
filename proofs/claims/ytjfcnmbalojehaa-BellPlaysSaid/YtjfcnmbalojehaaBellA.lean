/-
  What the functions of package bell do.
-/
import Derived.Test.YtjfcnmbalojehaaFxI
import Derived.Test.YtjfcnmbalojehaaProg
namespace Go.Proofs.Ytjfcnmbalojehaa.Bell
open Go Go.Proofs Go.Proofs.Ytjfcnmbalojehaa.Fx
set_option maxRecDepth 100000

theorem new_ret (m : Int) (w : World) : Ret Try.prog 14 #[I m] w fun v w' => ∃ p b, v = ptr p 0 ∧ w.heap.size ≤ p ∧ w.heap.size ≤ b ∧
    Hp w [(p, blk [.chan (some b)] 90), (b, .chan (min (max m 1) 64).toNat [].toArray false 0 0 false)] w' := by
  refine Ret_of_W (args := [_]) Try.func14 rfl Try.ntmps14 Try.results14 (by simp) ?_
  have H := Hp.refl w
  refine W_seq ?_
  refine W_region_l ?_
  refine WL_stepM rfl (R_as) ?_
  refine WL_nil ?_
  refine W_seq ?_
  refine W_region_l ?_
  refine WL_stepM rfl (R_mv) ?_
  refine WL_step rfl (R_max rfl rfl rfl) ?_
  refine WL_step rfl (R_min rfl rfl rfl) ?_
  (refine WL_effn rfl (E_makeChan H rfl Try.underlying88 Try.typeInfo3 (by omega) (by omega) (by decide)) ?_; clear H; intro b10 w10 hb10 H)
  refine WL_step rfl (R_build (vs := [(.chan _)]) rfl rfl) ?_
  (refine WL_effn rfl (E_box (v := (.agg (List.toArray [(.chan _)]))) H rfl rfl) ?_; clear H; intro b12 w12 hb12 H)
  refine WL_stepM rfl (R_as) ?_
  refine WL_nil ?_
  refine W_ret ?_
  exact ⟨_, rfl, _, _, rfl, by assumption, by assumption, H⟩

section
variable {w : World} {p b c s r : Nat} {buf : List Value}

theorem ring_room (m : Int) (hp : w.heap[p]? = some (blk [.chan (some b)] 90)) (hb : w.heap[b]? = some (.chan c buf.toArray false s r false)) (h : buf.length < c) :
    Ret Try.prog 15 #[ptr p 0, I m] w fun v w' => v = .bool true ∧ Hp w [(b, .chan c (buf ++ [I m]).toArray false (s + 1) r false)] w' := by
  refine Ret_of_W (args := [_, _]) Try.func15 rfl Try.ntmps15 Try.results15 (by simp) ?_
  have H := Hp.focus0 hb
  refine W_seq ?_
  refine W_region_l ?_
  refine WL_stepM rfl (R_as) ?_
  refine WL_nil ?_
  refine W_seq ?_
  refine W_seq ?_
  refine W_region_l ?_
  refine WL_stepM rfl (R_mv) ?_
  refine WL_step rfl (R_nilCheck rfl) ?_
  refine WL_step rfl (R_fieldAddr (off' := 0) Try.underlying90 rfl Try.sizeOf88 (by decide) rfl rfl) ?_
  refine WL_step rfl (R_load Try.isAgg88 rfl (by assumption) rfl) ?_
  refine WL_nil ?_
  refine W_region_l ?_
  refine WL_stepM rfl (R_mv) ?_
  refine WL_nil ?_
  refine W_seq ?_
  (refine W_send_room H Try.zeroValue3 rfl rfl .here (by omega) ?_; clear H; intro w17 H)
  refine WL_step rfl (R_extract rfl rfl) ?_
  refine WL_step rfl (R_eq_t rfl rfl (by omega)) ?_
  refine WL_nil ?_
  refine W_block ?_
  refine W_cond_t rfl ?_
  refine W_seq ?_
  refine W_region_l ?_
  refine WL_stepM rfl (R_as) ?_
  refine WL_nil ?_
  refine W_ret ?_
  exact ⟨_, rfl, rfl, H⟩

theorem ring_full (m : Int) (hp : w.heap[p]? = some (blk [.chan (some b)] 90)) (hb : w.heap[b]? = some (.chan c buf.toArray false s r false)) (h : c ≤ buf.length) :
    Ret Try.prog 15 #[ptr p 0, I m] w fun v w' => v = .bool false ∧ Hp w [] w' := by
  refine Ret_of_W (args := [_, _]) Try.func15 rfl Try.ntmps15 Try.results15 (by simp) ?_
  have H := Hp.focus0 hb
  refine W_seq ?_
  refine W_region_l ?_
  refine WL_stepM rfl (R_as) ?_
  refine WL_nil ?_
  refine W_seq ?_
  refine W_seq ?_
  refine W_region_l ?_
  refine WL_stepM rfl (R_mv) ?_
  refine WL_step rfl (R_nilCheck rfl) ?_
  refine WL_step rfl (R_fieldAddr (off' := 0) Try.underlying90 rfl Try.sizeOf88 (by decide) rfl rfl) ?_
  refine WL_step rfl (R_load Try.isAgg88 rfl (by assumption) rfl) ?_
  refine WL_nil ?_
  refine W_region_l ?_
  refine WL_stepM rfl (R_mv) ?_
  refine WL_nil ?_
  refine W_seq ?_
  refine W_send_full H Try.zeroValue3 rfl rfl .here (by omega) ?_
  refine WL_step rfl (R_extract rfl rfl) ?_
  refine WL_step rfl (R_eq_f rfl rfl (by omega)) ?_
  refine WL_nil ?_
  refine W_block ?_
  refine W_cond_f rfl ?_
  refine W_seq ?_
  refine W_region_l ?_
  refine WL_stepM rfl (R_as) ?_
  refine WL_nil ?_
  refine W_ret ?_
  exact ⟨_, rfl, rfl, Hp.refl _⟩

theorem take_some {x : Int} (hp : w.heap[p]? = some (blk [.chan (some b)] 90)) (hb : w.heap[b]? = some (.chan c (I x :: buf).toArray false s r false)) :
    Ret Try.prog 18 #[ptr p 0] w fun v w' => v = .tuple #[I x, .bool true] ∧ Hp w [(b, .chan c buf.toArray false s (r + 1) false)] w' := by
  refine Ret_of_W (args := [_]) Try.func18 rfl Try.ntmps18 Try.results18 (by simp) ?_
  have H := Hp.focus0 hb
  refine W_seq ?_
  refine W_region_l ?_
  refine WL_stepM rfl (R_as) ?_
  refine WL_stepM rfl (R_as) ?_
  refine WL_nil ?_
  refine W_seq ?_
  refine W_region_l ?_
  refine WL_stepM rfl (R_mv) ?_
  refine WL_step rfl (R_nilCheck rfl) ?_
  refine WL_step rfl (R_fieldAddr (off' := 0) Try.underlying90 rfl Try.sizeOf88 (by decide) rfl rfl) ?_
  refine WL_step rfl (R_load Try.isAgg88 rfl (by assumption) rfl) ?_
  refine WL_nil ?_
  refine W_seq ?_
  (refine W_recv_some H Try.zeroValue3 rfl .here ?_; clear H; intro w14 H)
  refine WL_step rfl (R_extract rfl rfl) ?_
  refine WL_step rfl (R_eq_t rfl rfl (by omega)) ?_
  refine WL_nil ?_
  refine W_block ?_
  refine W_cond_t rfl ?_
  refine W_seq ?_
  refine W_region_l ?_
  refine WL_step rfl (R_extract rfl rfl) ?_
  refine WL_stepM rfl (R_as) ?_
  refine WL_nil ?_
  refine W_seq ?_
  refine W_region_l ?_
  refine WL_stepM rfl (R_mv) ?_
  refine WL_stepM rfl (R_as) ?_
  refine WL_stepM rfl (R_as) ?_
  refine WL_nil ?_
  refine W_ret ?_
  exact ⟨_, rfl, rfl, H⟩

theorem take_none (hp : w.heap[p]? = some (blk [.chan (some b)] 90)) (hb : w.heap[b]? = some (.chan c [].toArray false s r false)) :
    Ret Try.prog 18 #[ptr p 0] w fun v w' => v = .tuple #[I 0, .bool false] ∧ Hp w [] w' := by
  refine Ret_of_W (args := [_]) Try.func18 rfl Try.ntmps18 Try.results18 (by simp) ?_
  have H := Hp.focus0 hb
  refine W_seq ?_
  refine W_region_l ?_
  refine WL_stepM rfl (R_as) ?_
  refine WL_stepM rfl (R_as) ?_
  refine WL_nil ?_
  refine W_seq ?_
  refine W_region_l ?_
  refine WL_stepM rfl (R_mv) ?_
  refine WL_step rfl (R_nilCheck rfl) ?_
  refine WL_step rfl (R_fieldAddr (off' := 0) Try.underlying90 rfl Try.sizeOf88 (by decide) rfl rfl) ?_
  refine WL_step rfl (R_load Try.isAgg88 rfl (by assumption) rfl) ?_
  refine WL_nil ?_
  refine W_seq ?_
  refine W_recv_none H Try.zeroValue3 rfl .here ?_
  refine WL_step rfl (R_extract rfl rfl) ?_
  refine WL_step rfl (R_eq_f rfl rfl (by omega)) ?_
  refine WL_nil ?_
  refine W_block ?_
  refine W_cond_f rfl ?_
  refine W_seq ?_
  refine W_region_l ?_
  refine WL_stepM rfl (R_as) ?_
  refine WL_stepM rfl (R_as) ?_
  refine WL_nil ?_
  refine W_ret ?_
  exact ⟨_, rfl, rfl, Hp.refl _⟩

theorem len_ret {k : Nat} (hk : buf.length = k) (hp : w.heap[p]? = some (blk [.chan (some b)] 90)) (hb : w.heap[b]? = some (.chan c buf.toArray false s r false)) :
    Ret Try.prog 21 #[ptr p 0] w fun v w' => v = I k ∧ Hp w [] w' := by
  subst hk
  refine Ret_of_W (args := [_]) Try.func21 rfl Try.ntmps21 Try.results21 (by simp) ?_
  have H := Hp.focus0 hb
  refine W_seq ?_
  refine W_region_l ?_
  refine WL_stepM rfl (R_as) ?_
  refine WL_nil ?_
  refine W_seq ?_
  refine W_region_l ?_
  refine WL_stepM rfl (R_mv) ?_
  refine WL_step rfl (R_nilCheck rfl) ?_
  refine WL_step rfl (R_fieldAddr (off' := 0) Try.underlying90 rfl Try.sizeOf88 (by decide) rfl rfl) ?_
  refine WL_step rfl (R_load Try.isAgg88 rfl (by assumption) rfl) ?_
  refine WL_step rfl (R_len_chan Try.underlying88 rfl (H.get .here)) ?_
  refine WL_stepM rfl (R_as) ?_
  refine WL_nil ?_
  refine W_ret ?_
  exact ⟨_, rfl, rfl, Hp.refl _⟩
end

end Go.Proofs.Ytjfcnmbalojehaa.Bell

/-
  What the functions of package codec do: the codecs of numbers, and copies of bytes.
-/
import Derived.Test.YtjfcnmbalojehaaCodecB
import Derived.Test.YtjfcnmbalojehaaClone
namespace Go.Proofs.Ytjfcnmbalojehaa.Codec
open Go Go.Proofs Go.Proofs.Ytjfcnmbalojehaa.Fx
set_option maxRecDepth 100000
set_option linter.unusedVariables false
set_option maxHeartbeats 1000000

/-- the size that is kept -/
def szOf (n : Int) : Int := min (max n 0) 64

theorem newI_ret {n : Int} {p g : Value} (hp : p = .nilFunc ∨ ∃ f a c, p = .func f a c) (hg : g = .nilFunc ∨ ∃ f a c, g = .func f a c) (w : World) :
    Ret Try.prog 36 #[I n, p, g] w fun v w' => ∃ b, v = ptr b 0 ∧ w.heap.size ≤ b ∧ Hp w [(b, blk [I (szOf n), p, g] 98)] w' := by
  refine Ret_of_W (args := [_, _, _]) Try.func36 rfl Try.ntmps36 Try.results36 (by simp) ?_
  have H := Hp.refl w
  refine W_seq ?_
  refine W_region_l ?_
  refine WL_stepM rfl (R_as) ?_
  refine WL_nil ?_
  refine W_seq ?_
  refine W_region_l ?_
  refine WL_stepM rfl (R_mv) ?_
  refine WL_step rfl (R_max rfl rfl rfl) ?_
  refine WL_step rfl (R_min rfl rfl rfl) ?_
  refine WL_stepM rfl (R_mv) ?_
  refine WL_stepM rfl (R_mv) ?_
  refine WL_step rfl (R_build (vs := [I (szOf n), p, g]) rfl (by rcases hp with rfl | ⟨_, _, _, rfl⟩ <;> rcases hg with rfl | ⟨_, _, _, rfl⟩ <;> rfl)) ?_
  (refine WL_effn rfl (E_box (v := (.agg (List.toArray [(.int _ _), p, g]))) H rfl rfl) ?_; clear H; intro b13 w13 hb13 H)
  refine WL_stepM rfl (R_as) ?_
  refine WL_nil ?_
  refine W_ret ?_
  exact ⟨_, rfl, _, rfl, by assumption, H⟩
end Go.Proofs.Ytjfcnmbalojehaa.Codec

/-
  How many names are in a table; package table's own try.
-/
import Derived.Test.YtjkkfahjgaidbaaTableE
namespace Go.Proofs.Ytjkkfahjgaidbaa.Tab
open Go Go.Proofs Go.Proofs.Ytjkkfahjgaidbaa.Fx
set_option maxRecDepth 100000
set_option linter.unusedVariables false
set_option linter.unusedSimpArgs false
set_option maxHeartbeats 1000000

section
variable {w : World} {p b : Nat} {l : List Pl} {N : Nat}
theorem len_ret (hp : w.heap[p]? = some (blk [sl b 0 N N] 93)) (hb : w.heap[b]? = some (blk (rows plc l) 95)) (hN : l.length = N) (hN2 : N ≤ 256) (hg : ∀ a ∈ l, a.g ≤ 1000001)
    (hv : ∀ a ∈ l, a.v.oneCell' = true) :
    Ret Try.prog 30 #[ptr p 0] w fun v w' => v = I (namesFrom 0 l).length ∧ Hp w [] w' := by
  refine Ret_of_W (args := [_]) Try.func30 rfl Try.ntmps30 Try.results30 (by simp) ?_
  have H := Hp.refl w
  refine W_seq ?_
  refine W_region_l ?_
  refine WL_stepM rfl (R_as) ?_
  refine WL_nil ?_
  refine W_seq ?_
  refine W_region_l ?_
  refine WL_stepM rfl (R_mv) ?_
  (refine WL_call rfl (R_call rfl Try.call55 rfl) (names_ret (H.block hp (by simp)) (H.block hb (by simp)) hN hN2 hg hv) ?_; rintro v w8 ⟨M, hO, H1⟩; obtain ⟨ao, ca, rfl⟩ := OwnS.form hO; replace H := H.seqD H1 hO.keys; clear H1)
  refine WL_step rfl (R_len_slice Try.underlying51 rfl) ?_
  refine WL_stepM rfl (R_as) ?_
  refine WL_nil ?_
  refine W_ret ?_
  exact ⟨_, rfl, rfl, H⟩
end
end Go.Proofs.Ytjkkfahjgaidbaa.Tab

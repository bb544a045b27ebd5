/-
  Numbers in two bytes, as the document has them.
-/
import Derived.Test.YtcpkhgdjckogjaaRefA
import Derived.Test.YtcpkhgdjckogjaaFxO
namespace Go.Proofs.Ytcpkhgdjckogjaa.Codec
open Go Go.Proofs Go.Proofs.Ytcpkhgdjckogjaa.Fx
set_option maxRecDepth 100000
set_option linter.unusedVariables false
set_option linter.unusedSimpArgs false
set_option maxHeartbeats 1000000

theorem two_ret (n : Nat) (w : World) :
    Ret Try.prog 52 #[I n] w fun v w' => v = S [UInt8.ofNat (n / 256), UInt8.ofNat n] ∧ Hp w [] w' := by
  refine Ret_of_W (args := [_]) Try.func52 rfl Try.ntmps52 Try.results52 (by simp) ?_
  have H := Hp.refl w
  refine W_seq ?_
  refine W_region_l ?_
  refine WL_stepM rfl (R_as) ?_
  refine WL_nil ?_
  refine W_seq ?_
  refine W_region_l ?_
  refine WL_stepM rfl (R_mv) ?_
  refine WL_step rfl (R_shr (r := ((n / 256 : Nat) : Int)) rfl rfl (by decide) ((shr_any 256 (by decide)).trans (by omega))) ?_
  refine WL_step rfl (R_conv_int Try.underlying3 Try.underlying5 rfl u8_ofNat) ?_
  refine WL_stepM rfl (R_mv) ?_
  refine WL_step rfl (R_conv_int Try.underlying3 Try.underlying5 rfl u8_ofNat) ?_
  (refine WL_effn rfl (E_buildOnes (vs := [(.int _ _), (.int _ _)]) H Try.underlying22 Try.sizeOf5 Try.zeroValue5 rfl rfl (by decide) rfl rfl (by simp [Value.oneCell'])) ?_; clear H; intro b12 w12 hb12 H)
  refine WL_step rfl (R_conv_bs (xs := [UInt8.ofNat (n / 256), UInt8.ofNat n]) Try.underlying22 Try.underlying5 Try.underlying9 rfl (RdS.blk (H.get .here) rfl (by simp) (by simp))) ?_
  refine WL_stepM rfl (R_as) ?_
  refine WL_nil ?_
  refine W_ret ?_
  exact ⟨_, rfl, rfl, H.pop (by assumption)⟩
end Go.Proofs.Ytcpkhgdjckogjaa.Codec

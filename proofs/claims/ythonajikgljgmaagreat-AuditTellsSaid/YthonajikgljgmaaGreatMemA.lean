/-
  What the functions of package mem do.
-/
import Derived.Test.YthonajikgljgmaaGreatClone
namespace Go.Proofs.YthonajikgljgmaaGreat.Mem
open Go Go.Proofs Go.Proofs.YthonajikgljgmaaGreat.Fx
set_option maxRecDepth 100000
set_option linter.unusedVariables false
set_option maxHeartbeats 1000000

/-- how many bytes so many frames have -/
def szOf (f : Int) : Nat := (64 * min (max f 0) 256).toNat

theorem zmap (n : Nat) : (List.replicate n (0 : UInt8)).map U = List.replicate n (.int .u8 0) := List.map_replicate

section
variable {w : World} {p b : Nat} {xs : List UInt8} {N : Nat}

/-- bytes with others put in from a place on -/
def put (xs ys : List UInt8) (at_ : Nat) : List UInt8 := xs.take at_ ++ ys ++ xs.drop (at_ + ys.length)

theorem put_length {xs ys : List UInt8} {at_ : Nat} (h : at_ + ys.length ≤ xs.length) : (put xs ys at_).length = xs.length := by
  unfold put; simp; omega

end
end Go.Proofs.YthonajikgljgmaaGreat.Mem

/-
  Sums and blank rows, as the document has them.
-/
import Derived.Test.YtlpmfldijgdcoaaGreatDoorBytM
import Derived.Test.YtlpmfldijgdcoaaGreatDoorFxO
namespace Go.Proofs.YtlpmfldijgdcoaaGreatDoor.Codec
open Go Go.Proofs Go.Proofs.YtlpmfldijgdcoaaGreatDoor.Fx
set_option maxRecDepth 100000
set_option linter.unusedVariables false
set_option linter.unusedSimpArgs false
set_option maxHeartbeats 1000000

def sumN (n : Nat) (l : List UInt8) : Nat := l.foldl (fun a y => a + y.toNat) n

end Go.Proofs.YtlpmfldijgdcoaaGreatDoor.Codec

/-
  Numbers in two bytes, as the document has them.
-/
namespace Go.Proofs.YtlpmfldijgdcoaaGreatDoor.Codec
open Go Go.Proofs Go.Proofs.YtlpmfldijgdcoaaGreatDoor.Fx
set_option maxRecDepth 100000
set_option linter.unusedVariables false
set_option linter.unusedSimpArgs false
set_option maxHeartbeats 1000000

end Go.Proofs.YtlpmfldijgdcoaaGreatDoor.Codec

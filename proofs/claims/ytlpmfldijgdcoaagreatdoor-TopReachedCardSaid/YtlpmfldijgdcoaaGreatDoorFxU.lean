/-
  cap, an append of zeros, slices with three bounds.
-/
import Derived.Test.YtlpmfldijgdcoaaGreatDoorFxO
import Derived.Lib.AppendZeros
namespace Go.Proofs.YtlpmfldijgdcoaaGreatDoor.Fx
open Go
set_option linter.unusedVariables false

section
variable {P : Program} {E : Env} {w0 w : World} {L : List (Nat × Obj)}
variable {d : Option Nat} {ty : TypeId} {pos : String} {after : Array Edge}

end
end Go.Proofs.YtlpmfldijgdcoaaGreatDoor.Fx

/-
  Cells that move within their own block: an append in place, a clear, a cut with both bounds and a capacity.
-/
import Derived.Test.YtlpmfldijgdcoaaGreatDoorFxU
namespace Go.Proofs.YtlpmfldijgdcoaaGreatDoor.Fx
open Go

section
variable {P : Program} {E : Env} {w0 w : World} {L : List (Nat × Obj)}
variable {d : Option Nat} {ty : TypeId} {pos : String} {after : Array Edge}

end
end Go.Proofs.YtlpmfldijgdcoaaGreatDoor.Fx

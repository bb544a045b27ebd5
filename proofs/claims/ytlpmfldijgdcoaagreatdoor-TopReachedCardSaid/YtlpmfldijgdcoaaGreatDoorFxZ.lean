/-
  A row with a mark behind it.
-/
import Derived.Test.YtlpmfldijgdcoaaGreatDoorFxX
import Derived.Test.YtlpmfldijgdcoaaGreatDoorFxY
namespace Go.Proofs.YtlpmfldijgdcoaaGreatDoor.Fx
open Go

/-! ### a row with a mark behind it -/
section
variable {P : Program} {E : Env} {w0 w : World} {L : List (Nat × Obj)} {d : Option Nat} {ty : TypeId} {pos : String} {after : Array Edge}
end
section
variable {P : Program} {E : Env} {w : World} {d : Option Nat} {ty : TypeId} {pos : String} {after : Array Edge}
/-- the whole of an array -/
theorem R_all {t elem : TypeId} {x : Operand} {b off m : Nat} (ht : P.underlying t = some (.array m elem)) (hS : ∀ w, (sizeOf elem).run P w = .ok 1 w)
    (hx : ev E x = ptr b off) (h0 : 0 < m)
    : (execOp (ev E) (mk d (.slice t x none none none) ty pos after)).run P w = .ok (.value (sl b off m m)) w := by
  have h := R_sliceArr (d := d) (ty := ty) (pos := pos) (after := after) (w := w) (off' := off) (i := 0) (j := (m : Int)) ht hS hx (.none (dflt := 0)) (.none (dflt := (m : Int))) (by omega) (by omega) (by omega) (by omega) (by simp)
  simpa using h
end
end Go.Proofs.YtlpmfldijgdcoaaGreatDoor.Fx

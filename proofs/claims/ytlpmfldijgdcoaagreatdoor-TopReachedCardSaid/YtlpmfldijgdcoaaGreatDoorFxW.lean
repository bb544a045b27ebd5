/-
  Cuts with plain numbers.
-/
import Derived.Test.YtlpmfldijgdcoaaGreatDoorFxV
namespace Go.Proofs.YtlpmfldijgdcoaaGreatDoor.Fx
open Go

section
variable {P : Program} {E : Env} {w : World} {d : Option Nat} {ty : TypeId} {pos : String} {after : Array Edge}
theorem R_to {t elem : TypeId} {x hi : Operand} {b off len cap i sz : Nat} (ht : P.underlying t = some (.slice elem)) (hS : ∀ w, (sizeOf elem).run P w = .ok sz w)
    (hx : ev E x = sl b off len cap) (hhi : ev E hi = I i) (hlc : len ≤ cap) (hic : i ≤ cap)
    : (execOp (ev E) (mk d (.slice t x none (some hi) none) ty pos after)).run P w = .ok (.value (sl b off i cap)) w := by
  have := R_slice (d := d) (ty := ty) (pos := pos) (after := after) (w := w) (off' := off) (i := 0) (j := (i : Int)) ht hS hx .none (.some hhi) hlc (by omega) (by omega) (by omega) (.inl rfl) (by simp)
  simpa using this
theorem R_from {t elem : TypeId} {x lo : Operand} {b off len cap k m : Nat} {k' : Int} (ht : P.underlying t = some (.slice elem)) (hS : ∀ w, (sizeOf elem).run P w = .ok 1 w)
    (hx : ev E x = sl b off len cap) (hlo : ev E lo = I k') (hk' : k' = k) (hlc : len ≤ cap) (hm : len = k + m) (hkc : k < cap)
    : (execOp (ev E) (mk d (.slice t x (some lo) none none) ty pos after)).run P w = .ok (.value (sl b (off + k) m (cap - k))) w := by
  subst hk'
  have := R_slice (d := d) (ty := ty) (pos := pos) (after := after) (w := w) (off' := off + k) (i := (k : Int)) (j := (len : Int)) ht hS hx (.some hlo) .none hlc (by omega) (by omega) (by omega) (.inr (by omega)) (by simp)
  rw [show ((len : Int) - k).toNat = m by omega, show ((cap : Int) - k).toNat = cap - k by omega] at this
  exact this
end
end Go.Proofs.YtlpmfldijgdcoaaGreatDoor.Fx

/-
  What comes in: slices of structs, structs.
-/
import Derived.Test.YtlpmfldijgdcoaaGreatDoorFxO
import Derived.Test.YtlpmfldijgdcoaaGreatDoorFxRow
import Derived.Deep.Slices
import Derived.OpenShut
namespace Go.Proofs.YtlpmfldijgdcoaaGreatDoor.Fx
open Go Go.RowKit Go.ChangeShapes Go.WideShapes Go.Deep
set_option linter.unusedVariables false

section
variable {H : Type} {enc : TypeId × Value → H} {P : Program} {w : World} {base : Nat} {spare : Nat → Bool} {held : Bool}

/-- a slice of integers -/
theorem ints_in {k : IntKind} {t e : TypeId} {a : Option Addr} {len cap : Nat} {d : DataW H} {p : List MemPlace} (ht : P.underlying t = some (.slice e)) (he : P.underlying e = some (.int k)) (hC : P.cellsOf e = 1)
    (h : DataW.Trod enc P w base (fun _ => true) held t (.slice a len cap) d p) :
    ∃ xs : List Int, xs.length = len ∧ len ≤ 9223372036854775807 ∧ RdS w (.slice a len cap) (xs.map (Value.int k)) ∧ ∀ n ∈ xs, (Lit.int k n).wf = true := by
  obtain ⟨fuel, hf⟩ := h
  rcases open_ints ht he hC hf with ⟨hcs, _⟩ | ⟨x, l, c, zs, hcs, _, hl, hm, hz, _, hcell, hwz⟩
  · simp [Value.cells] at hcs
    obtain ⟨rfl, rfl, rfl⟩ := hcs
    exact rds_of_row (.inl ⟨rfl, rfl, rfl, rfl⟩)
  · simp [Value.cells] at hcs
    obtain ⟨rfl, rfl, rfl⟩ := hcs
    exact rds_of_row (.inr ⟨_, rfl, hl, hm, by simpa using hz, hcell, hwz⟩)
end
end Go.Proofs.YtlpmfldijgdcoaaGreatDoor.Fx

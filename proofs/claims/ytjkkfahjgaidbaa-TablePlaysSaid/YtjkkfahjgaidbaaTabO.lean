/-
  Calls of package table that come in.
-/
import Derived.Test.YtjkkfahjgaidbaaFxS
import Derived.Test.YtjkkfahjgaidbaaTabW
namespace Go.Proofs.Ytjkkfahjgaidbaa.TabR
open Go Go.Proofs Go.Proofs.Ytjkkfahjgaidbaa.Fx Go.RowKit
set_option linter.unusedVariables false

theorem tops_in {H : Type} {enc : TypeId × Value → H} {w : World} {a : Option Addr} {len cap : Nat} {d : DataW H} {p : List MemPlace} (h : DataW.Trod enc Try.prog w 0 (fun _ => true) true 72 (.slice a len cap) d p) :
    ∃ l : List TOp, l.length = len ∧ len ≤ 9223372036854775807 ∧ RdR topC w (.slice a len cap) l ∧ ∀ x ∈ l, True := by
  refine rows_of_row (sz := 4) Try.underlying72 (by kernel_rfl) (by decide) topC_len ?_ h
  intro n cs y hy
  obtain ⟨xs, m, _, _, hl, hxl, hf⟩ := DataW.trod_struct Try.underlying78 hy
  have hl4 : cs.length = 4 := hl.trans (by kernel_rfl)
  have c3 : Try.prog.cellsOf 3 = 1 := by kernel_rfl
  have f0 := at_field hf 0 3 0 1 rfl c3
  have f1 := at_field hf 1 3 1 1 rfl c3
  have f2 := at_field hf 2 3 2 1 rfl c3
  have f3 := at_field hf 3 3 3 1 rfl c3
  have hx : xs.length = 4 := hxl
  obtain ⟨x0, e0, _⟩ := field_int Try.underlying3 f0 (List.getElem?_eq_getElem (by omega))
  obtain ⟨x1, e1, _⟩ := field_int Try.underlying3 f1 (List.getElem?_eq_getElem (by omega))
  obtain ⟨x2, e2, _⟩ := field_int Try.underlying3 f2 (List.getElem?_eq_getElem (by omega))
  obtain ⟨x3, e3, _⟩ := field_int Try.underlying3 f3 (List.getElem?_eq_getElem (by omega))
  exact ⟨⟨x0, x1, x2, x3⟩, list4 hl4 (take1 e0) (take1 e1) (take1 e2) (take1 e3), trivial⟩
end Go.Proofs.Ytjkkfahjgaidbaa.TabR

/-
  A file that comes in.
-/
import Derived.Test.YtneeoicjipglkaaFxX
import Derived.Test.YtneeoicjipglkaaFileE
namespace Go.Proofs.Ytneeoicjipglkaa.File
open Go Go.Proofs Go.Proofs.Ytneeoicjipglkaa.Fx Go.RowKit Go.ChangeShapes Go.WideShapes
set_option linter.unusedVariables false

theorem file_in {H : Type} {enc : TypeId × Value → H} {w : World} {base : Nat} {v : Value} {d : DataW H} {p : List MemPlace} (hv : Value.okWide Try.prog w .any base 23 v) (h : DataW.Trod enc Try.prog w 0 (fun _ => true) true 23 v d p) :
    ∃ f : Fl, v = vF f := by
  obtain ⟨cs, rfl, hsz⟩ := okWide_struct Try.underlying23 hv
  obtain ⟨fuel, hf⟩ := h
  obtain ⟨xs, m, _, _, hl, hxl, hf⟩ := DataW.trod_struct Try.underlying23 hf
  have hl4 : cs.toList.length = 4 := hl.trans (by kernel_rfl)
  have c3 : Try.prog.cellsOf 3 = 1 := by kernel_rfl
  have f0 := at_field hf 0 3 0 1 rfl c3
  have f1 := at_field hf 1 3 1 1 rfl c3
  have f2 := at_field hf 2 3 2 1 rfl c3
  have f3 := at_field hf 3 3 3 1 rfl c3
  have hx : xs.length = 4 := hxl
  obtain ⟨x0, e0, _⟩ := field_int Try.underlying3 f0 (List.getElem?_eq_getElem (by omega))
  obtain ⟨x1, e1, _⟩ := field_int Try.underlying3 f1 (List.getElem?_eq_getElem (by omega))
  obtain ⟨x2, e2, _⟩ := field_int Try.underlying3 f2 (List.getElem?_eq_getElem (by omega))
  obtain ⟨x3, e3, _⟩ := field_int Try.underlying3 f3 (List.getElem?_eq_getElem (by omega))
  have := list4 hl4 (take1 e0) (take1 e1) (take1 e2) (take1 e3)
  refine ⟨⟨x0, x1, x2, x3⟩, congrArg Value.agg ?_⟩
  rw [← Array.toArray_toList (xs := cs)]
  exact congrArg List.toArray this
end Go.Proofs.Ytneeoicjipglkaa.File

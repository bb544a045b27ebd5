/-
  Calls of package sig that come in.
-/
import Derived.Test.YtneeoicjipglkaaDoorFxX
import Derived.Test.YtneeoicjipglkaaDoorSigM
namespace Go.Proofs.YtneeoicjipglkaaDoor.Slot
open Go Go.Proofs Go.Proofs.YtneeoicjipglkaaDoor.Fx Go.RowKit
set_option linter.unusedVariables false

theorem sops_in {H : Type} {enc : TypeId × Value → H} {w : World} {a : Option Addr} {len cap : Nat} {d : DataW H} {p : List MemPlace} (h : DataW.Trod enc Tryd.prog w 0 (fun _ => true) true 39 (.slice a len cap) d p) :
    ∃ l : List SOp, l.length = len ∧ len ≤ 9223372036854775807 ∧ RdR sopC w (.slice a len cap) l ∧ ∀ x ∈ l, True := by
  refine rows_of_row (sz := 3) Tryd.underlying39 (by kernel_rfl) (by decide) sopC_len ?_ h
  intro n cs y hy
  obtain ⟨xs, m, _, _, hl, hxl, hf⟩ := DataW.trod_struct Tryd.underlying41 hy
  have hl3 : cs.length = 3 := hl.trans (by kernel_rfl)
  have c3 : Tryd.prog.cellsOf 3 = 1 := by kernel_rfl
  have f0 := at_field hf 0 3 0 1 rfl c3
  have f1 := at_field hf 1 3 1 1 rfl c3
  have f2 := at_field hf 2 3 2 1 rfl c3
  have hx : xs.length = 3 := hxl
  obtain ⟨x0, e0, _⟩ := field_int Tryd.underlying3 f0 (List.getElem?_eq_getElem (by omega))
  obtain ⟨x1, e1, _⟩ := field_int Tryd.underlying3 f1 (List.getElem?_eq_getElem (by omega))
  obtain ⟨x2, e2, _⟩ := field_int Tryd.underlying3 f2 (List.getElem?_eq_getElem (by omega))
  exact ⟨⟨x0, x1, x2⟩, list3 hl3 (take1 e0) (take1 e1) (take1 e2), trivial⟩
end Go.Proofs.YtneeoicjipglkaaDoor.Slot

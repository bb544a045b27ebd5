/-
  Calls that come in.
-/
import Derived.Test.YtjfcnmbalojehaaFxS
import Derived.Test.YtjfcnmbalojehaaBellE
namespace Go.Proofs.Ytjfcnmbalojehaa.Bell
open Go Go.Proofs Go.Proofs.Ytjfcnmbalojehaa.Fx
set_option linter.unusedVariables false

theorem ops_in {H : Type} {enc : TypeId × Value → H} {w : World} {a : Option Addr} {len cap : Nat} {d : DataW H} {p : List MemPlace} (h : DataW.Trod enc Try.prog w 0 (fun _ => true) true 30 (.slice a len cap) d p) :
    ∃ l : List BOp, l.length = len ∧ len ≤ 9223372036854775807 ∧ RdR bopC w (.slice a len cap) l ∧ ∀ x ∈ l, True := by
  refine rows_of_row (sz := 3) Try.underlying30 (by kernel_rfl) (by decide) bopC_len ?_ h
  intro n cs y hy
  obtain ⟨xs, m, _, _, hl, hxl, hf⟩ := DataW.trod_struct Try.underlying35 hy
  have hl3 : cs.length = 3 := hl.trans (by kernel_rfl)
  have c3 : Try.prog.cellsOf 3 = 1 := by kernel_rfl
  have f0 := at_field hf 0 3 0 1 rfl c3
  have f1 := at_field hf 1 3 1 1 rfl c3
  have f2 := at_field hf 2 3 2 1 rfl c3
  have hx : xs.length = 3 := hxl
  obtain ⟨x0, e0, _⟩ := field_int Try.underlying3 f0 (List.getElem?_eq_getElem (by omega))
  obtain ⟨x1, e1, _⟩ := field_int Try.underlying3 f1 (List.getElem?_eq_getElem (by omega))
  obtain ⟨x2, e2, _⟩ := field_int Try.underlying3 f2 (List.getElem?_eq_getElem (by omega))
  exact ⟨⟨x0, x1, x2⟩, list3 hl3 (take1 e0) (take1 e1) (take1 e2), trivial⟩
end Go.Proofs.Ytjfcnmbalojehaa.Bell

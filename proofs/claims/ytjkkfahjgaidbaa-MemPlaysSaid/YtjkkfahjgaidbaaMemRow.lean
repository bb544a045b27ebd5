/-
  Calls of package mem that come in.
-/
import Derived.Test.YtjkkfahjgaidbaaFxX
import Derived.Test.YtjkkfahjgaidbaaMemI
namespace Go.Proofs.Ytjkkfahjgaidbaa.Mem
open Go Go.Proofs Go.Proofs.Ytjkkfahjgaidbaa.Fx Go.RowKit
set_option linter.unusedVariables false

/-- a call that comes in -/
structure MOp where
  k : Int
  a : Int
  n : Int
  w : Nat
  v : Value
  b : List UInt8
def mopC (o : MOp) : List Value := [I o.k, I o.a, I o.n, .int .u32 o.w, o.v]
theorem mopC_len (o : MOp) : (mopC o).length = 5 := rfl
/-- its bytes are there -/
def MOp.ok (w : World) (o : MOp) : Prop := RdS w o.v (o.b.map U) ∧ o.b.length ≤ 9223372036854775807 ∧ o.w < 4294967296

theorem ops_in {H : Type} {enc : TypeId × Value → H} {w : World} {a : Option Addr} {len cap : Nat} {d : DataW H} {p : List MemPlace} (h : DataW.Trod enc Try.prog w 0 (fun _ => true) true 42 (.slice a len cap) d p) :
    ∃ l : List MOp, l.length = len ∧ len ≤ 9223372036854775807 ∧ RdR mopC w (.slice a len cap) l ∧ ∀ x ∈ l, x.ok w := by
  refine rows_of_row (sz := 5) Try.underlying42 (by kernel_rfl) (by decide) mopC_len ?_ h
  intro n cs y hy
  obtain ⟨xs, m, _, _, hl, hxl, hf⟩ := DataW.trod_struct Try.underlying45 hy
  have hl5 : cs.length = 5 := hl.trans (by kernel_rfl)
  have c3 : Try.prog.cellsOf 3 = 1 := by kernel_rfl
  have f0 := at_field hf 0 3 0 1 rfl c3
  have f1 := at_field hf 1 3 1 1 rfl c3
  have f2 := at_field hf 2 3 2 1 rfl c3
  have f3 := at_field hf 3 29 3 1 rfl (by kernel_rfl)
  have f4 := at_field hf 4 26 4 1 rfl (by kernel_rfl)
  have hx : xs.length = 5 := hxl
  obtain ⟨x0, e0, _⟩ := field_int Try.underlying3 f0 (List.getElem?_eq_getElem (by omega))
  obtain ⟨x1, e1, _⟩ := field_int Try.underlying3 f1 (List.getElem?_eq_getElem (by omega))
  obtain ⟨x2, e2, _⟩ := field_int Try.underlying3 f2 (List.getElem?_eq_getElem (by omega))
  obtain ⟨x3, e3, w3⟩ := field_int Try.underlying29 f3 (List.getElem?_eq_getElem (by omega))
  obtain ⟨v4, b4, e4, hb4, hr4⟩ := field_bytes Try.underlying26 Try.underlying5 (by kernel_rfl) f4 (List.getElem?_eq_getElem (by omega))
  have h3 := wf_u32 w3
  obtain ⟨k3, rfl⟩ : ∃ k : Nat, x3 = (k : Int) := ⟨x3.toNat, by omega⟩
  exact ⟨⟨x0, x1, x2, k3, v4, b4⟩, list5 hl5 (take1 e0) (take1 e1) (take1 e2) (take1 e3) (take1 e4), hr4, hb4, (by show k3 < 4294967296; omega)⟩
end Go.Proofs.Ytjkkfahjgaidbaa.Mem

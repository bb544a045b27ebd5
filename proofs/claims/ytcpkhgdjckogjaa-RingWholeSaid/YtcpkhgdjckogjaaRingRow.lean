/-
  Pipes and calls of package ring that come in.
-/
import Derived.Test.YtcpkhgdjckogjaaFxX
import Derived.Test.YtcpkhgdjckogjaaRingA
import Derived.OpenShut
namespace Go.Proofs.Ytcpkhgdjckogjaa.Ring
open Go Go.Proofs Go.Proofs.Ytcpkhgdjckogjaa.Fx Go.RowKit Go.ChangeShapes Go.WideShapes
set_option maxRecDepth 100000
set_option linter.unusedVariables false

/-- a call that comes in -/
structure ROp where
  k : Int
  n : Int
  v : Value
  b : List UInt8
def ropC (o : ROp) : List Value := [I o.k, I o.n, o.v]
theorem ropC_len (o : ROp) : (ropC o).length = 3 := rfl
/-- its bytes are there -/
def ROp.ok (w : World) (o : ROp) : Prop := RdS w o.v (o.b.map U) ∧ o.b.length ≤ 9223372036854775807

theorem ops_in {H : Type} {enc : TypeId × Value → H} {w : World} {a : Option Addr} {len cap : Nat} {d : DataW H} {p : List MemPlace} (h : DataW.Trod enc Try.prog w 0 (fun _ => true) true 41 (.slice a len cap) d p) :
    ∃ l : List ROp, l.length = len ∧ len ≤ 9223372036854775807 ∧ RdR ropC w (.slice a len cap) l ∧ ∀ x ∈ l, x.ok w := by
  refine rows_of_row (sz := 3) Try.underlying41 (by kernel_rfl) (by decide) ropC_len ?_ h
  intro n cs y hy
  obtain ⟨xs, m, _, _, hl, hxl, hf⟩ := DataW.trod_struct Try.underlying43 hy
  have hl3 : cs.length = 3 := hl.trans (by kernel_rfl)
  have c3 : Try.prog.cellsOf 3 = 1 := by kernel_rfl
  have f0 := at_field hf 0 3 0 1 rfl c3
  have f1 := at_field hf 1 3 1 1 rfl c3
  have f2 := at_field hf 2 22 2 1 rfl (by kernel_rfl)
  have hx : xs.length = 3 := hxl
  obtain ⟨x0, e0, _⟩ := field_int Try.underlying3 f0 (List.getElem?_eq_getElem (by omega))
  obtain ⟨x1, e1, _⟩ := field_int Try.underlying3 f1 (List.getElem?_eq_getElem (by omega))
  obtain ⟨v2, b2, e2, hb2, hr2⟩ := field_bytes Try.underlying22 Try.underlying5 (by kernel_rfl) f2 (List.getElem?_eq_getElem (by omega))
  exact ⟨⟨x0, x1, v2, b2⟩, list3 hl3 (take1 e0) (take1 e1) (take1 e2), hr2, hb2⟩

/-- a list whose every cell is a byte -/
theorem u_list : ∀ {n : Nat} {cs : List Value}, cs.length = n → (∀ i, i < n → ∃ x : UInt8, cs[i]? = some (U x)) → ∃ l : List UInt8, cs = l.map U ∧ l.length = n
  | 0, [], _, _ => ⟨[], rfl, rfl⟩
  | n + 1, c :: cs, hl, h => by
    obtain ⟨x, hx⟩ := h 0 (by omega)
    obtain ⟨l, rfl, hll⟩ := u_list (n := n) (cs := cs) (by simpa using hl) (fun i hi => by
      obtain ⟨x, hx⟩ := h (i + 1) (by omega)
      exact ⟨x, by simpa using hx⟩)
    simp only [List.getElem?_cons_zero, Option.some.injEq] at hx
    exact ⟨x :: l, by rw [hx]; rfl, by simp [hll]⟩

theorem pipe_in {H : Type} {enc : TypeId × Value → H} {w : World} {base : Nat} {v : Value} {d : DataW H} {p : List MemPlace} (hv : Value.okWide Try.prog w .any base 26 v) (h : DataW.Trod enc Try.prog w 0 (fun _ => true) true 26 v d p) :
    ∃ f : Pi, v = vP f := by
  obtain ⟨cs, rfl, hsz⟩ := okWide_struct Try.underlying26 hv
  obtain ⟨fuel, hf⟩ := h
  obtain ⟨xs, m, _, _, hl, hxl, hf⟩ := DataW.trod_struct Try.underlying26 hf
  have hl36 : cs.toList.length = 36 := hl.trans (by kernel_rfl)
  have c3 : Try.prog.cellsOf 3 = 1 := by kernel_rfl
  have c5 : Try.prog.cellsOf 5 = 1 := by kernel_rfl
  have f0 := at_field hf 0 3 0 1 rfl c3
  have f1 := at_field hf 1 3 1 1 rfl c3
  have f2 := at_field hf 2 3 2 1 rfl c3
  have f3 := at_field hf 3 3 3 1 rfl c3
  have f4 := at_field hf 4 24 4 32 rfl (by kernel_rfl)
  have hx : xs.length = 5 := hxl
  obtain ⟨x0, e0, _⟩ := field_int Try.underlying3 f0 (List.getElem?_eq_getElem (by omega))
  obtain ⟨x1, e1, _⟩ := field_int Try.underlying3 f1 (List.getElem?_eq_getElem (by omega))
  obtain ⟨x2, e2, _⟩ := field_int Try.underlying3 f2 (List.getElem?_eq_getElem (by omega))
  obtain ⟨x3, e3, _⟩ := field_int Try.underlying3 f3 (List.getElem?_eq_getElem (by omega))
  rw [List.getElem?_eq_getElem (show 4 < xs.length by omega)] at f4
  obtain ⟨ys, m4, rfl, h4, hl4, hyl, hg⟩ := DataW.trod_array Try.underlying24 f4
  obtain ⟨l, e4, hll⟩ := u_list (n := 32) (cs := (cs.toList.drop 4).take 32) (hl4.trans (by kernel_rfl)) (fun i hi => by
    have := hg i hi
    obtain ⟨y, hy, hw⟩ := field_int Try.underlying5 this (List.getElem?_eq_getElem (by omega))
    rw [c5, Nat.mul_one] at hy
    have hw8 := wf_u8 hw
    refine ⟨UInt8.ofNat y.toNat, ?_⟩
    refine (take1 hy).trans ?_
    have : ((UInt8.ofNat y.toNat).toNat : Int) = y := by rw [UInt8.toNat_ofNat']; omega
    show _ = some (Value.int .u8 ((UInt8.ofNat y.toNat).toNat : Int))
    rw [this])
  refine ⟨⟨x0, x1, x2, x3, l, hll⟩, congrArg Value.agg ?_⟩
  rw [← Array.toArray_toList (xs := cs)]
  refine congrArg List.toArray ?_
  have h4l : cs.toList.take 4 = [I x0, I x1, I x2, I x3] := list4 (by rw [List.length_take, hl36]; decide) (by rw [List.getElem?_take_of_lt (by omega)]; exact take1 e0) (by rw [List.getElem?_take_of_lt (by omega)]; exact take1 e1) (by rw [List.getElem?_take_of_lt (by omega)]; exact take1 e2) (by rw [List.getElem?_take_of_lt (by omega)]; exact take1 e3)
  rw [← List.take_append_drop 4 cs.toList, h4l, ← List.take_of_length_le (l := cs.toList.drop 4) (i := 32) (by rw [List.length_drop, hl36]; decide), e4]
  rfl
end Go.Proofs.Ytcpkhgdjckogjaa.Ring

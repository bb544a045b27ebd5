/-
  A slot that comes in.
-/
import Derived.Test.YtneeoicjipglkaaDoorFxX
import Derived.Test.YtneeoicjipglkaaDoorProcA
import Derived.OpenShut
namespace Go.Proofs.YtneeoicjipglkaaDoor.Slot
open Go Go.Proofs Go.Proofs.YtneeoicjipglkaaDoor.Fx Go.RowKit Go.ChangeShapes Go.WideShapes
set_option maxRecDepth 100000
set_option linter.unusedVariables false

theorem i_list : ∀ {n : Nat} {cs : List Value}, cs.length = n → (∀ i, i < n → ∃ x : Int, cs[i]? = some (I x)) → ∃ l : List Int, cs = l.map (fun x => I x) ∧ l.length = n
  | 0, [], _, _ => ⟨[], rfl, rfl⟩
  | n + 1, c :: cs, hl, h => by
    obtain ⟨x, hx⟩ := h 0 (by omega)
    obtain ⟨l, rfl, hll⟩ := i_list (n := n) (cs := cs) (by simpa using hl) (fun i hi => by
      obtain ⟨x, hx⟩ := h (i + 1) (by omega)
      exact ⟨x, by simpa using hx⟩)
    simp only [List.getElem?_cons_zero, Option.some.injEq] at hx
    exact ⟨x :: l, by rw [hx]; rfl, by simp [hll]⟩
theorem bv_wf {x : Int} (h : (Lit.int .i64 x).wf = true) : I x = I (BitVec.ofInt 64 x).toInt := by
  have := wf_i64 h
  rw [bv_of (by omega) (by omega)]
theorem list8 {cs : List Value} {a b c d e f g h : Value} (hl : cs.length = 8) (h0 : cs[0]? = some a) (h1 : cs[1]? = some b) (h2 : cs[2]? = some c) (h3 : cs[3]? = some d) (h4 : cs[4]? = some e) (h5 : cs[5]? = some f) (h6 : cs[6]? = some g) (h7 : cs[7]? = some h) : cs = [a, b, c, d, e, f, g, h] := by
  apply List.ext_getElem?
  intro i
  match i with
  | 0 => exact h0
  | 1 => exact h1
  | 2 => exact h2
  | 3 => exact h3
  | 4 => exact h4
  | 5 => exact h5
  | 6 => exact h6
  | 7 => exact h7
  | n + 8 => rw [List.getElem?_eq_none (by omega)]; rfl

theorem proc_in {H : Type} {enc : TypeId × Value → H} {w : World} {base : Nat} {v : Value} {d : DataW H} {p : List MemPlace} (hv : Value.okWide Tryd.prog w .any base 25 v) (h : DataW.Trod enc Tryd.prog w 0 (fun _ => true) true 25 v d p) :
    ∃ f : Pi, v = vP f := by
  obtain ⟨cs, rfl, hsz⟩ := okWide_struct Tryd.underlying25 hv
  obtain ⟨fuel, hf⟩ := h
  obtain ⟨xs, m, _, _, hl, hxl, hf⟩ := DataW.trod_struct Tryd.underlying25 hf
  have hl16 : cs.toList.length = 16 := hl.trans (by kernel_rfl)
  have c3 : Tryd.prog.cellsOf 3 = 1 := by kernel_rfl
  have f0 := at_field hf 0 3 0 1 rfl c3
  have f1 := at_field hf 1 3 1 1 rfl c3
  have f2 := at_field hf 2 3 2 1 rfl c3
  have f3 := at_field hf 3 3 3 1 rfl c3
  have f4 := at_field hf 4 3 4 1 rfl c3
  have f5 := at_field hf 5 3 5 1 rfl c3
  have f6 := at_field hf 6 3 6 1 rfl c3
  have f7 := at_field hf 7 3 7 1 rfl c3
  have f8 := at_field hf 8 23 8 8 rfl (by kernel_rfl)
  have hx : xs.length = 9 := hxl
  obtain ⟨x0, e0, _⟩ := field_int Tryd.underlying3 f0 (List.getElem?_eq_getElem (by omega))
  obtain ⟨x1, e1, _⟩ := field_int Tryd.underlying3 f1 (List.getElem?_eq_getElem (by omega))
  obtain ⟨x2, e2, _⟩ := field_int Tryd.underlying3 f2 (List.getElem?_eq_getElem (by omega))
  obtain ⟨x3, e3, _⟩ := field_int Tryd.underlying3 f3 (List.getElem?_eq_getElem (by omega))
  obtain ⟨x4, e4, w4⟩ := field_int Tryd.underlying3 f4 (List.getElem?_eq_getElem (by omega))
  obtain ⟨x5, e5, w5⟩ := field_int Tryd.underlying3 f5 (List.getElem?_eq_getElem (by omega))
  obtain ⟨x6, e6, w6⟩ := field_int Tryd.underlying3 f6 (List.getElem?_eq_getElem (by omega))
  obtain ⟨x7, e7, w7⟩ := field_int Tryd.underlying3 f7 (List.getElem?_eq_getElem (by omega))
  rw [List.getElem?_eq_getElem (show 8 < xs.length by omega)] at f8
  obtain ⟨ys, m4, rfl, h4, hl4, hyl, hg⟩ := DataW.trod_array Tryd.underlying23 f8
  obtain ⟨l, e8, hll⟩ := i_list (n := 8) (cs := (cs.toList.drop 8).take 8) (hl4.trans (by kernel_rfl)) (fun i hi => by
    have := hg i hi
    obtain ⟨y, hy, _⟩ := field_int Tryd.underlying3 this (List.getElem?_eq_getElem (by omega))
    rw [c3, Nat.mul_one] at hy
    exact ⟨y, take1 hy⟩)
  refine ⟨⟨x0, x1, x2, x3, BitVec.ofInt 64 x4, BitVec.ofInt 64 x5, BitVec.ofInt 64 x6, BitVec.ofInt 64 x7, l, hll⟩, congrArg Value.agg ?_⟩
  rw [← Array.toArray_toList (xs := cs)]
  refine congrArg List.toArray ?_
  have h8l : cs.toList.take 8 = [I x0, I x1, I x2, I x3, I (BitVec.ofInt 64 x4).toInt, I (BitVec.ofInt 64 x5).toInt, I (BitVec.ofInt 64 x6).toInt, I (BitVec.ofInt 64 x7).toInt] := by
    rw [← bv_wf w4, ← bv_wf w5, ← bv_wf w6, ← bv_wf w7]
    have g : ∀ {i : Nat} {v : Value}, i < 8 → cs.toList[i]? = some v → (cs.toList.take 8)[i]? = some v := fun hi h => by rw [List.getElem?_take_of_lt hi]; exact h
    exact list8 (by rw [List.length_take, hl16]; decide) (g (by decide) (take1 e0)) (g (by decide) (take1 e1)) (g (by decide) (take1 e2)) (g (by decide) (take1 e3)) (g (by decide) (take1 e4)) (g (by decide) (take1 e5)) (g (by decide) (take1 e6)) (g (by decide) (take1 e7))
  rw [← List.take_append_drop 8 cs.toList, h8l, ← List.take_of_length_le (l := cs.toList.drop 8) (i := 8) (by rw [List.length_drop, hl16]; decide), e8]
  rfl
end Go.Proofs.YtneeoicjipglkaaDoor.Slot

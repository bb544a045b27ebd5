/-
  Calls of package caps that come in.
-/
import Derived.Test.YthonajikgljgmaaFxS
import Derived.Test.YthonajikgljgmaaCapsL
namespace Go.Proofs.Ythonajikgljgmaa.Reg
open Go Go.Proofs Go.Proofs.Ythonajikgljgmaa.Fx Go.RowKit
set_option linter.unusedVariables false

theorem sub_at {cs : List Value} {i n j : Nat} {v : Value} (h : ((cs.drop i).take n)[j]? = some v) : cs[i + j]? = some v := by
  have hj : j < n := by
    have := (List.getElem?_eq_some_iff.1 h).1
    rw [List.length_take] at this; omega
  rwa [List.getElem?_take_of_lt hj, List.getElem?_drop] at h
theorem list14 {cs : List Value} {a b c d e f g h i j k l m n : Value} (hl : cs.length = 14) (h0 : cs[0]? = some a) (h1 : cs[1]? = some b) (h2 : cs[2]? = some c) (h3 : cs[3]? = some d) (h4 : cs[4]? = some e) (h5 : cs[5]? = some f) (h6 : cs[6]? = some g)
    (h7 : cs[7]? = some h) (h8 : cs[8]? = some i) (h9 : cs[9]? = some j) (h10 : cs[10]? = some k) (h11 : cs[11]? = some l) (h12 : cs[12]? = some m) (h13 : cs[13]? = some n) : cs = [a, b, c, d, e, f, g, h, i, j, k, l, m, n] := by
  apply List.ext_getElem?
  intro z
  match z with
  | 0 => exact h0
  | 1 => exact h1
  | 2 => exact h2
  | 3 => exact h3
  | 4 => exact h4
  | 5 => exact h5
  | 6 => exact h6
  | 7 => exact h7
  | 8 => exact h8
  | 9 => exact h9
  | 10 => exact h10
  | 11 => exact h11
  | 12 => exact h12
  | 13 => exact h13
  | z + 14 => rw [List.getElem?_eq_none (by omega), List.getElem?_eq_none (by simp)]

theorem cops_in {H : Type} {enc : TypeId × Value → H} {w : World} {a : Option Addr} {len cap : Nat} {d : DataW H} {p : List MemPlace} (h : DataW.Trod enc Try.prog w 0 (fun _ => true) true 55 (.slice a len cap) d p) :
    ∃ l : List COp, l.length = len ∧ len ≤ 9223372036854775807 ∧ RdR coC w (.slice a len cap) l ∧ ∀ x ∈ l, True := by
  refine rows_of_row (sz := 14) Try.underlying55 (by kernel_rfl) (by decide) coC_len ?_ h
  intro n cs y hy
  obtain ⟨xs, m, _, _, hl, hxl, hf⟩ := DataW.trod_struct Try.underlying57 hy
  have hl14 : cs.length = 14 := hl.trans (by kernel_rfl)
  have c3 : Try.prog.cellsOf 3 = 1 := by kernel_rfl
  have cR : Try.prog.cellsOf 36 = 2 := by kernel_rfl
  have cC : Try.prog.cellsOf 38 = 6 := by kernel_rfl
  have hx : xs.length = 8 := hxl
  have f0 := at_field hf 0 3 0 1 rfl c3
  have f1 := at_field hf 1 3 1 1 rfl c3
  have f2 := at_field hf 2 3 2 1 rfl c3
  have f3 := at_field hf 3 3 3 1 rfl c3
  have f4 := at_field hf 4 3 4 1 rfl c3
  have f5 := at_field hf 5 3 5 1 rfl c3
  have f6 := at_field hf 6 36 6 2 rfl cR
  have f7 := at_field hf 7 38 8 6 rfl cC
  obtain ⟨x0, e0, _⟩ := field_int Try.underlying3 f0 (List.getElem?_eq_getElem (by omega))
  obtain ⟨x1, e1, _⟩ := field_int Try.underlying3 f1 (List.getElem?_eq_getElem (by omega))
  obtain ⟨x2, e2, _⟩ := field_int Try.underlying3 f2 (List.getElem?_eq_getElem (by omega))
  obtain ⟨x3, e3, _⟩ := field_int Try.underlying3 f3 (List.getElem?_eq_getElem (by omega))
  obtain ⟨x4, e4, _⟩ := field_int Try.underlying3 f4 (List.getElem?_eq_getElem (by omega))
  obtain ⟨x5, e5, _⟩ := field_int Try.underlying3 f5 (List.getElem?_eq_getElem (by omega))
  obtain ⟨ys, m2, _, _, _, hyl, hg⟩ := DataW.trod_struct Try.underlying36 (f6.trans (List.getElem?_eq_getElem (show 6 < xs.length by omega)))
  have hyl2 : ys.length = 2 := hyl
  have g0 := at_field hg 0 3 0 1 rfl c3
  have g1 := at_field hg 1 3 1 1 rfl c3
  obtain ⟨x6, e6, _⟩ := field_int Try.underlying3 g0 (List.getElem?_eq_getElem (by omega))
  obtain ⟨x7, e7, _⟩ := field_int Try.underlying3 g1 (List.getElem?_eq_getElem (by omega))
  obtain ⟨zs, m3, _, _, _, hzl, hk⟩ := DataW.trod_struct Try.underlying38 (f7.trans (List.getElem?_eq_getElem (show 7 < xs.length by omega)))
  have hzl2 : zs.length = 5 := hzl
  have k0 := at_field hk 0 3 0 1 rfl c3
  have k1 := at_field hk 1 3 1 1 rfl c3
  have k2 := at_field hk 2 3 2 1 rfl c3
  have k3 := at_field hk 3 3 3 1 rfl c3
  have k4 := at_field hk 4 36 4 2 rfl cR
  obtain ⟨x8, e8, _⟩ := field_int Try.underlying3 k0 (List.getElem?_eq_getElem (by omega))
  obtain ⟨x9, e9, _⟩ := field_int Try.underlying3 k1 (List.getElem?_eq_getElem (by omega))
  obtain ⟨x10, e10, _⟩ := field_int Try.underlying3 k2 (List.getElem?_eq_getElem (by omega))
  obtain ⟨x11, e11, _⟩ := field_int Try.underlying3 k3 (List.getElem?_eq_getElem (by omega))
  obtain ⟨us, m4, _, _, _, hul, hj⟩ := DataW.trod_struct Try.underlying36 (k4.trans (List.getElem?_eq_getElem (show 4 < zs.length by omega)))
  have hul2 : us.length = 2 := hul
  have j0 := at_field hj 0 3 0 1 rfl c3
  have j1 := at_field hj 1 3 1 1 rfl c3
  obtain ⟨x12, e12, _⟩ := field_int Try.underlying3 j0 (List.getElem?_eq_getElem (by omega))
  obtain ⟨x13, e13, _⟩ := field_int Try.underlying3 j1 (List.getElem?_eq_getElem (by omega))
  exact ⟨⟨x0, x1, x2, x3, x4, x5, x6, x7, x8, x9, x10, x11, x12, x13⟩, list14 hl14 (take1 e0) (take1 e1) (take1 e2) (take1 e3) (take1 e4) (take1 e5) (sub_at (take1 e6)) (sub_at (take1 e7)) (sub_at (take1 e8)) (sub_at (take1 e9)) (sub_at (take1 e10)) (sub_at (take1 e11)) (sub_at (sub_at (take1 e12))) (sub_at (sub_at (take1 e13))), trivial⟩
end Go.Proofs.Ythonajikgljgmaa.Reg

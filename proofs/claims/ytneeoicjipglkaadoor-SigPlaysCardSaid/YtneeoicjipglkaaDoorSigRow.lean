/-
  The table of trailing zeros, as the rows list it; calls of package sig that come in.
-/
import Derived.Test.YtneeoicjipglkaaDoorFxX
import Derived.Test.YtneeoicjipglkaaDoorSigG
import Derived.Test.YtneeoicjipglkaaDoorRows
import Derived.Lib.LaidTab
import Derived.MakeChecks
import Derived.OpenShut
namespace Go.Proofs.YtneeoicjipglkaaDoor.Slot
open Go Go.Proofs Go.Proofs.YtneeoicjipglkaaDoor.Fx Go.RowKit Go.ChangeShapes Go.WideShapes
set_option maxRecDepth 100000
set_option linter.unusedVariables false

def tab64 : List Int := [0, 1, 56, 2, 57, 49, 28, 3, 61, 58, 42, 50, 38, 29, 17, 4, 62, 47, 59, 36, 45, 43, 51, 22, 53, 39, 33, 30, 24, 18, 12, 5, 63, 55, 48, 27, 60, 41, 37, 16, 46, 35, 44, 21, 52, 32, 23, 11, 54, 26, 40, 15, 34, 20, 31, 10, 25, 14, 19, 9, 13, 8, 7, 6]
theorem gTab : Tryd.prog.globalNamed "math/bits.deBruijn64tab" = some 1 := by kernel_rfl
theorem gTabType : (Tryd.prog.globals[1]?).map (·.type) = some 69 := by kernel_rfl
theorem cellsTab : Tryd.prog.cellsOf 69 = 64 := by kernel_rfl
theorem cellsU8 : Tryd.prog.cellsOf 5 = 1 := by kernel_rfl
theorem tab64_eq : (Lib.tabData .u8 tab64 : DataW Unit) = Rows.laid_math_bits_deBruijn64tab := rfl
theorem tab64_at {k : Nat} (h1 : 1 ≤ k) (h15 : k ≤ 15) : tab64[dix k]? = some (k : Int) := by
  have : ∀ k : Fin 16, 1 ≤ k.val → tab64[dix k.val]? = some (k.val : Int) := by decide
  exact this ⟨k, by omega⟩ h1
theorem tab_of {a : DataW Unit} {r : List (String × DataW Unit)} {n : String} {W : World} (h : laidMet Tryd.prog ((n, a) :: ("math/bits.deBruijn64tab", Rows.laid_math_bits_deBruijn64tab) :: r) W) : TabZ W := by
  obtain ⟨ps, ⟨g0, t0, cs0, f0, p0, q0, _, _, _, _, ⟨g1, t1, cs1, f1, p1, q1, hg1, ht1, hv1, hd1, _, _⟩, _⟩, _, _⟩ := h
  obtain rfl := Option.some.inj (gTab.symm.trans hg1)
  obtain rfl := Option.some.inj (gTabType.symm.trans ht1)
  rw [← tab64_eq] at hd1
  have hcs := Lib.cells_of_tab Tryd.underlying69 Tryd.underlying5 cellsU8 cellsTab hd1
  intro k h1 h15
  rw [World.var?_cell hg1 hv1, ← Array.getElem?_toList, hcs, List.getElem?_map, tab64_at h1 h15]
  rfl
theorem tab_of2 {W : World} (h : laidMetH Tryd.prog [("math/bits.deBruijn32tab", Rows.laid_math_bits_deBruijn32tab), ("math/bits.deBruijn64tab", Rows.laid_math_bits_deBruijn64tab)] W) : TabZ W := by
  rw [MakeChecks.laidMetH_plain _ _ _ (by kernel_rfl)] at h
  exact tab_of h
end Go.Proofs.YtneeoicjipglkaaDoor.Slot

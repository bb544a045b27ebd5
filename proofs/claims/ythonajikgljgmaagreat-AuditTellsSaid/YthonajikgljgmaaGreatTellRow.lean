/-
  Records that come in.
-/
import Derived.Test.YthonajikgljgmaaGreatFxX
import Derived.Test.YthonajikgljgmaaGreatTellM2
namespace Go.Proofs.YthonajikgljgmaaGreat.Aud
open Go Go.Proofs Go.Proofs.YthonajikgljgmaaGreat.Fx Go.RowKit Go.ChangeShapes Go.WideShapes
set_option linter.unusedVariables false
section
variable {H : Type} {enc : TypeId × Value → H} {P : Program} {w : World} {base : Nat} {held : Bool}
theorem field_ints {n : Nat} {t e : TypeId} {cs : List Value} {y : Option (DataW H × List MemPlace)} {y' : DataW H × List MemPlace} (ht : P.underlying t = some (.slice e)) (he : P.underlying e = some (.int .i64)) (hC : P.cellsOf e = 1)
    (h : DataW.trod enc P w base (fun _ => true) held n t cs = y) (hy : y = some y') : ∃ (v : Value) (xs : List Int), cs = [v] ∧ xs.length ≤ 9223372036854775807 ∧ RdS w v (xs.map fun x => I x) := by
  subst hy
  rcases open_ints ht he hC h with ⟨hcs, _⟩ | ⟨x, l, c, zs, hcs, _, hl, hm, hz, _, hcell, hwz⟩
  · subst hcs
    obtain ⟨xs, h1, h2, h3, _⟩ := rds_of_row (w := w) (k := .i64) (zs := []) (.inl ⟨rfl, rfl, rfl, rfl⟩)
    exact ⟨_, xs, rfl, by omega, h3⟩
  · subst hcs
    obtain ⟨xs, h1, h2, h3, _⟩ := rds_of_row (w := w) (k := .i64) (.inr ⟨x, rfl, hl, hm, by simpa using hz, hcell, hwz⟩)
    exact ⟨_, xs, rfl, by omega, h3⟩
end
theorem recs_in {H : Type} {enc : TypeId × Value → H} {w : World} {a : Option Addr} {len cap : Nat} {d : DataW H} {p : List MemPlace} (h : DataW.Trod enc Tryz.prog w 0 (fun _ => true) true 23 (.slice a len cap) d p) :
    ∃ l : List RecV, l.length = len ∧ len ≤ 9223372036854775807 ∧ RdR recV w (.slice a len cap) l ∧ ∀ x ∈ l, x.ok w := by
  refine rows_of_row (sz := 5) Tryz.underlying23 (by kernel_rfl) (by decide) recV_len ?_ h
  intro n cs y hy
  obtain ⟨xs, m, _, _, hl, hxl, hf⟩ := DataW.trod_struct Tryz.underlying54 hy
  have hl5 : cs.length = 5 := hl.trans (by kernel_rfl)
  have c3 : Tryz.prog.cellsOf 3 = 1 := by kernel_rfl
  have f0 := at_field hf 0 3 0 1 rfl c3
  have f1 := at_field hf 1 3 1 1 rfl c3
  have f2 := at_field hf 2 3 2 1 rfl c3
  have f3 := at_field hf 3 52 3 1 rfl (by kernel_rfl)
  have f4 := at_field hf 4 22 4 1 rfl (by kernel_rfl)
  have hx : xs.length = 5 := hxl
  obtain ⟨x0, e0, _⟩ := field_int Tryz.underlying3 f0 (List.getElem?_eq_getElem (by omega))
  obtain ⟨x1, e1, _⟩ := field_int Tryz.underlying3 f1 (List.getElem?_eq_getElem (by omega))
  obtain ⟨x2, e2, _⟩ := field_int Tryz.underlying3 f2 (List.getElem?_eq_getElem (by omega))
  obtain ⟨v3, b3, e3, hb3, hr3⟩ := field_ints Tryz.underlying52 Tryz.underlying3 (by kernel_rfl) f3 (List.getElem?_eq_getElem (by omega))
  obtain ⟨v4, b4, e4, hb4, hr4⟩ := field_bytes Tryz.underlying22 Tryz.underlying5 (by kernel_rfl) f4 (List.getElem?_eq_getElem (by omega))
  exact ⟨⟨x0, x1, x2, v3, v4, b3, b4⟩, list5 hl5 (take1 e0) (take1 e1) (take1 e2) (take1 e3) (take1 e4), hr3, hb3, hr4, hb4⟩
end Go.Proofs.YthonajikgljgmaaGreat.Aud

/-
  What comes in: slices of structs, structs.
-/
import Derived.Test.YthonajikgljgmaaGreatFxO
import Derived.Test.YthonajikgljgmaaGreatFxRow
import Derived.Deep.Slices
import Derived.OpenShut
namespace Go.Proofs.YthonajikgljgmaaGreat.Fx
open Go Go.RowKit Go.ChangeShapes Go.WideShapes Go.Deep
set_option linter.unusedVariables false

section
variable {H : Type} {enc : TypeId × Value → H} {P : Program} {w : World} {base : Nat} {spare : Nat → Bool} {held : Bool}

/-- A slice of things, whose cells are told by what is read of them. -/
theorem rows_of_row {α : Type} {f : α → List Value} {good : α → Prop} {sz : Nat} {t e : TypeId} {a : Option Addr} {len cap : Nat} {d : DataW H} {p : List MemPlace} (ht : P.underlying t = some (.slice e)) (hC : P.cellsOf e = sz) (hsz : 0 < sz)
    (hlen : ∀ x, (f x).length = sz)
    (hcells : ∀ (n : Nat) (cs : List Value) (y : DataW H × List MemPlace), DataW.trod enc P w base spare held n e cs = some y → ∃ x, cs = f x ∧ good x)
    (h : DataW.Trod enc P w base spare held t (.slice a len cap) d p) :
    ∃ l : List α, l.length = len ∧ len ≤ 9223372036854775807 ∧ RdR f w (.slice a len cap) l ∧ ∀ x ∈ l, good x := by
  obtain ⟨fuel, hf⟩ := h
  have hcs : (Value.slice a len cap).cells.toList = [.slice a len cap] := rfl
  rw [hcs] at hf
  rcases open_slice ht hf with ⟨h0, _⟩ | ⟨x, l, c, m, n, D, Pl, h0, hb, hl, hm, hmm, _, hi⟩
  · simp only [List.cons.injEq, and_true, Value.slice.injEq] at h0
    obtain ⟨rfl, rfl, rfl⟩ := h0
    exact ⟨[], rfl, by omega, RdR.nil, fun x hx => nomatch hx⟩
  · simp only [List.cons.injEq, and_true, Value.slice.injEq] at h0
    obtain ⟨rfl, rfl, rfl⟩ := h0
    have hle : len ≤ m := by rw [hmm]; split <;> omega
    have each : ∀ i, i < len → ∃ y : α, good y ∧ ∀ j v, (f y)[j]? = some v → w.cell? (x.add (i * sz + j)) = some v := by
      intro i hil
      obtain ⟨cs', hc, ht'⟩ := hi i (by omega)
      rw [hC] at hc
      obtain ⟨y, rfl, hg⟩ := hcells n cs' _ ht'
      obtain ⟨_, hcl, hat⟩ := World.cells?_some hc
      refine ⟨y, hg, fun j v hj => ?_⟩
      have hjl := (List.getElem?_eq_some_iff.1 hj).1
      rw [hlen] at hjl
      have := hat j hjl
      rw [hj] at this
      rw [← Go.Deep.add_add, this]
    have spot : 0 < len → x = ⟨x.block, x.off, none⟩ := by
      intro hpos
      obtain ⟨y, _, hy⟩ := each 0 hpos
      have h0 := hy 0 _ (List.getElem?_eq_getElem (by rw [hlen]; exact hsz))
      have hx : x.add (0 * sz + 0) = x := by simp [Addr.add]
      rw [hx] at h0
      exact spot_of_cell h0
    refine ⟨(List.range len).pmap (fun i hi => (each i hi).choose) (fun i hi => List.mem_range.1 hi), by simp, by unfold maxLen at hm; omega, ?_, ?_⟩
    · rcases Nat.eq_zero_or_pos len with rfl | hpos
      · exact ⟨some x, cap, by simp, by simp, .inl (by simp)⟩
      · refine ⟨some x, cap, by simp, by simp; omega, .inr ⟨x.block, x.off, ?_, fun j u hj => ?_⟩⟩
        · exact congrArg some (spot hpos)
        · have hx0 := spot hpos
          have hjl := (List.getElem?_eq_some_iff.1 hj).1
          rw [rows_length hlen, List.length_pmap, List.length_range] at hjl
          have hdiv : j / sz < len := Nat.div_lt_of_lt_mul (by rw [Nat.mul_comm]; exact hjl)
          have hmod : j % sz < sz := Nat.mod_lt _ hsz
          have hj2 : j = j / sz * sz + j % sz := by rw [Nat.mul_comm]; exact (Nat.div_add_mod j sz).symm
          have hget : ((List.range len).pmap (fun i hi => (each i hi).choose) (fun i hi => List.mem_range.1 hi))[j / sz]? = some (each (j / sz) hdiv).choose := by
            rw [List.getElem?_eq_getElem (by simpa using hdiv)]
            simp
          have hrow := rows_get hlen hget hmod
          rw [← hj2, hj] at hrow
          have := (each (j / sz) hdiv).choose_spec.2 (j % sz) u hrow.symm
          rw [← hj2, hx0, add_none] at this
          exact this
    · intro y hy
      obtain ⟨i, hi', rfl⟩ := List.mem_pmap.1 hy
      exact (each i (List.mem_range.1 hi')).choose_spec.1

/-- a slice of integers -/
theorem ints_in {k : IntKind} {t e : TypeId} {a : Option Addr} {len cap : Nat} {d : DataW H} {p : List MemPlace} (ht : P.underlying t = some (.slice e)) (he : P.underlying e = some (.int k)) (hC : P.cellsOf e = 1)
    (h : DataW.Trod enc P w base (fun _ => true) held t (.slice a len cap) d p) :
    ∃ xs : List Int, xs.length = len ∧ len ≤ 9223372036854775807 ∧ RdS w (.slice a len cap) (xs.map (Value.int k)) ∧ ∀ n ∈ xs, (Lit.int k n).wf = true := by
  obtain ⟨fuel, hf⟩ := h
  rcases open_ints ht he hC hf with ⟨hcs, _⟩ | ⟨x, l, c, zs, hcs, _, hl, hm, hz, _, hcell, hwz⟩
  · simp [Value.cells] at hcs
    obtain ⟨rfl, rfl, rfl⟩ := hcs
    exact rds_of_row (.inl ⟨rfl, rfl, rfl, rfl⟩)
  · simp [Value.cells] at hcs
    obtain ⟨rfl, rfl, rfl⟩ := hcs
    exact rds_of_row (.inr ⟨_, rfl, hl, hm, by simpa using hz, hcell, hwz⟩)
/-- a slice of bytes -/
theorem bytes_in {t e : TypeId} {a : Option Addr} {len cap : Nat} {d : DataW H} {p : List MemPlace} (ht : P.underlying t = some (.slice e)) (he : P.underlying e = some (.int .u8)) (hC : P.cellsOf e = 1)
    (h : DataW.Trod enc P w base (fun _ => true) held t (.slice a len cap) d p) :
    ∃ xs : List UInt8, xs.length = len ∧ len ≤ 9223372036854775807 ∧ RdS w (.slice a len cap) (xs.map U) := by
  obtain ⟨fuel, hf⟩ := h
  rcases open_ints ht he hC hf with ⟨hcs, _⟩ | ⟨x, l, c, zs, hcs, _, hl, hm, hz, _, hcell, hwz⟩
  · simp [Value.cells] at hcs
    obtain ⟨rfl, rfl, rfl⟩ := hcs
    exact bytes_of_row (zs := []) (.inl ⟨rfl, rfl, rfl, rfl⟩)
  · simp [Value.cells] at hcs
    obtain ⟨rfl, rfl, rfl⟩ := hcs
    exact bytes_of_row (.inr ⟨_, rfl, hl, hm, by simpa using hz, hcell, hwz⟩)

theorem at_field {fs : Array Field} {n : Nat} {cs : List Value} {xs : List (DataW H × List MemPlace)}
    (hf : ∀ (i : Nat) (f : Field), fs[i]? = some f → DataW.trod enc P w base spare held n f.type ((cs.drop f.offset).take (P.cellsOf f.type)) = xs[i]?) (i t o c : Nat) (h : (fs[i]?).map (fun f => (f.type, f.offset)) = some (t, o)) (hc : P.cellsOf t = c) :
    DataW.trod enc P w base spare held n t ((cs.drop o).take c) = xs[i]? := by
  subst hc
  cases hq : fs[i]? with
  | none => rw [hq] at h; cases h
  | some f =>
    rw [hq] at h
    simp only [Option.map_some, Option.some.injEq, Prod.mk.injEq] at h
    obtain ⟨rfl, rfl⟩ := h
    exact hf i f hq

/-- one field of one cell, an int -/
theorem field_int {n : Nat} {e : TypeId} {k : IntKind} {cs : List Value} {y : Option (DataW H × List MemPlace)} {y' : DataW H × List MemPlace} (he : P.underlying e = some (.int k)) (h : DataW.trod enc P w base spare held n e cs = y) (hy : y = some y') :
    ∃ x : Int, cs = [.int k x] ∧ (Lit.int k x).wf = true := by
  subst hy
  obtain ⟨x, h1, _, h2⟩ := DataW.trod_int he h
  exact ⟨x, h1, h2⟩
theorem take1 {cs : List Value} {v : Value} {i : Nat} (h : (cs.drop i).take 1 = [v]) : cs[i]? = some v := by
  have := congrArg (fun l => l[0]?) h
  simp only [List.getElem?_take, List.getElem?_drop, Nat.add_zero, List.getElem?_cons_zero] at this
  simpa using this
theorem list3 {cs : List Value} {a b c : Value} (hl : cs.length = 3) (h0 : cs[0]? = some a) (h1 : cs[1]? = some b) (h2 : cs[2]? = some c) : cs = [a, b, c] := by
  apply List.ext_getElem? 
  intro i
  match i with
  | 0 => exact h0
  | 1 => exact h1
  | 2 => exact h2
  | i + 3 => rw [List.getElem?_eq_none (by omega), List.getElem?_eq_none (by simp)]
theorem list4 {cs : List Value} {a b c d : Value} (hl : cs.length = 4) (h0 : cs[0]? = some a) (h1 : cs[1]? = some b) (h2 : cs[2]? = some c) (h3 : cs[3]? = some d) : cs = [a, b, c, d] := by
  apply List.ext_getElem? 
  intro i
  match i with
  | 0 => exact h0
  | 1 => exact h1
  | 2 => exact h2
  | 3 => exact h3
  | i + 4 => rw [List.getElem?_eq_none (by omega), List.getElem?_eq_none (by simp)]
end
end Go.Proofs.YthonajikgljgmaaGreat.Fx

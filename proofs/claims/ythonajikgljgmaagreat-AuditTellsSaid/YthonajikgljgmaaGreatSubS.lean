/-
  A part of a row that is only read.
-/
import Derived.Test.YthonajikgljgmaaGreatFxZ
namespace Go.Proofs.YthonajikgljgmaaGreat.Fx
open Go Go.Proofs
set_option linter.unusedVariables false

/-- a part of a row -/
def subS : Value → Nat → Nat → Value
  | .slice ao _ cap, i, j => .slice (if cap = i then ao else ao.map (·.add (i * 1))) (j - i) (cap - i)
  | v, _, _ => v

section
variable {P : Program} {E : Env} {w w1 : World} {d : Option Nat} {ty : TypeId} {pos : String} {after : Array Edge}
theorem R_subS {t elem : TypeId} {x : Operand} {lo hi : Option Operand} {v : Value} {xs : List Value} {i j : Nat} (h : RdS w1 v xs) (ht : P.underlying t = some (.slice elem)) (hS : ∀ w, (sizeOf elem).run P w = .ok 1 w)
    (hx : ev E x = v) (hlo : Bd E lo 0 i) (hhi : Bd E hi xs.length j) (hij : i ≤ j) (hj : j ≤ xs.length)
    : (execOp (ev E) (mk d (.slice t x lo hi none) ty pos after)).run P w = .ok (.value (subS v i j)) w := by
  obtain ⟨ao, cap, rfl, hlc, _⟩ := h
  have hb : (Instr.sliceBounds true xs.length cap (lo.map (ev E)) (hi.map (ev E)) none).run P w = .ok (i, j, cap) w := by
    have h0 : (0 : Int) ≤ i := by omega
    have h1 : (i : Int) ≤ j := by omega
    have h2 : (j : Int) ≤ cap := by omega
    generalize hii : (i : Int) = i' at *
    generalize hjj : (j : Int) = j' at *
    have ei : i'.toNat = i := by omega
    have ej : j'.toNat = j := by omega
    cases hlo with
    | none =>
      cases hhi with
      | none => simp [Instr.sliceBounds]; omega
      | some hh => simp [Instr.sliceBounds, hh, run_sliceBound (P := P) (w := w) (code := .sliceAcap) (show 0 ≤ j' by omega) h2]; omega
    | some hl =>
      cases hhi with
      | none => simp [Instr.sliceBounds, hl, run_sliceBound (P := P) (w := w) (code := .sliceB) h0 h1]; omega
      | some hh => simp [Instr.sliceBounds, hl, hh, run_sliceBound (P := P) (w := w) (code := .sliceAcap) (show 0 ≤ j' by omega) h2, run_sliceBound (P := P) (w := w) (code := .sliceB) (y := j) h0 (by omega), ei, ej]
  simp [execOp, hx, Instr.sliceAt, Instr.slice, run_underlying ht, hb, hS, subS]
theorem R_subU {t elem : TypeId} {x : Operand} {lo hi : Option Operand} {v : Value} {bs : List UInt8} {i j : Nat} (h : RdS w1 v (bs.map U)) (ht : P.underlying t = some (.slice elem)) (hS : ∀ w, (sizeOf elem).run P w = .ok 1 w)
    (hx : ev E x = v) (hlo : Bd E lo 0 i) (hhi : Bd E hi bs.length j) (hij : i ≤ j) (hj : j ≤ bs.length)
    : (execOp (ev E) (mk d (.slice t x lo hi none) ty pos after)).run P w = .ok (.value (subS v i j)) w :=
  R_subS h ht hS hx hlo (by rw [List.length_map]; exact hhi) hij (by rw [List.length_map]; exact hj)
end
theorem RdS.sub {w : World} {v : Value} {xs : List Value} {i j : Nat} (h : RdS w v xs) (hij : i ≤ j) (hj : j ≤ xs.length) : RdS w (subS v i j) ((xs.take j).drop i) := by
  obtain ⟨ao, cap, rfl, hlc, h⟩ := h
  have hl : ((xs.take j).drop i).length = j - i := by simp; omega
  refine ⟨if cap = i then ao else ao.map (·.add (i * 1)), cap - i, by rw [hl]; rfl, by rw [hl]; omega, ?_⟩
  by_cases hc : j = i
  · left
    exact List.length_eq_zero_iff.1 (by omega)
  · right
    rw [if_neg (by omega)]
    rcases h with rfl | ⟨b, off, rfl, h⟩
    · simp at hj; omega
    · refine ⟨b, off + i, by simp [add_none], fun k u hk => ?_⟩
      rw [Nat.add_assoc]
      refine h (i + k) u ?_
      rw [List.getElem?_drop, List.getElem?_take] at hk
      split at hk
      · exact hk
      · cases hk
theorem RdS.subU {w : World} {v : Value} {bs : List UInt8} {i j : Nat} (h : RdS w v (bs.map U)) (hij : i ≤ j) (hj : j ≤ bs.length) : RdS w (subS v i j) (((bs.take j).drop i).map U) := by
  have := h.sub hij (by simpa using hj)
  rwa [← List.map_take, ← List.map_drop] at this
end Go.Proofs.YthonajikgljgmaaGreat.Fx

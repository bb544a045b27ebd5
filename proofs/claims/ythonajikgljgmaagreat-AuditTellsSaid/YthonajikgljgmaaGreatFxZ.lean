/-
  A row with a mark behind it.
-/
import Derived.Test.YthonajikgljgmaaGreatFxX
import Derived.Test.YthonajikgljgmaaGreatFxY
namespace Go.Proofs.YthonajikgljgmaaGreat.Fx
open Go

/-! ### a row with a mark behind it -/
section
variable {P : Program} {E : Env} {w0 w : World} {L : List (Nat × Obj)} {d : Option Nat} {ty : TypeId} {pos : String} {after : Array Edge}
theorem setCellF {b off : Nat} {c : List Value} {e : TypeId} {fz : Nat × Nat} {f} (H : Hp w0 L w) (hL : At L b (.cells c.toArray e fz) f) (v : Value) : Hp w0 (f (.cells (c.set off v).toArray e fz)) (w.setCell ⟨b, off, none⟩ v) := by
  refine H.put hL rfl rfl rfl (by simp) (fun k _ hk => heap_setCell_other _ _ _ _ hk) ?_
  have hb := H.get hL
  simp [World.setCell, Array.getElem?_modify, hb]
theorem E_storeF {t : TypeId} {x y : Operand} {b off lo hi : Nat} {v : Value} {c : List Value} {e : TypeId} {f} (H : Hp w0 L w) (hS : ∀ w, (sizeOf t).run P w = .ok 1 w) (hx : ev E x = ptr b off) (hy : ev E y = v)
    (hv : v.oneCell' = true) (hL : At L b (.cells c.toArray e (lo, hi)) f) (hc : off < c.length) (hlo : off < lo)
    : ∃ w', Hp w0 (f (.cells (c.set off v).toArray e (lo, hi))) w' ∧ (execOp (ev E) (mk d (.store t x y) ty pos after)).run P w = .ok .skip w' := by
  have hcell : w.cell? ⟨b, off, none⟩ = some c[off] := by rw [cell_blk (H.get hL)]; exact List.getElem?_eq_getElem hc
  have hfro : w.frozen? ⟨b, off, none⟩ = false := by
    simp only [World.frozen?, H.get hL]
    simp; omega
  have hcs : v.cells = #[v] := by cases v <;> first | rfl | cases hv
  have hrun : (execOp (ev E) (mk d (.store t x y) ty pos after)).run P w = .ok .skip (w.setCell ⟨b, off, none⟩ v) := by
    have hst := run_store P w ⟨b, off, none⟩ v .plain hv
    rw [hcell, hfro] at hst
    simp [execOp, hx, hy, Instr.storeAt, Instr.sureAddr, storeVar, hS, hcs, storeCells, add_none, hst]
  exact ⟨_, setCellF H hL v, hrun⟩
end
section
variable {P : Program} {E : Env} {w : World} {d : Option Nat} {ty : TypeId} {pos : String} {after : Array Edge}
/-- the whole of an array -/
theorem R_all {t elem : TypeId} {x : Operand} {b off m : Nat} (ht : P.underlying t = some (.array m elem)) (hS : ∀ w, (sizeOf elem).run P w = .ok 1 w)
    (hx : ev E x = ptr b off) (h0 : 0 < m)
    : (execOp (ev E) (mk d (.slice t x none none none) ty pos after)).run P w = .ok (.value (sl b off m m)) w := by
  have h := R_sliceArr (d := d) (ty := ty) (pos := pos) (after := after) (w := w) (off' := off) (i := 0) (j := (m : Int)) ht hS hx (.none (dflt := 0)) (.none (dflt := (m : Int))) (by omega) (by omega) (by omega) (by omega) (by simp)
  simpa using h
end
end Go.Proofs.YthonajikgljgmaaGreat.Fx

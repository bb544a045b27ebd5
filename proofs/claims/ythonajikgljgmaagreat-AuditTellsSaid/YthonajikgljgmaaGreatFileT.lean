/-
  Open files as structs in memory.
-/
import Derived.Test.YthonajikgljgmaaGreatFileM2
namespace Go.Proofs.YthonajikgljgmaaGreat.File
open Go Go.Proofs Go.Proofs.YthonajikgljgmaaGreat.Fx Go.Proofs.YthonajikgljgmaaGreat.Codec
set_option linter.unusedVariables false

theorem fl_len (f : Fl) : (flC f).length = 4 := rfl
theorem fl_one (f : Fl) : ∀ v ∈ flC f, v.oneCell' = true := by
  intro v hv
  simp only [flC, List.mem_cons, List.not_mem_nil, or_false] at hv
  rcases hv with rfl | rfl | rfl | rfl <;> rfl
section
variable {E : Env} {w0 w : World} {L : List (Nat × Obj)} {d : Option Nat} {ty e : TypeId} {pos : String} {after : Array Edge} {x y : Operand} {b : Nat} {p q : Fl} {f : Obj → List (Nat × Obj)}
theorem ldL (hb : w.heap[b]? = some (blk (flC p) e)) : (loadVar 39 ⟨b, 0, none⟩).run Tryz.prog w = .ok (vF p) w :=
  ldA Tryz.isAgg39 Tryz.sizeOf39 hb rfl (by rw [fl_len]; decide)
theorem R_loadL (hx : ev E x = ptr b 0) (hb : w.heap[b]? = some (blk (flC p) e)) : (execOp (ev E) (mk d (.load 39 x) ty pos after)).run Tryz.prog w = .ok (.value (vF p)) w :=
  R_loadA Tryz.isAgg39 Tryz.sizeOf39 hx hb rfl (by rw [fl_len]; decide)
theorem E_storeL (H : Hp w0 L w) (hx : ev E x = ptr b 0) (hy : ev E y = vF q) (hL : At L b (blk (flC p) e) f) :
    ∃ w', Hp w0 (f (blk (flC q) e)) w' ∧ (execOp (ev E) (mk d (.store 39 x y) ty pos after)).run Tryz.prog w = .ok .skip w' :=
  E_storeA (vs := flC q) H Tryz.sizeOf39 hx hy (fl_one q) hL (by rw [fl_len, fl_len]; decide)
theorem E_allocL (H : Hp w0 L w) : ∃ b w', w0.heap.size ≤ b ∧ Hp w0 ((b, blk (flC zeroF) 39) :: L) w' ∧ (execOp (ev E) (mk d (.alloc 39) ty pos after)).run Tryz.prog w = .ok (.value (ptr b 0)) w' :=
  E_alloc (vs := flC zeroF) H Tryz.zeroValue39 rfl
theorem E_boxL (H : Hp w0 L w) (hx : ev E x = vF q) : ∃ b w', w0.heap.size ≤ b ∧ Hp w0 ((b, blk (flC q) 39) :: L) w' ∧ (execOp (ev E) (mk d (.box 39 x) ty pos after)).run Tryz.prog w = .ok (.value (ptr b 0)) w' :=
  E_box (v := vF q) (vs := flC q) H hx rfl
end
end Go.Proofs.YthonajikgljgmaaGreat.File

/-
  Open files as structs in memory.
-/
import Derived.Test.YthonajikgljgmaaFileD
namespace Go.Proofs.Ythonajikgljgmaa.File
open Go Go.Proofs Go.Proofs.Ythonajikgljgmaa.Fx Go.Proofs.Ythonajikgljgmaa.Codec
set_option linter.unusedVariables false

theorem fl_len (f : Fl) : (flC f).length = 4 := rfl
theorem fl_one (f : Fl) : ∀ v ∈ flC f, v.oneCell' = true := by
  intro v hv
  simp only [flC, List.mem_cons, List.not_mem_nil, or_false] at hv
  rcases hv with rfl | rfl | rfl | rfl <;> rfl
section
variable {E : Env} {w0 w : World} {L : List (Nat × Obj)} {d : Option Nat} {ty e : TypeId} {pos : String} {after : Array Edge} {x y : Operand} {b : Nat} {p q : Fl} {f : Obj → List (Nat × Obj)}
theorem ldL (hb : w.heap[b]? = some (blk (flC p) e)) : (loadVar 69 ⟨b, 0, none⟩).run Try.prog w = .ok (vF p) w :=
  ldA Try.isAgg69 Try.sizeOf69 hb rfl (by rw [fl_len]; decide)
theorem R_loadL (hx : ev E x = ptr b 0) (hb : w.heap[b]? = some (blk (flC p) e)) : (execOp (ev E) (mk d (.load 69 x) ty pos after)).run Try.prog w = .ok (.value (vF p)) w :=
  R_loadA Try.isAgg69 Try.sizeOf69 hx hb rfl (by rw [fl_len]; decide)
theorem E_storeL (H : Hp w0 L w) (hx : ev E x = ptr b 0) (hy : ev E y = vF q) (hL : At L b (blk (flC p) e) f) :
    ∃ w', Hp w0 (f (blk (flC q) e)) w' ∧ (execOp (ev E) (mk d (.store 69 x y) ty pos after)).run Try.prog w = .ok .skip w' :=
  E_storeA (vs := flC q) H Try.sizeOf69 hx hy (fl_one q) hL (by rw [fl_len, fl_len]; decide)
theorem E_allocL (H : Hp w0 L w) : ∃ b w', w0.heap.size ≤ b ∧ Hp w0 ((b, blk (flC zeroF) 69) :: L) w' ∧ (execOp (ev E) (mk d (.alloc 69) ty pos after)).run Try.prog w = .ok (.value (ptr b 0)) w' :=
  E_alloc (vs := flC zeroF) H Try.zeroValue69 rfl
theorem E_boxL (H : Hp w0 L w) (hx : ev E x = vF q) : ∃ b w', w0.heap.size ≤ b ∧ Hp w0 ((b, blk (flC q) 69) :: L) w' ∧ (execOp (ev E) (mk d (.box 69 x) ty pos after)).run Try.prog w = .ok (.value (ptr b 0)) w' :=
  E_box (v := vF q) (vs := flC q) H hx rfl
end
end Go.Proofs.Ythonajikgljgmaa.File

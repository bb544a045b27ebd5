/-
  Processes that are compared.
-/
import Derived.Test.YtneeoicjipglkaaDoorProcA
namespace Go.Proofs.YtneeoicjipglkaaDoor.Slot
open Go Go.Proofs Go.Proofs.YtneeoicjipglkaaDoor.Fx
set_option maxRecDepth 100000
set_option linter.unusedVariables false
set_option linter.unusedSimpArgs false

theorem zip_rep {k : IntKind} : ∀ (n : Nat) (l : List Int), l.length = n → List.zipWith Value.int (List.replicate n k) l = l.map (Value.int k)
  | 0, [], _ => rfl
  | n + 1, a :: l, h => by rw [List.replicate_succ, List.zipWith_cons_cons, List.map_cons, zip_rep n l (by simpa using h)]
theorem eq_fds : EqC Tryd.prog 23 (List.replicate 8 .i64) true 2 :=
  EqC.array (EqC.int Tryd.isAgg3 Tryd.sizeOf3 Tryd.underlying3) Tryd.isAgg23 Tryd.sizeOf23 Tryd.underlying23 (info_of_run Tryd.typeInfo3 default) (by kernel_rfl) rfl
def piK : List IntKind := [.i64] ++ ([.i64] ++ ([.i64] ++ ([.i64] ++ ([.i64] ++ ([.i64] ++ ([.i64] ++ ([.i64] ++ (List.replicate 8 .i64 ++ []))))))))
def piN (p : Pi) : List Int := [p.s, p.p, p.g, p.e, p.a.toInt, p.b.toInt, p.c.toInt, p.d.toInt] ++ p.f
theorem piC_K (p : Pi) : piC p = cellsK piK (piN p) := by
  show _ = [I p.s, I p.p, I p.g, I p.e, I p.a.toInt, I p.b.toInt, I p.c.toInt, I p.d.toInt] ++ List.zipWith Value.int (List.replicate 8 .i64 ++ []) p.f
  rw [List.append_nil, zip_rep 8 _ p.hf]
  rfl
theorem piN_len (p : Pi) : (piN p).length = piK.length := by simp [piN, piK, p.hf]
theorem piN_inj {p q : Pi} : piN p = piN q ↔ p = q := by
  refine ⟨fun h => ?_, fun h => by rw [h]⟩
  unfold piN at h
  have h2 := List.append_inj h rfl
  have h3 := h2.1
  simp only [List.cons.injEq, and_true] at h3
  obtain ⟨h4, h5, h6, h7, h8, h9, h10, h11⟩ := h3
  exact pi_ext h4 h5 h6 h7 (BitVec.eq_of_toInt_eq h8) (BitVec.eq_of_toInt_eq h9) (BitVec.eq_of_toInt_eq h10) (BitVec.eq_of_toInt_eq h11) h2.2
instance : DecidableEq Pi := fun _ _ => decidable_of_iff _ piN_inj
theorem eq_pi : EqC Tryd.prog 25 piK true 3 := by
  have hi := EqC.int Tryd.isAgg3 Tryd.sizeOf3 Tryd.underlying3
  refine EqC.struct (d0 := 2) Tryd.isAgg25 Tryd.sizeOf25 Tryd.underlying25 (by kernel_rfl) ?_
  unfold piK
  refine FieldsC.cons (by decide) rfl hi (by decide) ?_
  refine FieldsC.cons (by decide) rfl hi (by decide) ?_
  refine FieldsC.cons (by decide) rfl hi (by decide) ?_
  refine FieldsC.cons (by decide) rfl hi (by decide) ?_
  refine FieldsC.cons (by decide) rfl hi (by decide) ?_
  refine FieldsC.cons (by decide) rfl hi (by decide) ?_
  refine FieldsC.cons (by decide) rfl hi (by decide) ?_
  refine FieldsC.cons (by decide) rfl hi (by decide) ?_
  exact FieldsC.cons (by decide) rfl eq_fds (by decide) .nil

section
variable {E : Env} {w : World} {d : Option Nat} {ty : TypeId} {pos : String} {after : Array Edge} {t' : TypeId} {x y : Operand} {f g : Pi}
theorem R_eq_P (hx : ev E x = vP f) (hy : ev E y = vP g)
    : (execOp (ev E) (mk d (.binOp .eql 25 x y t') ty pos after)).run Tryd.prog w = .ok (.value (.bool (decide (f = g)))) w := by
  rw [R_eq_C eq_pi (by decide) (by kernel_rfl) hx hy (piC_K f) (piC_K g) (piN_len f) (piN_len g), decide_eq_decide.2 piN_inj]
theorem R_ne_P (hx : ev E x = vP f) (hy : ev E y = vP g)
    : (execOp (ev E) (mk d (.binOp .neq 25 x y t') ty pos after)).run Tryd.prog w = .ok (.value (.bool (decide (¬ f = g)))) w := by
  rw [R_ne_C eq_pi (by decide) (by kernel_rfl) hx hy (piC_K f) (piC_K g) (piN_len f) (piN_len g), decide_eq_decide.2 (not_congr piN_inj)]
theorem R_ne_P_f (hx : ev E x = vP f) (hy : ev E y = vP f)
    : (execOp (ev E) (mk d (.binOp .neq 25 x y t') ty pos after)).run Tryd.prog w = .ok (.value (.bool false)) w := by
  rw [R_ne_P hx hy, decide_eq_false (fun h => h rfl)]
theorem R_eq_P_t (hx : ev E x = vP f) (hy : ev E y = vP f)
    : (execOp (ev E) (mk d (.binOp .eql 25 x y t') ty pos after)).run Tryd.prog w = .ok (.value (.bool true)) w := by
  rw [R_eq_P hx hy, decide_eq_true rfl]
end
end Go.Proofs.YtneeoicjipglkaaDoor.Slot

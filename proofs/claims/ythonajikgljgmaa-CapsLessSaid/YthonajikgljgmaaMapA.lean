/-
  Maps from Refs to integers: made, written, read.
-/
import Derived.Test.YthonajikgljgmaaCapsG
import Derived.Test.YthonajikgljgmaaFxT
namespace Go.Proofs.Ythonajikgljgmaa.Caps
open Go Go.Proofs Go.Proofs.Ythonajikgljgmaa.Fx Go.Proofs.Ythonajikgljgmaa.TabC
set_option maxRecDepth 100000
set_option linter.unusedVariables false
set_option linter.unusedSimpArgs false
set_option maxHeartbeats 4000000

/-- a Ref -/
def rf (r : Int × Int) : Value := .agg #[I r.1, I r.2]
def refK : List IntKind := [.i64] ++ ([.i64] ++ [])
theorem eq_ref : EqC Try.prog 36 refK true 2 := by
  have hi := EqC.int Try.isAgg3 Try.sizeOf3 Try.underlying3
  refine EqC.struct (d0 := 1) Try.isAgg36 Try.sizeOf36 Try.underlying36 (by kernel_rfl) ?_
  unfold refK
  refine FieldsC.cons (by decide) rfl hi (by decide) ?_
  exact FieldsC.cons (by decide) rfl hi (by decide) .nil

/-- what a map's entries are -/
def MapIs (es : Array MapEntry) (l : List (Int × Int)) : Prop := es.toList.map (fun e => (e.key, e.val)) = l.map fun r => (rf r, I 1)
theorem MapIs.nil : MapIs #[] [] := rfl
theorem MapIs.push {es : Array MapEntry} {l : List (Int × Int)} (h : MapIs es l) (r : Int × Int) (c : Nat) : MapIs (es.push ⟨rf r, I 1, c⟩) (l ++ [r]) := by
  unfold MapIs at h ⊢
  rw [Array.toList_push, List.map_append, h, List.map_append]; rfl

theorem equal_ref (r s : Int × Int) (w : World) : (Op.equal 36 (rf r) (rf s)).run Try.prog w = .ok (decide (r = s)) w := by
  have h := eq_ref.eq 10000 (by decide) [r.1, r.2] [s.1, s.2] rfl rfl w
  have e : ([r.1, r.2] = [s.1, s.2]) ↔ r = s := by
    constructor
    · intro h; simp only [List.cons.injEq, and_true] at h; exact Prod.ext h.1 h.2
    · rintro rfl; rfl
  rw [decide_eq_decide.2 e] at h
  exact h

theorem findAsk : ∀ (es : List MapEntry) (l : List (Int × Int)) (i : Nat) (r : Int × Int) (w : World), es.map (fun e => (e.key, e.val)) = l.map (fun r => (rf r, I 1)) →
    (r ∈ l → ∃ j, (Instr.findAsking 36 (rf r) es i).run Try.prog w = .ok (some (j, I 1)) w) ∧ (r ∉ l → (Instr.findAsking 36 (rf r) es i).run Try.prog w = .ok none w)
  | [], [], i, r, w, _ => ⟨fun h => absurd h (by simp), fun _ => rfl⟩
  | [], _ :: _, _, _, _, h => by simp at h
  | _ :: _, [], _, _, _, h => by simp at h
  | e :: es, s :: l, i, r, w, h => by
    simp only [List.map_cons, List.cons.injEq, Prod.mk.injEq] at h
    obtain ⟨⟨hk, hv⟩, h2⟩ := h
    obtain ⟨i1, i2⟩ := findAsk es l (i + 1) r w h2
    have hstep : (Instr.findAsking 36 (rf r) (e :: es) i).run Try.prog w = if r = s then .ok (some (i, I 1)) w else (Instr.findAsking 36 (rf r) es (i + 1)).run Try.prog w := by
      rw [Instr.findAsking]
      simp only [Sem.run_bind, hk, hv, equal_ref, Result.andThen_ok]
      by_cases hrs : r = s
      · simp [hrs]
      · simp [hrs]
    constructor
    · intro hm
      rw [hstep]
      by_cases hrs : r = s
      · rw [if_pos hrs]; exact ⟨_, rfl⟩
      · rw [if_neg hrs]; exact i1 ((List.mem_cons.1 hm).resolve_left hrs)
    · intro hm
      rw [hstep, if_neg (by rintro rfl; exact hm (.head _))]
      exact i2 (fun h => hm (.tail _ h))
theorem findKey_ref {es : Array MapEntry} {l : List (Int × Int)} (h : MapIs es l) (r : Int × Int) (w : World) :
    (r ∈ l → ∃ j, (Instr.findKey 36 (rf r) es.toList).run Try.prog w = .ok (some (j, I 1)) w) ∧ (r ∉ l → (Instr.findKey 36 (rf r) es.toList).run Try.prog w = .ok none w) := by
  have hu := Try.underlying36
  have hf : (Instr.findKey 36 (rf r) es.toList).run Try.prog w = (Instr.findAsking 36 (rf r) es.toList).run Try.prog w := by
    unfold Instr.findKey
    simp only [Sem.run_bind, run_underlying hu, Result.andThen_ok]
    cases hes : es.toList with
    | nil => rfl
    | cons e t => rfl
  rw [hf]
  exact findAsk es.toList l 0 r w h
theorem checkKey_ref (b : Bool) (r : Int × Int) (w : World) : (Instr.checkKey b 10000 36 (rf r)).run Try.prog w = .ok () w := by
  kernel_rfl
theorem run_getMap {w : World} {b c : Nat} {es : Array MapEntry} (hb : w.heap[b]? = some (.map es c)) : (getObj b).run Try.prog w = .ok (.map es c) w := by
  simp [getObj, Sem.run, hb]
theorem run_setMap {w : World} {b c : Nat} {es : Array MapEntry} (o : Obj) (hb : w.heap[b]? = some (.map es c)) : (setObj b o).run Try.prog w = .ok () { w with heap := w.heap.setIfInBounds b o } := by
  simp [setObj, Sem.run, hb]

section
variable {E : Env} {w0 w : World} {L : List (Nat × Obj)} {d : Option Nat} {ty : TypeId} {pos : String} {after : Array Edge}

theorem E_makeMap {t : TypeId} (H : Hp w0 L w) : ∃ b w', w0.heap.size ≤ b ∧ Hp w0 ((b, .map #[] 0) :: L) w' ∧ (execOp (ev E) (mk d (.makeMap t none) ty pos after)).run Try.prog w = .ok (.value (.map (some b))) w' :=
  E_new (v := fun b => .map (some b)) H (by simp [execOp, Instr.makeMap])

theorem R_lookup_yes {x y : Operand} {b c : Nat} {es : Array MapEntry} {l : List (Int × Int)} {r : Int × Int} (hb : w.heap[b]? = some (.map es c)) (hm : MapIs es l) (hx : ev E x = .map (some b)) (hy : ev E y = rf r) (h : r ∈ l) :
    (execOp (ev E) (mk d (.lookup 104 x y false) ty pos after)).run Try.prog w = .ok (.value (I 1)) w := by
  obtain ⟨j, hj⟩ := (findKey_ref hm r w).1 h
  simp [execOp, hx, hy, Instr.lookup, run_underlying Try.underlying104, run_getMap hb, checkKey_ref, hj]
theorem R_lookup_no {x y : Operand} {b c : Nat} {es : Array MapEntry} {l : List (Int × Int)} {r : Int × Int} (hb : w.heap[b]? = some (.map es c)) (hm : MapIs es l) (hx : ev E x = .map (some b)) (hy : ev E y = rf r) (h : r ∉ l) :
    (execOp (ev E) (mk d (.lookup 104 x y false) ty pos after)).run Try.prog w = .ok (.value (I 0)) w := by
  have hj := (findKey_ref hm r w).2 h
  simp [execOp, hx, hy, Instr.lookup, run_underlying Try.underlying104, run_getMap hb, checkKey_ref, hj, Try.zeroValue3]

theorem mapUpdate_run {b c : Nat} {es : Array MapEntry} {l : List (Int × Int)} {r : Int × Int} (hb : w.heap[b]? = some (.map es c)) (hm : MapIs es l) (h : r ∉ l) :
    (Instr.mapUpdate 104 (.map (some b)) (rf r) (I 1)).run Try.prog w = .ok () { w with heap := w.heap.setIfInBounds b (.map (es.push ⟨rf r, I 1, c⟩) (c + 1)) } := by
  have hj := (findKey_ref hm r w).2 h
  simp [Instr.mapUpdate, run_underlying Try.underlying104, run_getMap hb, checkKey_ref, hj, run_setMap _ hb]
theorem Hp.setMap {b c : Nat} {es : Array MapEntry} {o : Obj} {f} (H : Hp w0 L w) (hL : At L b (.map es c) f) : Hp w0 (f o) { w with heap := w.heap.setIfInBounds b o } := by
  have hb := H.get hL
  have hlt := (Array.getElem?_eq_some_iff.1 hb).1
  refine H.put hL rfl rfl rfl (by simp) (fun k _ hk => ?_) ?_
  · simp only [Array.getElem?_setIfInBounds, if_neg (Ne.symm hk)]
  · simp only [Array.getElem?_setIfInBounds, if_pos hlt, if_true]
theorem E_insert {x y z : Operand} {b c : Nat} {es : Array MapEntry} {l : List (Int × Int)} {r : Int × Int} {f} (H : Hp w0 L w) (hL : At L b (.map es c) f) (hm : MapIs es l) (hx : ev E x = .map (some b)) (hy : ev E y = rf r) (hz : ev E z = I 1) (h : r ∉ l) :
    ∃ w', Hp w0 (f (.map (es.push ⟨rf r, I 1, c⟩) (c + 1))) w' ∧ (execOp (ev E) (mk d (.insert 104 x y z) ty pos after)).run Try.prog w = .ok .skip w' := by
  have hr := mapUpdate_run (H.get hL) hm h
  exact ⟨_, Hp.setMap H hL, by simp [execOp, hx, hy, hz, hr]⟩
theorem E_mapUpdate {x y z : Operand} {b c : Nat} {es : Array MapEntry} {l : List (Int × Int)} {r : Int × Int} {f} (H : Hp w0 L w) (hL : At L b (.map es c) f) (hm : MapIs es l) (hx : ev E x = .map (some b)) (hy : ev E y = rf r) (hz : ev E z = I 1) (h : r ∉ l) :
    ∃ w', Hp w0 (f (.map (es.push ⟨rf r, I 1, c⟩) (c + 1))) w' ∧ (execOp (ev E) (mk d (.mapUpdate 104 x y z) ty pos after)).run Try.prog w = .ok .skip w' := by
  have hr := mapUpdate_run (H.get hL) hm h
  exact ⟨_, Hp.setMap H hL, by simp [execOp, hx, hy, hz, hr]⟩
end
end Go.Proofs.Ythonajikgljgmaa.Caps

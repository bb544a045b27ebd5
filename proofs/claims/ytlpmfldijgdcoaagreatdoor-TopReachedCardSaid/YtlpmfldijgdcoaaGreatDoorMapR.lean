/-
  Maps from Recs to integers: made, written, read.
-/
import Derived.Test.YtlpmfldijgdcoaaGreatDoorProg
import Derived.Test.YtlpmfldijgdcoaaGreatDoorFxO
import Derived.Test.YtlpmfldijgdcoaaGreatDoorFxT
namespace Go.Proofs.YtlpmfldijgdcoaaGreatDoor.Mr
open Go Go.Proofs Go.Proofs.YtlpmfldijgdcoaaGreatDoor.Fx
set_option maxRecDepth 100000
set_option linter.unusedVariables false
set_option linter.unusedSimpArgs false
set_option maxHeartbeats 4000000

/-- a Ref -/
def rf (r : Int × Int) : Value := .agg #[I r.1, I r.2]
def recK : List IntKind := [.i64] ++ ([.i64] ++ [])
theorem eq_rec : EqC Tryz.prog 182 recK true 2 := by
  have hi := EqC.int Tryz.isAgg3 Tryz.sizeOf3 Tryz.underlying3
  refine EqC.struct (d0 := 1) Tryz.isAgg182 Tryz.sizeOf182 Tryz.underlying182 (by kernel_rfl) ?_
  unfold recK
  refine FieldsC.cons (by decide) rfl hi (by decide) ?_
  exact FieldsC.cons (by decide) rfl hi (by decide) .nil

/-- what a map's entries are -/
def MapIs (es : Array MapEntry) (l : List (Int × Int)) : Prop := es.toList.map (fun e => (e.key, e.val)) = l.map fun r => (rf r, I 1)
theorem MapIs.nil : MapIs #[] [] := rfl
theorem MapIs.push {es : Array MapEntry} {l : List (Int × Int)} (h : MapIs es l) (r : Int × Int) (c : Nat) : MapIs (es.push ⟨rf r, I 1, c⟩) (l ++ [r]) := by
  unfold MapIs at h ⊢
  rw [Array.toList_push, List.map_append, h, List.map_append]; rfl

theorem equal_rec (r s : Int × Int) (w : World) : (Op.equal 182 (rf r) (rf s)).run Tryz.prog w = .ok (decide (r = s)) w := by
  have h := eq_rec.eq 10000 (by decide) [r.1, r.2] [s.1, s.2] rfl rfl w
  have e : ([r.1, r.2] = [s.1, s.2]) ↔ r = s := by
    constructor
    · intro h; simp only [List.cons.injEq, and_true] at h; exact Prod.ext h.1 h.2
    · rintro rfl; rfl
  rw [decide_eq_decide.2 e] at h
  exact h

theorem findAsk : ∀ (es : List MapEntry) (l : List (Int × Int)) (i : Nat) (r : Int × Int) (w : World), es.map (fun e => (e.key, e.val)) = l.map (fun r => (rf r, I 1)) →
    (r ∈ l → ∃ j, (Instr.findAsking 182 (rf r) es i).run Tryz.prog w = .ok (some (j, I 1)) w) ∧ (r ∉ l → (Instr.findAsking 182 (rf r) es i).run Tryz.prog w = .ok none w)
  | [], [], i, r, w, _ => ⟨fun h => absurd h (by simp), fun _ => rfl⟩
  | [], _ :: _, _, _, _, h => by simp at h
  | _ :: _, [], _, _, _, h => by simp at h
  | e :: es, s :: l, i, r, w, h => by
    simp only [List.map_cons, List.cons.injEq, Prod.mk.injEq] at h
    obtain ⟨⟨hk, hv⟩, h2⟩ := h
    obtain ⟨i1, i2⟩ := findAsk es l (i + 1) r w h2
    have hstep : (Instr.findAsking 182 (rf r) (e :: es) i).run Tryz.prog w = if r = s then .ok (some (i, I 1)) w else (Instr.findAsking 182 (rf r) es (i + 1)).run Tryz.prog w := by
      rw [Instr.findAsking]
      simp only [Sem.run_bind, hk, hv, equal_rec, Result.andThen_ok]
      by_cases hrs : r = s
      · simp [hrs]
      · simp [hrs]
    constructor
    · intro hm
      rw [hstep]
      by_cases hrs : r = s
      · rw [if_pos hrs]; exact ⟨_, rfl⟩
      · rw [if_neg hrs]; exact i1 ((List.mem_cons.1 hm).resolve_left hrs)
    · intro hm
      rw [hstep, if_neg (by rintro rfl; exact hm (.head _))]
      exact i2 (fun h => hm (.tail _ h))
theorem findKey_rec {es : Array MapEntry} {l : List (Int × Int)} (h : MapIs es l) (r : Int × Int) (w : World) :
    (r ∈ l → ∃ j, (Instr.findKey 182 (rf r) es.toList).run Tryz.prog w = .ok (some (j, I 1)) w) ∧ (r ∉ l → (Instr.findKey 182 (rf r) es.toList).run Tryz.prog w = .ok none w) := by
  have hu := Tryz.underlying182
  have hf : (Instr.findKey 182 (rf r) es.toList).run Tryz.prog w = (Instr.findAsking 182 (rf r) es.toList).run Tryz.prog w := by
    unfold Instr.findKey
    simp only [Sem.run_bind, run_underlying hu, Result.andThen_ok]
    cases hes : es.toList with
    | nil => rfl
    | cons e t => rfl
  rw [hf]
  exact findAsk es.toList l 0 r w h
theorem checkKey_rec (b : Bool) (r : Int × Int) (w : World) : (Instr.checkKey b 10000 182 (rf r)).run Tryz.prog w = .ok () w := by
  kernel_rfl
theorem run_getMap {w : World} {b c : Nat} {es : Array MapEntry} (hb : w.heap[b]? = some (.map es c)) : (getObj b).run Tryz.prog w = .ok (.map es c) w := by
  simp [getObj, Sem.run, hb]
section
variable {E : Env} {w0 w : World} {L : List (Nat × Obj)} {d : Option Nat} {ty : TypeId} {pos : String} {after : Array Edge}

theorem E_makeMap {t : TypeId} (H : Hp w0 L w) : ∃ b w', w0.heap.size ≤ b ∧ Hp w0 ((b, .map #[] 0) :: L) w' ∧ (execOp (ev E) (mk d (.makeMap t none) ty pos after)).run Tryz.prog w = .ok (.value (.map (some b))) w' :=
  E_new (v := fun b => .map (some b)) H (by simp [execOp, Instr.makeMap])

theorem R_lookup_no {x y : Operand} {b c : Nat} {es : Array MapEntry} {l : List (Int × Int)} {r : Int × Int} (hb : w.heap[b]? = some (.map es c)) (hm : MapIs es l) (hx : ev E x = .map (some b)) (hy : ev E y = rf r) (h : r ∉ l) :
    (execOp (ev E) (mk d (.lookup 175 x y false) ty pos after)).run Tryz.prog w = .ok (.value (I 0)) w := by
  have hj := (findKey_rec hm r w).2 h
  simp [execOp, hx, hy, Instr.lookup, run_underlying Tryz.underlying175, run_getMap hb, checkKey_rec, hj, Tryz.zeroValue3]

end
end Go.Proofs.YtlpmfldijgdcoaaGreatDoor.Mr

/-
  Functions whose first result is a struct: it lies in a block of its own and is loaded at the end.
-/
import Derived.Test.YtlpmfldijgdcoaaGreatDoorFxW
namespace Go.Proofs.YtlpmfldijgdcoaaGreatDoor.Fx
open Go

/-- What a function hands back whose first result lies in memory. -/
def resultC (P : Program) (rs : Array ResultVar) (E : Env) (w : World) (v : Value) : Prop :=
  match rs.toList with
  | [.cell a t] => ∃ ad, E a = .pointer (some ad) ∧ (loadVar t ad).run P w = .ok v w
  | [.cell a t, .tmp u] => ∃ ad x, E a = .pointer (some ad) ∧ (loadVar t ad).run P w = .ok x w ∧ v = .tuple #[x, E u]
  | [.cell a t, .tmp u, .tmp y] => ∃ ad x, E a = .pointer (some ad) ∧ (loadVar t ad).run P w = .ok x w ∧ v = .tuple #[x, E u, E y]
  | _ => False

theorem results_ofC {P : Program} {fn : Func} {n : Nat} {E : Env} {a : Act} {v : Value} {w : World} (ha : Rep n E a) (h : resultC P fn.results E w v) :
    (results fn a.tmps).run P w = .ok v w := by
  obtain ⟨rs, hrs⟩ : ∃ rs, fn.results.toList = rs := ⟨_, rfl⟩
  have hrs' : fn.results = rs.toArray := by rw [← hrs]
  unfold resultC at h
  rw [hrs] at h
  split at h
  · obtain ⟨ad, h1, h2⟩ := h
    rw [← ha.slot, Array.getD_eq_getD_getElem?] at h1
    simp [results, hrs', asAddr, h1, h2]
  · obtain ⟨ad, x, h1, h2, rfl⟩ := h
    rw [← ha.slot, Array.getD_eq_getD_getElem?] at h1
    rw [← ha.slot]
    simp [results, hrs', asAddr, h1, h2]
  · obtain ⟨ad, x, h1, h2, rfl⟩ := h
    rw [← ha.slot, Array.getD_eq_getD_getElem?] at h1
    rw [← ha.slot, ← ha.slot]
    simp [results, hrs', asAddr, h1, h2]
  · cases h

theorem Ret_of_WC {P : Program} {f : FuncId} {fn : Func} {c : Code} {args : List Value} {w : World} {R : Value → World → Prop} {n : Nat} {rs : Array ResultVar}
    (hf : P.funcs[f]? = some fn) (hb : fn.body = some c) (hnt : fn.ntmps = n) (hrs : fn.results = rs) (hn : args.length ≤ n)
    (h : W P n c (fun E w => ∃ v, resultC P rs E w v ∧ R v w) (fun _ _ _ => False) (fun E w => ∃ v, resultC P rs E w v ∧ R v w) (env0 args) w) :
    Ret P f args.toArray w R := by
  subst hnt hrs
  refine ⟨calls_of_wp hf hb ?_⟩
  have hrep : Rep fn.ntmps (env0 args) { tmps := args.toArray ++ Array.replicate (fn.ntmps - args.toArray.size) undef, defers := [] } := by
    refine ⟨by simp; omega, ?_, rfl⟩
    intro t
    simp only [env0, Array.getD_eq_getD_getElem?, Array.getElem?_append, List.getD_eq_getElem?_getD]
    by_cases ht : t < args.length
    · simp [ht]
    · simp only [List.size_toArray, if_neg ht, Array.getElem?_replicate]
      rw [List.getElem?_eq_none (by omega)]
      split <;> rfl
  refine wp_mono (h.out _ hrep) ?_
  intro e a w hq
  cases e with
  | normal => obtain ⟨E, ha, v, hv, hR⟩ := hq; exact ⟨ha.defers, v, results_ofC ha hv, v, rfl, hR⟩
  | exit i => obtain ⟨E, ha, h⟩ := hq; exact h.elim
  | ret => obtain ⟨E, ha, v, hv, hR⟩ := hq; exact ⟨ha.defers, v, results_ofC ha hv, v, rfl, hR⟩
  | goto l => exact hq.elim
  | panic c => exact hq.elim
  | outgrown => exact hq.elim

/-- a struct that is loaded -/
theorem ldA {P : Program} {w : World} {t : TypeId} {b off sz : Nat} {vs c : List Value} {e : TypeId} {fz : Nat × Nat} (hA : ∀ w, (isAgg t).run P w = .ok true w) (hS : ∀ w, (sizeOf t).run P w = .ok sz w)
    (hb : w.heap[b]? = some (.cells c.toArray e fz)) (hc : (c.drop off).take sz = vs) (hl : off + sz ≤ c.length) : (loadVar t ⟨b, off, none⟩).run P w = .ok (.agg vs.toArray) w :=
  run_loadAgg hA hS (fun j v hj => by
    rw [cell_blk hb]
    subst hc
    rw [List.getElem?_take] at hj
    split at hj
    · rwa [List.getElem?_drop] at hj
    · cases hj) (by subst hc; simp; omega)

/-! ### values of structs, many fields -/
/-- a row with some cells put over those from a place on -/
def overL : Nat → List Value → List Value → List Value
  | _, _, [] => []
  | 0, [], c :: cs => c :: cs
  | 0, v :: vs, _ :: cs => v :: overL 0 vs cs
  | n + 1, vs, c :: cs => c :: overL n vs cs
def fillL (places : List (Nat × Nat)) : List Value → List (Nat × Value) → List Value
  | cs, [] => cs
  | cs, (i, v) :: r => fillL places (overL ((places[i]?.getD (0, 0)).1) v.cells.toList cs) r
def fitsL (places : List (Nat × Nat)) (n : Nat) : List (Nat × Value) → Bool
  | [] => true
  | (i, v) :: r => match places[i]? with
    | none => false
    | some p => Nat.beq v.cells.size p.2 && Nat.ble (p.1 + p.2) n && fitsL places n r

theorem overL_length : ∀ (n : Nat) (vs cs : List Value), (overL n vs cs).length = cs.length
  | _, _, [] => by simp [overL]
  | 0, [], c :: cs => by simp [overL]
  | 0, v :: vs, c :: cs => by simp [overL, overL_length 0 vs cs]
  | n + 1, vs, c :: cs => by simp [overL, overL_length n vs cs]

theorem overL_get : ∀ (n : Nat) (vs cs : List Value) (j : Nat), n + vs.length ≤ cs.length → (overL n vs cs)[j]? = if n ≤ j ∧ j < n + vs.length then vs[j - n]? else cs[j]?
  | n, vs, [], j, h => by
    simp only [List.length_nil] at h
    have h1 : vs = [] := List.length_eq_zero_iff.1 (by omega)
    subst h1
    simp [overL]
  | 0, [], c :: cs, j, h => by
    have : ¬ (0 ≤ j ∧ j < 0 + ([] : List Value).length) := by simp
    rw [if_neg this]; rfl
  | 0, v :: vs, c :: cs, j, h => by
    unfold overL
    cases j with
    | zero => simp
    | succ j =>
      have := overL_get 0 vs cs j (by simp at h ⊢; omega)
      rw [List.getElem?_cons_succ, this]
      simp only [List.length_cons, Nat.zero_add, Nat.sub_zero, List.getElem?_cons_succ]
      by_cases hj : j < vs.length
      · rw [if_pos ⟨by omega, hj⟩, if_pos ⟨by omega, by omega⟩]
      · rw [if_neg (by omega), if_neg (by omega)]
  | n + 1, vs, c :: cs, j, h => by
    unfold overL
    cases j with
    | zero => rw [if_neg (by omega)]; rfl
    | succ j =>
      have := overL_get n vs cs j (by simp at h; omega)
      rw [List.getElem?_cons_succ, this]
      by_cases hj : n ≤ j ∧ j < n + vs.length
      · rw [if_pos hj, if_pos ⟨by omega, by omega⟩, show j + 1 - (n + 1) = j - n from by omega]
      · rw [if_neg hj, if_neg (by omega)]; rfl

theorem foldl_over (off : Nat) (vs cs : List Value) (h : off + vs.length ≤ cs.length) : vs.toArray.zipIdx.foldl (fun cs (p : Value × Nat) => cs.setIfInBounds (off + p.2) p.1) cs.toArray = (overL off vs cs).toArray := by
  rw [arr_zip vs (fun cs (p : Value × Nat) => cs.setIfInBounds (off + p.2) p.1) cs.toArray]
  have h1 := foldl_set vs off 0 cs.toArray (by simpa using h)
  apply Array.ext'
  rw [h1]
  apply List.ext_getElem?
  intro j
  simp only [Nat.add_zero]
  rw [overL_get off vs cs j h]
  simp only [List.getElem?_append, List.length_append, List.length_take, List.getElem?_take, List.getElem?_drop]
  rw [Nat.min_eq_left (by omega)]
  by_cases a1 : j < off
  · rw [if_pos (by omega), if_pos a1, if_pos a1, if_neg (by omega)]
  · by_cases a2 : j < off + vs.length
    · rw [if_pos (by omega), if_neg a1, if_pos ⟨by omega, a2⟩]
    · rw [if_neg (by omega), if_neg (by omega)]
      congr 1
      omega

theorem fill_eq {places : List (Nat × Nat)} : ∀ (ps : List (Nat × Value)) (cs : List Value), fitsL places cs.length ps = true → Instr.fill (places.toArray[·]?) cs.toArray ps = some (fillL places cs ps).toArray
  | [], cs, _ => rfl
  | (i, v) :: r, cs, h => by
    unfold fitsL at h
    cases hp : places[i]? with
    | none => rw [hp] at h; cases h
    | some p =>
      rw [hp] at h
      simp only [Bool.and_eq_true] at h
      obtain ⟨⟨h1, h2⟩, h3⟩ := h
      have e1 := Nat.eq_of_beq_eq_true h1
      have e2 := Nat.le_of_ble_eq_true h2
      have hl : v.cells.toList.length = v.cells.size := by simp
      have ih := fill_eq r (overL p.1 v.cells.toList cs) (by rw [overL_length]; exact h3)
      unfold Instr.fill fillL
      have e3 : places.toArray[i]? = some (p.1, p.2) := by simpa using hp
      rw [e3]
      simp only [hp, Option.getD_some]
      rw [if_neg (by simp only [ne_eq, List.size_toArray, Bool.or_eq_true, decide_eq_true_eq, not_or, Decidable.not_not]; omega), ← ih]
      congr 1
      have := foldl_over p.1 v.cells.toList cs (by omega)
      simpa using this

section
variable {P : Program} {E : Env} {w : World} {d : Option Nat} {ty : TypeId} {pos : String} {after : Array Edge}
theorem R_buildL {t : TypeId} {parts : Array (Nat × Operand)} {ps : List (Nat × Value)} {vs zs : List Value} {places : List (Nat × Nat)} {fields : Array Field} {i : TypeInfo} {z : Value} (hu : P.underlying t = some (.struct fields)) (hI : ∀ w, (typeInfo t).run P w = .ok i w)
    (hZ : i.zero = some z) (hz : z.cells = zs.toArray) (hpl : fields.toList.mapM (fun f => (P.info? f.type).map fun i => (f.offset, i.size)) = some places)
    (hp : parts.toList.map (fun p => (p.1, ev E p.2)) = ps) (hf : fitsL places zs.length ps = true) (hv : fillL places zs ps = vs)
    : (execOp (ev E) (mk d (.build t parts) ty pos after)).run P w = .ok (.value (.agg vs.toArray)) w := by
  refine R_build hp ?_
  unfold Program.built
  rw [info_of_run hI w, hu]
  simp only [hZ, hpl, hz]
  rw [fill_eq ps zs hf, hv]
end
end Go.Proofs.YtlpmfldijgdcoaaGreatDoor.Fx

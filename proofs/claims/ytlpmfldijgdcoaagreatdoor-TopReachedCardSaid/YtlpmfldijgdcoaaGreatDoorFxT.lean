/-
  Equality of structs and arrays of integers.
-/
import Derived.Test.YtlpmfldijgdcoaaGreatDoorFxO
import Derived.ChangeKeysEq
import Derived.Laws.StructEq
namespace Go.Proofs.YtlpmfldijgdcoaaGreatDoor.Fx
open Go
set_option linter.unusedVariables false

def cellsK (ks : List IntKind) (ns : List Int) : List Value := List.zipWith Value.int ks ns
def mkV (agg : Bool) (cs : List Value) : Value := match agg with | true => .agg cs.toArray | false => cs.headD undef

/-- Values of type t are integers of these kinds, one behind the other; two are equal as these are. -/
structure EqC (P : Program) (t : TypeId) (ks : List IntKind) (agg : Bool) (d0 : Nat) : Prop where
  hA : ∀ w, (isAgg t).run P w = .ok agg w
  hS : ∀ w, (sizeOf t).run P w = .ok ks.length w
  one : agg = false → ks.length = 1
  eq : ∀ d, d0 ≤ d → ∀ (ns ms : List Int), ns.length = ks.length → ms.length = ks.length → ∀ w, (Op.equalIn d t (mkV agg (cellsK ks ns)) (mkV agg (cellsK ks ms))).run P w = .ok (decide (ns = ms)) w

theorem cellsK_length {ks : List IntKind} {ns : List Int} (h : ns.length = ks.length) : (cellsK ks ns).length = ks.length := by simp [cellsK, h]
theorem cellsK_append {k1 k2 : List IntKind} {n1 n2 : List Int} (h : n1.length = k1.length) : cellsK (k1 ++ k2) (n1 ++ n2) = cellsK k1 n1 ++ cellsK k2 n2 := by
  unfold cellsK
  rw [List.zipWith_append h.symm]

section
variable {P : Program} {w : World}

theorem EqC.part {t : TypeId} {ks : List IntKind} {agg : Bool} {d0 off : Nat} (h : EqC P t ks agg d0) {ns : List Int} (hn : ns.length = ks.length) {pre post : List Value} (hp : pre.length = off) :
    (Go.part t (pre ++ (cellsK ks ns ++ post)).toArray off).run P w = .ok (mkV agg (cellsK ks ns)) w := by
  subst hp
  have hl := cellsK_length hn
  cases agg with
  | true =>
    simp only [Go.part, Sem.run_bind, h.hA, Result.andThen_ok, if_true, h.hS, Sem.run_pure, mkV]
    congr 2
    apply Array.ext'
    simp [List.extract_eq_take_drop, ← hl]
  | false =>
    have h1 := h.one rfl
    obtain ⟨v, hv⟩ : ∃ v, cellsK ks ns = [v] := by
      rw [h1] at hl
      exact List.length_eq_one_iff.1 hl
    simp [Go.part, h.hA, mkV, hv]

theorem EqC.int {t : TypeId} {k : IntKind} (hA : ∀ w, (isAgg t).run P w = .ok false w) (hS : ∀ w, (sizeOf t).run P w = .ok 1 w) (ht : P.underlying t = some (.int k)) : EqC P t [k] false 1 := by
  refine ⟨hA, hS, fun _ => rfl, fun d hd ns ms hn hm w => ?_⟩
  obtain ⟨n, rfl⟩ := List.length_eq_one_iff.1 hn
  obtain ⟨m, rfl⟩ := List.length_eq_one_iff.1 hm
  obtain ⟨d, rfl⟩ : ∃ e, d = e + 1 := ⟨d - 1, by omega⟩
  have := run_equalIn_int (P := P) w d t k k n m ht
  simp only [mkV, cellsK, List.zipWith_cons_cons, List.zipWith_nil_left, List.headD_cons]
  rw [this]
  simp [Bool.beq_eq_decide_eq]

/-- the fields of a struct, from some place on -/
inductive FieldsC (P : Program) (d0 : Nat) : Nat → List Field → List IntKind → Prop
  | nil {off : Nat} : FieldsC P d0 off [] []
  | cons {off : Nat} {f : Field} {fs : List Field} {k ks : List IntKind} {agg : Bool} {d : Nat} : f.name ≠ "_" → f.offset = off → EqC P f.type k agg d → d ≤ d0 → FieldsC P d0 (off + k.length) fs ks → FieldsC P d0 off (f :: fs) (k ++ ks)

theorem FieldsC.run {d0 d : Nat} (hd : d0 ≤ d) : ∀ {fs : List Field} {off : Nat} {ks : List IntKind}, FieldsC P d0 off fs ks → ∀ (ns ms : List Int), ns.length = ks.length → ms.length = ks.length → ∀ (pre pre' : List Value), pre.length = off → pre'.length = off → ∀ w,
    (Op.eqFields d (pre ++ cellsK ks ns).toArray (pre' ++ cellsK ks ms).toArray fs).run P w = .ok (decide (ns = ms)) w := by
  intro fs off ks h
  induction h with
  | nil =>
    intro ns ms hn hm pre pre' _ _ w
    obtain rfl := List.length_eq_zero_iff.1 hn
    obtain rfl := List.length_eq_zero_iff.1 hm
    simp [Op.eqFields]
  | @cons off f fs k ks agg d1 hname hoff hE hd1 hfs ih =>
    intro ns ms hn hm pre pre' hp hp' w
    rw [List.length_append] at hn hm
    have en : ns = ns.take k.length ++ ns.drop k.length := (List.take_append_drop _ _).symm
    have em : ms = ms.take k.length ++ ms.drop k.length := (List.take_append_drop _ _).symm
    have h1 : (ns.take k.length).length = k.length := by simp; omega
    have h2 : (ms.take k.length).length = k.length := by simp; omega
    have h3 : (ns.drop k.length).length = ks.length := by simp; omega
    have h4 : (ms.drop k.length).length = ks.length := by simp; omega
    generalize ns.take k.length = n1 at *
    generalize ns.drop k.length = n2 at *
    generalize ms.take k.length = m1 at *
    generalize ms.drop k.length = m2 at *
    subst en em
    rw [cellsK_append h1, cellsK_append h2]
    have e1 := hE.part (w := w) h1 (post := cellsK ks n2) hp
    have e2 := hE.part (w := w) h2 (post := cellsK ks m2) hp'
    have e3 := hE.eq d (by omega) n1 m1 h1 h2 w
    have e4 := ih n2 m2 h3 h4 (pre ++ cellsK k n1) (pre' ++ cellsK k m1) (by rw [List.length_append, cellsK_length h1, hp]) (by rw [List.length_append, cellsK_length h2, hp']) w
    rw [List.append_assoc, List.append_assoc] at e4
    have hiff : (n1 ++ n2 = m1 ++ m2) ↔ (n1 = m1 ∧ n2 = m2) := ⟨fun h => List.append_inj h (by omega), fun h => by rw [h.1, h.2]⟩
    simp only [Op.eqFields, hname, ne_eq, not_false_eq_true, if_true, Sem.run_bind, hoff, e1, e2, e3, Result.andThen_ok]
    by_cases hnm : n1 = m1
    · subst hnm
      simp only [decide_true, Bool.not_true, Bool.false_eq_true, if_false, e4]
      congr 1
      exact decide_eq_decide.2 (by rw [hiff]; simp)
    · simp only [decide_eq_false hnm, Bool.not_false, if_true, Sem.run_pure]
      congr 1
      exact (decide_eq_false (fun h => hnm (hiff.1 h).1)).symm

theorem EqC.struct {t : TypeId} {fs : Array Field} {ks : List IntKind} {d0 : Nat} (hA : ∀ w, (isAgg t).run P w = .ok true w) (hS : ∀ w, (sizeOf t).run P w = .ok ks.length w) (ht : P.underlying t = some (.struct fs)) (hp : P.stoodInHeld t = false)
    (hf : FieldsC P d0 0 fs.toList ks) : EqC P t ks true (d0 + 1) := by
  refine ⟨hA, hS, (fun h => by cases h), fun d hd ns ms hn hm w => ?_⟩
  obtain ⟨d, rfl⟩ : ∃ e, d = e + 1 := ⟨d - 1, by omega⟩
  have hfo : P.fieldsOf t = fs := by unfold Program.fieldsOf; rw [ht]
  have h := run_equalIn_struct (P := P) w d t (cellsK ks ns).toArray (cellsK ks ms).toArray (by rw [hfo]; exact ht) hp
  rw [hfo] at h
  simp only [mkV]
  rw [h]
  exact hf.run (by omega) ns ms hn hm [] [] rfl rfl w


theorem items_run {e : TypeId} {k : List IntKind} {agg : Bool} {d0 d : Nat} (hE : EqC P e k agg d0) (hd : d0 ≤ d) : ∀ (m i : Nat) (ns ms : List Int), ns.length = m * k.length → ms.length = m * k.length → ∀ (pre pre' : List Value), pre.length = i * k.length → pre'.length = i * k.length → ∀ w,
    (Op.eqItems d e k.length (pre ++ cellsK (List.replicate m k).flatten ns).toArray (pre' ++ cellsK (List.replicate m k).flatten ms).toArray (List.range' i m)).run P w = .ok (decide (ns = ms)) w
  | 0, i, ns, ms, hn, hm, pre, pre', _, _, w => by
    rw [Nat.zero_mul] at hn hm
    obtain rfl := List.length_eq_zero_iff.1 hn
    obtain rfl := List.length_eq_zero_iff.1 hm
    simp [Op.eqItems]
  | m + 1, i, ns, ms, hn, hm, pre, pre', hp, hp', w => by
    rw [Nat.add_mul, Nat.one_mul] at hn hm
    have en : ns = ns.take k.length ++ ns.drop k.length := (List.take_append_drop _ _).symm
    have em : ms = ms.take k.length ++ ms.drop k.length := (List.take_append_drop _ _).symm
    have h1 : (ns.take k.length).length = k.length := by simp; omega
    have h2 : (ms.take k.length).length = k.length := by simp; omega
    have h3 : (ns.drop k.length).length = m * k.length := by simp; omega
    have h4 : (ms.drop k.length).length = m * k.length := by simp; omega
    generalize ns.take k.length = n1 at *
    generalize ns.drop k.length = n2 at *
    generalize ms.take k.length = m1 at *
    generalize ms.drop k.length = m2 at *
    subst en em
    rw [List.replicate_succ, List.flatten_cons, cellsK_append h1, cellsK_append h2, List.range'_succ]
    have e1 := hE.part (w := w) h1 (post := cellsK (List.replicate m k).flatten n2) hp
    have e2 := hE.part (w := w) h2 (post := cellsK (List.replicate m k).flatten m2) hp'
    have e3 := hE.eq d (by omega) n1 m1 h1 h2 w
    have e4 := items_run hE hd m (i + 1) n2 m2 h3 h4 (pre ++ cellsK k n1) (pre' ++ cellsK k m1) (by rw [List.length_append, cellsK_length h1, hp, Nat.add_mul, Nat.one_mul]) (by rw [List.length_append, cellsK_length h2, hp', Nat.add_mul, Nat.one_mul]) w
    rw [List.append_assoc, List.append_assoc] at e4
    have hiff : (n1 ++ n2 = m1 ++ m2) ↔ (n1 = m1 ∧ n2 = m2) := ⟨fun h => List.append_inj h (by omega), fun h => by rw [h.1, h.2]⟩
    simp only [Op.eqItems, Sem.run_bind, e1, e2, e3, Result.andThen_ok]
    by_cases hnm : n1 = m1
    · subst hnm
      simp only [decide_true, Bool.not_true, Bool.false_eq_true, if_false, e4]
      congr 1
      exact decide_eq_decide.2 (by rw [hiff]; simp)
    · simp only [decide_eq_false hnm, Bool.not_false, if_true, Sem.run_pure]
      congr 1
      exact (decide_eq_false (fun h => hnm (hiff.1 h).1)).symm

theorem EqC.array {t e : TypeId} {n : Nat} {k ks : List IntKind} {agg : Bool} {d0 : Nat} {i : TypeInfo} (hE : EqC P e k agg d0) (hA : ∀ w, (isAgg t).run P w = .ok true w) (hS : ∀ w, (sizeOf t).run P w = .ok ks.length w) (ht : P.underlying t = some (.array n e)) (hi : P.info? e = some i) (hc : P.cellsOf e = k.length)
    (hk : ks = (List.replicate n k).flatten) : EqC P t ks true (d0 + 1) := by
  refine ⟨hA, hS, (fun h => by cases h), fun d hd ns ms hn hm w => ?_⟩
  obtain ⟨d, rfl⟩ : ∃ e, d = e + 1 := ⟨d - 1, by omega⟩
  have h := run_equalIn_array (P := P) w d (cellsK ks ns).toArray (cellsK ks ms).toArray ht hi
  simp only [mkV]
  rw [h, hc, List.range_eq_range']
  have hl : ks.length = n * k.length := by rw [hk]; simp
  rw [hl] at hn hm
  have := items_run hE (show d0 ≤ d by omega) n 0 ns ms hn hm [] [] (by simp) (by simp) w
  rw [← hk] at this
  exact this

theorem EqC.mono {t : TypeId} {ks : List IntKind} {agg : Bool} {d0 d1 : Nat} (h : EqC P t ks agg d0) (hd : d0 ≤ d1) : EqC P t ks agg d1 :=
  ⟨h.hA, h.hS, h.one, fun d hd' => h.eq d (by omega)⟩
end

section
variable {P : Program} {E : Env} {w : World} {d : Option Nat} {ty : TypeId} {pos : String} {after : Array Edge}

theorem run_eqGuard_agg {op : BinOp} {t : TypeId} {x y : Operand} {a b : Array Value} (hg : P.eqGuardType P.depth t = false) : (eqGuard op t x y (.agg a) (.agg b)).run P w = .ok () w := by
  unfold eqGuard
  cases op <;> simp [hg]

/-- structs and arrays of integers -/
theorem R_eq_C {t t' : TypeId} {ks : List IntKind} {d0 : Nat} {x y : Operand} {xs ys : List Value} {ns ms : List Int} (hE : EqC P t ks true d0) (hd : d0 ≤ 10000) (hg : P.eqGuardType P.depth t = false) (hx : ev E x = .agg xs.toArray) (hy : ev E y = .agg ys.toArray)
    (hxs : xs = cellsK ks ns) (hys : ys = cellsK ks ms) (hn : ns.length = ks.length) (hm : ms.length = ks.length)
    : (execOp (ev E) (mk d (.binOp .eql t x y t') ty pos after)).run P w = .ok (.value (.bool (decide (ns = ms)))) w := by
  subst hxs hys
  have h := hE.eq 10000 hd ns ms hn hm w
  refine R_eqv hx hy (run_eqGuard_agg hg) ?_
  rw [run_eql_struct]
  simp only [mkV] at h
  rw [h]; rfl
end
end Go.Proofs.YtlpmfldijgdcoaaGreatDoor.Fx

/-
  The operations that read and write memory.
-/
import Derived.Test.YthonajikgljgmaaFxC
import Derived.Laws.CopyRow
import Derived.Laws.AppendOwn
import Derived.Laws.StructEq
namespace Go.Proofs.Ythonajikgljgmaa.Fx
open Go

abbrev blk (l : List Value) (e : TypeId) : Obj := .cells l.toArray e (0, 0)
abbrev ptr (b off : Nat) : Value := .pointer (some ⟨b, off, none⟩)
abbrev sl (b off len cap : Nat) : Value := .slice (some ⟨b, off, none⟩) len cap
abbrev nilS : Value := .slice none 0 0

theorem add_none (b off k : Nat) : (⟨b, off, none⟩ : Addr).add k = ⟨b, off + k, none⟩ := by
  unfold Addr.add; split <;> simp_all

theorem cell_blk {w : World} {b : Nat} {l : List Value} {e : TypeId} {fz : Nat × Nat} (h : w.heap[b]? = some (.cells l.toArray e fz)) (k : Nat) : w.cell? ⟨b, k, none⟩ = l[k]? := by
  simp [World.cell?, h]

theorem frozen_blk {w : World} {b : Nat} {l : List Value} {e : TypeId} (h : w.heap[b]? = some (blk l e)) (k : Nat) : w.frozen? ⟨b, k, none⟩ = false := by
  simp [World.frozen?, h]

section
variable {P : Program} {n : Nat} {ops : Array Oper} {kn : Env → World → Prop} {l : List Oper} {E : Env} {w0 w : World} {L : List (Nat × Obj)}
variable {d : Option Nat} {ty : TypeId} {pos : String} {after : Array Edge}

/-! ### load, store -/
theorem R_load_cell {t : TypeId} {x : Operand} {a : Addr} {v : Value} (hA : ∀ w, (isAgg t).run P w = .ok false w) (hx : ev E x = .pointer (some a))
    (hc : w.cell? a = some v)
    : (execOp (ev E) (mk d (.load t x) ty pos after)).run P w = .ok (.value (v)) w := by
  simp [execOp, hx, Instr.loadAt, Instr.sureAddr, loadVar, hA, hc]


theorem R_load {t : TypeId} {x : Operand} {b off : Nat} {v : Value} {c : List Value} {e : TypeId} {fz : Nat × Nat} (hA : ∀ w, (isAgg t).run P w = .ok false w) (hx : ev E x = ptr b off)
    (hb : w.heap[b]? = some (.cells c.toArray e fz)) (hc : c[off]? = some v)
    : (execOp (ev E) (mk d (.load t x) ty pos after)).run P w = .ok (.value (v)) w :=
  R_load_cell hA hx (by rw [cell_blk hb]; exact hc)


theorem run_loadAgg {t : TypeId} {b off sz : Nat} {vs : List Value} (hA : ∀ w, (isAgg t).run P w = .ok true w) (hS : ∀ w, (sizeOf t).run P w = .ok sz w)
    (hc : ∀ j v, vs[j]? = some v → w.cell? ⟨b, off + j, none⟩ = some v) (hl : vs.length = sz) : (loadVar t ⟨b, off, none⟩).run P w = .ok (.agg vs.toArray) w := by
  subst hl
  have := run_loadCells_list (P := P) w ⟨b, off, none⟩ vs (fun j v hj => by rw [add_none]; exact hc j v hj)
  simp [loadVar, hA, hS, this]

theorem R_loadA {t : TypeId} {x : Operand} {b off sz : Nat} {vs c : List Value} {e : TypeId} {fz : Nat × Nat} (hA : ∀ w, (isAgg t).run P w = .ok true w) (hS : ∀ w, (sizeOf t).run P w = .ok sz w) (hx : ev E x = ptr b off)
    (hb : w.heap[b]? = some (.cells c.toArray e fz)) (hc : (c.drop off).take sz = vs) (hl : off + sz ≤ c.length)
    : (execOp (ev E) (mk d (.load t x) ty pos after)).run P w = .ok (.value ((.agg vs.toArray))) w := by
  have := run_loadAgg (w := w) (b := b) (off := off) (vs := vs) hA hS (fun j v hj => by
    rw [cell_blk hb]
    subst hc
    rw [List.getElem?_take] at hj
    split at hj
    · rwa [List.getElem?_drop] at hj
    · cases hj) (by subst hc; simp; omega)
  simp [execOp, hx, Instr.loadAt, Instr.sureAddr, this]


theorem heap_setCell_other (w : World) (a : Addr) (k : Nat) (v : Value) (h : k ≠ a.block) : (w.setCell a v).heap[k]? = w.heap[k]? := by
  simp only [World.setCell, Array.getElem?_modify]
  rw [if_neg (by omega)]

theorem Hp.setCell {b off : Nat} {c : List Value} {e : TypeId} {f} (H : Hp w0 L w) (hL : At L b (blk c e) f) (v : Value) : Hp w0 (f (blk (c.set off v) e)) (w.setCell ⟨b, off, none⟩ v) := by
  refine H.put hL rfl rfl rfl (by simp) (fun k _ hk => heap_setCell_other _ _ _ _ hk) ?_
  have hb := H.get hL
  simp [World.setCell, Array.getElem?_modify, hb]

theorem E_store {t : TypeId} {x y : Operand} {b off : Nat} {v : Value} {c : List Value} {e : TypeId} {f} (H : Hp w0 L w) (hS : ∀ w, (sizeOf t).run P w = .ok 1 w) (hx : ev E x = ptr b off) (hy : ev E y = v)
    (hv : v.oneCell' = true) (hL : At L b (blk c e) f) (hc : off < c.length)
    : ∃ w', Hp w0 (f (blk (c.set off v) e)) w' ∧ (execOp (ev E) (mk d (.store t x y) ty pos after)).run P w = .ok .skip w' := by
  have hcell : w.cell? ⟨b, off, none⟩ = some c[off] := by rw [cell_blk (H.get hL)]; exact List.getElem?_eq_getElem hc
  have hfro := frozen_blk (H.get hL) off
  have hcs : v.cells = #[v] := by cases v <;> first | rfl | cases hv
  have hrun : (execOp (ev E) (mk d (.store t x y) ty pos after)).run P w = .ok .skip (w.setCell ⟨b, off, none⟩ v) := by
    have hst := run_store P w ⟨b, off, none⟩ v .plain hv
    rw [hcell, hfro] at hst
    simp [execOp, hx, hy, Instr.storeAt, Instr.sureAddr, storeVar, hS, hcs, storeCells, add_none, hst]
  exact ⟨_, H.setCell hL v, hrun⟩

theorem Hp.setRow {b : Nat} {c c' : List Value} {e : TypeId} {f} (H : Hp w0 L w) (hL : At L b (blk c e) f) : Hp w0 (f (blk c' e)) (w.setRow b c'.toArray) := by
  refine H.put hL rfl rfl rfl (by simp) (fun k _ hk => ?_) ?_
  · simp only [World.setRow, Array.getElem?_modify]
    rw [if_neg (by omega)]
  · have hb := H.get hL
    simp [World.setRow, Array.getElem?_modify, hb]

theorem E_storeA {t : TypeId} {x y : Operand} {b off : Nat} {vs c : List Value} {e : TypeId} {f} (H : Hp w0 L w) (hS : ∀ w, (sizeOf t).run P w = .ok vs.length w) (hx : ev E x = ptr b off) (hy : ev E y = .agg vs.toArray)
    (hv : ∀ v ∈ vs, v.oneCell' = true) (hL : At L b (blk c e) f) (hc : off + vs.length ≤ c.length)
    : ∃ w', Hp w0 (f (blk (c.take off ++ vs ++ c.drop (off + vs.length)) e)) w' ∧ (execOp (ev E) (mk d (.store t x y) ty pos after)).run P w = .ok .skip w' := by
  have hst := run_storeCells_at P b off e vs 0 c.toArray w (H.get hL) (by simpa using hc) hv
  have hrun : (execOp (ev E) (mk d (.store t x y) ty pos after)).run P w = .ok .skip (w.setRow b (c.take off ++ vs ++ c.drop (off + vs.length)).toArray) := by
    simp only [Nat.add_zero] at hst
    simp [execOp, hx, hy, Instr.storeAt, Instr.sureAddr, storeVar, hS, Value.cells, hst]
  exact ⟨_, H.setRow hL, hrun⟩

/-! ### new blocks -/
theorem E_new {o : Oper} {v : Nat → Value} {ob : Obj} (H : Hp w0 L w) (hr : (execOp (ev E) o).run P w = .ok (.value (v w.heap.size)) (w.alloc ob)) :
    ∃ b w', w0.heap.size ≤ b ∧ Hp w0 ((b, ob) :: L) w' ∧ (execOp (ev E) o).run P w = .ok (.value (v b)) w' :=
  ⟨_, _, H.size, H.alloc ob, hr⟩

theorem E_box {t : TypeId} {x : Operand} {v : Value} {vs : List Value} (H : Hp w0 L w) (hx : ev E x = v) (hv : v.cells = vs.toArray) :
    ∃ b w', w0.heap.size ≤ b ∧ Hp w0 ((b, blk vs t) :: L) w' ∧ (execOp (ev E) (mk d (.box t x) ty pos after)).run P w = .ok (.value (ptr b 0)) w' :=
  E_new (v := fun b => ptr b 0) H (by subst hx; simp [execOp, Instr.box, newVar, newRow, hv])

theorem E_alloc {t : TypeId} {v : Value} {vs : List Value} (H : Hp w0 L w) (hZ : ∀ w, (zeroValue t).run P w = .ok v w) (hv : v.cells = vs.toArray) :
    ∃ b w', w0.heap.size ≤ b ∧ Hp w0 ((b, blk vs t) :: L) w' ∧ (execOp (ev E) (mk d (.alloc t) ty pos after)).run P w = .ok (.value (ptr b 0)) w' :=
  E_new (v := fun b => ptr b 0) H (by simp [execOp, Instr.alloc, hZ, newVar, newRow, hv])

theorem E_makeChan {t elem : TypeId} {x : Operand} {dir : ChanDir} {i : TypeInfo} {k : IntKind} {m : Int} (H : Hp w0 L w) (hx : ev E x = .int k m) (ht : P.underlying t = some (.chan dir elem)) (hi : ∀ w, (typeInfo elem).run P w = .ok i w)
    (h0 : 0 ≤ m) (h1 : m ≤ 1000000) (hb : i.bytes ≤ 1000000) :
    ∃ b w', w0.heap.size ≤ b ∧ Hp w0 ((b, .chan m.toNat #[] false 0 0 false) :: L) w' ∧ (execOp (ev E) (mk d (.makeChan t x) ty pos after)).run P w = .ok (.value (.chan (some b))) w' := by
  have h2 : ¬ (m < 0) := by omega
  have h3 : ¬ (9223372036854775807 < m) := by omega
  have h4 : ¬ (281474976710544 < (i.bytes : Int) * m) := by
    have : (i.bytes : Int) * m ≤ 1000000 * 1000000 := Int.mul_le_mul (by omega) h1 h0 (by omega)
    omega
  refine E_new (v := fun b => .chan (some b)) H ?_
  simp [execOp, hx, Instr.makeChan, asInt, asIntOf, run_underlying ht, hi, h2, h3, h4]

/-! ### addresses, fields, elements -/
theorem R_fieldAddr {s : TypeId} {x : Operand} {b off off' sz i : Nat} {fields : Array Field} {fd : Field} (hs : P.underlying s = some (.struct fields)) (hf : fields[i]? = some fd)
    (hS : ∀ w, (sizeOf fd.type).run P w = .ok sz w) (h0 : sz ≠ 0) (hx : ev E x = ptr b off) (hr : off + fd.offset = off')
    : (execOp (ev E) (mk d (.fieldAddr s x i) ty pos after)).run P w = .ok (.value ((ptr b off'))) w := by
  subst hr
  simp [execOp, hx, Instr.fieldAt, run_underlying hs, hf, Instr.sureAddr, fieldPlace, hS, h0, add_none]


theorem R_field {s : TypeId} {x : Operand} {i : Nat} {cs : List Value} {v : Value} {fields : Array Field} {fd : Field} (hs : P.underlying s = some (.struct fields)) (hf : fields[i]? = some fd)
    (hA : ∀ w, (isAgg fd.type).run P w = .ok false w) (hx : ev E x = .agg cs.toArray) (hv : cs[fd.offset]? = some v)
    : (execOp (ev E) (mk d (.field s x i) ty pos after)).run P w = .ok (.value (v)) w := by
  simp [execOp, hx, Instr.field, run_underlying hs, hf, part, hA, asAgg, hv]


theorem R_fieldA {s : TypeId} {x : Operand} {i sz : Nat} {cs vs : List Value} {fields : Array Field} {fd : Field} (hs : P.underlying s = some (.struct fields)) (hf : fields[i]? = some fd)
    (hA : ∀ w, (isAgg fd.type).run P w = .ok true w) (hS : ∀ w, (sizeOf fd.type).run P w = .ok sz w) (hx : ev E x = .agg cs.toArray) (hv : (cs.drop fd.offset).take sz = vs)
    : (execOp (ev E) (mk d (.field s x i) ty pos after)).run P w = .ok (.value ((.agg vs.toArray))) w := by
  subst hv
  simp [execOp, hx, Instr.field, run_underlying hs, hf, part, hA, hS, asAgg]


theorem R_indexAddr {t elem : TypeId} {x y : Operand} {b off len cap off' sz : Nat} {k : IntKind} {i : Int} (ht : P.underlying t = some (.slice elem)) (hS : ∀ w, (sizeOf elem).run P w = .ok sz w)
    (hx : ev E x = sl b off len cap) (hy : ev E y = .int k i) (h0 : 0 ≤ i) (h1 : i < len) (hr : off + i.toNat * sz = off')
    : (execOp (ev E) (mk d (.indexAddr t x y) ty pos after)).run P w = .ok (.value ((ptr b off'))) w := by
  subst hr
  simp [execOp, hx, hy, Instr.indexAt, asIntOf, run_underlying ht, h0, h1, hS, add_none]


theorem R_indexAddrA {t elem : TypeId} {x y : Operand} {b off len off' sz : Nat} {k : IntKind} {i : Int} (ht : P.underlying t = some (.array len elem)) (hS : ∀ w, (sizeOf elem).run P w = .ok sz w)
    (hx : ev E x = ptr b off) (hy : ev E y = .int k i) (h0 : 0 ≤ i) (h1 : i < len) (hr : off + i.toNat * sz = off')
    : (execOp (ev E) (mk d (.indexAddr t x y) ty pos after)).run P w = .ok (.value ((ptr b off'))) w := by
  subst hr
  simp [execOp, hx, hy, Instr.indexAt, Instr.sureAddr, asIntOf, run_underlying ht, h0, h1, hS, add_none]


theorem R_index {t elem : TypeId} {x y : Operand} {len sz : Nat} {k : IntKind} {i : Int} {cs : List Value} {v : Value} (ht : P.underlying t = some (.array len elem)) (hA : ∀ w, (isAgg elem).run P w = .ok false w) (hS : ∀ w, (sizeOf elem).run P w = .ok sz w)
    (hx : ev E x = .agg cs.toArray) (hy : ev E y = .int k i) (h0 : 0 ≤ i) (h1 : i < len) (hv : cs[i.toNat * sz]? = some v)
    : (execOp (ev E) (mk d (.index t x y) ty pos after)).run P w = .ok (.value (v)) w := by
  simp [execOp, hx, hy, Instr.index, asIntOf, run_underlying ht, h0, h1, hS, part, hA, hv]


theorem R_indexS {t : TypeId} {x y : Operand} {k : IntKind} {i : Int} {s : ByteArray} {u : UInt8} (ht : P.underlying t = some .string)
    (hx : ev E x = .string s) (hy : ev E y = .int k i) (h0 : 0 ≤ i) (hv : s.data[i.toNat]? = some u)
    : (execOp (ev E) (mk d (.index t x y) ty pos after)).run P w = .ok (.value ((.int .u8 u.toNat))) w := by
  have hv' : s[i.toNat]? = some u := by
    obtain ⟨hlt, he⟩ := Array.getElem?_eq_some_iff.1 hv
    rw [getElem?_pos s i.toNat hlt]
    exact congrArg some he
  simp [execOp, hx, hy, Instr.index, asIntOf, run_underlying ht, h0, hv']


/-! ### slices of slices -/
theorem run_sliceBound {k : IntKind} {i : Int} {y : Nat} {code : BoundsCode} (h0 : 0 ≤ i) (h1 : i ≤ y) : (Instr.sliceBound (.int k i) y code).run P w = .ok i.toNat w := by
  simp [Instr.sliceBound, asIntOf, h0, h1]

/-- the bounds, and what they are when they are left out -/
inductive Bd (E : Env) : Option Operand → Int → Int → Prop
  | none {dflt} : Bd E none dflt dflt
  | some {x k i dflt} : ev E x = .int k i → Bd E (some x) dflt i

theorem R_slice {t elem : TypeId} {x : Operand} {lo hi : Option Operand} {b off len cap off' sz : Nat} {i j : Int} (ht : P.underlying t = some (.slice elem)) (hS : ∀ w, (sizeOf elem).run P w = .ok sz w)
    (hx : ev E x = sl b off len cap) (hlo : Bd E lo 0 i) (hhi : Bd E hi len j) (hlc : len ≤ cap) (h0 : 0 ≤ i) (h1 : i ≤ j) (h2 : j ≤ cap) (hne : i = 0 ∨ i < cap) (hr : off + i.toNat * sz = off')
    : (execOp (ev E) (mk d (.slice t x lo hi none) ty pos after)).run P w = .ok (.value ((sl b off' (j - i).toNat (cap - i).toNat))) w := by
  subst hr
  have hb : (Instr.sliceBounds true len cap (lo.map (ev E)) (hi.map (ev E)) none).run P w = .ok (i.toNat, j.toNat, cap) w := by
    cases hlo with
    | none =>
      cases hhi with
      | none => simp [Instr.sliceBounds]
      | some hh => simp [Instr.sliceBounds, hh, run_sliceBound (P := P) (w := w) (code := .sliceAcap) (show 0 ≤ j by omega) h2]
    | some hl =>
      cases hhi with
      | none => simp [Instr.sliceBounds, hl, run_sliceBound (P := P) (w := w) (code := .sliceB) h0 h1]
      | some hh => simp [Instr.sliceBounds, hl, hh, run_sliceBound (P := P) (w := w) (code := .sliceAcap) (show 0 ≤ j by omega) h2, run_sliceBound (P := P) (w := w) (code := .sliceB) (y := j.toNat) h0 (by omega)]
  have ha : (if cap = i.toNat then some (⟨b, off, none⟩ : Addr) else some ⟨b, off + i.toNat * sz, none⟩) = some ⟨b, off + i.toNat * sz, none⟩ := by
    split
    · rename_i hc
      rcases hne with rfl | hne
      · simp
      · omega
    · rfl
  have e1 : j.toNat - i.toNat = (j - i).toNat := by omega
  have e2 : cap - i.toNat = (cap - i).toNat := by omega
  simp [execOp, hx, Instr.sliceAt, Instr.slice, run_underlying ht, hb, hS, add_none, ha, e1, e2]


theorem R_sliceNil {t elem : TypeId} {x : Operand} {lo hi : Option Operand} {sz : Nat} {i j : Int} (ht : P.underlying t = some (.slice elem)) (hS : ∀ w, (sizeOf elem).run P w = .ok sz w)
    (hx : ev E x = nilS) (hlo : Bd E lo 0 i) (hhi : Bd E hi 0 j) (h0 : i = 0) (h1 : j = 0)
    : (execOp (ev E) (mk d (.slice t x lo hi none) ty pos after)).run P w = .ok (.value (nilS)) w := by
  subst h0 h1
  have hb : (Instr.sliceBounds true 0 0 (lo.map (ev E)) (hi.map (ev E)) none).run P w = .ok (0, 0, 0) w := by
    have hz : ∀ {k : IntKind} {code : BoundsCode}, (Instr.sliceBound (.int k 0) 0 code).run P w = .ok 0 w := by intro k code; simp [Instr.sliceBound, asIntOf]
    cases hlo with
    | none =>
      cases hhi with
      | none => simp [Instr.sliceBounds]
      | some hh => simp [Instr.sliceBounds, hh, hz]
    | some hl =>
      cases hhi with
      | none => simp [Instr.sliceBounds, hl, hz]
      | some hh => simp [Instr.sliceBounds, hl, hh, hz]
  simp [execOp, hx, Instr.sliceAt, Instr.slice, run_underlying ht, hb, hS]


/-- the whole array, or a part of it -/
theorem R_sliceArr {t elem : TypeId} {x : Operand} {lo hi : Option Operand} {b off m off' sz : Nat} {i j : Int} (ht : P.underlying t = some (.array m elem)) (hS : ∀ w, (sizeOf elem).run P w = .ok sz w)
    (hx : ev E x = ptr b off) (hlo : Bd E lo 0 i) (hhi : Bd E hi m j) (h0 : 0 ≤ i) (h1 : i ≤ j) (h2 : j ≤ m) (hne : i = 0 ∨ i < m) (hr : off + i.toNat * sz = off')
    : (execOp (ev E) (mk d (.slice t x lo hi none) ty pos after)).run P w = .ok (.value ((sl b off' (j - i).toNat (m - i).toNat))) w := by
  subst hr
  have hb : (Instr.sliceBounds false m m (lo.map (ev E)) (hi.map (ev E)) none).run P w = .ok (i.toNat, j.toNat, m) w := by
    cases hlo with
    | none =>
      cases hhi with
      | none => simp [Instr.sliceBounds]
      | some hh => simp [Instr.sliceBounds, hh, run_sliceBound (P := P) (w := w) (code := .sliceAlen) (show 0 ≤ j by omega) h2]
    | some hl =>
      cases hhi with
      | none => simp [Instr.sliceBounds, hl, run_sliceBound (P := P) (w := w) (code := .sliceB) h0 h1]
      | some hh => simp [Instr.sliceBounds, hl, hh, run_sliceBound (P := P) (w := w) (code := .sliceAlen) (show 0 ≤ j by omega) h2, run_sliceBound (P := P) (w := w) (code := .sliceB) (y := j.toNat) h0 (by omega)]
  have ha : (if m = i.toNat then (⟨b, off, none⟩ : Addr) else ⟨b, off + i.toNat * sz, none⟩) = ⟨b, off + i.toNat * sz, none⟩ := by
    split
    · rename_i hc
      rcases hne with rfl | hne
      · simp
      · omega
    · rfl
  have e1 : j.toNat - i.toNat = (j - i).toNat := by omega
  have e2 : m - i.toNat = (m - i).toNat := by omega
  simp [execOp, hx, Instr.sliceAt, Instr.sureAddr, run_underlying ht, hb, hS, add_none, ha, e1, e2]


theorem R_sliceStr {t : TypeId} {x : Operand} {lo hi : Option Operand} {s r : ByteArray} {i j : Int} (ht : P.underlying t = some .string)
    (hx : ev E x = .string s) (hlo : Bd E lo 0 i) (hhi : Bd E hi s.size j) (h0 : 0 ≤ i) (h1 : i ≤ j) (h2 : j ≤ s.size) (hr : s.extract i.toNat j.toNat = r)
    : (execOp (ev E) (mk d (.slice t x lo hi none) ty pos after)).run P w = .ok (.value ((.string r))) w := by
  subst hr
  have hb : (Instr.sliceBounds false s.size s.size (lo.map (ev E)) (hi.map (ev E)) none).run P w = .ok (i.toNat, j.toNat, s.size) w := by
    cases hlo with
    | none =>
      cases hhi with
      | none => simp [Instr.sliceBounds]
      | some hh => simp [Instr.sliceBounds, hh, run_sliceBound (P := P) (w := w) (code := .sliceAlen) (show 0 ≤ j by omega) h2]
    | some hl =>
      cases hhi with
      | none => simp [Instr.sliceBounds, hl, run_sliceBound (P := P) (w := w) (code := .sliceB) h0 h1]
      | some hh => simp [Instr.sliceBounds, hl, hh, run_sliceBound (P := P) (w := w) (code := .sliceAlen) (show 0 ≤ j by omega) h2, run_sliceBound (P := P) (w := w) (code := .sliceB) (y := j.toNat) h0 (by omega)]
  simp [execOp, hx, Instr.sliceAt, Instr.slice, run_underlying ht, hb]


end
end Go.Proofs.Ythonajikgljgmaa.Fx

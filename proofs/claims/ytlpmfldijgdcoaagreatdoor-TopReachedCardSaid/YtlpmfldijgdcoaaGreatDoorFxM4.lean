/-
  Slices beside nil; bytes and strings; copy.
-/
import Derived.Test.YtlpmfldijgdcoaaGreatDoorFxRow
import Derived.Lib.ConvBytes
import Derived.Laws.BytesString
namespace Go.Proofs.YtlpmfldijgdcoaaGreatDoor.Fx
open Go

section
variable {P : Program} {E : Env} {w0 w : World} {L : List (Nat × Obj)}
variable {d : Option Nat} {ty : TypeId} {pos : String} {after : Array Edge}

theorem R_eq_sl {t t' e : TypeId} {x y : Operand} {a : Addr} {n1 n2 m1 m2 : Nat} (ht : P.underlying t = some (.slice e)) (hx : ev E x = .slice (some a) n1 n2) (hy : ev E y = .slice none m1 m2)
    : (execOp (ev E) (mk d (.binOp .eql t x y t') ty pos after)).run P w = .ok (.value ((.bool false))) w :=
  R_eqv hx hy run_eqGuard_slice (by simp only [binOp, Sem.run_bind, run_equal (eqIn_slice_nil ht), Result.andThen_ok, Sem.run_pure])
theorem R_eq_nils {t t' e : TypeId} {x y : Operand} {n1 n2 m1 m2 : Nat} (ht : P.underlying t = some (.slice e)) (hx : ev E x = .slice none n1 n2) (hy : ev E y = .slice none m1 m2)
    : (execOp (ev E) (mk d (.binOp .eql t x y t') ty pos after)).run P w = .ok (.value ((.bool true))) w :=
  R_eqv hx hy run_eqGuard_slice (by simp only [binOp, Sem.run_bind, run_equal (eqIn_nils_nil ht), Result.andThen_ok, Sem.run_pure])
/-- a string, by its bytes -/
abbrev S (xs : List UInt8) : Value := .string ⟨xs.toArray⟩

theorem foldl_push_u (xs : List UInt8) : ∀ s : ByteArray, (xs.map fun x => (x.toNat : Int)).foldl (fun r n => r.push (UInt8.ofNat n.toNat)) s = ⟨s.data ++ xs.toArray⟩ := by
  induction xs with
  | nil => intro s; simp
  | cons x xs ih => intro s; rw [List.map_cons, List.foldl_cons, ih]; simp [ByteArray.push]

theorem loadCells_of {a : Addr} {b off : Nat} {xs : List Value} (ha : a = ⟨b, off, none⟩) (h : ∀ j u, xs[j]? = some u → w.cell? ⟨b, off + j, none⟩ = some u) (n : Nat) : (loadCells a (xs.take n).length).run P w = .ok (xs.take n).toArray w := by
  subst ha
  refine run_loadCells_list w _ _ (fun j v hj => ?_)
  rw [add_none]
  rw [List.getElem?_take] at hj
  split at hj
  · exact h j v hj
  · cases hj

theorem R_conv_bs {s t e : TypeId} {x : Operand} {v : Value} {xs : List UInt8} (hs : P.underlying s = some (.slice e)) (he : P.underlying e = some (.int .u8)) (ht : P.underlying t = some .string) (hx : ev E x = v) (h : RdS w v (xs.map U))
    : (execOp (ev E) (mk d (.convert s t x) ty pos after)).run P w = .ok (.value (S xs)) w := by
  obtain ⟨ao, cap, rfl, hl, h⟩ := h
  have hgo : ∀ a, ao = some a → (loadCells a (xs.map U).length).run P w = .ok (xs.map U).toArray w → (execOp (ev E) (mk d (.convert s t x) ty pos after)).run P w = .ok (.value (S xs)) w := by
    rintro a rfl hld
    have e1 : xs.map U = (xs.map fun x => (x.toNat : Int)).map (Value.int .u8) := by rw [List.map_map]; rfl
    have h2 := run_bytesToString (P := P) w a (xs.map U).length cap (xs.map fun x => (x.toNat : Int)) (by rw [hld, e1])
    rw [foldl_push_u] at h2
    simp only [execOp, Sem.run_bind, Sem.run_pure, Result.andThen_ok, hx, run_convert_bytes_string w s t e (some a) (xs.map U).length cap hs he ht, h2]
    congr 2
    simp [S]
  rcases h with h0 | ⟨b, off, rfl, h⟩
  · obtain rfl : xs = [] := by simpa using h0
    cases ao with
    | none => simp [execOp, hx, run_convert_bytes_string w s t e none 0 cap hs he ht, Conv.bytesToString, S]; rfl
    | some a => exact hgo a rfl (by simpa using run_loadCells_list (P := P) w a [] (by simp))
  · exact hgo _ rfl (by have := loadCells_of (P := P) rfl h (xs.map U).length; rwa [List.take_length] at this)

/-- what copy and append read of -/
def CopySrc (P : Program) (w : World) (u : Value) (xs : List Value) : Prop :=
  (∀ w' : World, (Builtin.lenOf u).run P w' = .ok xs.length w') ∧ ∀ n, n ≤ xs.length → (Builtin.firstCells 1 n u).run P w = .ok (xs.take n).toArray w

theorem RdS.csrc {v : Value} {xs : List Value} (h : RdS w v xs) : CopySrc P w v xs := by
  obtain ⟨ao, cap, rfl, hl, h⟩ := h
  refine ⟨fun w' => by simp [Builtin.lenOf], fun n hn => ?_⟩
  rcases h with rfl | ⟨b, off, rfl, h⟩
  · obtain rfl : n = 0 := by simpa using hn
    cases ao with
    | none => simp [Builtin.firstCells]
    | some a => simpa [Builtin.firstCells] using run_loadCells_list (P := P) w a [] (by simp)
  · have := loadCells_of (P := P) rfl h n
    rw [List.length_take, Nat.min_eq_left hn] at this
    simpa [Builtin.firstCells] using this

theorem E_copy {dT sT elem : TypeId} {b off len cap : Nat} {c xs : List Value} {e : TypeId} {f} {u : Value} {x y : Operand} (H : Hp w0 L w) (hL : At L b (blk c e) f) (ht : P.underlying dT = some (.slice elem)) (hS : ∀ w, (sizeOf elem).run P w = .ok 1 w)
    (hx : ev E x = sl b off len cap) (hy : ev E y = u) (hu : CopySrc P w u xs) (hfit : off + len ≤ c.length) (h1 : ∀ v ∈ xs, v.oneCell' = true) :
    ∃ (v : Value) (_ : Unit) (w' : World), v = I (min xs.length len : Nat) ∧ Hp w0 (f (blk (c.take off ++ xs.take len ++ c.drop (off + min xs.length len)) e)) w' ∧
      (execOp (ev E) (mk d (bi .copy #[x, y] #[dT, sT]) ty pos after)).run P w = .ok (.value v) w' := by
  have hg := H.get hL
  have e1 : xs.take len = xs.take (min xs.length len) := by
    rcases Nat.le_total xs.length len with h | h
    · rw [Nat.min_eq_left h, List.take_of_length_le h, List.take_length]
    · rw [Nat.min_eq_right h]
  have hlen : (xs.take len).length = min xs.length len := by rw [List.length_take, Nat.min_comm]
  have hst := run_storeCells_at P b off e (xs.take len) 0 c.toArray w hg (by rw [hlen]; simp; omega) (fun v hv => h1 v (List.mem_of_mem_take hv))
  simp only [Nat.add_zero, hlen] at hst
  have hfc := hu.2 (min xs.length len) (Nat.min_le_left _ _)
  rw [← e1] at hfc
  refine ⟨_, (), _, rfl, H.setRow hL (c' := c.take off ++ xs.take len ++ c.drop (off + min xs.length len)), ?_⟩
  · have hnm : Nat.min xs.length len = min xs.length len := rfl
    simp [execOp, resolve, invoke, builtin, hx, hy, Builtin.copy_, run_underlying ht, hu.1, hS, hnm, hfc, hst, goInt]

theorem R_copy0 {dT sT elem : TypeId} {u : Value} {xs : List Value} {ao : Option Addr} {len cap : Nat} {x y : Operand} (ht : P.underlying dT = some (.slice elem)) (hS : ∀ w, (sizeOf elem).run P w = .ok 1 w)
    (hx : ev E x = .slice ao len cap) (hy : ev E y = u) (hu : CopySrc P w u xs) (h0 : xs.length = 0 ∨ len = 0) :
    (execOp (ev E) (mk d (bi .copy #[x, y] #[dT, sT]) ty pos after)).run P w = .ok (.value (I 0)) w := by
  have hnm : Nat.min xs.length len = 0 := by show min xs.length len = 0; omega
  have hfc := hu.2 0 (Nat.zero_le _)
  cases ao <;> simp [execOp, resolve, invoke, builtin, hx, hy, Builtin.copy_, run_underlying ht, hu.1, hS, hnm, hfc, goInt, storeCells]

/-! ### strings by their bytes -/
theorem R_ne_S {t t' : TypeId} {x y : Operand} {xs ys : List UInt8} (hx : ev E x = S xs) (hy : ev E y = S ys)
    : (execOp (ev E) (mk d (.binOp .neq t x y t') ty pos after)).run P w = .ok (.value (.bool (decide (xs ≠ ys)))) w := by
  rw [R_ne_str hx hy]
theorem R_ne_S_f {t t' : TypeId} {x y : Operand} {xs ys : List UInt8} (hx : ev E x = S xs) (hy : ev E y = S ys) (h : xs = ys)
    : (execOp (ev E) (mk d (.binOp .neq t x y t') ty pos after)).run P w = .ok (.value (.bool false)) w := by
  rw [R_ne_S hx hy, decide_eq_false (by simpa using h)]
theorem R_ne_S_t {t t' : TypeId} {x y : Operand} {xs ys : List UInt8} (hx : ev E x = S xs) (hy : ev E y = S ys) (h : ¬ xs = ys)
    : (execOp (ev E) (mk d (.binOp .neq t x y t') ty pos after)).run P w = .ok (.value (.bool true)) w := by
  rw [R_ne_S hx hy, decide_eq_true h]

/-- what is behind the last element of a slice's room -/
theorem R_sliceE {t elem : TypeId} {x : Operand} {lo hi : Option Operand} {b off len cap sz : Nat} {i j : Int} (ht : P.underlying t = some (.slice elem)) (hS : ∀ w, (sizeOf elem).run P w = .ok sz w)
    (hx : ev E x = sl b off len cap) (hlo : Bd E lo 0 i) (hhi : Bd E hi len j) (h0 : i = cap) (h1 : j = cap)
    : (execOp (ev E) (mk d (.slice t x lo hi none) ty pos after)).run P w = .ok (.value (sl b off 0 0)) w := by
  have h2 : j ≤ cap := by omega
  have h0' : 0 ≤ i := by omega
  have h1' : i ≤ j := by omega
  have hb : (Instr.sliceBounds true len cap (lo.map (ev E)) (hi.map (ev E)) none).run P w = .ok (i.toNat, j.toNat, cap) w := by
    cases hlo with
    | none =>
      cases hhi with
      | none => simp [Instr.sliceBounds]
      | some hh => simp [Instr.sliceBounds, hh, run_sliceBound (P := P) (w := w) (code := .sliceAcap) (show 0 ≤ j by omega) h2]
    | some hl =>
      cases hhi with
      | none => simp [Instr.sliceBounds, hl, run_sliceBound (P := P) (w := w) (code := .sliceB) h0' h1']
      | some hh => simp [Instr.sliceBounds, hl, hh, run_sliceBound (P := P) (w := w) (code := .sliceAcap) (show 0 ≤ j by omega) h2, run_sliceBound (P := P) (w := w) (code := .sliceB) (y := j.toNat) h0' (by omega)]
  have e1 : i.toNat = cap := by omega
  have e2 : j.toNat = cap := by omega
  rw [e1, e2] at hb
  simp [execOp, hx, Instr.sliceAt, Instr.slice, run_underlying ht, hb, hS]

theorem u8_in_i64 {x : UInt8} : IntKind.i64.wrap (x.toNat : Int) = (x.toNat : Int) := by
  have := x.toNat_lt
  exact w_i64 ⟨by omega, by omega⟩
end
end Go.Proofs.YtlpmfldijgdcoaaGreatDoor.Fx

/-
  Rows of things that take more than one cell each.
-/
namespace Go.Proofs.YtlpmfldijgdcoaaGreatDoor.Fx
open Go

section
variable {α : Type} {f : α → List Value} {sz : Nat}

/-- the cells of things in a row -/
def rows (f : α → List Value) (l : List α) : List Value := l.flatMap f

theorem rows_length (hf : ∀ a, (f a).length = sz) (l : List α) : (rows f l).length = l.length * sz := by
  unfold rows
  induction l with
  | nil => simp
  | cons a l ih => rw [List.flatMap_cons, List.length_append, ih, hf, List.length_cons, Nat.add_mul, Nat.one_mul, Nat.add_comm]

theorem rows_drop (hf : ∀ a, (f a).length = sz) : ∀ (l : List α) (i : Nat), (rows f l).drop (i * sz) = rows f (l.drop i)
  | l, 0 => by simp
  | [], i + 1 => by simp [rows]
  | a :: l, i + 1 => by
    have e : (i + 1) * sz = sz + i * sz := by rw [Nat.add_mul, Nat.one_mul, Nat.add_comm]
    have h := rows_drop hf l i
    unfold rows at h ⊢
    rw [List.flatMap_cons, e, ← List.drop_drop, List.drop_left' (hf a), h, List.drop_succ_cons]

theorem rows_take (hf : ∀ a, (f a).length = sz) : ∀ (l : List α) (i : Nat), (rows f l).take (i * sz) = rows f (l.take i)
  | l, 0 => by simp [rows]
  | [], i + 1 => by simp [rows]
  | a :: l, i + 1 => by
    have e : (i + 1) * sz = sz + i * sz := by rw [Nat.add_mul, Nat.one_mul, Nat.add_comm]
    have h := rows_take hf l i
    unfold rows at h ⊢
    rw [List.flatMap_cons, e, List.take_add, List.take_left' (hf a), List.drop_left' (hf a), h, List.take_succ_cons, List.flatMap_cons]

theorem rows_one (hf : ∀ a, (f a).length = sz) {l : List α} {i : Nat} {a : α} (h : l[i]? = some a) : ((rows f l).drop (i * sz)).take sz = f a := by
  obtain ⟨hi, rfl⟩ := List.getElem?_eq_some_iff.1 h
  rw [rows_drop hf, List.drop_eq_getElem_cons hi]
  unfold rows
  rw [List.flatMap_cons, List.take_left' (hf _)]

theorem rows_get (hf : ∀ a, (f a).length = sz) {l : List α} {i j : Nat} {a : α} (h : l[i]? = some a) (hj : j < sz) : (rows f l)[i * sz + j]? = (f a)[j]? := by
  have := congrArg (fun l => l[j]?) (rows_one hf h)
  simp only [List.getElem?_take, if_pos hj, List.getElem?_drop] at this
  exact this

theorem rows_append (l m : List α) : rows f (l ++ m) = rows f l ++ rows f m := by
  unfold rows; rw [List.flatMap_append]

theorem rows_set (hf : ∀ a, (f a).length = sz) {l : List α} {i j : Nat} {a a' : α} {v : Value} (h : l[i]? = some a) (hj : j < sz) (ha : f a' = (f a).set j v) : (rows f l).set (i * sz + j) v = rows f (l.set i a') := by
  obtain ⟨hi, rfl⟩ := List.getElem?_eq_some_iff.1 h
  have e1 : l = l.take i ++ (l[i] :: l.drop (i + 1)) := by rw [← List.drop_eq_getElem_cons hi, List.take_append_drop]
  have e2 : l.set i a' = l.take i ++ (a' :: l.drop (i + 1)) := by rw [List.set_eq_take_append_cons_drop, if_pos hi]
  have hl : (rows f (l.take i)).length = i * sz := by rw [rows_length hf, List.length_take, Nat.min_eq_left (by omega)]
  rw [e2]
  conv => lhs; rw [e1]
  rw [rows_append, rows_append, List.set_append, if_neg (by omega), hl, show i * sz + j - i * sz = j from by omega]
  congr 1
  unfold rows
  rw [List.flatMap_cons, List.flatMap_cons, List.set_append, if_pos (by rw [hf]; exact hj), ha]

/-- the whole of a thing gives way to another -/
theorem rows_put (hf : ∀ a, (f a).length = sz) {l : List α} {i : Nat} {a' : α} (hi : i < l.length) : (rows f l).take (i * sz) ++ f a' ++ (rows f l).drop (i * sz + sz) = rows f (l.set i a') := by
  have e2 : l.set i a' = l.take i ++ (a' :: l.drop (i + 1)) := by rw [List.set_eq_take_append_cons_drop, if_pos hi]
  rw [e2, rows_append, rows_take hf, show i * sz + sz = (i + 1) * sz from by rw [Nat.add_mul, Nat.one_mul], rows_drop hf, List.append_assoc]
  congr 1
end

/-- a block of old comes into sight -/
theorem Hp.foc {w0 w : World} {L : List (Nat × Obj)} (H : Hp w0 L w) {b : Nat} {o : Obj} (h : w0.heap[b]? = some o) (hn : ∀ p ∈ L, w0.heap.size ≤ p.1) : Hp w0 ((b, o) :: L) w :=
  H.focus (H.blockN h hn) fun hm => by
    obtain ⟨p, hp, e⟩ := List.mem_map.1 hm
    have := hn p hp
    have := lt_of_some h
    omega
end Go.Proofs.YtlpmfldijgdcoaaGreatDoor.Fx

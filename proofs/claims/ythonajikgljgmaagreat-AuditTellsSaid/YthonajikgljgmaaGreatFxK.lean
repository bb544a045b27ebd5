/-
  Rows of things that take more than one cell each.
-/
import Derived.Test.YthonajikgljgmaaGreatFxJ
namespace Go.Proofs.YthonajikgljgmaaGreat.Fx
open Go

section
variable {α : Type} {f : α → List Value} {sz : Nat}

/-- the cells of things in a row -/
def rows (f : α → List Value) (l : List α) : List Value := l.flatMap f

theorem rows_length (hf : ∀ a, (f a).length = sz) (l : List α) : (rows f l).length = l.length * sz := by
  unfold rows
  induction l with
  | nil => simp
  | cons a l ih => rw [List.flatMap_cons, List.length_append, ih, hf, List.length_cons, Nat.add_mul, Nat.one_mul, Nat.add_comm]

theorem rows_drop (hf : ∀ a, (f a).length = sz) : ∀ (l : List α) (i : Nat), (rows f l).drop (i * sz) = rows f (l.drop i)
  | l, 0 => by simp
  | [], i + 1 => by simp [rows]
  | a :: l, i + 1 => by
    have e : (i + 1) * sz = sz + i * sz := by rw [Nat.add_mul, Nat.one_mul, Nat.add_comm]
    have h := rows_drop hf l i
    unfold rows at h ⊢
    rw [List.flatMap_cons, e, ← List.drop_drop, List.drop_left' (hf a), h, List.drop_succ_cons]

theorem rows_take (hf : ∀ a, (f a).length = sz) : ∀ (l : List α) (i : Nat), (rows f l).take (i * sz) = rows f (l.take i)
  | l, 0 => by simp [rows]
  | [], i + 1 => by simp [rows]
  | a :: l, i + 1 => by
    have e : (i + 1) * sz = sz + i * sz := by rw [Nat.add_mul, Nat.one_mul, Nat.add_comm]
    have h := rows_take hf l i
    unfold rows at h ⊢
    rw [List.flatMap_cons, e, List.take_add, List.take_left' (hf a), List.drop_left' (hf a), h, List.take_succ_cons, List.flatMap_cons]

theorem rows_one (hf : ∀ a, (f a).length = sz) {l : List α} {i : Nat} {a : α} (h : l[i]? = some a) : ((rows f l).drop (i * sz)).take sz = f a := by
  obtain ⟨hi, rfl⟩ := List.getElem?_eq_some_iff.1 h
  rw [rows_drop hf, List.drop_eq_getElem_cons hi]
  unfold rows
  rw [List.flatMap_cons, List.take_left' (hf _)]

theorem rows_get (hf : ∀ a, (f a).length = sz) {l : List α} {i j : Nat} {a : α} (h : l[i]? = some a) (hj : j < sz) : (rows f l)[i * sz + j]? = (f a)[j]? := by
  have := congrArg (fun l => l[j]?) (rows_one hf h)
  simp only [List.getElem?_take, if_pos hj, List.getElem?_drop] at this
  exact this

theorem rows_append (l m : List α) : rows f (l ++ m) = rows f l ++ rows f m := by
  unfold rows; rw [List.flatMap_append]

theorem rows_set (hf : ∀ a, (f a).length = sz) {l : List α} {i j : Nat} {a a' : α} {v : Value} (h : l[i]? = some a) (hj : j < sz) (ha : f a' = (f a).set j v) : (rows f l).set (i * sz + j) v = rows f (l.set i a') := by
  obtain ⟨hi, rfl⟩ := List.getElem?_eq_some_iff.1 h
  have e1 : l = l.take i ++ (l[i] :: l.drop (i + 1)) := by rw [← List.drop_eq_getElem_cons hi, List.take_append_drop]
  have e2 : l.set i a' = l.take i ++ (a' :: l.drop (i + 1)) := by rw [List.set_eq_take_append_cons_drop, if_pos hi]
  have hl : (rows f (l.take i)).length = i * sz := by rw [rows_length hf, List.length_take, Nat.min_eq_left (by omega)]
  rw [e2]
  conv => lhs; rw [e1]
  rw [rows_append, rows_append, List.set_append, if_neg (by omega), hl, show i * sz + j - i * sz = j from by omega]
  congr 1
  unfold rows
  rw [List.flatMap_cons, List.flatMap_cons, List.set_append, if_pos (by rw [hf]; exact hj), ha]

/-- the whole of a thing gives way to another -/
theorem rows_put (hf : ∀ a, (f a).length = sz) {l : List α} {i : Nat} {a' : α} (hi : i < l.length) : (rows f l).take (i * sz) ++ f a' ++ (rows f l).drop (i * sz + sz) = rows f (l.set i a') := by
  have e2 : l.set i a' = l.take i ++ (a' :: l.drop (i + 1)) := by rw [List.set_eq_take_append_cons_drop, if_pos hi]
  rw [e2, rows_append, rows_take hf, show i * sz + sz = (i + 1) * sz from by rw [Nat.add_mul, Nat.one_mul], rows_drop hf, List.append_assoc]
  congr 1
end

/-- a block of old comes into sight -/
theorem Hp.foc {w0 w : World} {L : List (Nat × Obj)} (H : Hp w0 L w) {b : Nat} {o : Obj} (h : w0.heap[b]? = some o) (hn : ∀ p ∈ L, w0.heap.size ≤ p.1) : Hp w0 ((b, o) :: L) w :=
  H.focus (H.blockN h hn) fun hm => by
    obtain ⟨p, hp, e⟩ := List.mem_map.1 hm
    have := hn p hp
    have := lt_of_some h
    omega
end Go.Proofs.YthonajikgljgmaaGreat.Fx

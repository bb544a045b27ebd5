/-
  The law TableLeast: what its calls come to.
-/
import Derived.Test.YtjkkfahjgaidbaaTableG
namespace Go.Proofs.Ytjkkfahjgaidbaa.Tab
open Go Go.Proofs Go.Proofs.Ytjkkfahjgaidbaa.Fx
set_option maxRecDepth 100000
set_option linter.unusedVariables false
set_option linter.unusedSimpArgs false
set_option maxHeartbeats 2000000

/-- a row told by its places -/
def tab {α : Type} (n : Nat) (f : Nat → α) : List α := (List.range n).map f

theorem tab_length {α : Type} (n : Nat) (f : Nat → α) : (tab n f).length = n := by simp [tab]
theorem tab_get {α : Type} {n i : Nat} (f : Nat → α) (h : i < n) : (tab n f)[i]? = some (f i) := by
  simp [tab, h]
theorem tab_get_iff {α : Type} {n i : Nat} {f : Nat → α} {a : α} (h : (tab n f)[i]? = some a) : i < n ∧ a = f i := by
  have hi := (List.getElem?_eq_some_iff.1 h).1
  rw [tab_length] at hi
  rw [tab_get f hi] at h
  exact ⟨hi, (Option.some.inj h).symm⟩
theorem tab_congr {α : Type} {n : Nat} {f g : Nat → α} (h : ∀ j, j < n → f j = g j) : tab n f = tab n g := by
  unfold tab
  exact List.map_congr_left fun j hj => h j (List.mem_range.1 hj)
theorem tab_set {α : Type} {n i : Nat} {f g : Nat → α} {a : α} (hi : i < n) (ha : g i = a) (h : ∀ j, j < n → j ≠ i → g j = f j) : (tab n f).set i a = tab n g := by
  apply List.ext_getElem?
  intro j
  rcases Nat.lt_or_ge j n with hj | hj
  · rw [tab_get g hj, List.getElem?_set]
    by_cases hij : i = j
    · subst hij; rw [if_pos rfl, if_pos (by rw [tab_length]; exact hj), ha]
    · rw [if_neg hij, tab_get f hj, h j hj (fun e => hij e.symm)]
  · rw [List.getElem?_eq_none (by rw [List.length_set, tab_length]; exact hj), List.getElem?_eq_none (by rw [tab_length]; exact hj)]
theorem tab_mem {α : Type} {n : Nat} {f : Nat → α} {P : α → Prop} (h : ∀ j, j < n → P (f j)) : ∀ a ∈ tab n f, P a := by
  intro a ha
  obtain ⟨j, hj, rfl⟩ := List.mem_map.1 ha
  exact h j (List.mem_range.1 hj)
theorem tab_rep {α : Type} (n : Nat) (a : α) : List.replicate n a = tab n (fun _ => a) := by
  apply List.ext_getElem?
  intro j
  rcases Nat.lt_or_ge j n with hj | hj
  · rw [tab_get _ hj, List.getElem?_replicate, if_pos hj]
  · rw [List.getElem?_eq_none (by simpa using hj), List.getElem?_eq_none (by rw [tab_length]; exact hj)]

theorem namesFrom_all : ∀ (l : List Pl) (k : Nat), (∀ a ∈ l, a.u = true) → (namesFrom k l).length = l.length
  | [], k, _ => by simp [namesFrom]
  | a :: l, k, h => by
    unfold namesFrom
    rw [if_pos (h a (.head _)), List.length_cons, namesFrom_all l (k + 1) (fun x hx => h x (.tail _ hx)), List.length_cons]
end Go.Proofs.Ytjkkfahjgaidbaa.Tab

/-
  Names that were told, and those that are gone: the plain law of TableOnce.
-/
import Derived.Test.YtjkkfahjgaidbaaTableI
namespace Go.Proofs.Ytjkkfahjgaidbaa.Tab
open Go Go.Proofs Go.Proofs.Ytjkkfahjgaidbaa.Fx

def genOf (l : List Pl) (i : Nat) : Nat := match l[i]? with | some a => a.g | none => 0
def goneB (l : List Pl) (q : Nat × Nat) : Bool := decide (q.2 < genOf l q.1)
def nameOf (q : Nat × Nat) : Int := ((q.1 + 256 * q.2 : Nat) : Int)

theorem genOf_some {l : List Pl} {i : Nat} {a : Pl} (h : l[i]? = some a) : genOf l i = a.g := by unfold genOf; rw [h]

/-- what holds of a table and the names that it told -/
structure Told (N G : Nat) (l : List Pl) (all : List (Nat × Nat)) : Prop where
  len : l.length = N
  gen : ∀ a ∈ l, a.g ≤ G
  one : ∀ a ∈ l, a.v.oneCell' = true
  at_ : ∀ q ∈ all, q.1 < N ∧ q.2 ≤ genOf l q.1
  cur : ∀ q ∈ all, ∀ a, l[q.1]? = some a → q.2 = a.g → a.u = true
  nodup : all.Nodup
  cnt : (all.map (goneB l)).count false = (l.map Pl.u).count true

theorem namesFrom_count : ∀ (l : List Pl) (k : Nat), (namesFrom k l).length = (l.map Pl.u).count true
  | [], k => by simp [namesFrom]
  | a :: l, k => by
    unfold namesFrom
    have ih := namesFrom_count l (k + 1)
    rw [List.map_cons, List.count_cons]
    cases hu : a.u <;> simp [ih]

theorem Told.start {N : Nat} : Told N 1 (List.replicate N newPl) [] :=
  ⟨by simp, fun a h => by rw [List.eq_of_mem_replicate h]; decide, fun a h => by rw [List.eq_of_mem_replicate h]; rfl, by simp, by simp, List.nodup_nil, by
    rw [List.map_replicate]
    simp [newPl, List.count_replicate]⟩

theorem Told.mono {N G G' : Nat} {l all} (h : Told N G l all) (hG : G ≤ G') : Told N G' l all :=
  ⟨h.len, fun a ha => Nat.le_trans (h.gen a ha) hG, h.one, h.at_, h.cur, h.nodup, h.cnt⟩

theorem genOf_set_same {l : List Pl} {i : Nat} {a a' : Pl} (h : l[i]? = some a) (hg : a'.g = a.g) (j : Nat) : genOf (l.set i a') j = genOf l j := by
  unfold genOf
  rw [List.getElem?_set]
  have hi := (List.getElem?_eq_some_iff.1 h).1
  by_cases hij : i = j
  · subst hij
    rw [if_pos rfl, if_pos hi, h]
    exact hg
  · rw [if_neg hij]

theorem genOf_set {l : List Pl} {i : Nat} {a' : Pl} (hi : i < l.length) (j : Nat) : genOf (l.set i a') j = if j = i then a'.g else genOf l j := by
  unfold genOf
  rw [List.getElem?_set]
  by_cases hij : i = j
  · subst hij
    rw [if_pos rfl, if_pos hi, if_pos rfl]
  · rw [if_neg hij, if_neg (fun e => hij e.symm)]

theorem set_u {l : List Pl} {i : Nat} {a' : Pl} : (l.set i a').map Pl.u = (l.map Pl.u).set i a'.u := by rw [List.map_set]

/-- the name that an Add tells is new, and the state behind it -/
theorem Told.add {N G : Nat} {l all} {i : Nat} {a : Pl} (h : Told N G l all) (ha : l[i]? = some a) (hu : a.u = false) {v : Value} (hv : v.oneCell' = true) :
    (i, a.g) ∉ all ∧ Told N G (l.set i ⟨v, a.g, true⟩) (all ++ [(i, a.g)]) ∧ (all ++ [(i, a.g)]).map (goneB (l.set i ⟨v, a.g, true⟩)) = all.map (goneB l) ++ [false] := by
  have hi := (List.getElem?_eq_some_iff.1 ha).1
  have hnew : (i, a.g) ∉ all := fun hm => by
    have := h.cur _ hm a ha rfl
    rw [hu] at this; cases this
  have hgs : ∀ j, genOf (l.set i ⟨v, a.g, true⟩) j = genOf l j := genOf_set_same ha rfl
  have hgone : goneB (l.set i ⟨v, a.g, true⟩) = goneB l := by
    funext q; unfold goneB; rw [hgs]
  have hmap : (all ++ [(i, a.g)]).map (goneB (l.set i ⟨v, a.g, true⟩)) = all.map (goneB l) ++ [false] := by
    rw [hgone, List.map_append]
    congr 1
    simp [goneB, genOf_some ha]
  refine ⟨hnew, ⟨by rw [List.length_set]; exact h.len, ?_, ?_, ?_, ?_, ?_, ?_⟩, hmap⟩
  · intro x hx
    rcases List.mem_or_eq_of_mem_set hx with hx | rfl
    · exact h.gen x hx
    · exact h.gen a (List.mem_of_getElem? ha)
  · intro x hx
    rcases List.mem_or_eq_of_mem_set hx with hx | rfl
    · exact h.one x hx
    · exact hv
  · intro q hq
    rw [hgs]
    rcases List.mem_append.1 hq with hq | hq
    · exact h.at_ q hq
    · obtain rfl := List.mem_singleton.1 hq
      exact ⟨by rw [← h.len]; exact hi, by rw [genOf_some ha]; exact Nat.le_refl _⟩
  · intro q hq x hx hxg
    rw [List.getElem?_set] at hx
    by_cases hqi : i = q.1
    · rw [if_pos hqi, if_pos (hqi ▸ hi)] at hx
      cases hx; rfl
    · rw [if_neg hqi] at hx
      rcases List.mem_append.1 hq with hq | hq
      · exact h.cur q hq x hx hxg
      · obtain rfl := List.mem_singleton.1 hq
        exact (hqi rfl).elim
  · rw [List.nodup_append]
    refine ⟨h.nodup, by simp, fun x hx y hy e => ?_⟩
    rw [List.mem_singleton.1 hy] at e
    exact hnew (e ▸ hx)
  · rw [hmap, List.count_append, h.cnt, set_u, List.count_set (by simpa using hi)]
    have : (l.map Pl.u)[i]'(by simpa using hi) = false := by
      rw [List.getElem_map, (List.getElem?_eq_some_iff.1 ha).2]; exact hu
    rw [this]
    simp

/-- the state behind a Drop of a name that is there -/
theorem Told.drop {N G : Nat} {l all} {k : Nat} {q : Nat × Nat} {a : Pl} (h : Told N G l all) (hq : all[k]? = some q) (ha : l[q.1]? = some a) (hg : q.2 = a.g) {v : Value} (hv : v.oneCell' = true) :
    Told N (G + 1) (l.set q.1 ⟨v, a.g + 1, false⟩) all ∧ all.map (goneB (l.set q.1 ⟨v, a.g + 1, false⟩)) = (all.map (goneB l)).set k true := by
  have hi := (List.getElem?_eq_some_iff.1 ha).1
  obtain ⟨hkl, hqe⟩ := List.getElem?_eq_some_iff.1 hq
  have hqm : q ∈ all := List.mem_of_getElem? hq
  have hu := h.cur q hqm a ha hg
  have hgs := genOf_set (a' := ⟨v, a.g + 1, false⟩) hi
  have hga := genOf_some ha
  have hmap : all.map (goneB (l.set q.1 ⟨v, a.g + 1, false⟩)) = (all.map (goneB l)).set k true := by
    apply List.ext_getElem (by simp)
    intro j h1 h2
    rw [List.length_map] at h1
    rw [List.getElem_map, List.getElem_set, List.getElem_map]
    by_cases hjk : k = j
    · subst hjk
      rw [if_pos rfl, hqe]
      unfold goneB
      rw [hgs, if_pos rfl]
      exact decide_eq_true (by show q.2 < a.g + 1; omega)
    · rw [if_neg hjk]
      unfold goneB
      rw [hgs]
      by_cases hp : all[j].1 = q.1
      · rw [if_pos hp, hp, hga]
        have hle := (h.at_ all[j] (List.getElem_mem _)).2
        rw [hp, hga] at hle
        have hne : all[j].2 ≠ a.g := fun e => by
          have e2 : all[j] = all[k] := by rw [hqe]; exact Prod.ext hp (e.trans hg.symm)
          have hpw := List.pairwise_iff_getElem.1 h.nodup
          rcases Nat.lt_trichotomy j k with hh | hh | hh
          · exact hpw j k h1 hkl hh e2
          · exact hjk hh.symm
          · exact hpw k j hkl h1 hh e2.symm
        rw [decide_eq_true (show all[j].2 < a.g + 1 by omega), decide_eq_true (show all[j].2 < a.g by omega)]
      · rw [if_neg hp]
  refine ⟨⟨by rw [List.length_set]; exact h.len, ?_, ?_, ?_, ?_, h.nodup, ?_⟩, hmap⟩
  · intro x hx
    rcases List.mem_or_eq_of_mem_set hx with hx | rfl
    · have := h.gen x hx; omega
    · have := h.gen a (List.mem_of_getElem? ha); show a.g + 1 ≤ G + 1; omega
  · intro x hx
    rcases List.mem_or_eq_of_mem_set hx with hx | rfl
    · exact h.one x hx
    · exact hv
  · intro r hr
    have := h.at_ r hr
    refine ⟨this.1, ?_⟩
    rw [hgs]
    split
    · rename_i e; have h2 := this.2; rw [e, hga] at h2; show r.2 ≤ a.g + 1; omega
    · exact this.2
  · intro r hr x hx hxg
    rw [List.getElem?_set] at hx
    by_cases hri : q.1 = r.1
    · rw [if_pos hri, if_pos (hri ▸ hi)] at hx
      cases hx
      have h2 := (h.at_ r hr).2
      rw [← hri, hga] at h2
      have : r.2 = a.g + 1 := hxg
      omega
    · rw [if_neg hri] at hx
      exact h.cur r hr x hx hxg
  · have hgk : (all.map (goneB l))[k]'(by simpa using hkl) = false := by
      rw [List.getElem_map, hqe]
      unfold goneB
      rw [hga]
      exact decide_eq_false (by omega)
    have huk : (l.map Pl.u)[q.1]'(by simpa using hi) = true := by
      rw [List.getElem_map, (List.getElem?_eq_some_iff.1 ha).2]; exact hu
    rw [hmap, set_u, List.count_set (by simpa using hkl), List.count_set (by simpa using hi), hgk, huk, h.cnt]
    simp
end Go.Proofs.Ytjkkfahjgaidbaa.Tab

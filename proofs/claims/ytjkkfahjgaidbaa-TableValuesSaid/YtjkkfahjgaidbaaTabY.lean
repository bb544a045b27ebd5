/-
  The law TableValues: the walk.
-/
import Derived.Test.YtjkkfahjgaidbaaTabX
import Derived.Test.YtjkkfahjgaidbaaTabF
import Derived.Test.YtjkkfahjgaidbaaFxT
namespace Go.Proofs.Ytjkkfahjgaidbaa.TabY
open Go Go.Proofs Go.Proofs.Ytjkkfahjgaidbaa.Fx
set_option maxRecDepth 100000
set_option linter.unusedVariables false
set_option linter.unusedSimpArgs false
set_option maxHeartbeats 16000000

def pv (a b : Int) : TabV.Vk := ⟨[I a, I b], rfl, by simp [Value.oneCell']⟩
theorem eq_pair : EqC Try.prog 61 (List.replicate 2 .i64) true 2 :=
  EqC.array (EqC.int Try.isAgg3 Try.sizeOf3 Try.underlying3) Try.isAgg61 Try.sizeOf61 Try.underlying61 (info_of_run Try.typeInfo3 default) (by kernel_rfl) rfl
theorem R_ne_pair {E : Env} {w : World} {d : Option Nat} {ty : TypeId} {pos : String} {after : Array Edge} {t' : TypeId} {x y : Operand} (a b : Int) (hx : ev E x = .agg [I a, I b].toArray) (hy : ev E y = .agg [I a, I b].toArray)
    : (execOp (ev E) (mk d (.binOp .neq 61 x y t') ty pos after)).run Try.prog w = .ok (.value (.bool false)) w := by
  rw [R_ne_C (ns := [a, b]) (ms := [a, b]) eq_pair (by decide) (by kernel_rfl) hx hy rfl rfl rfl rfl, decide_eq_false (fun h => h rfl)]

section
variable (X : Nat → Int) (n A D : Nat) (v : Int)
def fA (i j : Nat) : TabV.Pl := if j < i then ⟨pv j (X j), 1, true⟩ else TabV.newPl
def wC (j : Nat) : TabV.Vk := if j = A then pv (-1) v else pv j (X j)
def fC (j : Nat) : TabV.Pl := if j < n then ⟨wC X A v j, 1, true⟩ else TabV.newPl
def fD (j : Nat) : TabV.Pl := if j < n then (if j = D then ⟨TabV.zk, 2, false⟩ else ⟨wC X A v j, 1, true⟩) else TabV.newPl
def fB (kb : Nat → Nat) (i j : Nat) : Tab.Pl := if j < i then ⟨TabF.fv (kb j), 1, true⟩ else TabF.newPl
def kbs (kb : Nat → Nat) (i c j : Nat) : Nat := if j = i then c else kb j
def nm (j : Nat) : Int := ((j + 256 * 1 : Nat) : Int)
end
section
variable {X : Nat → Int} {n A D : Nat} {v : Int}
theorem fA_set {i : Nat} (h : i < 50) : (tab 50 (fA X i)).set i ⟨pv i (X i), TabV.newPl.g, true⟩ = tab 50 (fA X (i + 1)) :=
  tab_set h (by unfold fA; rw [if_pos (by omega)]; rfl) (fun j _ hj => by
    unfold fA
    by_cases h : j < i
    · rw [if_pos h, if_pos (by omega)]
    · rw [if_neg h, if_neg (by omega)])
theorem fB_set {kb : Nat → Nat} {i c : Nat} (h : i < 50) : (tab 50 (fB kb i)).set i ⟨TabF.fv c, TabF.newPl.g, true⟩ = tab 50 (fB (kbs kb i c) (i + 1)) :=
  tab_set h (by unfold fB kbs; rw [if_pos (by omega), if_pos rfl]; rfl) (fun j _ hj => by
    unfold fB kbs
    by_cases h : j < i
    · rw [if_pos h, if_pos (by omega), if_neg hj]
    · rw [if_neg h, if_neg (by omega)])
theorem fA_g (i j : Nat) : (fA X i j).g ≤ 1000001 := by unfold fA; split <;> simp [TabV.newPl, TabF.newPl]
theorem fB_g (kb : Nat → Nat) (i j : Nat) : (fB kb i j).g ≤ 1000001 := by unfold fB; split <;> simp [TabV.newPl, TabF.newPl]
theorem fB_v (kb : Nat → Nat) (i j : Nat) : (fB kb i j).v.oneCell' = true := by unfold fB; split <;> rfl
theorem fA_least (i : Nat) : ∀ j a', j < i → (tab 50 (fA X i))[j]? = some a' → ¬ TabV.free a' := fun j a' hj ha hf => by
  obtain ⟨_, rfl⟩ := tab_get_iff ha
  unfold fA at hf; rw [if_pos hj] at hf; exact Bool.noConfusion hf.1
theorem fB_least (kb : Nat → Nat) (i : Nat) : ∀ j a', j < i → (tab 50 (fB kb i))[j]? = some a' → ¬ Tab.free a' := fun j a' hj ha hf => by
  obtain ⟨_, rfl⟩ := tab_get_iff ha
  unfold fB at hf; rw [if_pos hj] at hf; exact Bool.noConfusion hf.1
theorem fA_at {i : Nat} (h : i < 50) : (tab 50 (fA X i))[i]? = some TabV.newPl := (tab_get _ h).trans (congrArg some (by unfold fA; rw [if_neg (by omega)]))
theorem fB_at {kb : Nat → Nat} {i : Nat} (h : i < 50) : (tab 50 (fB kb i))[i]? = some TabF.newPl := (tab_get _ h).trans (congrArg some (by unfold fB; rw [if_neg (by omega)]))
theorem fA_in {j : Nat} (h : j < n) (hn : n ≤ 50) : (tab 50 (fA X n))[j]? = some ⟨pv j (X j), 1, true⟩ := (tab_get _ (by omega)).trans (congrArg some (by unfold fA; rw [if_pos h]))
theorem fB_in {kb : Nat → Nat} {j : Nat} (h : j < n) (hn : n ≤ 50) : (tab 50 (fB kb n))[j]? = some ⟨TabF.fv (kb j), 1, true⟩ := (tab_get _ (by omega)).trans (congrArg some (by unfold fB; rw [if_pos h]))
theorem fC_set (hA : A < n) (hn : n ≤ 50) : (tab 50 (fA X n)).set A ⟨pv (-1) v, 1, true⟩ = tab 50 (fC X n A v) :=
  tab_set (by omega) (by unfold fC wC; rw [if_pos hA, if_pos rfl]) (fun j _ hj => by
    unfold fC wC fA; rw [if_neg hj])
theorem fC_g (j : Nat) : (fC X n A v j).g ≤ 1000001 := by unfold fC; split <;> simp [TabV.newPl, TabF.newPl]
theorem fC_in {j : Nat} (h : j < n) (hn : n ≤ 50) : (tab 50 (fC X n A v))[j]? = some ⟨wC X A v j, 1, true⟩ := (tab_get _ (by omega)).trans (congrArg some (by unfold fC; rw [if_pos h]))
theorem fD_set (hD : D < n) (hn : n ≤ 50) : (tab 50 (fC X n A v)).set D ⟨TabV.zk, 1 + 1, false⟩ = tab 50 (fD X n A D v) :=
  tab_set (by omega) (by unfold fD; rw [if_pos hD, if_pos rfl]) (fun j _ hj => by
    unfold fC fD; rw [if_neg hj])
theorem fD_g (j : Nat) : (fD X n A D v j).g ≤ 1000001 := by
  unfold fD
  split
  · split <;> simp
  · simp [TabV.newPl]
theorem fD_in {j : Nat} (h : j < n) (hj : ¬ j = D) (hn : n ≤ 50) : (tab 50 (fD X n A D v))[j]? = some ⟨wC X A v j, 1, true⟩ := (tab_get _ (by omega)).trans (congrArg some (by unfold fD; rw [if_pos h, if_neg hj]))
theorem fD_gone : ∀ (i : Nat) (a : TabV.Pl), (tab 50 (fD X n A D v))[i]? = some a → a.u = true → nm D ≠ ((i + 256 * a.g : Nat) : Int) := by
  intro i a hi hu he
  obtain ⟨_, rfl⟩ := tab_get_iff hi
  unfold fD at hu he
  unfold nm at he
  by_cases h1 : i < n
  · rw [if_pos h1] at hu he
    by_cases h2 : i = D
    · rw [if_pos h2] at hu; cases hu
    · rw [if_neg h2] at he
      have : ((D + 256 * 1 : Nat) : Int) = ((i + 256 * 1 : Nat) : Int) := he
      omega
  · rw [if_neg h1] at hu; cases hu
theorem count_rng (n D : Nat) : ∀ m : Nat, ((List.range m).map fun j => decide (j < n) && decide (j ≠ D)).count true = min m n - (if D < min m n then 1 else 0)
  | 0 => by simp
  | m + 1 => by
    rw [List.range_succ, List.map_append, List.count_append, count_rng n D m]
    by_cases h1 : m < n
    · by_cases h2 : m = D
      · subst h2
        simp only [List.map_cons, List.map_nil, decide_eq_true h1, ne_eq, not_true, decide_false, Bool.and_false]
        rw [Nat.min_eq_left (by omega), Nat.min_eq_left (by omega), if_neg (by omega), if_pos (by omega)]
        simp
      · simp only [List.map_cons, List.map_nil, decide_eq_true h1, ne_eq, h2, not_false_iff, decide_true, Bool.and_true]
        rw [Nat.min_eq_left (by omega), Nat.min_eq_left (by omega)]
        by_cases h3 : D < m
        · rw [if_pos h3, if_pos (by omega)]; simp; omega
        · rw [if_neg h3, if_neg (by omega)]; simp
    · simp only [List.map_cons, List.map_nil, decide_eq_false h1, Bool.false_and]
      rw [Nat.min_eq_right (by omega), Nat.min_eq_right (by omega)]
      simp
theorem count_rng2 (n : Nat) : ∀ m : Nat, ((List.range m).map fun j => decide (j < n)).count true = min m n
  | 0 => by simp
  | m + 1 => by
    rw [List.range_succ, List.map_append, List.count_append, count_rng2 n m]
    by_cases h1 : m < n
    · simp only [List.map_cons, List.map_nil, decide_eq_true h1]
      rw [Nat.min_eq_left (by omega), Nat.min_eq_left (by omega)]
      simp
    · simp only [List.map_cons, List.map_nil, decide_eq_false h1]
      rw [Nat.min_eq_right (by omega), Nat.min_eq_right (by omega)]
      simp
theorem cntV : ∀ (l : List TabV.Pl) (k : Nat), (TabV.namesFrom k l).length = (l.map TabV.Pl.u).count true
  | [], k => by simp [TabV.namesFrom]
  | a :: l, k => by
    unfold TabV.namesFrom
    have ih := cntV l (k + 1)
    rw [List.map_cons, List.count_cons]
    cases hu : a.u <;> simp [ih]
theorem cntF : ∀ (l : List Tab.Pl) (k : Nat), (Tab.namesFrom k l).length = (l.map Tab.Pl.u).count true
  | [], k => by simp [Tab.namesFrom]
  | a :: l, k => by
    unfold Tab.namesFrom
    have ih := cntF l (k + 1)
    rw [List.map_cons, List.count_cons]
    cases hu : a.u <;> simp [ih]
theorem lenD (hD : D < n) (hn : n ≤ 50) : (TabV.namesFrom 0 (tab 50 (fD X n A D v))).length = n - 1 := by
  rw [cntV]
  have : (tab 50 (fD X n A D v)).map TabV.Pl.u = (List.range 50).map fun j => decide (j < n) && decide (j ≠ D) := by
    unfold tab
    rw [List.map_map]
    refine List.map_congr_left fun j _ => ?_
    show (fD X n A D v j).u = _
    unfold fD
    by_cases h1 : j < n
    · by_cases h2 : j = D
      · rw [if_pos h1, if_pos h2]; simp [h2]
      · rw [if_pos h1, if_neg h2]; simp [h1, h2]
    · rw [if_neg h1]; simp [h1]; rfl
  rw [this, count_rng, Nat.min_eq_right hn, if_pos hD]
theorem lenB {kb : Nat → Nat} (hn : n ≤ 50) : (Tab.namesFrom 0 (tab 50 (fB kb n))).length = n := by
  rw [cntF]
  have : (tab 50 (fB kb n)).map Tab.Pl.u = (List.range 50).map fun j => decide (j < n) := by
    unfold tab
    rw [List.map_map]
    refine List.map_congr_left fun j _ => ?_
    show (fB kb n j).u = _
    unfold fB
    by_cases h1 : j < n
    · rw [if_pos h1]; simp [h1]
    · rw [if_neg h1]; simp [h1]; rfl
  rw [this, count_rng2, Nat.min_eq_right hn]
theorem nm_get {n k : Nat} {sp : List Value} (hk : k < n) : (List.map I (tab n nm) ++ sp)[k]? = some (I (nm k)) := by
  rw [List.getElem?_append_left (by rw [List.length_map, tab_length]; exact hk), List.getElem?_map, tab_get _ hk]; rfl
end
end Go.Proofs.Ytjkkfahjgaidbaa.TabY

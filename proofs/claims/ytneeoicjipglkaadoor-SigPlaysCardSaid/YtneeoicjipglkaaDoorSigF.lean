/-
  Signals: the least bit of a number; what is taken next; what is delivered.
-/
import Derived.Test.YtneeoicjipglkaaDoorSigE
namespace Go.Proofs.YtneeoicjipglkaaDoor.Slot
open Go Go.Proofs Go.Proofs.YtneeoicjipglkaaDoor.Fx
set_option maxRecDepth 100000
set_option linter.unusedVariables false
set_option linter.unusedSimpArgs false
set_option maxHeartbeats 4000000

/-- the least bit that is set -/
def IsLow (x : BitVec 64) (k : Nat) : Prop := x.getLsbD k = true ∧ ∀ j, j < k → x.getLsbD j = false
theorem low_and {x : BitVec 64} {k : Nat} (h : IsLow x k) (hk : k < 64) : x &&& -x = bitN k := by
  apply BitVec.eq_of_getLsbD_eq
  intro i hi
  rw [BitVec.getLsbD_and, BitVec.getLsbD_neg, bit_get]
  by_cases hik : i = k
  · subst hik
    have : ¬ ∃ j, j < i ∧ x.getLsbD j = true := fun ⟨j, hj, hx⟩ => by rw [h.2 j hj] at hx; cases hx
    simp [h.1, this, hi]
  · rcases Nat.lt_or_ge i k with hlt | hge
    · rw [h.2 i hlt]; simp [hik]
    · have : ∃ j, j < i ∧ x.getLsbD j = true := ⟨k, by omega, h.1⟩
      cases hx : x.getLsbD i <;> simp [this, hi, hik]

/-- the first of the bits from k on, of n bits -/
def lowFrom (x : BitVec 64) : Nat → Nat → Nat
  | 0, k => k
  | n + 1, k => if x.getLsbD k = true then k else lowFrom x n (k + 1)
theorem lowFrom_spec (x : BitVec 64) : ∀ (n k : Nat), (∀ j, j < k → x.getLsbD j = false) → (∃ j, j < k + n ∧ x.getLsbD j = true) → IsLow x (lowFrom x n k) ∧ k ≤ lowFrom x n k ∧ lowFrom x n k < k + n
  | 0, k, h, ⟨j, hj, hx⟩ => by rw [h j (by omega)] at hx; cases hx
  | n + 1, k, h, ⟨j, hj, hx⟩ => by
    unfold lowFrom
    by_cases hk : x.getLsbD k = true
    · rw [if_pos hk]; exact ⟨⟨hk, h⟩, Nat.le_refl _, by omega⟩
    · rw [if_neg hk]
      rw [Bool.not_eq_true] at hk
      have hr := lowFrom_spec x n (k + 1) (fun i hi => by
        by_cases e : i = k
        · subst e; exact hk
        · exact h i (by omega)) ⟨j, by omega, hx⟩
      exact ⟨hr.1, by omega, by omega⟩

/-- those that are pending and not masked -/
def openP (p : Pi) : BitVec 64 := (p.a &&& ~~~ p.b) &&& 65534#64
theorem open_get (p : Pi) (k : Nat) : (openP p).getLsbD k = ((p.a.getLsbD k && !p.b.getLsbD k) && (decide (1 ≤ k) && decide (k ≤ 15))) := by
  have hm : (65534#64 : BitVec 64).getLsbD k = (decide (1 ≤ k) && decide (k ≤ 15)) := by
    by_cases h : k < 16
    · have : ∀ k : Fin 16, (65534#64 : BitVec 64).getLsbD k.val = (decide (1 ≤ k.val) && decide (k.val ≤ 15)) := by decide
      exact this ⟨k, h⟩
    · have : (65534#64 : BitVec 64).getLsbD k = false := by
        rw [BitVec.getLsbD]
        exact Nat.testBit_lt_two_pow (Nat.lt_of_lt_of_le (show 65534 < 2 ^ 16 by decide) (Nat.pow_le_pow_right (by decide) (by omega)))
      rw [this]; simp; omega
  unfold openP
  rw [BitVec.getLsbD_and, BitVec.getLsbD_and, hm, BitVec.getLsbD_not]
  by_cases h : k ≤ 15
  · simp [show k < 64 by omega]
  · simp [h]
theorem open_some {p : Pi} (h : openP p ≠ 0#64) : ∃ j, j < 1 + 15 ∧ (openP p).getLsbD j = true := by
  by_cases hx : ∃ j, j < 1 + 15 ∧ (openP p).getLsbD j = true
  · exact hx
  · refine (h ?_).elim
    apply BitVec.eq_of_getLsbD_eq
    intro i hi
    rw [BitVec.getLsbD_zero]
    by_cases hi2 : i < 16
    · cases hb : (openP p).getLsbD i
      · rfl
      · exact (hx ⟨i, by omega, hb⟩).elim
    · rw [open_get]; simp; omega
theorem open_low {p : Pi} (h : openP p ≠ 0#64) : IsLow (openP p) (lowFrom (openP p) 15 1) ∧ 1 ≤ lowFrom (openP p) 15 1 ∧ lowFrom (openP p) 15 1 ≤ 15 := by
  have hr := lowFrom_spec (openP p) 15 1 (fun j hj => by obtain rfl : j = 0 := (by omega); rw [open_get]; simp) (open_some h)
  exact ⟨hr.1, hr.2.1, by omega⟩

/-- the number that is taken next -/
def nextN (p : Pi) : Nat := if ¬ p.s = 1 ∨ openP p = 0#64 then 0 else if (openP p).getLsbD 9 = true then 9 else lowFrom (openP p) 15 1
/-- what becomes of it -/
def whatN (p : Pi) (k : Nat) : Nat := if p.d.getLsbD k = true then 2 else if k = 15 then 1 else if k = 14 then 3 else 4
def nextW (p : Pi) : Nat := if ¬ p.s = 1 ∨ openP p = 0#64 then 0 else whatN p (nextN p)
theorem whatN_pos (p : Pi) (k : Nat) : 1 ≤ whatN p k ∧ whatN p k ≤ 4 := by
  unfold whatN
  split
  · omega
  · split
    · omega
    · split <;> omega
theorem nextN_bits {p : Pi} (h : ¬ (¬ p.s = 1 ∨ openP p = 0#64)) : 1 ≤ nextN p ∧ nextN p ≤ 15 ∧ (openP p).getLsbD (nextN p) = true := by
  unfold nextN
  rw [if_neg h]
  split
  · rename_i h9; exact ⟨by omega, by omega, h9⟩
  · have := open_low (fun e => h (.inr e)); exact ⟨this.2.1, this.2.2, this.1.1⟩
theorem nextN_zero {p : Pi} : nextN p = 0 ↔ (¬ p.s = 1 ∨ openP p = 0#64) := by
  constructor
  · intro h
    by_cases h2 : ¬ p.s = 1 ∨ openP p = 0#64
    · exact h2
    · have := nextN_bits h2; omega
  · intro h; unfold nextN; rw [if_pos h]
theorem nextW_zero {p : Pi} : nextW p = 0 ↔ (¬ p.s = 1 ∨ openP p = 0#64) := by
  constructor
  · intro h
    by_cases h2 : ¬ p.s = 1 ∨ openP p = 0#64
    · exact h2
    · unfold nextW at h; rw [if_neg h2] at h; have := whatN_pos p (nextN p); omega
  · intro h; unfold nextW; rw [if_pos h]

/-- one is taken away -/
def clr (p : Pi) (k : Nat) : Pi := { p with a := p.a &&& ~~~ bitN k }
/-- what is delivered -/
def delivN : Nat → Pi → Pi × List Nat × Nat
  | 0, p => (p, [], 0)
  | n + 1, p =>
    if nextW p = 0 then (p, [], 0)
    else if nextW p = 2 then ((delivN n (clr p (nextN p))).1, nextN p :: (delivN n (clr p (nextN p))).2.1, (delivN n (clr p (nextN p))).2.2)
    else if nextW p = 3 then delivN n { clr p (nextN p) with s := 3 }
    else if nextW p = 4 then (clr p (nextN p), [], nextN p)
    else delivN n (clr p (nextN p))
theorem deliv_none {p : Pi} (h : nextW p = 0) (n : Nat) : delivN n p = (p, [], 0) := by
  cases n with
  | zero => rfl
  | succ n => unfold delivN; rw [if_pos h]
theorem deliv_stopped {p : Pi} (h : ¬ p.s = 1) (n : Nat) : delivN n p = (p, [], 0) := deliv_none (nextW_zero.2 (.inl h)) n
/-- how many are open -/
def cntP (p : Pi) : Nat := ((List.range 16).filter fun k => (openP p).getLsbD k).length
theorem open_clr (p : Pi) (k j : Nat) : (openP (clr p k)).getLsbD j = ((openP p).getLsbD j && !decide (j = k)) := by
  rw [open_get, open_get]
  show (((p.a &&& ~~~ bitN k).getLsbD j && !p.b.getLsbD j) && _) = _
  rw [BitVec.getLsbD_and, BitVec.getLsbD_not, bit_get]
  by_cases hj : j < 64
  · cases p.a.getLsbD j <;> cases p.b.getLsbD j <;> by_cases hk : j = k <;> simp [hj, hk, Bool.and_comm]
  · simp [show ¬ j ≤ 15 by omega]
theorem filter_less {l : List Nat} {f g : Nat → Bool} (hs : ∀ x ∈ l, g x = true → f x = true) {k : Nat} (hk : k ∈ l) (hf : f k = true) (hg : g k = false) : (l.filter g).length < (l.filter f).length := by
  induction l with
  | nil => cases hk
  | cons a l ih =>
    have hle : (l.filter g).length ≤ (l.filter f).length := by
      clear ih hk
      induction l with
      | nil => simp
      | cons b l ih2 =>
        have := ih2 (fun x hx => hs x (by rcases List.mem_cons.1 hx with rfl | h <;> simp_all))
        have hb := hs b (by simp)
        rw [List.filter_cons, List.filter_cons]
        cases h1 : g b <;> cases h2 : f b <;> simp_all <;> omega
    rw [List.filter_cons, List.filter_cons]
    rcases List.mem_cons.1 hk with rfl | hk
    · rw [hf, hg]; simp; omega
    · have := ih (fun x hx => hs x (List.mem_cons_of_mem _ hx)) hk
      have ha := hs a (by simp)
      cases h1 : g a <;> cases h2 : f a <;> simp_all <;> omega
theorem cnt_clr {p : Pi} (h : ¬ nextW p = 0) : cntP (clr p (nextN p)) < cntP p := by
  have hb := nextN_bits (fun e => h (nextW_zero.2 e))
  refine filter_less (fun x _ hx => ?_) (k := nextN p) (List.mem_range.2 (by omega)) hb.2.2 ?_
  · rw [open_clr] at hx; cases hx2 : (openP p).getLsbD x <;> simp_all
  · rw [open_clr]; simp
theorem cnt_all (p : Pi) : cntP p ≤ 16 := by
  unfold cntP
  exact Nat.le_trans (List.length_filter_le _ _) (by simp)
theorem cnt_zero {p : Pi} (h : cntP p = 0) : nextW p = 0 := by
  by_cases h2 : nextW p = 0
  · exact h2
  · have := cnt_clr h2; omega
theorem cnt_s (p : Pi) (x : Int) : cntP { p with s := x } = cntP p := rfl
end Go.Proofs.YtneeoicjipglkaaDoor.Slot

/-
  The law SigOnce: the walk.
-/
import Derived.Test.YtneeoicjipglkaaDoorSigP
namespace Go.Proofs.YtneeoicjipglkaaDoor.Slot
open Go Go.Proofs Go.Proofs.YtneeoicjipglkaaDoor.Fx
set_option maxRecDepth 100000
set_option linter.unusedVariables false
set_option linter.unusedSimpArgs false
set_option maxHeartbeats 8000000

/-- so many of them caught -/
def cq : Nat → Pi
  | 0 => oneP
  | n + 1 => handleN (cq n) (n + 1) 2
theorem cq8 : cq 8 = caP := pi_ext rfl rfl rfl rfl rfl rfl (by decide) (by decide) rfl
theorem mask_510 (x : BitVec 64) : ((x &&& 510#64) &&& 65534#64) &&& ~~~ 16896#64 = x &&& 510#64 := by
  apply BitVec.eq_of_getLsbD_eq
  intro j hj
  cases hx : (x &&& 510#64).getLsbD j
  · rw [BitVec.getLsbD_and, BitVec.getLsbD_and, hx]; rfl
  · have h := low8_510 x j hx
    have : ∀ j : Fin 16, 1 ≤ j.val → j.val ≤ 8 → (65534#64 : BitVec 64).getLsbD j.val = true ∧ (~~~ 16896#64 : BitVec 64).getLsbD j.val = true := by decide
    have h2 := this ⟨j, by omega⟩ h.1 h.2
    rw [BitVec.getLsbD_and, BitVec.getLsbD_and, hx, h2.1, h2.2]; rfl
theorem mask_1 {p : Pi} {y : BitVec 64} (x : BitVec 64) (hy : y = x &&& 510#64) : maskP p y.toInt = ({ p with b := y }, p.b.toInt, 0) := by
  have hl : Low8 y := hy ▸ low8_510 x
  have h1 := low8_lt hl
  have h2 := bv_small (x := y) (by omega)
  unfold maskP
  rw [if_neg (by omega), BitVec.ofInt_toInt, hy, mask_510]
theorem mask_0 {p : Pi} : maskP p 0 = ({ p with b := 0#64 }, p.b.toInt, 0) := rfl
/-- those of a row are told in their order -/
theorem bits_rise (x : BitVec 64) : (bitsL x).Pairwise (· < ·) := List.Pairwise.filter _ List.pairwise_lt_range
theorem rise_at {l : List Nat} (h : l.Pairwise (· < ·)) {i : Nat} (hi : i + 1 < l.length) : l[i] < l[i + 1] := List.pairwise_iff_getElem.1 h i (i + 1) (by omega) hi (by omega)
/-- of two rows without a common one, each once -/
theorem once_new {x y : BitVec 64} {j : Nat} (hj : j < (bitsL (x &&& ~~~ y) ++ bitsL (x &&& y)).length) : (orL ((bitsL (x &&& ~~~ y) ++ bitsL (x &&& y)).take j)).getLsbD (bitsL (x &&& ~~~ y) ++ bitsL (x &&& y))[j] = false := by
  have hnd : (bitsL (x &&& ~~~ y) ++ bitsL (x &&& y)).Nodup := by
    rw [List.nodup_append]
    refine ⟨(bits_rise _).imp (fun h => Nat.ne_of_lt h), (bits_rise _).imp (fun h => Nat.ne_of_lt h), ?_⟩
    intro a ha b hb e
    subst e
    have h1 := (bitsL_mem.1 ha).2
    have h2 := (bitsL_mem.1 hb).2
    rw [BitVec.getLsbD_and] at h1 h2
    rw [BitVec.getLsbD_not] at h1
    cases hx : y.getLsbD a <;> simp_all
  have hm : (bitsL (x &&& ~~~ y) ++ bitsL (x &&& y))[j] < 16 := by
    rcases List.mem_append.1 (List.getElem_mem hj) with h | h <;> exact (bitsL_mem.1 h).1
  rw [orL_get _ _ (by omega)]
  refine decide_eq_false fun h => ?_
  obtain ⟨i, hi, he⟩ := List.getElem_of_mem h
  rw [List.length_take] at hi
  rw [List.getElem_take] at he
  exact List.pairwise_iff_getElem.1 hnd i j (by omega) hj (by omega) he
theorem once_all {x y : BitVec 64} (h : Low8 x) : orL (bitsL (x &&& ~~~ y) ++ bitsL (x &&& y)) = x := by
  apply BitVec.eq_of_getLsbD_eq
  intro j hj
  rw [orL_get _ j hj]
  cases hx : x.getLsbD j
  · refine decide_eq_false fun hm => ?_
    rcases List.mem_append.1 hm with hm | hm <;>
    · have := (bitsL_mem.1 hm).2
      rw [BitVec.getLsbD_and, hx] at this
      cases this
  · have := h j hx
    refine decide_eq_true (List.mem_append.2 ?_)
    cases hy : y.getLsbD j
    · exact .inl (bitsL_mem.2 ⟨by omega, by rw [BitVec.getLsbD_and, BitVec.getLsbD_not, hx, hy, decide_eq_true hj]; rfl⟩)
    · exact .inr (bitsL_mem.2 ⟨by omega, by rw [BitVec.getLsbD_and, hx, hy]; rfl⟩)
theorem once_deliv1 {A y : BitVec 64} (hA : Low8 A) : delivN 16 { caP with a := A, b := y } = ({ caP with a := A &&& y, b := y }, bitsL (A &&& ~~~ y), 0) := by
  rw [deliv_low8 rfl hA rfl]
  show ({ caP with a := A &&& ~~~ (A &&& ~~~ y), b := y }, _, _) = _
  rw [bv_but]
theorem once_deliv2 {A y : BitVec 64} (hA : Low8 A) : delivN 16 { caP with a := A &&& y, b := 0#64 } = (caP, bitsL (A &&& y), 0) := by
  have hl : Low8 (A &&& y) := fun j h => hA j (by rw [BitVec.getLsbD_and] at h; cases hx : A.getLsbD j <;> simp_all)
  rw [deliv_low8 rfl hl rfl]
  show ({ caP with a := (A &&& y) &&& ~~~ ((A &&& y) &&& ~~~ 0#64), b := 0#64 }, bitsL ((A &&& y) &&& ~~~ 0#64), 0) = _
  rw [bv_not0, bv_self]
  rfl
theorem once_first {A y : BitVec 64} {n : Nat} (h : n ∈ bitsL (A &&& ~~~ y)) : y.getLsbD n = false := by
  have := bitsL_mem.1 h
  rw [BitVec.getLsbD_and, BitVec.getLsbD_not] at this
  cases hy : y.getLsbD n
  · rfl
  · rw [hy] at this; simp at this
theorem once_second {A y : BitVec 64} {n : Nat} (h : n ∈ bitsL (A &&& y)) : y.getLsbD n = true := by
  have := bitsL_mem.1 h
  rw [BitVec.getLsbD_and] at this
  cases hy : y.getLsbD n
  · rw [hy] at this; simp at this
  · rfl
end Go.Proofs.YtneeoicjipglkaaDoor.Slot

/-
  The law SigHard.
-/
import Derived.Test.YtneeoicjipglkaaDoorSigL
import Derived.Test.YtneeoicjipglkaaDoorSigRow
namespace Go.Proofs.YtneeoicjipglkaaDoor.Slot
open Go Go.Proofs Go.Proofs.YtneeoicjipglkaaDoor.Fx
set_option maxRecDepth 100000
set_option linter.unusedVariables false
set_option linter.unusedSimpArgs false
set_option maxHeartbeats 8000000

/-- what cannot be kept off is not kept off -/
def Free (p : Pi) : Prop := p.s = 1 ∧ p.a = 0#64 ∧ (p.b.getLsbD 9 = false ∧ p.b.getLsbD 14 = false) ∧ (p.c.getLsbD 9 = false ∧ p.c.getLsbD 14 = false) ∧ (p.d.getLsbD 9 = false ∧ p.d.getLsbD 14 = false)
theorem hard_bits {x : BitVec 64} (h : x &&& 16896#64 = 0#64) : x.getLsbD 9 = false ∧ x.getLsbD 14 = false := by
  have h9 := congrArg (fun v => v.getLsbD 9) h
  have h14 := congrArg (fun v => v.getLsbD 14) h
  simp only [BitVec.getLsbD_and, BitVec.getLsbD_zero] at h9 h14
  rw [show (16896#64 : BitVec 64).getLsbD 9 = true from by decide, Bool.and_true] at h9
  rw [show (16896#64 : BitVec 64).getLsbD 14 = true from by decide, Bool.and_true] at h14
  exact ⟨h9, h14⟩
theorem Free.start {p : Pi} (h : okP p) : Free { p with s := 1, a := 0 } := ⟨rfl, rfl, hard_bits h.2.1.2.1.1, hard_bits h.2.1.2.1.2.1, hard_bits h.2.1.2.1.2.2⟩
theorem bit_ne {k : Nat} (h9 : k ≠ 9) (h14 : k ≠ 14) : (bitN k).getLsbD 9 = false ∧ (bitN k).getLsbD 14 = false := by
  rw [bit_get, bit_get]; simp; omega
theorem Free.handle {p : Pi} {k : Nat} {how : Int} (h : Free p) (h9 : k ≠ 9) (h14 : k ≠ 14) : Free (handleN p k how) := by
  obtain ⟨h1, h2, h3, ⟨h4, h5⟩, ⟨h6, h7⟩⟩ := h
  obtain ⟨b9, b14⟩ := bit_ne h9 h14
  refine ⟨h1, ?_, h3, ?_, ?_⟩
  · show (if how = 1 then p.a &&& ~~~ bitN k else p.a) = 0#64
    rw [h2]; split <;> simp
  · show (if how = 1 then (p.c &&& ~~~ bitN k) ||| bitN k else p.c &&& ~~~ bitN k).getLsbD 9 = false ∧ (if how = 1 then (p.c &&& ~~~ bitN k) ||| bitN k else p.c &&& ~~~ bitN k).getLsbD 14 = false
    split <;> simp only [BitVec.getLsbD_or, BitVec.getLsbD_and, h4, h5, b9, b14, Bool.false_and, Bool.or_false, and_self]
  · show (if how = 2 then (p.d &&& ~~~ bitN k) ||| bitN k else p.d &&& ~~~ bitN k).getLsbD 9 = false ∧ (if how = 2 then (p.d &&& ~~~ bitN k) ||| bitN k else p.d &&& ~~~ bitN k).getLsbD 14 = false
    split <;> simp only [BitVec.getLsbD_or, BitVec.getLsbD_and, h6, h7, b9, b14, Bool.false_and, Bool.or_false, and_self]
theorem Free.mask {p : Pi} {m : Int} (h : Free p) (hm : ¬ (m < 0 ∨ 65535 < m)) : Free (maskP p m).1 := by
  obtain ⟨h1, h2, h3, h4, h5⟩ := h
  rw [show maskP p m = ({ p with b := (BitVec.ofInt 64 m &&& 65534#64) &&& ~~~ 16896#64 }, p.b.toInt, 0) from if_neg hm]
  refine ⟨h1, h2, ?_, h4, h5⟩
  show ((BitVec.ofInt 64 m &&& 65534#64) &&& ~~~ 16896#64).getLsbD 9 = false ∧ ((BitVec.ofInt 64 m &&& 65534#64) &&& ~~~ 16896#64).getLsbD 14 = false
  constructor
  · rw [BitVec.getLsbD_and, show (~~~ 16896#64 : BitVec 64).getLsbD 9 = false from by decide, Bool.and_false]
  · rw [BitVec.getLsbD_and, show (~~~ 16896#64 : BitVec 64).getLsbD 14 = false from by decide, Bool.and_false]

/-- one alone that is open, and not kept off -/
theorem one_open {p : Pi} {k : Nat} (h1 : 1 ≤ k) (h15 : k ≤ 15) (ha : p.a = bitN k) (hb : p.b.getLsbD k = false) : openP p = bitN k := by
  apply BitVec.eq_of_getLsbD_eq
  intro j hj
  rw [open_get, ha, bit_get]
  by_cases e : j = k
  · subst e; rw [hb, decide_eq_true hj, decide_eq_true h1, decide_eq_true h15, decide_eq_true rfl]; rfl
  · rw [decide_eq_false e]; simp
theorem one_next {p : Pi} {k : Nat} (h1 : 1 ≤ k) (h15 : k ≤ 15) (hs : p.s = 1) (ha : p.a = bitN k) (hb : p.b.getLsbD k = false) (hd : p.d.getLsbD k = false) : nextN p = k ∧ nextW p = (if k = 15 then 1 else if k = 14 then 3 else 4) := by
  have ho := one_open h1 h15 ha hb
  have h0 : ¬ (¬ p.s = 1 ∨ openP p = 0#64) := fun h => by
    rcases h with h | h
    · exact h hs
    · have := congrArg (fun v => v.getLsbD k) (ho.symm.trans h)
      simp [bit_get] at this
      omega
  have hn : nextN p = k := by
    have := (nextN_bits h0).2.2
    rw [ho, bit_get] at this
    simp at this
    exact this.2
  refine ⟨hn, ?_⟩
  unfold nextW
  rw [if_neg h0, hn]
  unfold whatN
  rw [if_neg (by rw [hd]; decide)]
theorem deliv_die {p : Pi} {k : Nat} (h1 : 1 ≤ k) (h15 : k ≤ 15) (hk : k ≠ 15 ∧ k ≠ 14) (hs : p.s = 1) (ha : p.a = bitN k) (hb : p.b.getLsbD k = false) (hd : p.d.getLsbD k = false) : (delivN 16 p).2 = ([], k) := by
  have h := one_next h1 h15 hs ha hb hd
  rw [if_neg hk.1, if_neg hk.2] at h
  rw [deliv_4 h.2, h.1]
theorem deliv_stop {p : Pi} (hs : p.s = 1) (ha : p.a = bitN 14) (hb : p.b.getLsbD 14 = false) (hd : p.d.getLsbD 14 = false) : delivN 16 p = ({ clr p 14 with s := 3 }, [], 0) := by
  have h := one_next (k := 14) (by decide) (by decide) hs ha hb hd
  rw [if_neg (by decide), if_pos rfl] at h
  rw [deliv_3 h.2, h.1]

theorem hard_k {p : Pi} (h : Free p) : (delivN 16 (raiseN p 9)).2 = ([], 9) := by
  refine deliv_die (by decide) (by decide) (by decide) ?_ ?_ h.2.2.1.1 h.2.2.2.2.1
  · show (if p.s = 3 ∧ (9 = 15 ∨ 9 = 9) then 1 else p.s) = 1
    rw [h.1]; rfl
  · show (if p.c.getLsbD 9 = false ∨ 9 = 9 ∨ 9 = 14 then p.a ||| bitN 9 else p.a) = _
    rw [if_pos (.inr (.inl rfl)), h.2.1]; rfl
theorem raise14 {p : Pi} (h : Free p) : raiseN p 14 = { p with a := bitN 14 } := by
  refine pi_ext ?_ rfl rfl rfl ?_ rfl rfl rfl rfl
  · show (if p.s = 3 ∧ (14 = 15 ∨ 14 = 9) then 1 else p.s) = _
    rw [if_neg (by omega)]
  · show (if p.c.getLsbD 14 = false ∨ 14 = 9 ∨ 14 = 14 then p.a ||| bitN 14 else p.a) &&& ~~~ 32768#64 = _
    rw [if_pos (.inr (.inr rfl)), h.2.1]; rfl
theorem hard_s {p : Pi} (h : Free p) : delivN 16 (raiseN p 14) = ({ p with s := 3 }, [], 0) := by
  rw [raise14 h, deliv_stop (p := { p with a := bitN 14 }) h.1 rfl h.2.2.1.2 h.2.2.2.2.2]
  have : clr { p with a := bitN 14 } 14 = p := by
    refine pi_ext rfl rfl rfl rfl ?_ rfl rfl rfl rfl
    show bitN 14 &&& ~~~ bitN 14 = p.a
    rw [h.2.1]; rfl
  rw [this]
theorem hard_c {p : Pi} (h : Free p) : (raiseN { p with s := 3 } 15).s = 1 := rfl
theorem hard_e {p : Pi} (h : Free p) : (delivN 16 (raiseN { p with s := 3 } 9)).2 = ([], 9) := by
  refine deliv_die (by decide) (by decide) (by decide) rfl ?_ h.2.2.1.1 h.2.2.2.2.1
  show (if p.c.getLsbD 9 = false ∨ 9 = 9 ∨ 9 = 14 then p.a ||| bitN 9 else p.a) = _
  rw [if_pos (.inr (.inl rfl)), h.2.1]; rfl
theorem hard_n {p : Pi} : nextN { p with s := 3 } = 0 := nextN_zero.2 (.inl (show ¬ (3 : Int) = 1 by decide))
theorem hard_w {p : Pi} : nextW { p with s := 3 } = 0 := nextW_zero.2 (.inl (show ¬ (3 : Int) = 1 by decide))

/-- a call of package sig that comes in -/
structure SOp where
  k : Int
  n : Int
  h : Int
def sopC (o : SOp) : List Value := [I o.k, I o.n, I o.h]
theorem sopC_len (o : SOp) : (sopC o).length = 3 := rfl
end Go.Proofs.YtneeoicjipglkaaDoor.Slot

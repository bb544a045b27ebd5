/-
  Signals: the package's own try; what is delivered where all is caught.
-/
import Derived.Test.YtneeoicjipglkaaDoorSigJ
namespace Go.Proofs.YtneeoicjipglkaaDoor.Slot
open Go Go.Proofs Go.Proofs.YtneeoicjipglkaaDoor.Fx
set_option maxRecDepth 100000
set_option linter.unusedVariables false
set_option linter.unusedSimpArgs false
set_option maxHeartbeats 8000000

def oneP : Pi := { zeroP with s := 1 }
theorem R_oneP {E : Env} {w : World} {d : Option Nat} {ty : TypeId} {pos : String} {after : Array Edge} : (execOp (ev E) (mk d (.build 25 #[(0, .const (.int .i64 1))]) ty pos after)).run Tryd.prog w = .ok (.value (vP oneP)) w :=
  R_buildL (places := [(0, 1), (1, 1), (2, 1), (3, 1), (4, 1), (5, 1), (6, 1), (7, 1), (8, 8)]) (vs := piC oneP) Tryd.underlying25 Tryd.typeInfo25 rfl rfl (by kernel_rfl) rfl rfl rfl
theorem one3_d : (delivN 16 (raiseN oneP 3)).2.2 = 3 := by decide
theorem one3_l : (delivN 16 (raiseN oneP 3)).2.1 = [] := by decide
theorem one3_n : nextN (raiseN oneP 3) = 3 := by decide
theorem one3_w : nextW (raiseN oneP 3) = 4 := by decide

theorem awake_ret {w : World} (hT : TabZ w) : Ret Tryd.prog 12 #[] w fun v w' => v = .bool true ∧ Hp w [] w' := by
  refine Ret_of_W (args := []) Tryd.func12 rfl Tryd.ntmps12 Tryd.results12 (by simp) ?_
  have H := Hp.refl w
  refine W_seq ?_
  refine W_region_l ?_
  refine WL_stepM rfl (R_as) ?_
  refine WL_nil ?_
  refine W_seq ?_
  refine W_region_l ?_
  refine WL_step rfl R_oneP ?_
  (refine WL_call rfl (R_call rfl Tryd.call9 rfl) (raise_yes (p := oneP) (k := 3) (by decide) (by decide) (.inl rfl) _) ?_; rintro _ w8 ⟨rfl, H1⟩; replace H := H.seq0 H1; clear H1)
  refine WL_stepM rfl (R_mv) ?_
  refine WL_step rfl (R_extract rfl rfl) ?_
  refine WL_step rfl (R_extract rfl rfl) ?_
  (refine WL_effn rfl (E_allocP H) ?_; clear H; intro c12 w12 hc12 H)
  (refine WL_effu rfl (E_storeP H rfl rfl .here) ?_; clear H; intro w13 H)
  refine WL_stepM rfl (R_as) ?_
  refine WL_nil ?_
  refine W_seq ?_
  refine W_region_l ?_
  refine WL_step rfl (R_loadP rfl (H.get .here)) ?_
  (refine WL_call rfl (R_call rfl Tryd.call10 rfl) (deliver_ret (raiseN oneP 3) (hT.mono H (by repeat' first | exact kNil | apply kCons | apply kApp | assumption | exact OwnS.keys (by assumption)))) ?_; rintro _ w19 ⟨u, M, rfl, hO, H1⟩; rw [one3_l] at hO; rw [one3_d]; obtain ⟨ao, ca, rfl⟩ := OwnS.form hO; replace H := H.seqD H1 hO.keys; clear H1)
  refine WL_stepM rfl (R_mv) ?_
  refine WL_step rfl (R_extract rfl rfl) ?_
  refine WL_step rfl (R_extract rfl rfl) ?_
  refine WL_step rfl (R_extract rfl rfl) ?_
  (refine WL_effn rfl (E_allocP H) ?_; clear H; intro c24 w24 hc24 H)
  (refine WL_effu rfl (E_storeP H rfl rfl .here) ?_; clear H; intro w25 H)
  refine WL_stepM rfl (R_as) ?_
  refine WL_stepM rfl (R_as) ?_
  refine WL_nil ?_
  refine W_seq ?_
  refine W_region_l ?_
  refine WL_step rfl (R_loadP rfl (H.get (.there .here))) ?_
  (refine WL_call rfl (R_call rfl Tryd.call21 rfl) (sigNext_ret (raiseN oneP 3) (hT.mono H (by repeat' first | exact kNil | apply kCons | apply kApp | assumption | exact OwnS.keys (by assumption)))) ?_; rintro _ w32 ⟨rfl, H1⟩; rw [one3_n, one3_w]; replace H := H.seq0 H1; clear H1)
  refine WL_stepM rfl (R_mv) ?_
  refine WL_step rfl (R_extract rfl rfl) ?_
  refine WL_step rfl (R_extract rfl rfl) ?_
  refine WL_stepM rfl (R_as) ?_
  refine WL_stepM rfl (R_as) ?_
  refine WL_nil ?_
  refine W_seq ?_
  refine W_region_l ?_
  refine WL_stepM rfl (R_mv) ?_
  refine WL_stepM rfl (R_mv) ?_
  refine WL_guard_t rfl rfl ?_
  refine WL_stepM rfl (R_mv) ?_
  refine WL_guard_t rfl rfl ?_
  refine WL_step rfl (R_len_slice Tryd.underlying22 rfl) ?_
  refine WL_guard_t rfl rfl ?_
  refine WL_step rfl (R_eq_t rfl rfl (by decide)) ?_
  refine WL_stepM rfl (R_pk_t rfl) ?_
  refine WL_stepM rfl (R_mv) ?_
  refine WL_guard_t rfl rfl ?_
  refine WL_stepM rfl (R_mv) ?_
  refine WL_guard_t rfl rfl ?_
  refine WL_step rfl (R_eq_t rfl rfl (by omega)) ?_
  refine WL_stepM rfl (R_pk_t rfl) ?_
  refine WL_stepM rfl (R_mv) ?_
  refine WL_guard_t rfl rfl ?_
  refine WL_stepM rfl (R_mv) ?_
  refine WL_guard_t rfl rfl ?_
  refine WL_step rfl (R_eq_t rfl rfl (by omega)) ?_
  refine WL_stepM rfl (R_pk_t rfl) ?_
  refine WL_stepM rfl (R_mv) ?_
  refine WL_guard_t rfl rfl ?_
  refine WL_stepM rfl (R_mv) ?_
  refine WL_guard_t rfl rfl ?_
  refine WL_step rfl (R_eq_t rfl rfl (by omega)) ?_
  refine WL_stepM rfl (R_pk_t rfl) ?_
  refine WL_stepM rfl (R_mv) ?_
  refine WL_guard_t rfl rfl ?_
  refine WL_step rfl (R_loadP rfl (H.get (.there .here))) ?_
  refine WL_guard_t rfl rfl ?_
  (refine WL_call rfl (R_call rfl Tryd.call11 rfl) (wakes_ret (raiseN oneP 3) (hT.mono H (by repeat' first | exact kNil | apply kCons | apply kApp | assumption | exact OwnS.keys (by assumption)))) ?_; rintro _ w72 ⟨rfl, H1⟩; rw [show wakesB (raiseN oneP 3) = true from by unfold wakesB; rw [one3_w]; rfl]; replace H := H.seq0 H1; clear H1)
  refine WL_stepM rfl (R_pk_t rfl) ?_
  refine WL_stepM rfl (R_as) ?_
  refine WL_nil ?_
  refine W_ret ?_
  exact ⟨_, rfl, rfl, H.none (by repeat' first | exact kNil | apply kCons | apply kApp | assumption | exact OwnS.keys (by assumption))⟩

/-- the bits of a number, the least first -/
def bitsL (x : BitVec 64) : List Nat := (List.range 16).filter fun k => x.getLsbD k
theorem bitsL_mem {x : BitVec 64} {k : Nat} : k ∈ bitsL x ↔ k < 16 ∧ x.getLsbD k = true := by
  unfold bitsL; rw [List.mem_filter, List.mem_range]
theorem filter_head {f : Nat → Bool} {k : Nat} : ∀ (n a : Nat), a ≤ k → k < a + n → f k = true → (∀ j, a ≤ j → j < k → f j = false) →
    (List.range' a n).filter f = k :: (List.range' a n).filter (fun j => f j && !decide (j = k))
  | 0, a, h1, h2, _, _ => by omega
  | n + 1, a, h1, h2, hk, hl => by
    rw [List.range'_succ, List.filter_cons, List.filter_cons]
    by_cases hak : a = k
    · subst hak
      rw [if_pos hk, if_neg (by simp)]
      congr 1
      refine List.filter_congr fun j hj => ?_
      have := (List.mem_range'_1.1 hj).1
      simp [show ¬ j = a by omega]
    · have hfa : f a = false := hl a (by omega) (by omega)
      rw [if_neg (by simp [hfa]), if_neg (by simp [hfa])]
      exact filter_head n (a + 1) (by omega) (by omega) hk (fun j h h' => hl j (by omega) h')
theorem bitsL_cons {x : BitVec 64} {k : Nat} (h : IsLow x k) (hk : k < 16) : bitsL x = k :: bitsL (x &&& ~~~ bitN k) := by
  unfold bitsL
  rw [List.range_eq_range', filter_head 16 0 (by omega) (by omega) h.1 (fun j _ hj => h.2 j hj)]
  congr 1
  refine List.filter_congr fun j hj => ?_
  have := (List.mem_range'_1.1 hj).2
  rw [BitVec.getLsbD_and, BitVec.getLsbD_not, bit_get]
  simp [show j < 64 by omega]
theorem bitsL_none {x : BitVec 64} (h : x = 0#64) : bitsL x = [] := by
  subst h; rfl

/-- all that is open is caught, or is 15 -/
def Caught (p : Pi) : Prop := p.s = 1 ∧ (openP p).getLsbD 9 = false ∧ ∀ k, (openP p).getLsbD k = true → p.d.getLsbD k = true ∨ k = 15
theorem open_clr' (p : Pi) (k : Nat) : openP (clr p k) = openP p &&& ~~~ bitN k := by
  apply BitVec.eq_of_getLsbD_eq
  intro j hj
  rw [open_clr, BitVec.getLsbD_and, BitVec.getLsbD_not, bit_get]
  simp [hj]
theorem Caught.next {p : Pi} (h : Caught p) (h0 : ¬ openP p = 0#64) : IsLow (openP p) (nextN p) ∧ 1 ≤ nextN p ∧ nextN p ≤ 15 := by
  have e : nextN p = lowFrom (openP p) 15 1 := by
    unfold nextN
    rw [if_neg (fun h' => h'.elim (fun h' => h' h.1) h0), if_neg (by rw [h.2.1]; decide)]
  rw [e]; exact open_low h0
theorem Caught.clr {p : Pi} (h : Caught p) (k : Nat) : Caught (clr p k) := by
  refine ⟨h.1, ?_, fun j hj => ?_⟩
  · rw [open_clr, h.2.1]; rfl
  · rw [open_clr] at hj
    exact h.2.2 j (by cases hx : (openP p).getLsbD j <;> simp_all)
theorem and_low {a x : BitVec 64} {k : Nat} (hx : x.getLsbD k = true) : (a &&& ~~~ bitN k) &&& ~~~ (x &&& ~~~ bitN k) = a &&& ~~~ x := by
  apply BitVec.eq_of_getLsbD_eq
  intro j hj
  simp only [BitVec.getLsbD_and, BitVec.getLsbD_not, bit_get, hj, decide_true, Bool.true_and]
  by_cases e : j = k
  · subst e; rw [hx]; cases a.getLsbD j <;> simp
  · cases a.getLsbD j <;> cases x.getLsbD j <;> simp [e]
theorem caught_deliv : ∀ (n : Nat) (p : Pi), Caught p → cntP p ≤ n → delivN n p = ({ p with a := p.a &&& ~~~ openP p }, (bitsL (openP p)).filter (fun k => p.d.getLsbD k), 0)
  | n, p, h, hn => by
    by_cases h0 : openP p = 0#64
    · rw [deliv_none (nextW_zero.2 (.inr h0)), h0, bitsL_none rfl]
      have : p.a &&& ~~~ 0#64 = p.a := by
        apply BitVec.eq_of_getLsbD_eq
        intro j hj
        rw [BitVec.getLsbD_and, BitVec.getLsbD_not, BitVec.getLsbD_zero, decide_eq_true hj]
        simp
      rw [this]; rfl
    · have hl := h.next h0
      have hw0 : nextW p = whatN p (nextN p) := if_neg (fun h' => h'.elim (fun h' => h' h.1) h0)
      have hne : ¬ nextW p = 0 := by rw [hw0]; have := whatN_pos p (nextN p); omega
      have hc := cnt_clr hne
      cases n with
      | zero => omega
      | succ n =>
        have ih := caught_deliv n (Slot.clr p (nextN p)) (h.clr _) (by omega)
        rw [open_clr'] at ih
        have hb := bitsL_cons hl.1 (by omega)
        have ha : (Slot.clr p (nextN p)).a &&& ~~~ (openP p &&& ~~~ bitN (nextN p)) = p.a &&& ~~~ openP p := and_low hl.1.1
        rcases h.2.2 _ hl.1.1 with hd | h15
        · have hw : nextW p = 2 := by rw [hw0]; unfold whatN; rw [if_pos hd]
          rw [deliv_2 hw, ih, ha, hb, List.filter_cons, if_pos hd]
          rfl
        · by_cases hd : p.d.getLsbD (nextN p) = true
          · have hw : nextW p = 2 := by rw [hw0]; unfold whatN; rw [if_pos hd]
            rw [deliv_2 hw, ih, ha, hb, List.filter_cons, if_pos hd]
            rfl
          · have hw : nextW p = 1 := by rw [hw0]; unfold whatN; rw [if_neg hd, if_pos h15]
            rw [deliv_1 hw, ih, ha, hb, List.filter_cons, if_neg hd]
            rfl
end Go.Proofs.YtneeoicjipglkaaDoor.Slot

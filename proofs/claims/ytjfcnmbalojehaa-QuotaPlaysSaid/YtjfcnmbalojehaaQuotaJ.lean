/-
  The document's Quota: frames taken and given back.
-/
import Derived.Test.YtjfcnmbalojehaaQuotaI
namespace Go.Proofs.Ytjfcnmbalojehaa.Quota
open Go Go.Proofs Go.Proofs.Ytjfcnmbalojehaa.Fx
set_option maxRecDepth 100000
set_option linter.unusedVariables false
set_option linter.unusedSimpArgs false
set_option maxHeartbeats 1000000

section
variable {w0 w : World} {p : Nat} {uv : Value} {ins : List (Nat × List Int)} {Mo R : List (Nat × Obj)}

/-- a Quota that one holds -/
structure HasR (w0 w : World) (p : Nat) (uv : Value) (ins : List (Nat × List Int)) (Mo R : List (Nat × Obj)) : Prop where
  hO : OwnQ w0.heap.size 69 uv (qVals ins) Mo
  H : Hp w0 (rBlks ins ++ (Mo ++ ((p, blk [uv] 105) :: R))) w
  len : ins.length ≤ 4
  small : ∀ x ∈ ins, x.2.length ≤ 64
  bits : ∀ x ∈ ins, ∀ y ∈ x.2, y = 0 ∨ y = 1

theorem HasR.sees (h : HasR w0 w p uv ins Mo R) : SeesR w p uv ins :=
  ⟨h.H.held (p, blk [uv] 105) (by simp), h.hO.rds fun q hq => h.H.held q (by simp [hq]), fun x hx => h.H.held (x.1, blk (x.2.map bV) 4) (List.mem_append.2 (.inl (List.mem_map.2 ⟨x, hx, rfl⟩))), h.len, h.small, h.bits⟩
theorem HasR.next {w' : World} (h : HasR w0 w p uv ins Mo R) (H' : Hp w [] w') : HasR w0 w' p uv ins Mo R := ⟨h.hO, h.H.seq0 H', h.len, h.small, h.bits⟩
theorem HasR.set {w' : World} (h : HasR w0 w p uv ins Mo R) {s k v : Int} (hs : 0 ≤ s ∧ s < ins.length) (hk : 0 ≤ k) (hv : v = 0 ∨ v = 1) {A C : List (Nat × List Int)} (hA : ∀ x, ins.set s.toNat x = A ++ x :: C) (he : ins = A ++ rowD ins s :: C)
    (H' : Hp w0 (rBlks A ++ (((rowD ins s).1, blk (((rowD ins s).2.map bV).set k.toNat (bV v)) 4) :: (rBlks C ++ (Mo ++ ((p, blk [uv] 105) :: R))))) w') : HasR w0 w' p uv (setQ ins s k v) Mo R := by
  have hq : setQ ins s k v = A ++ ((rowD ins s).1, (rowD ins s).2.set k.toNat v) :: C := hA _
  have hv2 : qVals (setQ ins s k v) = qVals ins := by
    rw [hq]
    conv => rhs; rw [he]
    simp [qVals]
  have hin : ∀ x ∈ setQ ins s k v, x ∈ ins ∨ x = ((rowD ins s).1, (rowD ins s).2.set k.toNat v) := by
    intro x hx
    unfold setQ at hx
    rcases List.mem_or_eq_of_mem_set hx with h1 | h1
    · exact .inl h1
    · exact .inr h1
  refine ⟨by rw [hv2]; exact h.hO, ?_, ?_, ?_, ?_⟩
  · rw [hq]
    rw [List.map_set.symm] at H'
    simpa [rBlks, List.append_assoc] using H'
  · unfold setQ; rw [List.length_set]; exact h.len
  · intro x hx
    rcases hin x hx with h1 | rfl
    · exact h.small x h1
    · show ((rowD ins s).2.set k.toNat v).length ≤ 64
      rw [List.length_set]; exact h.small _ (rowD_mem hs)
  · intro x hx y hy
    rcases hin x hx with h1 | rfl
    · exact h.bits x h1 y hy
    · rcases List.mem_or_eq_of_mem_set hy with h2 | h2
      · exact h.bits _ (rowD_mem hs) y h2
      · rw [h2]; exact hv

theorem HasR.shut (h : HasR w0 w p uv ins Mo R) {A C : List (Nat × List Int)} {s : Int} (he : ins = A ++ rowD ins s :: C) :
    Hp w0 (rBlks A ++ (((rowD ins s).1, blk ((rowD ins s).2.map bV) 4) :: (rBlks C ++ (Mo ++ ((p, blk [uv] 105) :: R))))) w := by
  have := h.H
  rw [show rBlks ins = rBlks (A ++ rowD ins s :: C) by rw [← he]] at this
  simpa [rBlks, List.append_assoc] using this


theorem freeR_ret (s k : Int) (hH : HasR w0 w p uv ins Mo R) :
    Ret Try.prog 54 #[ptr p 0, I s, I k] w fun v w' => v = I (freeQ ins s k).2 ∧ HasR w0 w' p uv (freeQ ins s k).1 Mo R := by
  refine Ret_of_W (args := [_, _, _]) Try.func54 rfl Try.ntmps54 Try.results54 (by simp) ?_
  have hS := hH.sees
  have hl4 := hH.len
  obtain ⟨ao, ca, rfl⟩ := hS.form
  by_cases hs : 0 ≤ s ∧ s < ins.length
  · by_cases hz : ownP ins s k
    · obtain ⟨b1, o1, rfl, hc1⟩ := hS.cell hs
      have h64 := hS.small _ (rowD_mem hs)
      obtain ⟨A, C, he, hA⟩ := split_ins hs
      have H := hH.shut he
      have hk0 := hz.1.1.2
      have hk1 := hz.1.2
      refine W_seq ?_
      refine W_region_l ?_
      refine WL_stepM rfl (R_as) ?_
      refine WL_nil ?_
      refine W_seq ?_
      refine W_seq ?_
      refine W_region_l ?_
      refine WL_stepM rfl (R_mv) ?_
      refine WL_step rfl (R_lt_f rfl rfl (by omega)) ?_
      refine WL_stepM rfl (R_mv) ?_
      refine WL_guard_t rfl rfl ?_
      refine WL_stepM rfl (R_mv) ?_
      refine WL_guard_t rfl rfl ?_
      refine WL_stepM rfl (R_mv) ?_
      refine WL_guard_t rfl rfl ?_
      refine WL_step rfl (R_nilCheck rfl) ?_
      refine WL_guard_t rfl rfl ?_
      refine WL_step rfl (R_fieldAddr (off' := 0) Try.underlying105 rfl Try.sizeOf103 (by decide) rfl rfl) ?_
      refine WL_guard_t rfl rfl ?_
      refine WL_step rfl (R_load Try.isAgg103 rfl hS.obj rfl) ?_
      refine WL_guard_t rfl rfl ?_
      refine WL_step rfl (R_len_slice Try.underlying103 rfl) ?_
      refine WL_guard_t rfl rfl ?_
      refine WL_step rfl (R_ge_f rfl rfl (by omega)) ?_
      refine WL_stepM rfl (R_pk_f rfl) ?_
      refine WL_nil ?_
      refine W_cond_f rfl ?_
      refine W_skip ?_
      refine W_seq ?_
      refine W_seq ?_
      refine W_region_l ?_
      refine WL_stepM rfl (R_mv) ?_
      refine WL_stepM rfl (R_mv) ?_
      refine WL_stepM rfl (R_mv) ?_
      (refine WL_call rfl (R_call rfl Try.call55 rfl) (ownsR_ret s k hS) ?_; rintro _ w35 ⟨rfl, H1⟩; replace H := H.seq0 H1; replace hS := hS.at_ H1; replace hc1 := H1.cellN hc1 kNil; clear H1; rw [decide_eq_true hz])
      refine WL_step rfl (R_not_t rfl) ?_
      refine WL_nil ?_
      refine W_cond_f rfl ?_
      refine W_skip ?_
      refine W_seq ?_
      refine W_region_l ?_
      refine WL_stepM rfl (R_mv) ?_
      refine WL_step rfl (R_nilCheck rfl) ?_
      refine WL_step rfl (R_fieldAddr (off' := 0) Try.underlying105 rfl Try.sizeOf103 (by decide) rfl rfl) ?_
      refine WL_step rfl (R_load Try.isAgg103 rfl hS.obj rfl) ?_
      refine WL_stepM rfl (R_mv) ?_
      refine WL_step rfl (R_indexAddr (off' := o1 + s.toNat) Try.underlying103 Try.sizeOf69 rfl rfl (by omega) (by omega) (by simp)) ?_
      refine WL_step rfl (R_load_cell Try.isAgg69 rfl hc1) ?_
      refine WL_stepM rfl (R_mv) ?_
      refine WL_step rfl (R_indexAddr (off' := k.toNat) Try.underlying69 Try.sizeOf4 rfl rfl (by omega) (by omega) (by simp)) ?_
      (refine WL_effu rfl (E_store (v := (.bool _)) H Try.sizeOf4 rfl rfl rfl (.app _ .here) (by simp; omega)) ?_; clear H; intro w51 H)
      refine WL_nil ?_
      refine W_seq ?_
      refine W_region_l ?_
      refine WL_stepM rfl (R_as) ?_
      refine WL_nil ?_
      refine W_ret ?_
      (have e : freeQ ins s k = (setQ ins s k 0, 0) := (by unfold freeQ; rw [if_pos hs, if_pos hz]); have e2 : I 0 = I (freeQ ins s k).2 := (by rw [e]); exact ⟨_, rfl, e2, by rw [e]; exact hH.set hs hk0 (.inl rfl) hA he H⟩)
    · have H := Hp.refl w
      refine W_seq ?_
      refine W_region_l ?_
      refine WL_stepM rfl (R_as) ?_
      refine WL_nil ?_
      refine W_seq ?_
      refine W_seq ?_
      refine W_region_l ?_
      refine WL_stepM rfl (R_mv) ?_
      refine WL_step rfl (R_lt_f rfl rfl (by omega)) ?_
      refine WL_stepM rfl (R_mv) ?_
      refine WL_guard_t rfl rfl ?_
      refine WL_stepM rfl (R_mv) ?_
      refine WL_guard_t rfl rfl ?_
      refine WL_stepM rfl (R_mv) ?_
      refine WL_guard_t rfl rfl ?_
      refine WL_step rfl (R_nilCheck rfl) ?_
      refine WL_guard_t rfl rfl ?_
      refine WL_step rfl (R_fieldAddr (off' := 0) Try.underlying105 rfl Try.sizeOf103 (by decide) rfl rfl) ?_
      refine WL_guard_t rfl rfl ?_
      refine WL_step rfl (R_load Try.isAgg103 rfl (hS.at_ H).obj rfl) ?_
      refine WL_guard_t rfl rfl ?_
      refine WL_step rfl (R_len_slice Try.underlying103 rfl) ?_
      refine WL_guard_t rfl rfl ?_
      refine WL_step rfl (R_ge_f rfl rfl (by omega)) ?_
      refine WL_stepM rfl (R_pk_f rfl) ?_
      refine WL_nil ?_
      refine W_cond_f rfl ?_
      refine W_skip ?_
      refine W_seq ?_
      refine W_seq ?_
      refine W_region_l ?_
      refine WL_stepM rfl (R_mv) ?_
      refine WL_stepM rfl (R_mv) ?_
      refine WL_stepM rfl (R_mv) ?_
      (refine WL_call rfl (R_call rfl Try.call55 rfl) (ownsR_ret s k (hS.at_ H)) ?_; rintro _ w35 ⟨rfl, H1⟩; rw [decide_eq_false hz]; replace H := H.seq0 H1; clear H1)
      refine WL_step rfl (R_not_f rfl) ?_
      refine WL_nil ?_
      refine W_cond_t rfl ?_
      refine W_seq ?_
      refine W_region_l ?_
      refine WL_stepM rfl (R_as) ?_
      refine WL_nil ?_
      refine W_ret ?_
      (have e : freeQ ins s k = (ins, 5) := (by unfold freeQ; rw [if_pos hs, if_neg hz]); have e2 : I 5 = I (freeQ ins s k).2 := (by rw [e]); exact ⟨_, rfl, e2, by rw [e]; exact hH.next H⟩)
  · have H := Hp.refl w
    refine W_seq ?_
    refine W_region_l ?_
    refine WL_stepM rfl (R_as) ?_
    refine WL_nil ?_
    refine W_seq ?_
    refine W_seq ?_
    refine W_region_l ?_
    refine WL_stepM rfl (R_mv) ?_
    refine WL_step rfl (R_lt rfl rfl) ?_
    refine WL_stepM rfl (R_mv) ?_
    apply WL_orK 8 9 17 [(10, 17)] H
    case hc => rfl
    case h1 =>
      intro h11
      refine WL_guard_t rfl rfl ?_
      refine WL_stepM rfl (R_mv) ?_
      refine WL_guard_t rfl rfl ?_
      refine WL_stepM rfl (R_mv) ?_
      refine WL_guard_t rfl rfl ?_
      refine WL_step rfl (R_nilCheck rfl) ?_
      refine WL_guard_t rfl rfl ?_
      refine WL_step rfl (R_fieldAddr (off' := 0) Try.underlying105 rfl Try.sizeOf103 (by decide) rfl rfl) ?_
      refine WL_guard_t rfl rfl ?_
      refine WL_step rfl (R_load Try.isAgg103 rfl (hS.at_ H).obj rfl) ?_
      refine WL_guard_t rfl rfl ?_
      refine WL_step rfl (R_len_slice Try.underlying103 rfl) ?_
      refine WL_guard_t rfl rfl ?_
      refine WL_step rfl (R_ge rfl rfl) ?_
      refine WL_stepM rfl (R_pk_f rfl) ?_
      refine WL_nil ?_
      exact ⟨(by repeat' first | with_reducible exact Same.refl | refine same_updo rfl ?_ | refine same_mov rfl ?_ | refine same_upd rfl ?_ | refine same_updn ?_ | refine same_know rfl ?_ | exact same_ovr | refine same_in rfl ?_ | exact Same.refl), rfl, H⟩
    case h0 =>
      intro h11
      refine WL_guard_f rfl rfl (by decide) ?_
      refine WL_guard_f rfl rfl (by decide) ?_
      refine WL_guard_f rfl rfl (by decide) ?_
      refine WL_guard_f rfl rfl (by decide) ?_
      refine WL_guard_f rfl rfl (by decide) ?_
      refine WL_guard_f rfl rfl (by decide) ?_
      refine WL_guard_f rfl rfl (by decide) ?_
      refine WL_stepM rfl (R_pk_t rfl) ?_
      refine WL_nil ?_
      exact ⟨(by repeat' first | with_reducible exact Same.refl | refine same_updo rfl ?_ | refine same_mov rfl ?_ | refine same_upd rfl ?_ | refine same_updn ?_ | refine same_know rfl ?_ | exact same_ovr | refine same_in rfl ?_ | exact Same.refl), rfl, H⟩
    case h2 =>
      (clear H; intro E11 w11 H)
      refine WL_nil ?_
      refine W_if rfl (fun h40 => ?_) (fun h40 => ?_)
      · refine W_seq ?_
        refine W_region_l ?_
        refine WL_stepM rfl (R_as) ?_
        refine WL_nil ?_
        refine W_ret ?_
        (have e : freeQ ins s k = (ins, 1) := if_neg hs; have e2 : I 1 = I (freeQ ins s k).2 := (by rw [e]); exact ⟨_, rfl, e2, by rw [e]; exact hH.next H⟩)
      · refine W_skip ?_
        refine W_seq ?_
        refine W_seq ?_
        refine W_region_l ?_
        refine WL_stepM rfl (R_mv) ?_
        refine WL_stepM rfl (R_mv) ?_
        refine WL_stepM rfl (R_mv) ?_
        exact (by omega : False).elim

theorem idx_ahead {r : List Int} (h : ∀ y ∈ r, y = 0 ∨ y = 1) {i : Nat} (hi : i < r.length) (hb : ∀ j, j < i → r.getD j 0 = 1) (h0 : r.getD i 0 ≠ 1) : (0 : Int) ∈ r ∧ idx r 0 = (i : Int) := by
  have e0 : r[i] = 0 := by
    rw [List.getD_eq_getElem?_getD, List.getElem?_eq_getElem hi] at h0
    exact (h _ (List.getElem_mem hi)).resolve_right h0
  refine ⟨e0 ▸ List.getElem_mem hi, idx_drop hi (fun j hj => ?_) e0.symm⟩
  have := hb j hj
  rw [List.getD_eq_getElem?_getD, List.getElem?_eq_getElem (by omega)] at this
  intro e
  rw [show r[j] = 1 from this] at e
  cases e
theorem idx_none1 {r : List Int} (hb : ∀ j, j < r.length → r.getD j 0 = 1) : ¬ (0 : Int) ∈ r := by
  intro hm
  obtain ⟨j, hj, he⟩ := List.getElem_of_mem hm
  have := hb j hj
  rw [List.getD_eq_getElem?_getD, List.getElem?_eq_getElem hj] at this
  rw [show r[j] = 1 from this] at he
  cases he

theorem allocR_ret (s : Int) (hH : HasR w0 w p uv ins Mo R) :
    Ret Try.prog 52 #[ptr p 0, I s] w fun v w' => v = .tuple #[I (allocQ ins s).2.1, I (allocQ ins s).2.2] ∧ HasR w0 w' p uv (allocQ ins s).1 Mo R := by
  refine Ret_of_W (args := [_, _]) Try.func52 rfl Try.ntmps52 Try.results52 (by simp) ?_
  have hS := hH.sees
  have hl4 := hH.len
  obtain ⟨ao, ca, rfl⟩ := hS.form
  by_cases hs : 0 ≤ s ∧ s < ins.length
  · obtain ⟨b1, o1, rfl, hc1⟩ := hS.cell hs
    have h64 := hS.small _ (rowD_mem hs)
    have hbits := hS.bits _ (rowD_mem hs)
    obtain ⟨A, C, he, hA⟩ := split_ins hs
    have H := Hp.refl w
    refine W_seq ?_
    refine W_region_l ?_
    refine WL_stepM rfl (R_as) ?_
    refine WL_stepM rfl (R_as) ?_
    refine WL_nil ?_
    refine W_seq ?_
    refine W_seq ?_
    refine W_region_l ?_
    refine WL_stepM rfl (R_mv) ?_
    refine WL_step rfl (R_lt_f rfl rfl (by omega)) ?_
    refine WL_stepM rfl (R_mv) ?_
    refine WL_guard_t rfl rfl ?_
    refine WL_stepM rfl (R_mv) ?_
    refine WL_guard_t rfl rfl ?_
    refine WL_stepM rfl (R_mv) ?_
    refine WL_guard_t rfl rfl ?_
    refine WL_step rfl (R_nilCheck rfl) ?_
    refine WL_guard_t rfl rfl ?_
    refine WL_step rfl (R_fieldAddr (off' := 0) Try.underlying105 rfl Try.sizeOf103 (by decide) rfl rfl) ?_
    refine WL_guard_t rfl rfl ?_
    refine WL_step rfl (R_load Try.isAgg103 rfl (hS.at_ H).obj rfl) ?_
    refine WL_guard_t rfl rfl ?_
    refine WL_step rfl (R_len_slice Try.underlying103 rfl) ?_
    refine WL_guard_t rfl rfl ?_
    refine WL_step rfl (R_ge_f rfl rfl (by omega)) ?_
    refine WL_stepM rfl (R_pk_f rfl) ?_
    refine WL_nil ?_
    refine W_cond_f rfl ?_
    refine W_skip ?_
    refine W_seq ?_
    refine W_seq ?_
    refine W_region_l ?_
    refine WL_stepM rfl (R_as) ?_
    refine WL_nil ?_
    refine W_block ?_
    refine W_loopS [(4, 6), (18, 50)] (fun (i : Nat) E w' => i ≤ (rowD ins s).2.length ∧ E 6 = I i ∧ (∀ j, j < i → (rowD ins s).2.getD j 0 = 1) ∧ Hp w [] w') (fun i => (rowD ins s).2.length - i) 0 ?e0 ?r0
    · exact ⟨by omega, rfl, fun j hj => by omega, H⟩
    · (clear H; rintro i E w1 ⟨hi, h0, hbef, H⟩; refine W_kn h0 ?_)
      refine W_seq ?_
      refine W_seq ?_
      refine W_region_l ?_
      refine WL_stepM rfl (R_mv) ?_
      refine WL_stepM rfl (R_mv) ?_
      refine WL_step rfl (R_nilCheck rfl) ?_
      refine WL_step rfl (R_fieldAddr (off' := 0) Try.underlying105 rfl Try.sizeOf103 (by decide) rfl rfl) ?_
      refine WL_step rfl (R_load Try.isAgg103 rfl (hS.at_ H).obj rfl) ?_
      refine WL_stepM rfl (R_mv) ?_
      refine WL_step rfl (R_indexAddr (off' := o1 + s.toNat) Try.underlying103 Try.sizeOf69 rfl rfl (by omega) (by omega) (by simp)) ?_
      refine WL_step rfl (R_load_cell Try.isAgg69 rfl (H.cellN hc1 kNil)) ?_
      refine WL_step rfl (R_len_slice Try.underlying69 rfl) ?_
      refine WL_step rfl (R_lt rfl rfl) ?_
      refine WL_nil ?_
      refine W_if rfl (fun h52 => ?_) (fun h52 => ?_)
      · refine W_skip ?_
        refine W_seq ?_
        refine W_block ?_
        refine W_seq ?_
        refine W_region_l ?_
        refine WL_stepM rfl (R_mv) ?_
        refine WL_step rfl (R_nilCheck rfl) ?_
        refine WL_step rfl (R_fieldAddr (off' := 0) Try.underlying105 rfl Try.sizeOf103 (by decide) rfl rfl) ?_
        refine WL_step rfl (R_load Try.isAgg103 rfl (hS.at_ H).obj rfl) ?_
        refine WL_stepM rfl (R_mv) ?_
        refine WL_step rfl (R_indexAddr (off' := o1 + s.toNat) Try.underlying103 Try.sizeOf69 rfl rfl (by omega) (by omega) (by simp)) ?_
        refine WL_step rfl (R_load_cell Try.isAgg69 rfl (H.cellN hc1 kNil)) ?_
        refine WL_stepM rfl (R_mv) ?_
        refine WL_step rfl (R_indexAddr Try.underlying69 Try.sizeOf4 rfl rfl (by omega) (by omega) idx0_cast) ?_
        refine WL_step rfl (R_load_cell Try.isAgg4 rfl (by have := (hS.at_ H).row hs (k := (i : Int)) ⟨by omega, by omega⟩; rwa [Int.toNat_natCast] at this)) ?_
        refine WL_step rfl (R_not_d rfl) ?_
        refine WL_nil ?_
        refine W_if rfl (fun h70 => ?_) (fun h70 => ?_)
        · refine W_seq ?_
          ((obtain ⟨hz, hix⟩ := idx_ahead hbits (show i < (rowD ins s).2.length by omega) hbef (by assumption); have hS1 := hS.at_ H; have hc2 := H.cellN hc1 kNil; have hH1 := hH.next H; clear H; have H := hH1.shut he)) <;> refine W_region_l ?_
          refine WL_stepM rfl (R_mv) ?_
          refine WL_step rfl (R_nilCheck rfl) ?_
          refine WL_step rfl (R_fieldAddr (off' := 0) Try.underlying105 rfl Try.sizeOf103 (by decide) rfl rfl) ?_
          refine WL_step rfl (R_load Try.isAgg103 rfl hS1.obj rfl) ?_
          refine WL_stepM rfl (R_mv) ?_
          refine WL_step rfl (R_indexAddr (off' := o1 + s.toNat) Try.underlying103 Try.sizeOf69 rfl rfl (by omega) (by omega) (by simp)) ?_
          refine WL_step rfl (R_load_cell Try.isAgg69 rfl hc2) ?_
          refine WL_stepM rfl (R_mv) ?_
          refine WL_step rfl (R_indexAddr Try.underlying69 Try.sizeOf4 rfl rfl (by omega) (by omega) idx0_cast) ?_
          (refine WL_effu rfl (E_store (v := (.bool _)) H Try.sizeOf4 rfl rfl rfl (.app _ .here) (by simp; omega)) ?_; clear H; intro w82 H)
          refine WL_nil ?_
          refine W_seq ?_
          refine W_region_l ?_
          refine WL_stepM rfl (R_mv) ?_
          refine WL_stepM rfl (R_as) ?_
          refine WL_stepM rfl (R_as) ?_
          refine WL_nil ?_
          refine W_ret ?_
          (have e : allocQ ins s = (setQ ins s i 1, (i : Int), 0) := (by unfold allocQ; rw [if_pos hs, if_pos hz, hix]); exact ⟨_, rfl, by rw [e]; rfl, by rw [e]; exact hH.set hs (Int.natCast_nonneg i) (.inr rfl) hA he (by rw [Int.toNat_natCast]; exact H)⟩)
        · refine W_skip ?_
          refine W_region_l ?_
          refine WL_stepM rfl (R_mv) ?_
          refine WL_step rfl (R_add rfl rfl (w_i64 (by omega))) ?_
          refine WL_stepM rfl (R_as) ?_
          refine WL_nil ?_
          exact ⟨(by repeat' first | with_reducible exact Same.refl | refine same_updo rfl ?_ | refine same_mov rfl ?_ | refine same_upd rfl ?_ | refine same_updn ?_ | refine same_know rfl ?_ | exact same_ovr | refine same_in rfl ?_ | exact Same.refl), i + 1, by omega, by omega, rfl, (fun j hj => by rcases Nat.lt_or_ge j i with h' | h'; exact hbef j h'; obtain rfl : j = i := (by omega); first | assumption | exact Decidable.of_not_not (by assumption)), H⟩
      · refine W_exit ?_
        refine (if_pos rfl).mpr ?_
        refine W_seq ?_
        refine W_region_l ?_
        refine WL_stepM rfl (R_as) ?_
        refine WL_stepM rfl (R_as) ?_
        refine WL_nil ?_
        refine W_ret ?_
        (obtain rfl : i = (rowD ins s).2.length := (by omega); have e : allocQ ins s = (ins, 0, 4) := (by unfold allocQ; rw [if_pos hs, if_neg (idx_none1 hbef)]); exact ⟨_, rfl, by rw [e]; rfl, by rw [e]; exact hH.next H⟩)
  · have H := Hp.refl w
    refine W_seq ?_
    refine W_region_l ?_
    refine WL_stepM rfl (R_as) ?_
    refine WL_stepM rfl (R_as) ?_
    refine WL_nil ?_
    refine W_seq ?_
    refine W_seq ?_
    refine W_region_l ?_
    refine WL_stepM rfl (R_mv) ?_
    refine WL_step rfl (R_lt rfl rfl) ?_
    refine WL_stepM rfl (R_mv) ?_
    apply WL_orK 8 9 17 [(10, 17)] H
    case hc => rfl
    case h1 =>
      intro h12
      refine WL_guard_t rfl rfl ?_
      refine WL_stepM rfl (R_mv) ?_
      refine WL_guard_t rfl rfl ?_
      refine WL_stepM rfl (R_mv) ?_
      refine WL_guard_t rfl rfl ?_
      refine WL_step rfl (R_nilCheck rfl) ?_
      refine WL_guard_t rfl rfl ?_
      refine WL_step rfl (R_fieldAddr (off' := 0) Try.underlying105 rfl Try.sizeOf103 (by decide) rfl rfl) ?_
      refine WL_guard_t rfl rfl ?_
      refine WL_step rfl (R_load Try.isAgg103 rfl (hS.at_ H).obj rfl) ?_
      refine WL_guard_t rfl rfl ?_
      refine WL_step rfl (R_len_slice Try.underlying103 rfl) ?_
      refine WL_guard_t rfl rfl ?_
      refine WL_step rfl (R_ge rfl rfl) ?_
      refine WL_stepM rfl (R_pk_f rfl) ?_
      refine WL_nil ?_
      exact ⟨(by repeat' first | with_reducible exact Same.refl | refine same_updo rfl ?_ | refine same_mov rfl ?_ | refine same_upd rfl ?_ | refine same_updn ?_ | refine same_know rfl ?_ | exact same_ovr | refine same_in rfl ?_ | exact Same.refl), rfl, H⟩
    case h0 =>
      intro h12
      refine WL_guard_f rfl rfl (by decide) ?_
      refine WL_guard_f rfl rfl (by decide) ?_
      refine WL_guard_f rfl rfl (by decide) ?_
      refine WL_guard_f rfl rfl (by decide) ?_
      refine WL_guard_f rfl rfl (by decide) ?_
      refine WL_guard_f rfl rfl (by decide) ?_
      refine WL_guard_f rfl rfl (by decide) ?_
      refine WL_stepM rfl (R_pk_t rfl) ?_
      refine WL_nil ?_
      exact ⟨(by repeat' first | with_reducible exact Same.refl | refine same_updo rfl ?_ | refine same_mov rfl ?_ | refine same_upd rfl ?_ | refine same_updn ?_ | refine same_know rfl ?_ | exact same_ovr | refine same_in rfl ?_ | exact Same.refl), rfl, H⟩
    case h2 =>
      (clear H; intro E12 w12 H)
      refine WL_nil ?_
      refine W_if rfl (fun h41 => ?_) (fun h41 => ?_)
      · refine W_seq ?_
        refine W_region_l ?_
        refine WL_stepM rfl (R_as) ?_
        refine WL_stepM rfl (R_as) ?_
        refine WL_nil ?_
        refine W_ret ?_
        (have e : allocQ ins s = (ins, 0, 1) := if_neg hs; exact ⟨_, rfl, by rw [e]; rfl, by rw [e]; exact hH.next H⟩)
      · refine W_skip ?_
        refine W_seq ?_
        refine W_seq ?_
        refine W_region_l ?_
        refine WL_stepM rfl (R_as) ?_
        refine WL_nil ?_
        refine W_block ?_
        exact (by omega : False).elim
end
end Go.Proofs.Ytjfcnmbalojehaa.Quota

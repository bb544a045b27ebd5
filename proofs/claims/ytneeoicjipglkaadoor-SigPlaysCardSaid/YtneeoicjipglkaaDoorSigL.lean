/-
  The law SigIgnored.
-/
import Derived.Test.YtneeoicjipglkaaDoorSigK
import Derived.Test.YtneeoicjipglkaaDoorEqP
namespace Go.Proofs.YtneeoicjipglkaaDoor.Slot
open Go Go.Proofs Go.Proofs.YtneeoicjipglkaaDoor.Fx
set_option maxRecDepth 100000
set_option linter.unusedVariables false
set_option linter.unusedSimpArgs false
set_option maxHeartbeats 8000000

theorem raise_s {p : Pi} {k : Nat} (h8 : k ≤ 8) : (raiseN p k).s = p.s := by
  show (if p.s = 3 ∧ (k = 15 ∨ k = 9) then 1 else p.s) = p.s
  rw [if_neg (by omega)]
theorem raise_a {p : Pi} {k : Nat} (h8 : k ≤ 8) : (raiseN p k).a = if p.c.getLsbD k = false then p.a ||| bitN k else p.a := by
  show (if k = 15 then _ else if k = 14 then _ else if p.c.getLsbD k = false ∨ k = 9 ∨ k = 14 then p.a ||| bitN k else p.a) = _
  rw [if_neg (by omega), if_neg (by omega)]
  by_cases h : p.c.getLsbD k = false
  · rw [if_pos (.inl h), if_pos h]
  · rw [if_neg (fun e => e.elim h (by omega)), if_neg h]
theorem ig_b {p : Pi} {k : Nat} (h8 : k ≤ 8) : (handleN p k 1).a.getLsbD k = false := by
  show (p.a &&& ~~~ bitN k).getLsbD k = false
  rw [BitVec.getLsbD_and, BitVec.getLsbD_not, bit_get]; simp
theorem ig_bc {p : Pi} {k : Nat} (h8 : k ≤ 8) : (handleN p k 1).c.getLsbD k = true := by
  show ((p.c &&& ~~~ bitN k) ||| bitN k).getLsbD k = true
  rw [BitVec.getLsbD_or, bit_get]; simp; omega
theorem ig_c {p : Pi} {k : Nat} (h8 : k ≤ 8) : raiseN (handleN p k 1) k = handleN p k 1 := by
  refine pi_ext (raise_s h8) rfl rfl rfl ?_ rfl rfl rfl rfl
  rw [raise_a h8, if_neg (by rw [ig_bc h8]; decide)]
theorem ig_dc {p : Pi} {k : Nat} (h8 : k ≤ 8) : (handleN p k 2).c.getLsbD k = false := by
  show (p.c &&& ~~~ bitN k).getLsbD k = false
  rw [BitVec.getLsbD_and, BitVec.getLsbD_not, bit_get]; simp
theorem ig_g {p : Pi} {k : Nat} (h8 : k ≤ 8) : (raiseN (handleN p k 2) k).a.getLsbD k = true := by
  rw [raise_a h8, if_pos (ig_dc h8), BitVec.getLsbD_or, bit_get]; simp; omega
theorem ig_hc {p : Pi} {k : Nat} (h8 : k ≤ 8) : (handleN p k 0).c.getLsbD k = false := by
  show (p.c &&& ~~~ bitN k).getLsbD k = false
  rw [BitVec.getLsbD_and, BitVec.getLsbD_not, bit_get]; simp
theorem ig_hd {p : Pi} {k : Nat} (h8 : k ≤ 8) : (handleN p k 0).d.getLsbD k = false := by
  show (p.d &&& ~~~ bitN k).getLsbD k = false
  rw [BitVec.getLsbD_and, BitVec.getLsbD_not, bit_get]; simp

theorem ignored_ret {xs : List Int} {w : World} {l : Value} (a1 : Int) (hl : RdS w l (xs.map fun x => I x)) (hb : xs.length ≤ 9223372036854775807) (hT : TabZ w) :
    Ret Tryd.prog 4 #[l, I a1] w fun v w' => v = .bool true ∧ Hp w [] w' := by
  refine Ret_of_W (args := [_, _]) Tryd.func4 rfl Tryd.ntmps4 Tryd.results4 (by simp) ?_
  have H := Hp.refl w
  obtain ⟨k, hk, h1, h8⟩ : ∃ k : Nat, a1 % 8 + 1 = k ∧ 1 ≤ k ∧ k ≤ 8 := ⟨(a1 % 8 + 1).toNat, by omega, by omega, by omega⟩
  refine W_seq ?_
  refine W_region_l ?_
  refine WL_stepM rfl (R_as) ?_
  refine WL_nil ?_
  refine W_seq ?_
  refine W_region_l ?_
  refine WL_stepM rfl (R_mv) ?_
  (refine WL_call rfl (R_call rfl Tryd.call13 rfl) (proc_ret (hl.monoN H (by repeat' first | exact kNil | apply kCons | apply kApp | assumption | exact OwnS.keys (by assumption))) hb) ?_; rintro _ w8 ⟨p, hp, rfl, H1⟩; replace H := H.seq0 H1; clear H1)
  (refine WL_effn rfl (E_allocP H) ?_; clear H; intro c9 w9 hc9 H)
  (refine WL_effu rfl (E_storeP H rfl rfl .here) ?_; clear H; intro w10 H)
  refine WL_nil ?_
  refine W_seq ?_
  refine W_seq ?_
  ((have hs3 := hp.1.1; by_cases hz : p.s = 2)) <;> refine W_region_l ?_
  · refine WL_step rfl (R_fieldAddr (off' := 0) Tryd.underlying25 rfl Tryd.sizeOf3 (by decide) rfl rfl) ?_
    refine WL_step rfl (R_load (v := I p.s) Tryd.isAgg3 rfl (H.get .here) rfl) ?_
    refine WL_step rfl (R_eq_t rfl rfl hz) ?_
    refine WL_nil ?_
    refine W_cond_t rfl ?_
    refine W_seq ?_
    refine W_region_l ?_
    (refine WL_call rfl (R_call rfl Tryd.call12 rfl) (awake_ret (hT.mono H (by repeat' first | exact kNil | apply kCons | apply kApp | assumption | exact OwnS.keys (by assumption)))) ?_; rintro _ w22 ⟨rfl, H1⟩; replace H := H.seq0 H1; clear H1)
    refine WL_stepM rfl (R_as) ?_
    refine WL_nil ?_
    refine W_ret ?_
    exact ⟨_, rfl, rfl, H.none (by repeat' first | exact kNil | apply kCons | apply kApp | assumption | exact OwnS.keys (by assumption))⟩
  · refine WL_step rfl (R_fieldAddr (off' := 0) Tryd.underlying25 rfl Tryd.sizeOf3 (by decide) rfl rfl) ?_
    refine WL_step rfl (R_load (v := I p.s) Tryd.isAgg3 rfl (H.get .here) rfl) ?_
    refine WL_step rfl (R_eq_f rfl rfl hz) ?_
    refine WL_nil ?_
    refine W_cond_f rfl ?_
    refine W_skip ?_
    refine W_seq ?_
    refine W_region_l ?_
    refine WL_stepM rfl (R_mv) ?_
    refine WL_step rfl (R_bits rfl rfl (by simp) (and_mask_i64 3 8 (by decide) rfl (by decide))) ?_
    (have hs : p.s = 1 ∨ p.s = 3 := (by omega); refine WL_step rfl (R_add (r := (k : Int)) rfl rfl ((w_i64 (by omega)).trans hk)) ?_)
    refine WL_stepM rfl (R_as) ?_
    refine WL_nil ?_
    refine W_seq ?_
    refine W_region_l ?_
    refine WL_step rfl (R_loadP rfl (H.get .here)) ?_
    refine WL_stepM rfl (R_mv) ?_
    (refine WL_call rfl (R_call rfl Tryd.call9 rfl) (raise_yes (p := p) h1 (by omega) hs _) ?_; rintro _ w44 ⟨rfl, H1⟩; obtain ⟨qa, hqa⟩ : ∃ q, raiseN p k = q := ⟨_, rfl⟩; rw [hqa]; replace H := H.seq0 H1; clear H1)
    refine WL_stepM rfl (R_mv) ?_
    refine WL_step rfl (R_extract rfl rfl) ?_
    refine WL_step rfl (R_extract rfl rfl) ?_
    (refine WL_effn rfl (E_allocP H) ?_; clear H; intro c48 w48 hc48 H)
    (refine WL_effu rfl (E_storeP H rfl rfl .here) ?_; clear H; intro w49 H)
    refine WL_stepM rfl (R_as) ?_
    refine WL_nil ?_
    refine W_seq ?_
    refine W_region_l ?_
    refine WL_step rfl (R_loadP rfl (H.get .here)) ?_
    refine WL_stepM rfl (R_mv) ?_
    (refine WL_call rfl (R_call rfl Tryd.call14 rfl) (handle_1 (p := qa) h1 (by omega) (by omega) (by omega) _) ?_; rintro _ w56 ⟨rfl, H1⟩; obtain ⟨qb, hqb⟩ : ∃ q, handleN qa k 1 = q := ⟨_, rfl⟩; rw [hqb]; replace H := H.seq0 H1; clear H1)
    refine WL_stepM rfl (R_mv) ?_
    refine WL_step rfl (R_extract rfl rfl) ?_
    refine WL_step rfl (R_extract rfl rfl) ?_
    (refine WL_effn rfl (E_allocP H) ?_; clear H; intro c60 w60 hc60 H)
    (refine WL_effu rfl (E_storeP H rfl rfl .here) ?_; clear H; intro w61 H)
    refine WL_stepM rfl (R_as) ?_
    refine WL_nil ?_
    refine W_seq ?_
    refine W_region_l ?_
    refine WL_step rfl (R_loadP rfl (H.get .here)) ?_
    refine WL_stepM rfl (R_mv) ?_
    (have _g := hqb; refine WL_call rfl (R_call rfl Tryd.call9 rfl) (raise_yes (p := qb) h1 (by omega) (by rw [← hqb, ← hqa]; show (raiseN p k).s = 1 ∨ (raiseN p k).s = 3; rw [raise_s h8]; exact hs) _) ?_; rintro _ w68 ⟨rfl, H1⟩; obtain ⟨qc, hqc⟩ : ∃ q, raiseN qb k = q := ⟨_, rfl⟩; rw [hqc]; replace H := H.seq0 H1; clear H1)
    refine WL_stepM rfl (R_mv) ?_
    refine WL_step rfl (R_extract rfl rfl) ?_
    refine WL_step rfl (R_extract rfl rfl) ?_
    (refine WL_effn rfl (E_allocP H) ?_; clear H; intro c72 w72 hc72 H)
    (refine WL_effu rfl (E_storeP H rfl rfl .here) ?_; clear H; intro w73 H)
    refine WL_stepM rfl (R_as) ?_
    refine WL_nil ?_
    refine W_seq ?_
    refine W_region_l ?_
    refine WL_step rfl (R_loadP rfl (H.get .here)) ?_
    refine WL_stepM rfl (R_mv) ?_
    (refine WL_call rfl (R_call rfl Tryd.call14 rfl) (handle_2 (p := qc) h1 (by omega) (by omega) (by omega) _) ?_; rintro _ w80 ⟨rfl, H1⟩; obtain ⟨qd, hqd⟩ : ∃ q, handleN qc k 2 = q := ⟨_, rfl⟩; rw [hqd]; replace H := H.seq0 H1; clear H1)
    refine WL_stepM rfl (R_mv) ?_
    refine WL_step rfl (R_extract rfl rfl) ?_
    refine WL_step rfl (R_extract rfl rfl) ?_
    (refine WL_effn rfl (E_allocP H) ?_; clear H; intro c84 w84 hc84 H)
    (refine WL_effu rfl (E_storeP H rfl rfl .here) ?_; clear H; intro w85 H)
    refine WL_stepM rfl (R_as) ?_
    refine WL_nil ?_
    refine W_seq ?_
    refine W_region_l ?_
    refine WL_step rfl (R_loadP rfl (H.get .here)) ?_
    refine WL_stepM rfl (R_mv) ?_
    (have _g := hqd; refine WL_call rfl (R_call rfl Tryd.call9 rfl) (raise_yes (p := qd) h1 (by omega) (by rw [← hqd, ← hqc, ← hqb, ← hqa]; show (raiseN (handleN (raiseN p k) k 1) k).s = 1 ∨ (raiseN (handleN (raiseN p k) k 1) k).s = 3; rw [raise_s h8]; show (raiseN p k).s = 1 ∨ (raiseN p k).s = 3; rw [raise_s h8]; exact hs) _) ?_; rintro _ w92 ⟨rfl, H1⟩; obtain ⟨qg, hqg⟩ : ∃ q, raiseN qd k = q := ⟨_, rfl⟩; rw [hqg]; replace H := H.seq0 H1; clear H1)
    refine WL_stepM rfl (R_mv) ?_
    refine WL_step rfl (R_extract rfl rfl) ?_
    refine WL_step rfl (R_extract rfl rfl) ?_
    (refine WL_effn rfl (E_allocP H) ?_; clear H; intro c96 w96 hc96 H)
    (refine WL_effu rfl (E_storeP H rfl rfl .here) ?_; clear H; intro w97 H)
    refine WL_stepM rfl (R_as) ?_
    refine WL_nil ?_
    refine W_seq ?_
    refine W_region_l ?_
    refine WL_step rfl (R_loadP rfl (H.get (.there .here))) ?_
    refine WL_stepM rfl (R_mv) ?_
    (refine WL_call rfl (R_call rfl Tryd.call14 rfl) (handle_0 (p := qd) h1 (by omega) (by omega) (by omega) _) ?_; rintro _ w104 ⟨rfl, H1⟩; obtain ⟨qh, hqh⟩ : ∃ q, handleN qd k 0 = q := ⟨_, rfl⟩; rw [hqh]; replace H := H.seq0 H1; clear H1)
    refine WL_stepM rfl (R_mv) ?_
    refine WL_step rfl (R_extract rfl rfl) ?_
    refine WL_step rfl (R_extract rfl rfl) ?_
    (refine WL_effn rfl (E_allocP H) ?_; clear H; intro c108 w108 hc108 H)
    (refine WL_effu rfl (E_storeP H rfl rfl .here) ?_; clear H; intro w109 H)
    refine WL_stepM rfl (R_as) ?_
    refine WL_nil ?_
    refine W_seq ?_
    ((have F1 : qb.a.getLsbD k = false := (by rw [← hqb]; exact ig_b h8); have F2 : qc = qb := (by rw [← hqc, ← hqb]; exact ig_c h8); have F3 : qg.a.getLsbD k = true := (by rw [← hqg, ← hqd]; exact ig_g h8); have F4 : qh.c.getLsbD k = false := (by rw [← hqh]; exact ig_hc h8); have F5 : qh.d.getLsbD k = false := (by rw [← hqh]; exact ig_hd h8); clear hqa hqb hqc hqd hqg hqh; subst F2)) <;> refine W_region_l ?_
    refine WL_stepM rfl (R_mv) ?_
    refine WL_stepM rfl (R_mv) ?_
    refine WL_guard_t rfl rfl ?_
    refine WL_stepM rfl (R_mv) ?_
    refine WL_guard_t rfl rfl ?_
    refine WL_step rfl (R_eq_t rfl rfl (by omega)) ?_
    refine WL_stepM rfl (R_pk_t rfl) ?_
    refine WL_stepM rfl (R_mv) ?_
    refine WL_guard_t rfl rfl ?_
    refine WL_stepM rfl (R_mv) ?_
    refine WL_stepM rfl (R_pk_t rfl) ?_
    refine WL_stepM rfl (R_mv) ?_
    refine WL_guard_t rfl rfl ?_
    refine WL_stepM rfl (R_mv) ?_
    refine WL_guard_t rfl rfl ?_
    refine WL_step rfl (R_eq_t rfl rfl (by omega)) ?_
    refine WL_stepM rfl (R_pk_t rfl) ?_
    refine WL_stepM rfl (R_mv) ?_
    refine WL_guard_t rfl rfl ?_
    refine WL_stepM rfl (R_mv) ?_
    refine WL_stepM rfl (R_pk_t rfl) ?_
    refine WL_stepM rfl (R_mv) ?_
    refine WL_guard_t rfl rfl ?_
    refine WL_stepM rfl (R_mv) ?_
    refine WL_guard_t rfl rfl ?_
    refine WL_step rfl (R_eq_t rfl rfl (by omega)) ?_
    refine WL_stepM rfl (R_pk_t rfl) ?_
    refine WL_stepM rfl (R_mv) ?_
    refine WL_guard_t rfl rfl ?_
    refine WL_step rfl (R_fieldAddr (off' := 4) Tryd.underlying25 rfl Tryd.sizeOf3 (by decide) rfl rfl) ?_
    refine WL_guard_t rfl rfl ?_
    refine WL_step rfl (R_load (v := I qc.a.toInt) Tryd.isAgg3 rfl (H.get (.there (.there (.there (.there .here))))) rfl) ?_
    refine WL_guard_t rfl rfl ?_
    refine WL_stepM rfl (R_mv) ?_
    refine WL_guard_t rfl rfl ?_
    refine WL_step rfl (R_shr (r := qc.a.toInt / ((2 ^ k : Nat) : Int)) rfl rfl (by omega) (shr_k (by omega))) ?_
    refine WL_guard_t rfl rfl ?_
    refine WL_step rfl (R_bits (r := 0) rfl rfl (by simp) ((and_mask_i64 1 2 (by decide) rfl (by decide)).trans (by rw [bit_shr (by omega), F1]; rfl))) ?_
    refine WL_guard_t rfl rfl ?_
    refine WL_step rfl (R_eq_t rfl rfl (by omega)) ?_
    refine WL_stepM rfl (R_pk_t rfl) ?_
    refine WL_stepM rfl (R_mv) ?_
    refine WL_guard_t rfl rfl ?_
    refine WL_step rfl (R_loadP rfl (H.get (.there (.there (.there .here))))) ?_
    refine WL_guard_t rfl rfl ?_
    refine WL_step rfl (R_loadP rfl (H.get (.there (.there (.there (.there .here)))))) ?_
    refine WL_guard_t rfl rfl ?_
    refine WL_step rfl (R_eq_P_t rfl rfl) ?_
    refine WL_stepM rfl (R_pk_t rfl) ?_
    refine WL_stepM rfl (R_mv) ?_
    refine WL_guard_t rfl rfl ?_
    refine WL_step rfl (R_fieldAddr (off' := 4) Tryd.underlying25 rfl Tryd.sizeOf3 (by decide) rfl rfl) ?_
    refine WL_guard_t rfl rfl ?_
    refine WL_step rfl (R_load (v := I qg.a.toInt) Tryd.isAgg3 rfl (H.get (.there .here)) rfl) ?_
    refine WL_guard_t rfl rfl ?_
    refine WL_stepM rfl (R_mv) ?_
    refine WL_guard_t rfl rfl ?_
    refine WL_step rfl (R_shr (r := qg.a.toInt / ((2 ^ k : Nat) : Int)) rfl rfl (by omega) (shr_k (by omega))) ?_
    refine WL_guard_t rfl rfl ?_
    refine WL_step rfl (R_bits (r := 1) rfl rfl (by simp) ((and_mask_i64 1 2 (by decide) rfl (by decide)).trans (by rw [bit_shr (by omega), F3]; rfl))) ?_
    refine WL_guard_t rfl rfl ?_
    refine WL_step rfl (R_eq_t rfl rfl (by omega)) ?_
    refine WL_stepM rfl (R_pk_t rfl) ?_
    refine WL_stepM rfl (R_mv) ?_
    refine WL_guard_t rfl rfl ?_
    refine WL_step rfl (R_fieldAddr (off' := 6) Tryd.underlying25 rfl Tryd.sizeOf3 (by decide) rfl rfl) ?_
    refine WL_guard_t rfl rfl ?_
    refine WL_step rfl (R_load (v := I qh.c.toInt) Tryd.isAgg3 rfl (H.get .here) rfl) ?_
    refine WL_guard_t rfl rfl ?_
    refine WL_stepM rfl (R_mv) ?_
    refine WL_guard_t rfl rfl ?_
    refine WL_step rfl (R_shr (r := qh.c.toInt / ((2 ^ k : Nat) : Int)) rfl rfl (by omega) (shr_k (by omega))) ?_
    refine WL_guard_t rfl rfl ?_
    refine WL_step rfl (R_bits (r := 0) rfl rfl (by simp) ((and_mask_i64 1 2 (by decide) rfl (by decide)).trans (by rw [bit_shr (by omega), F4]; rfl))) ?_
    refine WL_guard_t rfl rfl ?_
    refine WL_step rfl (R_eq_t rfl rfl (by omega)) ?_
    refine WL_stepM rfl (R_pk_t rfl) ?_
    refine WL_stepM rfl (R_mv) ?_
    refine WL_guard_t rfl rfl ?_
    refine WL_step rfl (R_fieldAddr (off' := 7) Tryd.underlying25 rfl Tryd.sizeOf3 (by decide) rfl rfl) ?_
    refine WL_guard_t rfl rfl ?_
    refine WL_step rfl (R_load (v := I qh.d.toInt) Tryd.isAgg3 rfl (H.get .here) rfl) ?_
    refine WL_guard_t rfl rfl ?_
    refine WL_stepM rfl (R_mv) ?_
    refine WL_guard_t rfl rfl ?_
    refine WL_step rfl (R_shr (r := qh.d.toInt / ((2 ^ k : Nat) : Int)) rfl rfl (by omega) (shr_k (by omega))) ?_
    refine WL_guard_t rfl rfl ?_
    refine WL_step rfl (R_bits (r := 0) rfl rfl (by simp) ((and_mask_i64 1 2 (by decide) rfl (by decide)).trans (by rw [bit_shr (by omega), F5]; rfl))) ?_
    refine WL_guard_t rfl rfl ?_
    refine WL_step rfl (R_eq_t rfl rfl (by omega)) ?_
    refine WL_stepM rfl (R_pk_t rfl) ?_
    refine WL_stepM rfl (R_mv) ?_
    refine WL_guard_t rfl rfl ?_
    (refine WL_call rfl (R_call rfl Tryd.call12 rfl) (awake_ret (hT.mono H (by repeat' first | exact kNil | apply kCons | apply kApp | assumption | exact OwnS.keys (by assumption)))) ?_; rintro _ w207 ⟨rfl, H1⟩; replace H := H.seq0 H1; clear H1)
    refine WL_stepM rfl (R_pk_t rfl) ?_
    refine WL_stepM rfl (R_as) ?_
    refine WL_nil ?_
    refine W_ret ?_
    exact ⟨_, rfl, rfl, H.none (by repeat' first | exact kNil | apply kCons | apply kApp | assumption | exact OwnS.keys (by assumption))⟩
end Go.Proofs.YtneeoicjipglkaaDoor.Slot

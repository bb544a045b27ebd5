/-
  Regions: a place that is not within a cap.
-/
import Derived.Test.YthonajikgljgmaaRegA
namespace Go.Proofs.Ythonajikgljgmaa.Reg
open Go Go.Proofs Go.Proofs.Ythonajikgljgmaa.Fx Go.Proofs.Ythonajikgljgmaa.TabC Go.Proofs.Ythonajikgljgmaa.Caps
set_option maxRecDepth 100000
set_option linter.unusedVariables false
set_option linter.unusedSimpArgs false
set_option maxHeartbeats 8000000
section
variable {w : World} {rr m mb s N : Nat} {xs : List UInt8}
variable {a ca : Nat} {sp : List Value} {rlo rn : Int} {PB : List (Nat × Nat)} {ts : List (List Pl)} {j i g0 : Nat} {q : Nat × Nat} {t : List Pl} {o r lo n re : Int} {l : Value}

theorem place_arg {rt at_ k z rx : Int} (hr : w.heap[rr]? = some (blk [ptr m 0, ptr s 0, l] 95)) (hS : Sp w s PB ts)
    (hq : PB[j]? = some q) (ht : ts[j]? = some t) (h : t[i]? = some ⟨cp 0 r lo n re rx, g0, true⟩) (bz : bitsOf .and .i64 r rt = z) (hz : z ≠ 0)
    (hn : 0 ≤ n ∧ n ≤ 65536) (hk : 0 ≤ k) (hno : ¬ (0 ≤ at_ ∧ at_ ≤ n ∧ k ≤ n - at_)) :
    Ret Try.prog 45 #[ptr rr 0, I j, I (i + 256 * g0 : Nat), I rt, I at_, I k] w fun v w' => v = .tuple #[I 0, I 1] ∧ Hp w [] w' := by
  refine Ret_of_W (args := [_, _, _, _, _, _]) Try.func45 rfl Try.ntmps45 Try.results45 (by simp) ?_
  have H := Hp.refl w
  refine W_seq ?_
  refine W_region_l ?_
  refine WL_stepM rfl (R_as) ?_
  refine WL_stepM rfl (R_as) ?_
  refine WL_nil ?_
  refine W_seq ?_
  refine W_region_l ?_
  refine WL_stepM rfl (R_mv) ?_
  refine WL_step rfl (R_nilCheck rfl) ?_
  refine WL_step rfl (R_fieldAddr (off' := 1) Try.underlying95 rfl Try.sizeOf25 (by decide) rfl rfl) ?_
  refine WL_step rfl (R_load (v := ptr s 0) Try.isAgg25 rfl (H.blockN hr (by repeat' first | exact kNil | apply kCons | apply kApp | assumption | exact OwnS.keys (by assumption))) rfl) ?_
  refine WL_stepM rfl (R_mv) ?_
  refine WL_stepM rfl (R_mv) ?_
  (refine WL_call rfl (R_call rfl Try.call26 rfl) (get_yes hS hq ht h rfl) ?_; rintro _ w14 ⟨rfl, H1⟩; replace H := H.seq0 H1; clear H1)
  refine WL_stepM rfl (R_mv) ?_
  refine WL_step rfl (R_extract rfl rfl) ?_
  refine WL_step rfl (R_extract rfl rfl) ?_
  (refine WL_effn rfl (E_allocK H) ?_; clear H; intro c14 w18 hc14 H)
  (refine WL_effu rfl (E_storeK (q := cp 0 r lo n re rx) H rfl rfl .here) ?_; clear H; intro w19 H; replace H : Hp w [(c14, blk [I 0, I r, I lo, I n, I re, I rx] 38)] w19 := H)
  refine WL_stepM rfl (R_as) ?_
  refine WL_nil ?_
  refine W_seq ?_
  refine W_block ?_
  refine W_seq ?_
  refine W_region_l ?_
  refine WL_stepM rfl (R_mv) ?_
  refine WL_step rfl (R_ne_f rfl rfl (by omega)) ?_
  refine WL_stepM rfl (R_as) ?_
  refine WL_nil ?_
  refine W_cond_f rfl ?_
  refine W_seq ?_
  refine W_region_l ?_
  refine WL_step rfl (R_fieldAddr (off' := 1) Try.underlying38 rfl Try.sizeOf3 (by decide) rfl rfl) ?_
  refine WL_step rfl (R_load Try.isAgg3 rfl (H.get .here) rfl) ?_
  refine WL_stepM rfl (R_mv) ?_
  refine WL_step rfl (R_bits (r := z) rfl rfl (by simp) bz) ?_
  refine WL_step rfl (R_eq_f rfl rfl (by omega)) ?_
  refine WL_stepM rfl (R_as) ?_
  refine WL_nil ?_
  refine W_cond_f rfl ?_
  refine W_seq ?_
  ((rcases (by omega : at_ < 0 ∨ (0 ≤ at_ ∧ at_ > n) ∨ (0 ≤ at_ ∧ at_ ≤ n ∧ k > n - at_)) with e1 | ⟨e1, e3⟩ | ⟨e1, e3, e4⟩) <;> (refine W_draw (fun w2 => w2.heap[c14]? = some (blk [I 0, I r, I lo, I n, I re, I rx] 38)) (fun _ => false) (by kernel_rfl) H ?_; clear H; intro w42 H))
  · refine WA_takeM 0 rfl rfl rfl (by kernel_rfl) (by kernel_rfl) (H.get .here) (fun _ hC => R_mv) ?_
    refine WA_take 1 rfl rfl rfl (by kernel_rfl) (by kernel_rfl) (H.get .here) (fun _ hC => R_lt_t rfl rfl (by omega)) ?_
    refine WA_takeM 2 rfl rfl rfl (by kernel_rfl) (by kernel_rfl) (H.get .here) (fun _ hC => R_mv) ?_
    refine WA_pass 3 rfl rfl rfl (fun h => nomatch h) (by kernel_rfl) (by kernel_rfl) (H.get .here) ?_
    refine WA_pass 4 rfl rfl rfl (fun h => nomatch h) (by kernel_rfl) (by kernel_rfl) (H.get .here) ?_
    refine WA_takeM 5 rfl rfl rfl (by kernel_rfl) (by kernel_rfl) (H.get .here) (fun _ hC => R_pk_t rfl) ?_
    refine WA_takeM 6 rfl rfl rfl (by kernel_rfl) (by kernel_rfl) (H.get .here) (fun _ hC => R_mv) ?_
    refine WA_pass 7 rfl rfl rfl (fun h => nomatch h) (by kernel_rfl) (by kernel_rfl) (H.get .here) ?_
    refine WA_pass 8 rfl rfl rfl (fun h => nomatch h) (by kernel_rfl) (by kernel_rfl) (H.get .here) ?_
    refine WA_pass 9 rfl rfl rfl (fun h => nomatch h) (by kernel_rfl) (by kernel_rfl) (H.get .here) ?_
    refine WA_pass 10 rfl rfl rfl (fun h => nomatch h) (by kernel_rfl) (by kernel_rfl) (H.get .here) ?_
    refine WA_takeM 11 rfl rfl rfl (by kernel_rfl) (by kernel_rfl) (H.get .here) (fun _ hC => R_pk_t rfl) ?_
    refine WA_takeM 12 rfl rfl rfl (by kernel_rfl) (by kernel_rfl) (H.get .here) (fun _ hC => R_mv) ?_
    refine WA_pass 13 rfl rfl rfl (fun h => nomatch h) (by kernel_rfl) (by kernel_rfl) (H.get .here) ?_
    refine WA_pass 14 rfl rfl rfl (fun h => nomatch h) (by kernel_rfl) (by kernel_rfl) (H.get .here) ?_
    refine WA_pass 15 rfl rfl rfl (fun h => nomatch h) (by kernel_rfl) (by kernel_rfl) (H.get .here) ?_
    refine WA_pass 16 rfl rfl rfl (fun h => nomatch h) (by kernel_rfl) (by kernel_rfl) (H.get .here) ?_
    refine WA_pass 17 rfl rfl rfl (fun h => nomatch h) (by kernel_rfl) (by kernel_rfl) (H.get .here) ?_
    refine WA_pass 18 rfl rfl rfl (fun h => nomatch h) (by kernel_rfl) (by kernel_rfl) (H.get .here) ?_
    refine WA_takeM 19 rfl rfl rfl (by kernel_rfl) (by kernel_rfl) (H.get .here) (fun _ hC => R_pk_t rfl) ?_
    refine WA_takeM 20 rfl rfl rfl (by kernel_rfl) (by kernel_rfl) (H.get .here) (fun _ hC => R_mv) ?_
    refine WA_pass 21 rfl rfl rfl (fun h => nomatch h) (by kernel_rfl) (by kernel_rfl) (H.get .here) ?_
    refine WA_pass 22 rfl rfl rfl (fun h => nomatch h) (by kernel_rfl) (by kernel_rfl) (H.get .here) ?_
    refine WA_pass 23 rfl rfl rfl (fun h => nomatch h) (by kernel_rfl) (by kernel_rfl) (H.get .here) ?_
    refine WA_takeM 24 rfl rfl rfl (by kernel_rfl) (by kernel_rfl) (H.get .here) (fun _ hC => R_pk_t rfl) ?_
    refine WA_takeM 25 rfl rfl rfl (by kernel_rfl) (by kernel_rfl) (H.get .here) (fun _ hC => R_mv) ?_
    refine WA_pass 26 rfl rfl rfl (fun h => nomatch h) (by kernel_rfl) (by kernel_rfl) (H.get .here) ?_
    refine WA_pass 27 rfl rfl rfl (fun h => nomatch h) (by kernel_rfl) (by kernel_rfl) (H.get .here) ?_
    refine WA_pass 28 rfl rfl rfl (fun h => nomatch h) (by kernel_rfl) (by kernel_rfl) (H.get .here) ?_
    refine WA_pass 29 rfl rfl rfl (fun h => nomatch h) (by kernel_rfl) (by kernel_rfl) (H.get .here) ?_
    refine WA_pass 30 rfl rfl rfl (fun h => nomatch h) (by kernel_rfl) (by kernel_rfl) (H.get .here) ?_
    refine WA_pass 31 rfl rfl rfl (fun h => nomatch h) (by kernel_rfl) (by kernel_rfl) (H.get .here) ?_
    refine WA_pass 32 rfl rfl rfl (fun h => nomatch h) (by kernel_rfl) (by kernel_rfl) (H.get .here) ?_
    refine WA_pass 33 rfl rfl rfl (fun h => nomatch h) (by kernel_rfl) (by kernel_rfl) (H.get .here) ?_
    refine WA_takeM 34 rfl rfl rfl (by kernel_rfl) (by kernel_rfl) (H.get .here) (fun _ hC => R_pk_t rfl) ?_
    refine WA_takeM 35 rfl rfl rfl (by kernel_rfl) (by kernel_rfl) (H.get .here) (fun _ hC => R_as) ?_
    refine WA_done (by kernel_rfl) ?_
    refine W_cond_t rfl ?_
    refine W_seq ?_
    refine W_region_l ?_
    refine WL_stepM rfl (R_as) ?_
    refine WL_stepM rfl (R_as) ?_
    refine WL_nil ?_
    refine W_ret ?_
    exact ⟨_, rfl, rfl, H.none (by repeat' first | exact kNil | apply kCons | apply kApp | assumption | exact OwnS.keys (by assumption))⟩
  · refine WA_takeM 0 rfl rfl rfl (by kernel_rfl) (by kernel_rfl) (H.get .here) (fun _ hC => R_mv) ?_
    refine WA_take 1 rfl rfl rfl (by kernel_rfl) (by kernel_rfl) (H.get .here) (fun _ hC => R_lt_f rfl rfl (by omega)) ?_
    refine WA_takeM 2 rfl rfl rfl (by kernel_rfl) (by kernel_rfl) (H.get .here) (fun _ hC => R_mv) ?_
    refine WA_takeGM 3 rfl rfl rfl rfl (by kernel_rfl) (by kernel_rfl) (H.get .here) (fun _ hC => R_mv) ?_
    refine WA_takeG 4 rfl rfl rfl rfl (by kernel_rfl) (by kernel_rfl) (H.get .here) (fun _ hC => R_lt_f rfl rfl (by omega)) ?_
    refine WA_takeM 5 rfl rfl rfl (by kernel_rfl) (by kernel_rfl) (H.get .here) (fun _ hC => R_pk_f rfl) ?_
    refine WA_takeM 6 rfl rfl rfl (by kernel_rfl) (by kernel_rfl) (H.get .here) (fun _ hC => R_mv) ?_
    refine WA_takeGM 7 rfl rfl rfl rfl (by kernel_rfl) (by kernel_rfl) (H.get .here) (fun _ hC => R_mv) ?_
    refine WA_takeG 8 rfl rfl rfl rfl (by kernel_rfl) (by kernel_rfl) (H.get .here) (fun _ hC => R_fieldAddr (off' := 3) Try.underlying38 rfl Try.sizeOf3 (by decide) rfl rfl) ?_
    refine WA_takeG 9 rfl rfl rfl rfl (by kernel_rfl) (by kernel_rfl) (H.get .here) (fun _ hC => R_load (v := I n) Try.isAgg3 rfl hC rfl) ?_
    refine WA_takeG 10 rfl rfl rfl rfl (by kernel_rfl) (by kernel_rfl) (H.get .here) (fun _ hC => R_gt_t rfl rfl (by omega)) ?_
    refine WA_takeM 11 rfl rfl rfl (by kernel_rfl) (by kernel_rfl) (H.get .here) (fun _ hC => R_pk_f rfl) ?_
    refine WA_takeM 12 rfl rfl rfl (by kernel_rfl) (by kernel_rfl) (H.get .here) (fun _ hC => R_mv) ?_
    refine WA_pass 13 rfl rfl rfl (fun h => nomatch h) (by kernel_rfl) (by kernel_rfl) (H.get .here) ?_
    refine WA_pass 14 rfl rfl rfl (fun h => nomatch h) (by kernel_rfl) (by kernel_rfl) (H.get .here) ?_
    refine WA_pass 15 rfl rfl rfl (fun h => nomatch h) (by kernel_rfl) (by kernel_rfl) (H.get .here) ?_
    refine WA_pass 16 rfl rfl rfl (fun h => nomatch h) (by kernel_rfl) (by kernel_rfl) (H.get .here) ?_
    refine WA_pass 17 rfl rfl rfl (fun h => nomatch h) (by kernel_rfl) (by kernel_rfl) (H.get .here) ?_
    refine WA_pass 18 rfl rfl rfl (fun h => nomatch h) (by kernel_rfl) (by kernel_rfl) (H.get .here) ?_
    refine WA_takeM 19 rfl rfl rfl (by kernel_rfl) (by kernel_rfl) (H.get .here) (fun _ hC => R_pk_t rfl) ?_
    refine WA_takeM 20 rfl rfl rfl (by kernel_rfl) (by kernel_rfl) (H.get .here) (fun _ hC => R_mv) ?_
    refine WA_pass 21 rfl rfl rfl (fun h => nomatch h) (by kernel_rfl) (by kernel_rfl) (H.get .here) ?_
    refine WA_pass 22 rfl rfl rfl (fun h => nomatch h) (by kernel_rfl) (by kernel_rfl) (H.get .here) ?_
    refine WA_pass 23 rfl rfl rfl (fun h => nomatch h) (by kernel_rfl) (by kernel_rfl) (H.get .here) ?_
    refine WA_takeM 24 rfl rfl rfl (by kernel_rfl) (by kernel_rfl) (H.get .here) (fun _ hC => R_pk_t rfl) ?_
    refine WA_takeM 25 rfl rfl rfl (by kernel_rfl) (by kernel_rfl) (H.get .here) (fun _ hC => R_mv) ?_
    refine WA_pass 26 rfl rfl rfl (fun h => nomatch h) (by kernel_rfl) (by kernel_rfl) (H.get .here) ?_
    refine WA_pass 27 rfl rfl rfl (fun h => nomatch h) (by kernel_rfl) (by kernel_rfl) (H.get .here) ?_
    refine WA_pass 28 rfl rfl rfl (fun h => nomatch h) (by kernel_rfl) (by kernel_rfl) (H.get .here) ?_
    refine WA_pass 29 rfl rfl rfl (fun h => nomatch h) (by kernel_rfl) (by kernel_rfl) (H.get .here) ?_
    refine WA_pass 30 rfl rfl rfl (fun h => nomatch h) (by kernel_rfl) (by kernel_rfl) (H.get .here) ?_
    refine WA_pass 31 rfl rfl rfl (fun h => nomatch h) (by kernel_rfl) (by kernel_rfl) (H.get .here) ?_
    refine WA_pass 32 rfl rfl rfl (fun h => nomatch h) (by kernel_rfl) (by kernel_rfl) (H.get .here) ?_
    refine WA_pass 33 rfl rfl rfl (fun h => nomatch h) (by kernel_rfl) (by kernel_rfl) (H.get .here) ?_
    refine WA_takeM 34 rfl rfl rfl (by kernel_rfl) (by kernel_rfl) (H.get .here) (fun _ hC => R_pk_t rfl) ?_
    refine WA_takeM 35 rfl rfl rfl (by kernel_rfl) (by kernel_rfl) (H.get .here) (fun _ hC => R_as) ?_
    refine WA_done (by kernel_rfl) ?_
    refine W_cond_t rfl ?_
    refine W_seq ?_
    refine W_region_l ?_
    refine WL_stepM rfl (R_as) ?_
    refine WL_stepM rfl (R_as) ?_
    refine WL_nil ?_
    refine W_ret ?_
    exact ⟨_, rfl, rfl, H.none (by repeat' first | exact kNil | apply kCons | apply kApp | assumption | exact OwnS.keys (by assumption))⟩
  · refine WA_takeM 0 rfl rfl rfl (by kernel_rfl) (by kernel_rfl) (H.get .here) (fun _ hC => R_mv) ?_
    refine WA_take 1 rfl rfl rfl (by kernel_rfl) (by kernel_rfl) (H.get .here) (fun _ hC => R_lt_f rfl rfl (by omega)) ?_
    refine WA_takeM 2 rfl rfl rfl (by kernel_rfl) (by kernel_rfl) (H.get .here) (fun _ hC => R_mv) ?_
    refine WA_takeGM 3 rfl rfl rfl rfl (by kernel_rfl) (by kernel_rfl) (H.get .here) (fun _ hC => R_mv) ?_
    refine WA_takeG 4 rfl rfl rfl rfl (by kernel_rfl) (by kernel_rfl) (H.get .here) (fun _ hC => R_lt_f rfl rfl (by omega)) ?_
    refine WA_takeM 5 rfl rfl rfl (by kernel_rfl) (by kernel_rfl) (H.get .here) (fun _ hC => R_pk_f rfl) ?_
    refine WA_takeM 6 rfl rfl rfl (by kernel_rfl) (by kernel_rfl) (H.get .here) (fun _ hC => R_mv) ?_
    refine WA_takeGM 7 rfl rfl rfl rfl (by kernel_rfl) (by kernel_rfl) (H.get .here) (fun _ hC => R_mv) ?_
    refine WA_takeG 8 rfl rfl rfl rfl (by kernel_rfl) (by kernel_rfl) (H.get .here) (fun _ hC => R_fieldAddr (off' := 3) Try.underlying38 rfl Try.sizeOf3 (by decide) rfl rfl) ?_
    refine WA_takeG 9 rfl rfl rfl rfl (by kernel_rfl) (by kernel_rfl) (H.get .here) (fun _ hC => R_load (v := I n) Try.isAgg3 rfl hC rfl) ?_
    refine WA_takeG 10 rfl rfl rfl rfl (by kernel_rfl) (by kernel_rfl) (H.get .here) (fun _ hC => R_gt_f rfl rfl (by omega)) ?_
    refine WA_takeM 11 rfl rfl rfl (by kernel_rfl) (by kernel_rfl) (H.get .here) (fun _ hC => R_pk_f rfl) ?_
    refine WA_takeM 12 rfl rfl rfl (by kernel_rfl) (by kernel_rfl) (H.get .here) (fun _ hC => R_mv) ?_
    refine WA_takeGM 13 rfl rfl rfl rfl (by kernel_rfl) (by kernel_rfl) (H.get .here) (fun _ hC => R_mv) ?_
    refine WA_takeG 14 rfl rfl rfl rfl (by kernel_rfl) (by kernel_rfl) (H.get .here) (fun _ hC => R_fieldAddr (off' := 3) Try.underlying38 rfl Try.sizeOf3 (by decide) rfl rfl) ?_
    refine WA_takeG 15 rfl rfl rfl rfl (by kernel_rfl) (by kernel_rfl) (H.get .here) (fun _ hC => R_load (v := I n) Try.isAgg3 rfl hC rfl) ?_
    refine WA_takeGM 16 rfl rfl rfl rfl (by kernel_rfl) (by kernel_rfl) (H.get .here) (fun _ hC => R_mv) ?_
    refine WA_takeG 17 rfl rfl rfl rfl (by kernel_rfl) (by kernel_rfl) (H.get .here) (fun _ hC => R_sub rfl rfl (w_i64 (by omega))) ?_
    refine WA_takeG 18 rfl rfl rfl rfl (by kernel_rfl) (by kernel_rfl) (H.get .here) (fun _ hC => R_gt_t rfl rfl (by omega)) ?_
    refine WA_takeM 19 rfl rfl rfl (by kernel_rfl) (by kernel_rfl) (H.get .here) (fun _ hC => R_pk_f rfl) ?_
    refine WA_takeM 20 rfl rfl rfl (by kernel_rfl) (by kernel_rfl) (H.get .here) (fun _ hC => R_mv) ?_
    refine WA_pass 21 rfl rfl rfl (fun h => nomatch h) (by kernel_rfl) (by kernel_rfl) (H.get .here) ?_
    refine WA_pass 22 rfl rfl rfl (fun h => nomatch h) (by kernel_rfl) (by kernel_rfl) (H.get .here) ?_
    refine WA_pass 23 rfl rfl rfl (fun h => nomatch h) (by kernel_rfl) (by kernel_rfl) (H.get .here) ?_
    refine WA_takeM 24 rfl rfl rfl (by kernel_rfl) (by kernel_rfl) (H.get .here) (fun _ hC => R_pk_t rfl) ?_
    refine WA_takeM 25 rfl rfl rfl (by kernel_rfl) (by kernel_rfl) (H.get .here) (fun _ hC => R_mv) ?_
    refine WA_pass 26 rfl rfl rfl (fun h => nomatch h) (by kernel_rfl) (by kernel_rfl) (H.get .here) ?_
    refine WA_pass 27 rfl rfl rfl (fun h => nomatch h) (by kernel_rfl) (by kernel_rfl) (H.get .here) ?_
    refine WA_pass 28 rfl rfl rfl (fun h => nomatch h) (by kernel_rfl) (by kernel_rfl) (H.get .here) ?_
    refine WA_pass 29 rfl rfl rfl (fun h => nomatch h) (by kernel_rfl) (by kernel_rfl) (H.get .here) ?_
    refine WA_pass 30 rfl rfl rfl (fun h => nomatch h) (by kernel_rfl) (by kernel_rfl) (H.get .here) ?_
    refine WA_pass 31 rfl rfl rfl (fun h => nomatch h) (by kernel_rfl) (by kernel_rfl) (H.get .here) ?_
    refine WA_pass 32 rfl rfl rfl (fun h => nomatch h) (by kernel_rfl) (by kernel_rfl) (H.get .here) ?_
    refine WA_pass 33 rfl rfl rfl (fun h => nomatch h) (by kernel_rfl) (by kernel_rfl) (H.get .here) ?_
    refine WA_takeM 34 rfl rfl rfl (by kernel_rfl) (by kernel_rfl) (H.get .here) (fun _ hC => R_pk_t rfl) ?_
    refine WA_takeM 35 rfl rfl rfl (by kernel_rfl) (by kernel_rfl) (H.get .here) (fun _ hC => R_as) ?_
    refine WA_done (by kernel_rfl) ?_
    refine W_cond_t rfl ?_
    refine W_seq ?_
    refine W_region_l ?_
    refine WL_stepM rfl (R_as) ?_
    refine WL_stepM rfl (R_as) ?_
    refine WL_nil ?_
    refine W_ret ?_
    exact ⟨_, rfl, rfl, H.none (by repeat' first | exact kNil | apply kCons | apply kApp | assumption | exact OwnS.keys (by assumption))⟩

end
end Go.Proofs.Ythonajikgljgmaa.Reg

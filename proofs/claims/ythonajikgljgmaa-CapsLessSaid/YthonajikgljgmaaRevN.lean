/-
  A cap is revoked, where none was granted of another.
-/
import Derived.Test.YthonajikgljgmaaUnderN
namespace Go.Proofs.Ythonajikgljgmaa.Caps
open Go Go.Proofs Go.Proofs.Ythonajikgljgmaa.Fx Go.Proofs.Ythonajikgljgmaa.TabC
set_option maxRecDepth 100000
set_option linter.unusedVariables false
set_option linter.unusedSimpArgs false
set_option maxHeartbeats 8000000
section
variable {w : World} {s : Nat} {PB : List (Nat × Nat)} {ts : List (List Pl)} {j i : Nat} {q : Nat × Nat} {t : List Pl} {a : Pl}
theorem revoke_no {nm : Int} (hS : Sp w s PB ts) (hq : PB[j]? = some q) (ht : ts[j]? = some t) (hno : ∀ (i : Nat) (a : Pl), t[i]? = some a → a.u = true → nm ≠ ((i + 256 * a.g : Nat) : Int)) :
    Ret Try.prog 24 #[ptr s 0, I j, I nm] w fun v w' => v = .tuple #[I 0, I 2] ∧ Hp w [] w' := by
  refine Ret_of_W (args := [_, _, _]) Try.func24 rfl Try.ntmps24 Try.results24 (by simp) ?_
  have H := Hp.refl w
  refine W_seq ?_
  refine W_region_l ?_
  refine WL_stepM rfl (R_as) ?_
  refine WL_stepM rfl (R_as) ?_
  refine WL_nil ?_
  refine W_seq ?_
  refine W_region_l ?_
  refine WL_stepM rfl (R_mv) ?_
  refine WL_stepM rfl (R_mv) ?_
  refine WL_stepM rfl (R_mv) ?_
  (refine WL_call rfl (R_call rfl Try.call27 rfl) (under_no hS hq ht hno) ?_; rintro _ w11 ⟨rfl, H1⟩; replace H := H.seq0 H1; clear H1)
  refine WL_stepM rfl (R_mv) ?_
  refine WL_step rfl (R_extract rfl rfl) ?_
  refine WL_step rfl (R_extract rfl rfl) ?_
  refine WL_stepM rfl (R_as) ?_
  refine WL_stepM rfl (R_as) ?_
  refine WL_nil ?_
  refine W_seq ?_
  refine W_seq ?_
  refine W_region_l ?_
  refine WL_stepM rfl (R_mv) ?_
  refine WL_step rfl (R_ne_t rfl rfl (by omega)) ?_
  refine WL_nil ?_
  refine W_cond_t rfl ?_
  refine W_seq ?_
  refine W_region_l ?_
  refine WL_stepM rfl (R_mv) ?_
  refine WL_stepM rfl (R_as) ?_
  refine WL_stepM rfl (R_as) ?_
  refine WL_nil ?_
  refine W_ret ?_
  exact ⟨_, rfl, rfl, H⟩
theorem revoke_none (hS : Sp w s PB ts) (hE : PB.length ≤ 40) (hq : PB[j]? = some q) (ht : ts[j]? = some t) (h : t[i]? = some a) (hu : a.u = true) (hg1 : 0 < a.g)
    (hz : ∀ t ∈ ts, ∀ x ∈ t, x.u = true → ∃ o r lo n, x.v = cp o r lo n 0 0) :
    Ret Try.prog 24 #[ptr s 0, I j, I (i + 256 * a.g : Nat)] w fun v w' => v = .tuple #[I 1, I 0] ∧ Hp w [(q.2, blk (rows plc (t.set i ⟨zk, a.g + 1, false⟩)) 137)] w' := by
  obtain ⟨bs, cap, sp, hs, hbs⟩ := hS.ex
  have hj := (List.getElem?_eq_some_iff.1 hq).1
  have htp := hS.tp j q hq
  have htb := hS.tb j q t hq ht
  have hsz := hS.inv.sz t (List.mem_of_getElem? ht)
  have hgn := hS.inv.gn t (List.mem_of_getElem? ht)
  refine Ret_of_W (args := [_, _, _]) Try.func24 rfl Try.ntmps24 Try.results24 (by simp) ?_
  have H := Hp.refl w
  refine W_seq ?_
  refine W_region_l ?_
  refine WL_stepM rfl (R_as) ?_
  refine WL_stepM rfl (R_as) ?_
  refine WL_nil ?_
  refine W_seq ?_
  refine W_region_l ?_
  refine WL_stepM rfl (R_mv) ?_
  refine WL_stepM rfl (R_mv) ?_
  refine WL_stepM rfl (R_mv) ?_
  (refine WL_call rfl (R_call rfl Try.call27 rfl) (under_none hS hE hq ht h hu hg1 hz) ?_; rintro _ w11 ⟨rfl, H1⟩; replace H := H.seq0 H1; clear H1)
  refine WL_stepM rfl (R_mv) ?_
  refine WL_step rfl (R_extract rfl rfl) ?_
  refine WL_step rfl (R_extract rfl rfl) ?_
  refine WL_stepM rfl (R_as) ?_
  refine WL_stepM rfl (R_as) ?_
  refine WL_nil ?_
  refine W_seq ?_
  refine W_seq ?_
  refine W_region_l ?_
  refine WL_stepM rfl (R_mv) ?_
  refine WL_step rfl (R_ne_f rfl rfl (by omega)) ?_
  refine WL_nil ?_
  refine W_cond_f rfl ?_
  refine W_skip ?_
  refine W_seq ?_
  refine W_seq ?_
  refine W_region_l ?_
  refine WL_stepM rfl (R_mv) ?_
  refine WL_step rfl (R_len_slice Try.underlying51 rfl) ?_
  refine WL_stepM rfl (R_mv) ?_
  refine WL_nil ?_
  refine W_block ?_
  refine W_rounds 0 ?_
  refine W_seq ?_
  refine W_region_l ?_
  refine WL_step rfl (R_lt_f rfl rfl (by omega)) ?_
  refine WL_nil ?_
  refine W_seq ?_
  refine W_cond_f rfl ?_
  refine W_exit ?_
  refine (if_pos rfl).mpr ?_
  refine W_seq ?_
  refine W_region_l ?_
  refine WL_stepM rfl (R_mv) ?_
  refine WL_step rfl (R_nilCheck rfl) ?_
  refine WL_step rfl (R_fieldAddr (off' := 0) Try.underlying90 rfl Try.sizeOf88 (by decide) rfl rfl) ?_
  refine WL_step rfl (R_load (v := sl bs 0 PB.length cap) Try.isAgg88 rfl (H.blockN hs (by repeat' first | exact kNil | apply kCons | apply kApp | assumption | exact OwnS.keys (by assumption))) rfl) ?_
  refine WL_stepM rfl (R_mv) ?_
  refine WL_step rfl (R_indexAddr (off' := j) Try.underlying88 Try.sizeOf91 rfl rfl (by omega) (by omega) (by omega)) ?_
  refine WL_step rfl (R_load (v := ptr q.1 0) Try.isAgg91 rfl (H.blockN hbs (by repeat' first | exact kNil | apply kCons | apply kApp | assumption | exact OwnS.keys (by assumption))) (ptrs_get hq)) ?_
  refine WL_stepM rfl (R_mv) ?_
  (refine WL_call rfl (R_call rfl Try.call47 rfl) (TabC.drop_yes (H.blockN htp (by repeat' first | exact kNil | apply kCons | apply kApp | assumption | exact OwnS.keys (by assumption))) (H.blockN htb (by repeat' first | exact kNil | apply kCons | apply kApp | assumption | exact OwnS.keys (by assumption))) hsz (by decide) h (hgn _ (List.mem_of_getElem? h)) hu) ?_; rintro _ w52 ⟨rfl, H1⟩; replace H := H.seqB htb (by repeat' first | exact kNil | apply kCons | apply kApp | assumption | exact OwnS.keys (by assumption)) H1; clear H1)
  refine WL_nil ?_
  refine W_seq ?_
  refine W_region_l ?_
  refine WL_stepM rfl (R_mv) ?_
  refine WL_step rfl (R_len_slice Try.underlying51 rfl) ?_
  refine WL_step rfl (R_add rfl rfl (w_i64 (by omega))) ?_
  refine WL_stepM rfl (R_as) ?_
  refine WL_stepM rfl (R_as) ?_
  refine WL_nil ?_
  refine W_ret ?_
  exact ⟨_, rfl, rfl, H⟩
end
end Go.Proofs.Ythonajikgljgmaa.Caps

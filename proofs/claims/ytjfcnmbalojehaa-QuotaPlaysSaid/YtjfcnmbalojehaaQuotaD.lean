/-
  Which frame of all it is; a new Quota.
-/
import Derived.Test.YtjfcnmbalojehaaQuotaC
namespace Go.Proofs.Ytjfcnmbalojehaa.Quota
open Go Go.Proofs Go.Proofs.Ytjfcnmbalojehaa.Fx
set_option maxRecDepth 100000
set_option linter.unusedVariables false
set_option linter.unusedSimpArgs false
set_option maxHeartbeats 1000000

def nrow (x : Int) : List Int := List.replicate (min (max x 0) 64).toNat 0
def frameQ (ins : List (Nat × List Int)) (s k : Int) : Int × Bool := if ownP ins s k then ((firstQ ins s : Int) + k, true) else (0, false)

section
variable {w0 w : World} {p : Nat} {uv : Value} {ins : List (Nat × List Int)} {Mo R : List (Nat × Obj)}

theorem first_ret (s : Int) (hS : Sees w p uv ins) (hs : 0 ≤ s ∧ s < ins.length) :
    Ret Try.prog 65 #[ptr p 0, I s] w fun v w' => v = I (firstQ ins s) ∧ Hp w [] w' := by
  refine Ret_of_W (args := [_, _]) Try.func65 rfl Try.ntmps65 Try.results65 (by simp) ?_
  have H := Hp.refl w
  have hl4 := hS.len
  obtain ⟨ao, ca, rfl⟩ := hS.form
  obtain ⟨b1, o1, rfl, hc1⟩ := hS.cell hs
  have hca : ins.length ≤ ca := by
    obtain ⟨a', c', e, h1, _⟩ := hS.outer
    rw [(Value.slice.inj e).2.2]
    simpa [qVals] using h1
  obtain ⟨m, hm, hm2⟩ : ∃ m : Nat, s = m ∧ m < ins.length := ⟨s.toNat, by omega, by omega⟩
  subst hm
  have hmx : max (m : Int) 0 = m := by omega
  have hmn : min (m : Int) (ins.length : Int) = m := by omega
  refine W_seq ?_
  refine W_region_l ?_
  refine WL_stepM rfl (R_as) ?_
  refine WL_nil ?_
  refine W_seq ?_
  refine W_region_l ?_
  refine WL_stepM rfl (R_as) ?_
  refine WL_nil ?_
  refine W_seq ?_
  refine W_seq ?_
  (refine W_drawH (fun _ => false) (by kernel_rfl) H ?_; clear H; intro w11 H)
  refine WA_takeM 0 rfl rfl rfl (by kernel_rfl) (by kernel_rfl) H (fun _ hC => R_mv) ?_
  refine WA_take 1 rfl rfl rfl (by kernel_rfl) (by kernel_rfl) H (fun _ hC => R_nilCheck rfl) ?_
  refine WA_take 2 rfl rfl rfl (by kernel_rfl) (by kernel_rfl) H (fun _ hC => R_fieldAddr (off' := 0) Try.underlying101 rfl Try.sizeOf99 (by decide) rfl rfl) ?_
  refine WA_take 3 rfl rfl rfl (by kernel_rfl) (by kernel_rfl) H (fun _ hC => R_load Try.isAgg99 rfl (hS.at_ hC).obj rfl) ?_
  refine WA_takeM 4 rfl rfl rfl (by kernel_rfl) (by kernel_rfl) H (fun _ hC => R_mv) ?_
  refine WA_take 5 rfl rfl rfl (by kernel_rfl) (by kernel_rfl) H (fun _ hC => R_max rfl rfl hmx) ?_
  refine WA_takeM 6 rfl rfl rfl (by kernel_rfl) (by kernel_rfl) H (fun _ hC => R_mv) ?_
  refine WA_take 7 rfl rfl rfl (by kernel_rfl) (by kernel_rfl) H (fun _ hC => R_nilCheck rfl) ?_
  refine WA_take 8 rfl rfl rfl (by kernel_rfl) (by kernel_rfl) H (fun _ hC => R_fieldAddr (off' := 0) Try.underlying101 rfl Try.sizeOf99 (by decide) rfl rfl) ?_
  refine WA_take 9 rfl rfl rfl (by kernel_rfl) (by kernel_rfl) H (fun _ hC => R_load Try.isAgg99 rfl (hS.at_ hC).obj rfl) ?_
  refine WA_take 10 rfl rfl rfl (by kernel_rfl) (by kernel_rfl) H (fun _ hC => R_len_slice Try.underlying99 rfl) ?_
  refine WA_take 11 rfl rfl rfl (by kernel_rfl) (by kernel_rfl) H (fun _ hC => R_min rfl rfl hmn) ?_
  refine WA_take 12 rfl rfl rfl (by kernel_rfl) (by kernel_rfl) H (fun _ hC => R_to Try.underlying99 Try.sizeOf22 rfl rfl hca (by omega)) ?_
  refine WA_take 13 rfl rfl rfl (by kernel_rfl) (by kernel_rfl) H (fun _ hC => R_len_slice Try.underlying99 rfl) ?_
  refine WA_takeM 14 rfl rfl rfl (by kernel_rfl) (by kernel_rfl) H (fun _ hC => R_mv) ?_
  refine WA_done (by kernel_rfl) ?_
  refine W_block ?_
  refine W_loopS [(5, 5), (7, 7), (22, 30)] (fun (i : Nat) E w' => i ≤ m ∧ E 5 = I (lens ins i) ∧ E 22 = I i ∧ Hp w [] w') (fun i => m - i) 0 ?e0 ?r0
  · exact ⟨by omega, rfl, rfl, H⟩
  · (clear H; rintro i E w1 ⟨hi, h0, h1, H⟩; refine W_kn2 h0 h1 ?_; have hll := lens_le hS.small i (by omega))
    refine W_seq ?_
    refine W_region_l ?_
    refine WL_step rfl (R_lt rfl rfl) ?_
    refine WL_nil ?_
    refine W_seq ?_
    refine W_if rfl (fun h36 => ?_) (fun h36 => ?_)
    · refine W_skip ?_
      refine W_seq ?_
      refine W_block ?_
      refine W_seq ?_
      refine W_region_l ?_
      (obtain ⟨b2, o2, e2, hc2⟩ := (hS.at_ H).cell (s := (i : Int)) ⟨by omega, by omega⟩; cases e2; have h64 := hS.small _ (rowD_mem (ins := ins) (s := (i : Int)) ⟨by omega, by omega⟩); rw [Int.toNat_natCast] at hc2; refine WL_step rfl (R_indexAddr (off' := o1 + i) Try.underlying99 Try.sizeOf22 rfl rfl (by omega) (by omega) (by simp)) ?_)
      refine WL_step rfl (R_load_cell Try.isAgg22 rfl hc2) ?_
      refine WL_stepM rfl (R_as) ?_
      refine WL_nil ?_
      refine W_region_l ?_
      refine WL_stepM rfl (R_mv) ?_
      refine WL_stepM rfl (R_mv) ?_
      refine WL_step rfl (R_len_slice Try.underlying22 rfl) ?_
      refine WL_step rfl (R_add rfl rfl (w_i64 (by omega))) ?_
      refine WL_stepM rfl (R_as) ?_
      refine WL_nil ?_
      refine W_region_l ?_
      refine WL_step rfl (R_add rfl rfl (w_i64 (by omega))) ?_
      refine WL_stepM rfl (R_mv) ?_
      refine WL_nil ?_
      exact ⟨(by repeat' first | with_reducible exact Same.refl | refine same_updo rfl ?_ | refine same_mov rfl ?_ | refine same_upd rfl ?_ | refine same_updn ?_ | refine same_know rfl ?_ | exact same_ovr | refine same_in rfl ?_ | exact Same.refl), i + 1, by omega, by omega, congrArg I (by rw [lens_next (by omega)]; push_cast; rfl), rfl, H⟩
    · refine W_exit ?_
      refine (if_pos rfl).mpr ?_
      refine W_seq ?_
      refine W_region_l ?_
      refine WL_stepM rfl (R_mv) ?_
      refine WL_stepM rfl (R_as) ?_
      refine WL_nil ?_
      refine W_ret ?_
      (obtain rfl : i = m := (by omega); exact ⟨_, rfl, rfl, H⟩)

theorem firstQ_le (hS : Sees w p uv ins) {s : Int} (hs : 0 ≤ s ∧ s < ins.length) : firstQ ins s ≤ 256 := by
  have h := lens_le hS.small s.toNat (by omega)
  have := hS.len
  show lens ins s.toNat ≤ 256
  omega

theorem frame_ret (s k : Int) (hS : Sees w p uv ins) :
    Ret Try.prog 49 #[ptr p 0, I s, I k] w fun v w' => v = .tuple #[I (frameQ ins s k).1, .bool (frameQ ins s k).2] ∧ Hp w [] w' := by
  refine Ret_of_W (args := [_, _, _]) Try.func49 rfl Try.ntmps49 Try.results49 (by simp) ?_
  have H := Hp.refl w
  by_cases hz : ownP ins s k
  · have hs := hz.1.1.1
    have hf := firstQ_le hS hs
    have h64 := hS.small _ (rowD_mem hs)
    have hk0 := hz.1.1.2
    have hk1 := hz.1.2
    refine W_seq ?_
    refine W_region_l ?_
    refine WL_stepM rfl (R_as) ?_
    refine WL_stepM rfl (R_as) ?_
    refine WL_nil ?_
    refine W_seq ?_
    refine W_seq ?_
    refine W_region_l ?_
    refine WL_stepM rfl (R_mv) ?_
    refine WL_stepM rfl (R_mv) ?_
    refine WL_stepM rfl (R_mv) ?_
    (refine WL_call rfl (R_call rfl Try.call57 rfl) (owns_ret s k hS) ?_; rintro _ w12 ⟨rfl, H1⟩; rw [decide_eq_true hz]; replace H := H.seq0 H1; clear H1)
    refine WL_step rfl (R_not_t rfl) ?_
    refine WL_nil ?_
    refine W_cond_f rfl ?_
    refine W_skip ?_
    refine W_seq ?_
    refine W_region_l ?_
    refine WL_stepM rfl (R_mv) ?_
    refine WL_stepM rfl (R_mv) ?_
    (refine WL_call rfl (R_call rfl Try.call65 rfl) (first_ret s (hS.at_ H) hs) ?_; rintro _ w21 ⟨rfl, H1⟩; replace H := H.seq0 H1; clear H1)
    refine WL_stepM rfl (R_mv) ?_
    refine WL_step rfl (R_add rfl rfl (w_i64 (by omega))) ?_
    refine WL_stepM rfl (R_as) ?_
    refine WL_stepM rfl (R_as) ?_
    refine WL_nil ?_
    refine W_ret ?_
    (have e : frameQ ins s k = ((firstQ ins s : Int) + k, true) := if_pos hz; exact ⟨_, rfl, by rw [e]; rfl, H⟩)
  · refine W_seq ?_
    refine W_region_l ?_
    refine WL_stepM rfl (R_as) ?_
    refine WL_stepM rfl (R_as) ?_
    refine WL_nil ?_
    refine W_seq ?_
    refine W_seq ?_
    refine W_region_l ?_
    refine WL_stepM rfl (R_mv) ?_
    refine WL_stepM rfl (R_mv) ?_
    refine WL_stepM rfl (R_mv) ?_
    (refine WL_call rfl (R_call rfl Try.call57 rfl) (owns_ret s k hS) ?_; rintro _ w12 ⟨rfl, H1⟩; rw [decide_eq_false hz]; replace H := H.seq0 H1; clear H1)
    refine WL_step rfl (R_not_f rfl) ?_
    refine WL_nil ?_
    refine W_cond_t rfl ?_
    refine W_seq ?_
    refine W_region_l ?_
    refine WL_stepM rfl (R_as) ?_
    refine WL_stepM rfl (R_as) ?_
    refine WL_nil ?_
    refine W_ret ?_
    (have e : frameQ ins s k = (0, false) := if_neg hz; exact ⟨_, rfl, by rw [e]; rfl, H⟩)
end
end Go.Proofs.Ytjfcnmbalojehaa.Quota

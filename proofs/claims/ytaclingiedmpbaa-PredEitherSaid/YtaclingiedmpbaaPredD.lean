/-
  Programs that ask for some bits, or for a time; programs made of numbers; the package's own try.
-/
import Derived.Test.YtaclingiedmpbaaPredC
namespace Go.Proofs.Ytaclingiedmpbaa.Pred
open Go Go.Proofs Go.Proofs.Ytaclingiedmpbaa.Fx
set_option maxRecDepth 100000
set_option linter.unusedVariables false
set_option linter.unusedSimpArgs false
set_option maxHeartbeats 1000000

def anyL (at_ mask : Int) : List In := [⟨1, at_, 0⟩, ⟨3, mask, 0⟩, ⟨7, 0, 0⟩, ⟨5, 1, 0⟩, ⟨6, 0, 0⟩]
def anyP (at_ mask : Int) : List In := if (0 ≤ at_ ∧ at_ ≤ 65535) ∧ 0 ≤ mask ∧ mask ≤ 65535 then anyL at_ mask else []
def afterL (t : Int) : List In := [⟨2, 0, 0⟩, ⟨4, t, 0⟩, ⟨5, 1, 0⟩, ⟨6, 0, 0⟩]
def afterP (t : Int) : List In := if 0 ≤ t ∧ t ≤ 65535 then afterL t else []

theorem any_ret (a m : Int) (w : World) :
    Ret Try.prog 30 #[I a, I m] w fun v w' => ∃ M, OwnS w.heap.size 44 3 v (anyP a m).length (rows insC (anyP a m)) M ∧ Hp w M w' := by
  refine Ret_of_W (args := [_, _]) Try.func30 rfl Try.ntmps30 Try.results30 (by simp) ?_
  have H := Hp.refl w
  refine W_seq ?_
  refine W_region_l ?_
  refine WL_stepM rfl (R_as) ?_
  refine WL_nil ?_
  refine W_seq ?_
  refine W_seq ?_
  refine W_region_l ?_
  refine WL_stepM rfl (R_mv) ?_
  (refine WL_call rfl (R_call rfl Try.call44 rfl) (in_ret _ _) ?_; rintro _ w9 ⟨rfl, H1⟩; replace H := H.seq0 H1; clear H1)
  refine WL_step rfl (R_not_d rfl) ?_
  refine WL_stepM rfl (R_mv) ?_
  apply WL_orK 4 8 12 [(9, 12)] H
  case hc => rfl
  case h1 =>
    intro h12
    refine WL_guard_t rfl rfl ?_
    refine WL_stepM rfl (R_mv) ?_
    refine WL_guard_t rfl rfl ?_
    (refine WL_call rfl (R_call rfl Try.call44 rfl) (in_ret _ _) ?_; rintro _ w16 ⟨rfl, H1⟩; replace H := H.seq0 H1; clear H1)
    refine WL_guard_t rfl rfl ?_
    refine WL_step rfl (R_not_d rfl) ?_
    refine WL_stepM rfl (R_pk_f rfl) ?_
    refine WL_nil ?_
    exact ⟨(by repeat' first | refine same_updo rfl ?_ | refine same_mov rfl ?_ | refine same_upd rfl ?_ | refine same_updn ?_ | refine same_know rfl ?_ | exact same_ovr | refine same_in rfl ?_ | exact Same.refl), rfl, H⟩
  case h0 =>
    intro h12
    refine WL_guard_f rfl rfl (by decide) ?_
    refine WL_guard_f rfl rfl (by decide) ?_
    refine WL_guard_f rfl rfl (by decide) ?_
    refine WL_stepM rfl (R_pk_t rfl) ?_
    refine WL_nil ?_
    exact ⟨(by repeat' first | refine same_updo rfl ?_ | refine same_mov rfl ?_ | refine same_upd rfl ?_ | refine same_updn ?_ | refine same_know rfl ?_ | exact same_ovr | refine same_in rfl ?_ | exact Same.refl), rfl, H⟩
  case h2 =>
    (clear H; intro E12 w12 H)
    refine WL_nil ?_
    refine W_if rfl (fun h29 => ?_) (fun h29 => ?_)
    · refine W_seq ?_
      refine W_region_l ?_
      refine WL_stepM rfl (R_as) ?_
      refine WL_nil ?_
      refine W_ret ?_
      exact ⟨_, rfl, [], (by unfold anyP; rw [if_neg (by omega)]; exact OwnS.nil _ _ _), H⟩
    · refine W_skip ?_
      refine W_seq ?_
      refine W_region_l ?_
      refine WL_stepM rfl (R_mv) ?_
      refine WL_step rfl (R_build (vs := [(.int _ _), (.int _ _), (.int _ _)]) rfl rfl) ?_
      refine WL_stepM rfl (R_mv) ?_
      refine WL_step rfl (R_build (vs := [(.int _ _), (.int _ _), (.int _ _)]) rfl rfl) ?_
      refine WL_step rfl (R_build (vs := [(.int _ _), (.int _ _), (.int _ _)]) rfl rfl) ?_
      refine WL_step rfl (R_build (vs := [(.int _ _), (.int _ _), (.int _ _)]) rfl rfl) ?_
      refine WL_step rfl (R_build (vs := [(.int _ _), (.int _ _), (.int _ _)]) rfl rfl) ?_
      (refine WL_effn rfl (E_buildRows (vss := [[(.int _ _), (.int _ _), (.int _ _)], [(.int _ _), (.int _ _), (.int _ _)], [(.int _ _), (.int _ _), (.int _ _)], [(.int _ _), (.int _ _), (.int _ _)], [(.int _ _), (.int _ _), (.int _ _)]]) H Try.underlying45 Try.sizeOf44 Try.zeroValue44 rfl rfl (by decide) rfl rfl (by simp)) ?_; clear H; intro b46 w46 hb46 H)
      refine WL_stepM rfl (R_as) ?_
      refine WL_nil ?_
      refine W_ret ?_
      exact ⟨_, rfl, _, (by unfold anyP; rw [if_pos (by omega)]; exact OwnS.new (sp := []) (by assumption) rfl rfl (by decide)), H⟩

theorem after_ret (a : Int) (w : World) :
    Ret Try.prog 31 #[I a] w fun v w' => ∃ M, OwnS w.heap.size 44 3 v (afterP a).length (rows insC (afterP a)) M ∧ Hp w M w' := by
  refine Ret_of_W (args := [_]) Try.func31 rfl Try.ntmps31 Try.results31 (by simp) ?_
  have H := Hp.refl w
  refine W_seq ?_
  refine W_region_l ?_
  refine WL_stepM rfl (R_as) ?_
  refine WL_nil ?_
  refine W_seq ?_
  refine W_seq ?_
  refine W_region_l ?_
  refine WL_stepM rfl (R_mv) ?_
  (refine WL_call rfl (R_call rfl Try.call44 rfl) (in_ret _ _) ?_; rintro _ w9 ⟨rfl, H1⟩; replace H := H.seq0 H1; clear H1)
  refine WL_step rfl (R_not_d rfl) ?_
  refine WL_nil ?_
  refine W_if rfl (fun h12 => ?_) (fun h12 => ?_)
  · refine W_seq ?_
    refine W_region_l ?_
    refine WL_stepM rfl (R_as) ?_
    refine WL_nil ?_
    refine W_ret ?_
    exact ⟨_, rfl, [], (by unfold afterP; rw [if_neg (by omega)]; exact OwnS.nil _ _ _), H⟩
  · refine W_skip ?_
    refine W_seq ?_
    refine W_region_l ?_
    refine WL_step rfl (R_build (vs := [(.int _ _), (.int _ _), (.int _ _)]) rfl rfl) ?_
    refine WL_stepM rfl (R_mv) ?_
    refine WL_step rfl (R_build (vs := [(.int _ _), (.int _ _), (.int _ _)]) rfl rfl) ?_
    refine WL_step rfl (R_build (vs := [(.int _ _), (.int _ _), (.int _ _)]) rfl rfl) ?_
    refine WL_step rfl (R_build (vs := [(.int _ _), (.int _ _), (.int _ _)]) rfl rfl) ?_
    (refine WL_effn rfl (E_buildRows (vss := [[(.int _ _), (.int _ _), (.int _ _)], [(.int _ _), (.int _ _), (.int _ _)], [(.int _ _), (.int _ _), (.int _ _)], [(.int _ _), (.int _ _), (.int _ _)]]) H Try.underlying45 Try.sizeOf44 Try.zeroValue44 rfl rfl (by decide) rfl rfl (by simp)) ?_; clear H; intro b27 w27 hb27 H)
    refine WL_stepM rfl (R_as) ?_
    refine WL_nil ?_
    refine W_ret ?_
    exact ⟨_, rfl, _, (by unfold afterP; rw [if_pos (by omega)]; exact OwnS.new (sp := []) (by assumption) rfl rfl (by decide)), H⟩

theorem rd_any {w : World} {b : Nat} {l : List In} (hb : w.heap[b]? = some (blk (rows insC l ++ []) 44)) : RdR insC w (sl b 0 l.length l.length) l :=
  RdR.blk (off := 0) hb (by simp) (Nat.le_refl _)

theorem awake_ret (w : World) : Ret Try.prog 22 #[] w fun v w' => v = .bool true ∧ Hp w [] w' := by
  refine Ret_of_W (args := []) Try.func22 rfl Try.ntmps22 Try.results22 (by simp) ?_
  have H := Hp.refl w
  refine W_seq ?_
  refine W_region_l ?_
  refine WL_stepM rfl (R_as) ?_
  refine WL_nil ?_
  refine W_seq ?_
  refine W_region_l ?_
  (refine WL_call rfl (R_call rfl Try.call30 rfl) (any_ret 0 1 _) ?_; rintro v w7 ⟨M, hO, H1⟩; rw [show anyP 0 1 = anyL 0 1 from rfl] at hO; obtain ⟨hO, H⟩ := H.seqO hO H1; clear H1; obtain ⟨b, cap, sp, rfl, hb, rfl, hsp, hcap⟩ := OwnS.pos hO (by decide))
  refine WL_stepM rfl (R_as) ?_
  refine WL_nil ?_
  refine W_seq ?_
  refine W_region_l ?_
  (refine WL_effn rfl (E_buildOnes (vs := [(.int _ _)]) H Try.underlying42 Try.sizeOf5 Try.zeroValue5 rfl rfl (by decide) rfl rfl (by simp [Value.oneCell'])) ?_; clear H; intro b12 w12 hb12 H)
  refine WL_stepM rfl (R_mv) ?_
  (refine WL_call rfl (R_call rfl Try.call23 rfl) (eval_ret (view := [1]) (l := anyL 0 1) 0 (RdS.blk (off := 0) (H.get .here) rfl (by decide) (by decide)) (RdR.own insC_len hO rfl (fun p hp => by rw [List.mem_singleton.1 hp]; exact H.get (.there .here))) (by decide) (by decide)) ?_; rintro _ w14 ⟨rfl, H1⟩; rw [show evP [1] 0 (anyL 0 1) = (true, 5) from by decide]; replace H := H.seq0 H1; clear H1)
  refine WL_stepM rfl (R_mv) ?_
  refine WL_step rfl (R_extract rfl rfl) ?_
  refine WL_step rfl (R_extract rfl rfl) ?_
  refine WL_stepM rfl (R_as) ?_
  refine WL_stepM rfl (R_as) ?_
  refine WL_nil ?_
  refine W_seq ?_
  refine W_region_l ?_
  (refine WL_effn rfl (E_buildOnes (vs := [(.int _ _)]) H Try.underlying42 Try.sizeOf5 Try.zeroValue5 rfl rfl (by decide) rfl rfl (by simp [Value.oneCell'])) ?_; clear H; intro b23 w23 hb23 H)
  refine WL_stepM rfl (R_mv) ?_
  (refine WL_call rfl (R_call rfl Try.call23 rfl) (eval_ret (view := [2]) (l := anyL 0 1) 0 (RdS.blk (off := 0) (H.get .here) rfl (by decide) (by decide)) (RdR.own insC_len hO rfl (fun p hp => by rw [List.mem_singleton.1 hp]; exact H.get (.there (.there .here)))) (by decide) (by decide)) ?_; rintro _ w25 ⟨rfl, H1⟩; rw [show evP [2] 0 (anyL 0 1) = (false, 4) from by decide]; replace H := H.seq0 H1; clear H1)
  refine WL_stepM rfl (R_mv) ?_
  refine WL_step rfl (R_extract rfl rfl) ?_
  refine WL_step rfl (R_extract rfl rfl) ?_
  refine WL_stepM rfl (R_as) ?_
  refine WL_stepM rfl (R_as) ?_
  refine WL_nil ?_
  refine W_seq ?_
  refine W_region_l ?_
  refine WL_stepM rfl (R_mv) ?_
  refine WL_stepM rfl (R_mv) ?_
  refine WL_guard_t rfl rfl ?_
  refine WL_stepM rfl (R_mv) ?_
  refine WL_guard_t rfl rfl ?_
  refine WL_step rfl (R_eq_t rfl rfl (by omega)) ?_
  refine WL_stepM rfl (R_pk_t rfl) ?_
  refine WL_stepM rfl (R_mv) ?_
  refine WL_guard_t rfl rfl ?_
  refine WL_stepM rfl (R_mv) ?_
  refine WL_guard_t rfl rfl ?_
  refine WL_step rfl (R_not_f rfl) ?_
  refine WL_stepM rfl (R_pk_t rfl) ?_
  refine WL_stepM rfl (R_mv) ?_
  refine WL_guard_t rfl rfl ?_
  refine WL_stepM rfl (R_mv) ?_
  refine WL_guard_t rfl rfl ?_
  (refine WL_call rfl (R_call rfl Try.call24 rfl) (check_ret (l := anyL 0 1) (RdR.own insC_len hO rfl (fun p hp => by rw [List.mem_singleton.1 hp]; exact H.get (.there (.there .here)))) (by decide)) ?_; rintro _ w51 ⟨rfl, H1⟩; rw [show chk (anyL 0 1) = 0 from by decide]; replace H := H.seq0 H1; clear H1)
  refine WL_guard_t rfl rfl ?_
  refine WL_step rfl (R_eq_t rfl rfl (by omega)) ?_
  refine WL_stepM rfl (R_pk_t rfl) ?_
  refine WL_stepM rfl (R_mv) ?_
  refine WL_guard_t rfl rfl ?_
  refine WL_stepM rfl (R_mv) ?_
  refine WL_guard_t rfl rfl ?_
  refine WL_step rfl (R_len_slice Try.underlying45 rfl) ?_
  refine WL_guard_t rfl rfl ?_
  refine WL_step rfl (R_eq_t rfl rfl (by decide)) ?_
  refine WL_stepM rfl (R_pk_t rfl) ?_
  refine WL_stepM rfl (R_as) ?_
  refine WL_nil ?_
  refine W_ret ?_
  exact ⟨_, rfl, rfl, H.none (by repeat' first | exact kNil | apply kCons | apply kApp | assumption | exact OwnS.keys (by assumption))⟩
end Go.Proofs.Ytaclingiedmpbaa.Pred

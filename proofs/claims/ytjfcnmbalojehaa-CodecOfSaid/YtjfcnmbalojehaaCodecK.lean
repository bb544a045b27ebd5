/-
  The law CodecOf.
-/
import Derived.Test.YtjfcnmbalojehaaCodecJ
import Derived.Test.YtjfcnmbalojehaaFxZ
namespace Go.Proofs.Ytjfcnmbalojehaa.Codec
open Go Go.Proofs Go.Proofs.Ytjfcnmbalojehaa.Fx
set_option maxRecDepth 100000
set_option linter.unusedVariables false
set_option linter.unusedSimpArgs false
set_option maxHeartbeats 4000000

def goodS : List UInt8 → Bool
  | [] => false
  | x :: _ => x != 9
section
variable {w : World} {p k : Nat} {gf pf : Value} {sz : Int}
theorem sizeI_ret (hc : w.heap[p]? = some (blk [I sz, pf, gf] 98)) : Ret Try.prog 45 #[ptr p 0] w fun v w' => v = I sz ∧ Hp w [] w' := by
  refine Ret_of_W (args := [_]) Try.func45 rfl Try.ntmps45 Try.results45 (by simp) ?_
  have H := Hp.refl w
  refine W_seq ?_
  refine W_region_l ?_
  refine WL_stepM rfl (R_as) ?_
  refine WL_nil ?_
  refine W_seq ?_
  refine W_region_l ?_
  refine WL_stepM rfl (R_mv) ?_
  refine WL_step rfl (R_nilCheck rfl) ?_
  refine WL_step rfl (R_fieldAddr (off' := 0) Try.underlying98 rfl Try.sizeOf3 (by decide) rfl rfl) ?_
  refine WL_step rfl (R_load Try.isAgg3 rfl (H.block hc (by simp)) rfl) ?_
  refine WL_stepM rfl (R_as) ?_
  refine WL_nil ?_
  refine W_ret ?_
  exact ⟨_, rfl, rfl, H⟩
theorem sizeS_ret (hc : w.heap[p]? = some (blk [I sz, pf, gf] 95)) : Ret Try.prog 46 #[ptr p 0] w fun v w' => v = I sz ∧ Hp w [] w' := by
  refine Ret_of_W (args := [_]) Try.func46 rfl Try.ntmps46 Try.results46 (by simp) ?_
  have H := Hp.refl w
  refine W_seq ?_
  refine W_region_l ?_
  refine WL_stepM rfl (R_as) ?_
  refine WL_nil ?_
  refine W_seq ?_
  refine W_region_l ?_
  refine WL_stepM rfl (R_mv) ?_
  refine WL_step rfl (R_nilCheck rfl) ?_
  refine WL_step rfl (R_fieldAddr (off' := 0) Try.underlying95 rfl Try.sizeOf3 (by decide) rfl rfl) ?_
  refine WL_step rfl (R_load Try.isAgg3 rfl (H.block hc (by simp)) rfl) ?_
  refine WL_stepM rfl (R_as) ?_
  refine WL_nil ?_
  refine W_ret ?_
  exact ⟨_, rfl, rfl, H⟩
theorem getS_ret {xs : List UInt8} {l : Value} (hl : RdS w l (xs.map U)) (hb : xs.length ≤ 200) :
    Ret Try.prog 44 #[l] w fun v w' => v = .tuple #[S xs, .bool (goodS xs)] ∧ Hp w [] w' := by
  refine Ret_of_W (args := [_]) Try.func44 rfl Try.ntmps44 Try.results44 (by simp) ?_
  have H := Hp.refl w
  have hl0 := hl
  obtain ⟨ao, ca, rfl⟩ := hl.form
  simp only [List.length_map] at hl ⊢
  cases xs with
  | nil =>
    refine W_seq ?_
    refine W_region_l ?_
    refine WL_stepM rfl (R_as) ?_
    refine WL_stepM rfl (R_as) ?_
    refine WL_nil ?_
    refine W_seq ?_
    (refine W_drawH (fun _ => false) (by kernel_rfl) H ?_; clear H; intro w7 H)
    refine WA_takeM 0 rfl rfl rfl (by kernel_rfl) (by kernel_rfl) H (fun _ hC => R_mv) ?_
    refine WA_take 1 rfl rfl rfl (by kernel_rfl) (by kernel_rfl) H (fun _ hC => R_conv_bs (xs := []) Try.underlying43 Try.underlying5 Try.underlying9 rfl (hl.same (hC.none (by repeat' first | exact kNil | apply kCons | apply kApp | assumption | exact OwnS.keys (by assumption))))) ?_
    refine WA_takeM 2 rfl rfl rfl (by kernel_rfl) (by kernel_rfl) H (fun _ hC => R_mv) ?_
    refine WA_take 3 rfl rfl rfl (by kernel_rfl) (by kernel_rfl) H (fun _ hC => R_len_slice Try.underlying43 rfl) ?_
    refine WA_take 4 rfl rfl rfl (by kernel_rfl) (by kernel_rfl) H (fun _ hC => R_gt_f rfl rfl (by simp)) ?_
    refine WA_takeM 5 rfl rfl rfl (by kernel_rfl) (by kernel_rfl) H (fun _ hC => R_mv) ?_
    refine WA_pass 6 rfl rfl rfl (fun h => nomatch h) (by kernel_rfl) (by kernel_rfl) H ?_
    refine WA_pass 7 rfl rfl rfl (fun h => nomatch h) (by kernel_rfl) (by kernel_rfl) H ?_
    refine WA_pass 8 rfl rfl rfl (fun h => nomatch h) (by kernel_rfl) (by kernel_rfl) H ?_
    refine WA_pass 9 rfl rfl rfl (fun h => nomatch h) (by kernel_rfl) (by kernel_rfl) H ?_
    refine WA_takeM 10 rfl rfl rfl (by kernel_rfl) (by kernel_rfl) H (fun _ hC => R_pk_f rfl) ?_
    refine WA_takeM 11 rfl rfl rfl (by kernel_rfl) (by kernel_rfl) H (fun _ hC => R_as) ?_
    refine WA_takeM 12 rfl rfl rfl (by kernel_rfl) (by kernel_rfl) H (fun _ hC => R_as) ?_
    refine WA_done (by kernel_rfl) ?_
    refine W_ret ?_
    exact ⟨_, rfl, rfl, H.none (by repeat' first | exact kNil | apply kCons | apply kApp | assumption | exact OwnS.keys (by assumption))⟩
  | cons x xs =>
    obtain ⟨bz, oz, rfl, hc⟩ := hl.cell (i := 0) (u := U x) rfl
    have hx := x.toNat_lt
    by_cases h9 : x = 9
    · subst h9
      refine W_seq ?_
      refine W_region_l ?_
      refine WL_stepM rfl (R_as) ?_
      refine WL_stepM rfl (R_as) ?_
      refine WL_nil ?_
      refine W_seq ?_
      (refine W_drawH (fun _ => false) (by kernel_rfl) H ?_; clear H; intro w7 H)
      refine WA_takeM 0 rfl rfl rfl (by kernel_rfl) (by kernel_rfl) H (fun _ hC => R_mv) ?_
      refine WA_take 1 rfl rfl rfl (by kernel_rfl) (by kernel_rfl) H (fun _ hC => R_conv_bs (xs := 9 :: xs) Try.underlying43 Try.underlying5 Try.underlying9 rfl (hl.same (hC.none (by repeat' first | exact kNil | apply kCons | apply kApp | assumption | exact OwnS.keys (by assumption))))) ?_
      refine WA_takeM 2 rfl rfl rfl (by kernel_rfl) (by kernel_rfl) H (fun _ hC => R_mv) ?_
      refine WA_take 3 rfl rfl rfl (by kernel_rfl) (by kernel_rfl) H (fun _ hC => R_len_slice Try.underlying43 rfl) ?_
      refine WA_take 4 rfl rfl rfl (by kernel_rfl) (by kernel_rfl) H (fun _ hC => R_gt_t rfl rfl (by simp only [List.length_cons]; omega)) ?_
      refine WA_takeM 5 rfl rfl rfl (by kernel_rfl) (by kernel_rfl) H (fun _ hC => R_mv) ?_
      refine WA_takeGM 6 rfl rfl rfl rfl (by kernel_rfl) (by kernel_rfl) H (fun _ hC => R_mv) ?_
      refine WA_takeG 7 rfl rfl rfl rfl (by kernel_rfl) (by kernel_rfl) H (fun _ hC => R_indexAddr (off' := oz + 0) Try.underlying43 Try.sizeOf5 rfl rfl (by decide) (by simp only [List.length_cons]; omega) rfl) ?_
      refine WA_takeG 8 rfl rfl rfl rfl (by kernel_rfl) (by kernel_rfl) H (fun _ hC => R_load_cell (v := U 9) Try.isAgg5 rfl ((hC.none (by repeat' first | exact kNil | apply kCons | apply kApp | assumption | exact OwnS.keys (by assumption))).cell hc (by simp))) ?_
      refine WA_takeG 9 rfl rfl rfl rfl (by kernel_rfl) (by kernel_rfl) H (fun _ hC => R_ne_f rfl rfl rfl) ?_
      refine WA_takeM 10 rfl rfl rfl (by kernel_rfl) (by kernel_rfl) H (fun _ hC => R_pk_t rfl) ?_
      refine WA_takeM 11 rfl rfl rfl (by kernel_rfl) (by kernel_rfl) H (fun _ hC => R_as) ?_
      refine WA_takeM 12 rfl rfl rfl (by kernel_rfl) (by kernel_rfl) H (fun _ hC => R_as) ?_
      refine WA_done (by kernel_rfl) ?_
      refine W_ret ?_
      exact ⟨_, rfl, rfl, H.none (by repeat' first | exact kNil | apply kCons | apply kApp | assumption | exact OwnS.keys (by assumption))⟩
    · have hg : goodS (x :: xs) = true := by show (x != 9) = true; simp [h9]
      rw [hg]
      refine W_seq ?_
      refine W_region_l ?_
      refine WL_stepM rfl (R_as) ?_
      refine WL_stepM rfl (R_as) ?_
      refine WL_nil ?_
      refine W_seq ?_
      (refine W_drawH (fun _ => false) (by kernel_rfl) H ?_; clear H; intro w7 H)
      refine WA_takeM 0 rfl rfl rfl (by kernel_rfl) (by kernel_rfl) H (fun _ hC => R_mv) ?_
      refine WA_take 1 rfl rfl rfl (by kernel_rfl) (by kernel_rfl) H (fun _ hC => R_conv_bs (xs := x :: xs) Try.underlying43 Try.underlying5 Try.underlying9 rfl (hl.same (hC.none (by repeat' first | exact kNil | apply kCons | apply kApp | assumption | exact OwnS.keys (by assumption))))) ?_
      refine WA_takeM 2 rfl rfl rfl (by kernel_rfl) (by kernel_rfl) H (fun _ hC => R_mv) ?_
      refine WA_take 3 rfl rfl rfl (by kernel_rfl) (by kernel_rfl) H (fun _ hC => R_len_slice Try.underlying43 rfl) ?_
      refine WA_take 4 rfl rfl rfl (by kernel_rfl) (by kernel_rfl) H (fun _ hC => R_gt_t rfl rfl (by simp only [List.length_cons]; omega)) ?_
      refine WA_takeM 5 rfl rfl rfl (by kernel_rfl) (by kernel_rfl) H (fun _ hC => R_mv) ?_
      refine WA_takeGM 6 rfl rfl rfl rfl (by kernel_rfl) (by kernel_rfl) H (fun _ hC => R_mv) ?_
      refine WA_takeG 7 rfl rfl rfl rfl (by kernel_rfl) (by kernel_rfl) H (fun _ hC => R_indexAddr (off' := oz + 0) Try.underlying43 Try.sizeOf5 rfl rfl (by decide) (by simp only [List.length_cons]; omega) rfl) ?_
      refine WA_takeG 8 rfl rfl rfl rfl (by kernel_rfl) (by kernel_rfl) H (fun _ hC => R_load_cell (v := U x) Try.isAgg5 rfl ((hC.none (by repeat' first | exact kNil | apply kCons | apply kApp | assumption | exact OwnS.keys (by assumption))).cell hc (by simp))) ?_
      refine WA_takeG 9 rfl rfl rfl rfl (by kernel_rfl) (by kernel_rfl) H (fun _ hC => R_ne_t rfl rfl (fun h => h9 (u8_eq.1 (h.trans rfl)))) ?_
      refine WA_takeM 10 rfl rfl rfl (by kernel_rfl) (by kernel_rfl) H (fun _ hC => R_pk_t rfl) ?_
      refine WA_takeM 11 rfl rfl rfl (by kernel_rfl) (by kernel_rfl) H (fun _ hC => R_as) ?_
      refine WA_takeM 12 rfl rfl rfl (by kernel_rfl) (by kernel_rfl) H (fun _ hC => R_as) ?_
      refine WA_done (by kernel_rfl) ?_
      refine W_ret ?_
      exact ⟨_, rfl, rfl, H.none (by repeat' first | exact kNil | apply kCons | apply kApp | assumption | exact OwnS.keys (by assumption))⟩
theorem decS_ret {xs : List UInt8} {l : Value} (hl : RdS w l (xs.map U)) (h64 : k ≤ 64) (hb : xs.length ≤ 200) (hc : w.heap[p]? = some (blk [I k, pf, .func (.func 44) #[] #[]] 95)) :
    Ret Try.prog 34 #[ptr p 0, l] w fun v w' => v = (if xs.length = k ∧ goodS xs = true then .tuple #[S xs, .bool true] else .tuple #[S [], .bool false]) ∧ Hp w [] w' := by
  refine Ret_of_W (args := [_, _]) Try.func34 rfl Try.ntmps34 Try.results34 (by simp) ?_
  have H := Hp.refl w
  obtain ⟨ao, ca, rfl⟩ := hl.form
  simp only [List.length_map] at hl ⊢
  by_cases hs : xs.length = k
  · cases hg : goodS xs with
    | true =>
      rw [if_pos ⟨hs, rfl⟩]
      refine W_seq ?_
      refine W_region_l ?_
      refine WL_stepM rfl (R_as) ?_
      refine WL_stepM rfl (R_as) ?_
      refine WL_nil ?_
      refine W_seq ?_
      refine W_region_l ?_
      refine WL_stepM rfl (R_as) ?_
      refine WL_nil ?_
      refine W_seq ?_
      refine W_seq ?_
      refine W_region_l ?_
      refine WL_stepM rfl (R_mv) ?_
      refine WL_step rfl (R_nilCheck rfl) ?_
      refine WL_step rfl (R_fieldAddr (off' := 2) Try.underlying95 rfl Try.sizeOf56 (by decide) rfl rfl) ?_
      refine WL_step rfl (R_load Try.isAgg56 rfl (H.block hc (by simp)) rfl) ?_
      refine WL_step rfl (R_eq_fn Try.underlying56 rfl rfl) ?_
      refine WL_stepM rfl (R_mv) ?_
      refine WL_guard_t rfl rfl ?_
      refine WL_stepM rfl (R_mv) ?_
      refine WL_guard_t rfl rfl ?_
      refine WL_step rfl (R_len_slice Try.underlying43 rfl) ?_
      refine WL_guard_t rfl rfl ?_
      refine WL_stepM rfl (R_mv) ?_
      refine WL_guard_t rfl rfl ?_
      refine WL_step rfl (R_nilCheck rfl) ?_
      refine WL_guard_t rfl rfl ?_
      refine WL_step rfl (R_fieldAddr (off' := 0) Try.underlying95 rfl Try.sizeOf3 (by decide) rfl rfl) ?_
      refine WL_guard_t rfl rfl ?_
      refine WL_step rfl (R_load Try.isAgg3 rfl (H.block hc (by simp)) rfl) ?_
      refine WL_guard_t rfl rfl ?_
      refine WL_step rfl (R_ne_f rfl rfl (by omega)) ?_
      refine WL_stepM rfl (R_pk_f rfl) ?_
      refine WL_nil ?_
      refine W_cond_f rfl ?_
      refine W_skip ?_
      refine W_seq ?_
      (refine W_drawH (fun _ => false) (by kernel_rfl) H ?_; clear H; intro w38 H)
      refine WA_takeM 0 rfl rfl rfl (by kernel_rfl) (by kernel_rfl) H (fun _ hC => R_mv) ?_
      refine WA_take 1 rfl rfl rfl (by kernel_rfl) (by kernel_rfl) H (fun _ hC => R_nilCheck rfl) ?_
      refine WA_take 2 rfl rfl rfl (by kernel_rfl) (by kernel_rfl) H (fun _ hC => R_fieldAddr (off' := 2) Try.underlying95 rfl Try.sizeOf56 (by decide) rfl rfl) ?_
      refine WA_take 3 rfl rfl rfl (by kernel_rfl) (by kernel_rfl) H (fun _ hC => R_load Try.isAgg56 rfl (hC.block hc (by simp)) rfl) ?_
      refine WA_takeM 4 rfl rfl rfl (by kernel_rfl) (by kernel_rfl) H (fun _ hC => R_mv) ?_
      refine WA_one (i := 5) (by kernel_rfl) ?_
      (refine WI_call rfl (.inl rfl) (R_call rfl Try.call62 rfl) (clone_ret (hl.same H) (by omega)) (fun _ _ ⟨_, hO, H1⟩ _ => H.seqD H1 hO.keys) ?_; rintro v2 w45 ⟨M, hO, H1⟩; have h45 := H.seqO hO H1; clear H H1 hO; obtain ⟨hO, H⟩ := h45; rw [List.append_nil] at H)
      refine WA_one (i := 6) (by kernel_rfl) ?_
      (refine WI_call rfl (.inl rfl) (R_call rfl Try.call44 rfl) (getS_ret (xs := xs) (RdS.own hO (fun p hp => H.held p hp)) (by omega)) (fun _ _ hR _ => (H.seq0 hR.2).none (by repeat' first | exact kNil | apply kCons | apply kApp | assumption | exact OwnS.keys (by assumption))) ?_; rintro _ w47 ⟨rfl, H1⟩; rw [hg]; replace H := H.seq0 H1; clear H1)
      refine WA_takeM 7 rfl rfl rfl (by kernel_rfl) (by kernel_rfl) (H.none (by repeat' first | exact kNil | apply kCons | apply kApp | assumption | exact OwnS.keys (by assumption))) (fun _ hC => R_mv) ?_
      refine WA_take 8 rfl rfl rfl (by kernel_rfl) (by kernel_rfl) (H.none (by repeat' first | exact kNil | apply kCons | apply kApp | assumption | exact OwnS.keys (by assumption))) (fun _ hC => R_extract rfl rfl) ?_
      refine WA_take 9 rfl rfl rfl (by kernel_rfl) (by kernel_rfl) (H.none (by repeat' first | exact kNil | apply kCons | apply kApp | assumption | exact OwnS.keys (by assumption))) (fun _ hC => R_extract rfl rfl) ?_
      refine WA_takeM 10 rfl rfl rfl (by kernel_rfl) (by kernel_rfl) (H.none (by repeat' first | exact kNil | apply kCons | apply kApp | assumption | exact OwnS.keys (by assumption))) (fun _ hC => R_as) ?_
      refine WA_takeM 11 rfl rfl rfl (by kernel_rfl) (by kernel_rfl) (H.none (by repeat' first | exact kNil | apply kCons | apply kApp | assumption | exact OwnS.keys (by assumption))) (fun _ hC => R_as) ?_
      refine WA_done (by kernel_rfl) ?_
      refine W_seq ?_
      refine W_seq ?_
      refine W_region_l ?_
      refine WL_stepM rfl (R_mv) ?_
      refine WL_step rfl (R_not_t rfl) ?_
      refine WL_nil ?_
      refine W_cond_f rfl ?_
      refine W_skip ?_
      refine W_seq ?_
      refine W_region_l ?_
      refine WL_stepM rfl (R_mv) ?_
      refine WL_stepM rfl (R_as) ?_
      refine WL_stepM rfl (R_as) ?_
      refine WL_nil ?_
      refine W_ret ?_
      exact ⟨_, rfl, rfl, H.none (by repeat' first | exact kNil | apply kCons | apply kApp | assumption | exact OwnS.keys (by assumption))⟩
    | false =>
      rw [if_neg (fun h => nomatch h.2)]
      refine W_seq ?_
      refine W_region_l ?_
      refine WL_stepM rfl (R_as) ?_
      refine WL_stepM rfl (R_as) ?_
      refine WL_nil ?_
      refine W_seq ?_
      refine W_region_l ?_
      refine WL_stepM rfl (R_as) ?_
      refine WL_nil ?_
      refine W_seq ?_
      refine W_seq ?_
      refine W_region_l ?_
      refine WL_stepM rfl (R_mv) ?_
      refine WL_step rfl (R_nilCheck rfl) ?_
      refine WL_step rfl (R_fieldAddr (off' := 2) Try.underlying95 rfl Try.sizeOf56 (by decide) rfl rfl) ?_
      refine WL_step rfl (R_load Try.isAgg56 rfl (H.block hc (by simp)) rfl) ?_
      refine WL_step rfl (R_eq_fn Try.underlying56 rfl rfl) ?_
      refine WL_stepM rfl (R_mv) ?_
      refine WL_guard_t rfl rfl ?_
      refine WL_stepM rfl (R_mv) ?_
      refine WL_guard_t rfl rfl ?_
      refine WL_step rfl (R_len_slice Try.underlying43 rfl) ?_
      refine WL_guard_t rfl rfl ?_
      refine WL_stepM rfl (R_mv) ?_
      refine WL_guard_t rfl rfl ?_
      refine WL_step rfl (R_nilCheck rfl) ?_
      refine WL_guard_t rfl rfl ?_
      refine WL_step rfl (R_fieldAddr (off' := 0) Try.underlying95 rfl Try.sizeOf3 (by decide) rfl rfl) ?_
      refine WL_guard_t rfl rfl ?_
      refine WL_step rfl (R_load Try.isAgg3 rfl (H.block hc (by simp)) rfl) ?_
      refine WL_guard_t rfl rfl ?_
      refine WL_step rfl (R_ne_f rfl rfl (by omega)) ?_
      refine WL_stepM rfl (R_pk_f rfl) ?_
      refine WL_nil ?_
      refine W_cond_f rfl ?_
      refine W_skip ?_
      refine W_seq ?_
      (refine W_drawH (fun _ => false) (by kernel_rfl) H ?_; clear H; intro w38 H)
      refine WA_takeM 0 rfl rfl rfl (by kernel_rfl) (by kernel_rfl) H (fun _ hC => R_mv) ?_
      refine WA_take 1 rfl rfl rfl (by kernel_rfl) (by kernel_rfl) H (fun _ hC => R_nilCheck rfl) ?_
      refine WA_take 2 rfl rfl rfl (by kernel_rfl) (by kernel_rfl) H (fun _ hC => R_fieldAddr (off' := 2) Try.underlying95 rfl Try.sizeOf56 (by decide) rfl rfl) ?_
      refine WA_take 3 rfl rfl rfl (by kernel_rfl) (by kernel_rfl) H (fun _ hC => R_load Try.isAgg56 rfl (hC.block hc (by simp)) rfl) ?_
      refine WA_takeM 4 rfl rfl rfl (by kernel_rfl) (by kernel_rfl) H (fun _ hC => R_mv) ?_
      refine WA_one (i := 5) (by kernel_rfl) ?_
      (refine WI_call rfl (.inl rfl) (R_call rfl Try.call62 rfl) (clone_ret (hl.same H) (by omega)) (fun _ _ ⟨_, hO, H1⟩ _ => H.seqD H1 hO.keys) ?_; rintro v2 w45 ⟨M, hO, H1⟩; have h45 := H.seqO hO H1; clear H H1 hO; obtain ⟨hO, H⟩ := h45; rw [List.append_nil] at H)
      refine WA_one (i := 6) (by kernel_rfl) ?_
      (refine WI_call rfl (.inl rfl) (R_call rfl Try.call44 rfl) (getS_ret (xs := xs) (RdS.own hO (fun p hp => H.held p hp)) (by omega)) (fun _ _ hR _ => (H.seq0 hR.2).none (by repeat' first | exact kNil | apply kCons | apply kApp | assumption | exact OwnS.keys (by assumption))) ?_; rintro _ w47 ⟨rfl, H1⟩; rw [hg]; replace H := H.seq0 H1; clear H1)
      refine WA_takeM 7 rfl rfl rfl (by kernel_rfl) (by kernel_rfl) (H.none (by repeat' first | exact kNil | apply kCons | apply kApp | assumption | exact OwnS.keys (by assumption))) (fun _ hC => R_mv) ?_
      refine WA_take 8 rfl rfl rfl (by kernel_rfl) (by kernel_rfl) (H.none (by repeat' first | exact kNil | apply kCons | apply kApp | assumption | exact OwnS.keys (by assumption))) (fun _ hC => R_extract rfl rfl) ?_
      refine WA_take 9 rfl rfl rfl (by kernel_rfl) (by kernel_rfl) (H.none (by repeat' first | exact kNil | apply kCons | apply kApp | assumption | exact OwnS.keys (by assumption))) (fun _ hC => R_extract rfl rfl) ?_
      refine WA_takeM 10 rfl rfl rfl (by kernel_rfl) (by kernel_rfl) (H.none (by repeat' first | exact kNil | apply kCons | apply kApp | assumption | exact OwnS.keys (by assumption))) (fun _ hC => R_as) ?_
      refine WA_takeM 11 rfl rfl rfl (by kernel_rfl) (by kernel_rfl) (H.none (by repeat' first | exact kNil | apply kCons | apply kApp | assumption | exact OwnS.keys (by assumption))) (fun _ hC => R_as) ?_
      refine WA_done (by kernel_rfl) ?_
      refine W_seq ?_
      refine W_seq ?_
      refine W_region_l ?_
      refine WL_stepM rfl (R_mv) ?_
      refine WL_step rfl (R_not_f rfl) ?_
      refine WL_nil ?_
      refine W_cond_t rfl ?_
      refine W_seq ?_
      refine W_region_l ?_
      refine WL_stepM rfl (R_mv) ?_
      refine WL_stepM rfl (R_as) ?_
      refine WL_stepM rfl (R_as) ?_
      refine WL_nil ?_
      refine W_ret ?_
      exact ⟨_, rfl, rfl, H.none (by repeat' first | exact kNil | apply kCons | apply kApp | assumption | exact OwnS.keys (by assumption))⟩
  · rw [if_neg (fun h => hs h.1)]
    refine W_seq ?_
    refine W_region_l ?_
    refine WL_stepM rfl (R_as) ?_
    refine WL_stepM rfl (R_as) ?_
    refine WL_nil ?_
    refine W_seq ?_
    refine W_region_l ?_
    refine WL_stepM rfl (R_as) ?_
    refine WL_nil ?_
    refine W_seq ?_
    refine W_seq ?_
    refine W_region_l ?_
    refine WL_stepM rfl (R_mv) ?_
    refine WL_step rfl (R_nilCheck rfl) ?_
    refine WL_step rfl (R_fieldAddr (off' := 2) Try.underlying95 rfl Try.sizeOf56 (by decide) rfl rfl) ?_
    refine WL_step rfl (R_load Try.isAgg56 rfl (H.block hc (by simp)) rfl) ?_
    refine WL_step rfl (R_eq_fn Try.underlying56 rfl rfl) ?_
    refine WL_stepM rfl (R_mv) ?_
    refine WL_guard_t rfl rfl ?_
    refine WL_stepM rfl (R_mv) ?_
    refine WL_guard_t rfl rfl ?_
    refine WL_step rfl (R_len_slice Try.underlying43 rfl) ?_
    refine WL_guard_t rfl rfl ?_
    refine WL_stepM rfl (R_mv) ?_
    refine WL_guard_t rfl rfl ?_
    refine WL_step rfl (R_nilCheck rfl) ?_
    refine WL_guard_t rfl rfl ?_
    refine WL_step rfl (R_fieldAddr (off' := 0) Try.underlying95 rfl Try.sizeOf3 (by decide) rfl rfl) ?_
    refine WL_guard_t rfl rfl ?_
    refine WL_step rfl (R_load Try.isAgg3 rfl (H.block hc (by simp)) rfl) ?_
    refine WL_guard_t rfl rfl ?_
    refine WL_step rfl (R_ne_t rfl rfl (by omega)) ?_
    refine WL_stepM rfl (R_pk_f rfl) ?_
    refine WL_nil ?_
    refine W_cond_t rfl ?_
    refine W_seq ?_
    refine W_region_l ?_
    refine WL_stepM rfl (R_mv) ?_
    refine WL_stepM rfl (R_as) ?_
    refine WL_stepM rfl (R_as) ?_
    refine WL_nil ?_
    refine W_ret ?_
    exact ⟨_, rfl, rfl, H.none (by repeat' first | exact kNil | apply kCons | apply kApp | assumption | exact OwnS.keys (by assumption))⟩
end
theorem two_val {m : Nat} (h : m ≤ 65535) (r : List UInt8) (h0 : 0 < (twoB m ++ r).length) (h1 : 1 < (twoB m ++ r).length) : (((twoB m ++ r)[0]'h0).toNat * 256 + ((twoB m ++ r)[1]'h1).toNat : Int) = (m : Int) := by
  show (((UInt8.ofNat (m / 256)).toNat : Int) * 256 + ((UInt8.ofNat m).toNat : Int)) = m
  rw [UInt8.toNat_ofNat', UInt8.toNat_ofNat']
  omega
end Go.Proofs.Ytjfcnmbalojehaa.Codec

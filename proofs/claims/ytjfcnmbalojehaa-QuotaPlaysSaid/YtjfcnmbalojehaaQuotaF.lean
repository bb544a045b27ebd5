/-
  The package's own try; what hangs on one session's row alone.
-/
import Derived.Test.YtjfcnmbalojehaaQuotaE
namespace Go.Proofs.Ytjfcnmbalojehaa.Quota
open Go Go.Proofs Go.Proofs.Ytjfcnmbalojehaa.Fx
set_option maxRecDepth 100000
set_option linter.unusedVariables false
set_option linter.unusedSimpArgs false
set_option maxHeartbeats 1000000

section
variable {w0 w : World} {p : Nat} {uv : Value} {ins : List (Nat × List Int)} {Mo R : List (Nat × Obj)}
theorem alloc_to {ins' : List (Nat × List Int)} {k e : Int} (s : Int) (he : allocQ ins s = (ins', k, e)) (hH : Has w0 w p uv ins Mo R) :
    Ret Try.prog 48 #[ptr p 0, I s] w fun v w' => v = .tuple #[I k, I e] ∧ Has w0 w' p uv ins' Mo R := by
  have h := alloc_ret s hH
  rw [he] at h
  exact h
theorem frame_to {f : Int} {b : Bool} (s k : Int) (he : frameQ ins s k = (f, b)) (hS : Sees w p uv ins) :
    Ret Try.prog 49 #[ptr p 0, I s, I k] w fun v w' => v = .tuple #[I f, .bool b] ∧ Hp w [] w' := by
  have h := frame_ret s k hS
  rw [he] at h
  exact h
theorem used_to {n : Int} (s : Int) (he : usedQ ins s = n) (hS : Sees w p uv ins) :
    Ret Try.prog 58 #[ptr p 0, I s] w fun v w' => v = I n ∧ Hp w [] w' := by
  subst he
  exact used_ret s hS

theorem two_rows {ins : List (Nat × List Int)} (h : ins.map (·.2) = (([3, 2] : List Int).take 4).map nrow) : ∃ ba bb, ins = [(ba, [0, 0, 0]), (bb, [0, 0])] := by
  have h' : ins.map (·.2) = [[0, 0, 0], [0, 0]] := h
  match ins, h' with
  | [(ba, ra), (bb, rb)], h' =>
    simp at h'
    exact ⟨ba, bb, by rw [h'.1, h'.2]⟩
theorem aw_frame (ba bb : Nat) : frameQ [(ba, [0, 0, 0]), (bb, [1, 0])] 1 0 = (3, true) := by
  unfold frameQ
  rw [if_pos (show ownP [(ba, [0, 0, 0]), (bb, [1, 0])] 1 0 by unfold ownP rowD; simp)]
  rfl
/-- all that there is is new -/
theorem all_new {w1 w2 : World} {L : List (Nat × Obj)} (H : Hp w L w1) (hH : Has w1 w2 p uv ins Mo []) (hk : ∀ x ∈ ins, w1.heap.size ≤ x.1) (hp : w1.heap.size ≤ p) (hL : ∀ q ∈ L, w.heap.size ≤ q.1) : Hp w [] w2 :=
  (H.seqD hH.H (kApp (qBlks_keys hk) (kApp hH.hO.keys (kCons hp kNil)))).none hL

theorem awake_ret (w : World) : Ret Try.prog 50 #[] w fun v w' => v = .bool true ∧ Hp w [] w' := by
  refine Ret_of_W (args := []) Try.func50 rfl Try.ntmps50 Try.results50 (by simp) ?_
  have H := Hp.refl w
  refine W_seq ?_
  refine W_region_l ?_
  refine WL_stepM rfl (R_as) ?_
  refine WL_nil ?_
  refine W_seq ?_
  refine W_region_l ?_
  (refine WL_effn rfl (E_buildOnes (vs := [(.int _ _), (.int _ _)]) H Try.underlying22 Try.sizeOf3 Try.zeroValue3 rfl rfl (by decide) rfl rfl (by simp [Value.oneCell'])) ?_; clear H; intro b7 w7 hb7 H)
  (refine WL_call rfl (R_call rfl Try.call47 rfl) (new_ret (xs := [3, 2]) (RdS.blk (c := [I 3, I 2]) (off := 0) (H.get .here) rfl (by decide) (Nat.le_refl _)) (by decide) (by decide)) ?_; rintro _ w8 ⟨p, uv, ins, Mo, rfl, hrows, hH, hk, hp⟩; obtain ⟨ba, bb, rfl⟩ := two_rows hrows; have hS := hH.sees)
  refine WL_stepM rfl (R_as) ?_
  refine WL_nil ?_
  refine W_seq ?_
  refine W_seq ?_
  refine W_region_l ?_
  refine WL_stepM rfl (R_mv) ?_
  refine WL_step rfl (R_eq_ptr_nil Try.underlying67 rfl rfl) ?_
  refine WL_nil ?_
  refine W_cond_f rfl ?_
  refine W_skip ?_
  refine W_seq ?_
  refine W_region_l ?_
  refine WL_stepM rfl (R_mv) ?_
  (refine WL_call rfl (R_call rfl Try.call48 rfl) (alloc_to (ins' := [(ba, [0, 0, 0]), (bb, [1, 0])]) (k := 0) (e := 0) 1 rfl hH) ?_; rintro _ w22 ⟨rfl, hH1⟩)
  refine WL_stepM rfl (R_mv) ?_
  refine WL_step rfl (R_extract rfl rfl) ?_
  refine WL_step rfl (R_extract rfl rfl) ?_
  refine WL_stepM rfl (R_as) ?_
  refine WL_stepM rfl (R_as) ?_
  refine WL_nil ?_
  refine W_seq ?_
  refine W_region_l ?_
  refine WL_stepM rfl (R_mv) ?_
  (refine WL_call rfl (R_call rfl Try.call49 rfl) (frame_to (f := 3) (b := true) 1 0 (aw_frame ba bb) hH1.sees) ?_; rintro _ w32 ⟨rfl, H1⟩; replace hH1 := hH1.next H1; clear H1)
  refine WL_stepM rfl (R_mv) ?_
  refine WL_step rfl (R_extract rfl rfl) ?_
  refine WL_step rfl (R_extract rfl rfl) ?_
  refine WL_stepM rfl (R_as) ?_
  refine WL_stepM rfl (R_as) ?_
  refine WL_nil ?_
  refine W_seq ?_
  refine W_region_l ?_
  refine WL_stepM rfl (R_mv) ?_
  (refine WL_call rfl (R_call rfl Try.call48 rfl) (alloc_to (ins' := [(ba, [0, 0, 0]), (bb, [1, 0])]) (k := 0) (e := 1) 2 rfl hH1) ?_; rintro _ w42 ⟨rfl, hH2⟩)
  refine WL_stepM rfl (R_mv) ?_
  refine WL_step rfl (R_extract rfl rfl) ?_
  refine WL_step rfl (R_extract rfl rfl) ?_
  refine WL_stepM rfl (R_as) ?_
  refine WL_stepM rfl (R_as) ?_
  refine WL_nil ?_
  refine W_seq ?_
  refine W_region_l ?_
  refine WL_stepM rfl (R_mv) ?_
  refine WL_step rfl (R_eq_t rfl rfl (by omega)) ?_
  refine WL_stepM rfl (R_mv) ?_
  refine WL_guard_t rfl rfl ?_
  refine WL_stepM rfl (R_mv) ?_
  refine WL_guard_t rfl rfl ?_
  refine WL_step rfl (R_eq_t rfl rfl (by omega)) ?_
  refine WL_stepM rfl (R_pk_t rfl) ?_
  refine WL_stepM rfl (R_mv) ?_
  refine WL_guard_t rfl rfl ?_
  refine WL_stepM rfl (R_mv) ?_
  refine WL_guard_t rfl rfl ?_
  refine WL_step rfl (R_eq_t rfl rfl (by omega)) ?_
  refine WL_stepM rfl (R_pk_t rfl) ?_
  refine WL_stepM rfl (R_mv) ?_
  refine WL_guard_t rfl rfl ?_
  refine WL_stepM rfl (R_mv) ?_
  refine WL_stepM rfl (R_pk_t rfl) ?_
  refine WL_stepM rfl (R_mv) ?_
  refine WL_guard_t rfl rfl ?_
  refine WL_stepM rfl (R_mv) ?_
  refine WL_guard_t rfl rfl ?_
  refine WL_step rfl (R_eq_t rfl rfl (by omega)) ?_
  refine WL_stepM rfl (R_pk_t rfl) ?_
  refine WL_stepM rfl (R_mv) ?_
  refine WL_guard_t rfl rfl ?_
  refine WL_stepM rfl (R_mv) ?_
  refine WL_guard_t rfl rfl ?_
  (refine WL_call rfl (R_call rfl Try.call58 rfl) (used_to (n := 1) 1 rfl hH2.sees) ?_; rintro _ w79 ⟨rfl, H1⟩; replace hH2 := hH2.next H1; clear H1)
  refine WL_guard_t rfl rfl ?_
  refine WL_step rfl (R_eq_t rfl rfl (by omega)) ?_
  refine WL_stepM rfl (R_pk_t rfl) ?_
  refine WL_stepM rfl (R_as) ?_
  refine WL_nil ?_
  refine W_ret ?_
  exact ⟨_, rfl, rfl, all_new H hH2 (by simpa using hk) hp (by repeat' first | exact kNil | apply kCons | apply kApp | assumption | exact OwnS.keys (by assumption))⟩
end
end Go.Proofs.Ytjfcnmbalojehaa.Quota

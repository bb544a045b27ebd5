/-
  The law SectQuits.
-/
import Derived.Test.YtaclingiedmpbaaSectI
import Derived.Test.YtaclingiedmpbaaSectE
namespace Go.Proofs.Ytaclingiedmpbaa.Sect
open Go Go.Proofs Go.Proofs.Ytaclingiedmpbaa.Fx
set_option maxRecDepth 100000
set_option linter.unusedVariables false
set_option linter.unusedSimpArgs false
set_option maxHeartbeats 1000000

theorem up_get (a : Int) {n i : Nat} (h : i < n) : (up a n)[i]? = some (a + i) := by
  induction n generalizing a i with
  | zero => omega
  | succ n ih =>
    unfold up
    cases i with
    | zero => simp
    | succ i => rw [List.getElem?_cons_succ, ih (a + 1) (by omega)]; congr 1; push_cast; omega
/-- the numbers below n without j -/
def sk (n j : Nat) : List Int := up 0 j ++ up ((j : Int) + 1) (n - 1 - j)
theorem sk_length {n j : Nat} (h : j < n) : (sk n j).length = n - 1 := by unfold sk; rw [List.length_append, up_length, up_length]; omega
theorem sk_get {n j i : Nat} (hj : j < n) (h : i < n - 1) : (sk n j)[i]? = some (if i < j then (i : Int) else (i : Int) + 1) := by
  unfold sk
  split
  · rw [List.getElem?_append_left (by rw [up_length]; omega), up_get _ (by omega)]; congr 1; omega
  · rw [List.getElem?_append_right (by rw [up_length]; omega), up_length, up_get _ (by omega)]; congr 1; omega
theorem rm_up (a : Int) {n j : Nat} (h : j < n) : rm (up a n) (a + j) = up a j ++ up (a + j + 1) (n - 1 - j) := by
  induction j generalizing a n with
  | zero =>
    obtain ⟨m, rfl⟩ : ∃ m, n = m + 1 := ⟨n - 1, by omega⟩
    rw [show up a (m + 1) = a :: up (a + 1) m from rfl, rm, if_pos (by simp), show a + ((0 : Nat) : Int) + 1 = a + 1 by omega]
    rfl
  | succ j ih =>
    obtain ⟨m, rfl⟩ : ∃ m, n = m + 1 := ⟨n - 1, by omega⟩
    rw [show up a (m + 1) = a :: up (a + 1) m from rfl, show up a (j + 1) = a :: up (a + 1) j from rfl, rm, if_neg (by push_cast; omega), show a + ((j + 1 : Nat) : Int) = (a + 1) + j by push_cast; omega, ih (a + 1) (by omega), List.cons_append, show m + 1 - 1 - (j + 1) = m - 1 - j by omega]
theorem sk_mem {n j : Nat} (hj : j < n) {x : Int} (h : x ∈ sk n j) : 0 ≤ x ∧ x < n := by
  unfold sk at h
  rcases List.mem_append.1 h with h | h
  · have := up_mem.1 h; omega
  · have := up_mem.1 h; omega
theorem rm_no {xs : List Int} {x : Int} (h : ¬ x ∈ xs) : rm xs x = xs := by
  rcases rm_cases xs x with ⟨_, _, h3⟩ | ⟨A, B, h1, _⟩
  · exact h3
  · exact absurd (by rw [h1]; simp) h

/-- fifty holds, others wait -/
def qu1 (q : List Int) (f : Int) : Sx := ⟨100, true, 50, 1, 0, q, f, f, 1⟩
def qu2 (q : List Int) : Sx := ⟨100, false, 50, 1, 0, q, 1, 1, 1⟩
def qu3 (x : Int) (q : List Int) : Sx := ⟨100, true, x, 2, 2, q, 2, 2, 2⟩
theorem qu_start : enter (newSx 100) 50 0 = (qu1 (up 0 0) 0, 1, true) := by
  rw [newSx_ok (by omega) (by omega)]
  simp [enter, enterA, enterB, en2, en3, en4, en5, qu1, up]
theorem qu_wait {k : Nat} {f : Int} (h : k < 50) (hf : k = 0 ∧ f = 0 ∨ f = 1) : enter (qu1 (up 0 k) f) k 1 = (qu1 (up 0 (k + 1)) 1, 0, false) := by
  have hm : ¬ ((k : Int) ∈ up 0 k) := fun h => by have := up_mem.1 h; omega
  have h1 : ¬ ((k : Int) < 0 ∨ 99 < (k : Int)) := by omega
  have h2 : ¬ (50 : Int) = (k : Int) := by omega
  have hu : up 0 k ++ [(k : Int)] = up 0 (k + 1) := by rw [up_snoc, Int.zero_add]
  have hx : max 1 f = 1 := by omega
  unfold enter enterA enterB en2 en3
  rw [if_neg h1]
  rcases Nat.eq_zero_or_pos k with rfl | hk
  · simp [qu1, up, hx]
  · obtain rfl : f = 1 := by omega
    have h0 : ¬ up 0 k = [] := fun e => by have := up_length 0 k; rw [e] at this; simp at this; omega
    simp [qu1, hm, h2, hu, h0]
theorem qu_quit {n j : Nat} (h : j < n) (hn : n ≤ 8) : quitSx (qu1 (up 0 n) 1) j = qu1 (sk n j) 1 := by
  have h1 : quitA (qu1 (up 0 n) 1) j = qu1 (up 0 n) 1 := if_neg (fun e => by have : (50 : Int) = j := e.2; omega)
  have h2 : rm (up 0 n) (j : Int) = sk n j := by have := rm_up 0 h; simpa [sk] using this
  unfold quitSx quitB
  rw [h1, show (qu1 (up 0 n) 1).q = up 0 n from rfl, h2]
  split <;> rfl
theorem qu_out {q : List Int} (h : ¬ (50 : Int) ∈ q) : quitSx (qu1 q 1) 50 = qu2 q := by
  unfold quitSx
  rw [show quitA (qu1 q 1) 50 = qu2 q from if_pos ⟨rfl, rfl⟩]
  unfold quitB
  rw [if_neg (show ¬ (qu2 q).q.head? = some 50 from fun e => h (mem_head e)), show (qu2 q).q = q from rfl, rm_no h]
  rfl
theorem qu_next {x : Int} {t : List Int} (h0 : 0 ≤ x) (h1 : x ≤ 99) : enter (qu2 (x :: t)) x 2 = (qu3 x t, 2, true) := by
  have h2 : ¬ (x < 0 ∨ 99 < x) := by omega
  have hx : max (2 : Int) 1 = 2 := by omega
  simp [enter, enterA, enterB, en2, en3, en4, en5, qu2, qu3, h2, hx]
theorem qu_bd1 {q : List Int} {f : Int} (h : q.length ≤ 1000) (hf : f = 0 ∨ f = 1) : Bd (qu1 q f) 10 :=
  ⟨(by decide : (1 : Int) ≤ 100), (by decide : (0 : Int) ≤ 0), (by decide : (0 : Int) ≤ 10), by show 0 ≤ f; omega, by show f ≤ 10; omega, by show 0 ≤ f; omega, by show f ≤ 10; omega, (by decide : (0 : Int) ≤ 1), (by decide : (1 : Int) ≤ 1000000), by show q.length ≤ _; omega⟩
theorem qu_bd2 {q : List Int} (h : q.length ≤ 1000) : Bd (qu2 q) 10 :=
  ⟨(by decide : (1 : Int) ≤ 100), (by decide : (0 : Int) ≤ 0), (by decide : (0 : Int) ≤ 10), (by decide : (0 : Int) ≤ 1), (by decide : (1 : Int) ≤ 10), (by decide : (0 : Int) ≤ 1), (by decide : (1 : Int) ≤ 10), (by decide : (0 : Int) ≤ 1), (by decide : (1 : Int) ≤ 1000000), by show q.length ≤ _; omega⟩

section
variable {w0 w : World} {p : Nat} {s : Sx} {qv : Value} {Mq R : List (Nat × Obj)}
theorem to_back {A M : List (Nat × Obj)} {x : Nat × Obj} (H : Hp w0 (A ++ (M ++ [x])) w) : Hp w0 (M ++ (x :: A)) w := by
  have h := H.perm List.perm_append_comm
  rw [List.append_assoc] at h
  exact h
theorem quit_to {s' : Sx} (who : Int) (he : quitSx s who = s') (hQ : OwnQ w0.heap.size 3 qv (s.q.map I) Mq) (H : Hp w0 (Mq ++ ((p, blk (sxC s qv) 64) :: R)) w) (hb : s.q.length ≤ 1000000) :
    Ret Try.prog 20 #[ptr p 0, I who] w fun v w' => ∃ qv' Mq', OwnQ w0.heap.size 3 qv' (s'.q.map I) Mq' ∧ Hp w0 (Mq' ++ ((p, blk (sxC s' qv') 64) :: R)) w' := by
  subst he
  exact quit_ret who hQ H hb
theorem holder_no (hh : s.held = false) (H : Hp w0 (Mq ++ ((p, blk (sxC s qv) 64) :: R)) w) :
    Ret Try.prog 21 #[ptr p 0] w fun v w' => v = .tuple #[I 0, I 0, I 0, .bool false] ∧ Hp w0 (Mq ++ ((p, blk (sxC s qv) 64) :: R)) w' := by
  refine Ret_of_W (args := [_]) Try.func21 rfl Try.ntmps21 Try.results21 (by simp) ?_
  unfold sxC at H ⊢
  rw [hh] at H ⊢
  refine W_seq ?_
  refine W_region_l ?_
  refine WL_stepM rfl (R_as) ?_
  refine WL_stepM rfl (R_as) ?_
  refine WL_stepM rfl (R_as) ?_
  refine WL_stepM rfl (R_as) ?_
  refine WL_nil ?_
  refine W_seq ?_
  refine W_seq ?_
  refine W_region_l ?_
  refine WL_stepM rfl (R_mv) ?_
  refine WL_step rfl (R_nilCheck rfl) ?_
  refine WL_step rfl (R_fieldAddr (off' := 1) Try.underlying64 rfl Try.sizeOf4 (by decide) rfl rfl) ?_
  refine WL_step rfl (R_load Try.isAgg4 rfl (H.get (.app _ .here)) rfl) ?_
  refine WL_step rfl (R_not_f rfl) ?_
  refine WL_nil ?_
  refine W_cond_t rfl ?_
  refine W_seq ?_
  refine W_region_l ?_
  refine WL_stepM rfl (R_as) ?_
  refine WL_stepM rfl (R_as) ?_
  refine WL_stepM rfl (R_as) ?_
  refine WL_stepM rfl (R_as) ?_
  refine WL_nil ?_
  refine W_ret ?_
  exact ⟨_, rfl, rfl, H⟩

theorem quits_ret (a b : Int) (w : World) :
    Ret Try.prog 8 #[I a, I b] w fun v w' => v = .bool true ∧ Hp w [] w' := by
  refine Ret_of_W (args := [_, _]) Try.func8 rfl Try.ntmps8 Try.results8 (by simp) ?_
  have H := Hp.refl w
  have hQ := OwnQ.nil w.heap.size 3
  obtain ⟨n, hn, hn1, hn2⟩ : ∃ n : Nat, a % 8 + 1 = (n : Int) ∧ 1 ≤ n ∧ n ≤ 8 := ⟨(a % 8 + 1).toNat, by omega, by omega, by omega⟩
  obtain ⟨j, hj, hjn⟩ : ∃ j : Nat, b % 256 % n = (j : Int) ∧ j < n := ⟨(b % 256 % n).toNat, by have := Int.emod_nonneg (b % 256) (show (n : Int) ≠ 0 by omega); omega, by have := Int.emod_lt_of_pos (b % 256) (show 0 < (n : Int) by omega); have := Int.emod_nonneg (b % 256) (show (n : Int) ≠ 0 by omega); omega⟩
  have hskl := sk_length hjn
  have hno : ¬ (50 : Int) ∈ sk n j := fun h => by have := sk_mem hjn h; omega
  refine W_seq ?_
  refine W_region_l ?_
  refine WL_stepM rfl (R_as) ?_
  refine WL_nil ?_
  refine W_seq ?_
  refine W_region_l ?_
  refine WL_stepM rfl (R_mv) ?_
  refine WL_step rfl (R_bits rfl rfl (by simp) (and_mask_i64 3 8 (by decide) rfl (by decide))) ?_
  refine WL_step rfl (R_add rfl rfl (w_i64 (by omega))) ?_
  refine WL_stepM rfl (R_as) ?_
  refine WL_nil ?_
  refine W_seq ?_
  (rw [hn]) <;> refine W_region_l ?_
  (refine WL_call rfl (R_call rfl Try.call14 rfl) (new_ret 100 _) ?_; clear H; rintro _ w14 ⟨p, rfl, hp, H⟩)
  refine WL_stepM rfl (R_as) ?_
  refine WL_nil ?_
  refine W_seq ?_
  refine W_seq ?_
  refine W_region_l ?_
  refine WL_stepM rfl (R_mv) ?_
  refine WL_step rfl (R_eq_ptr_nil Try.underlying23 rfl rfl) ?_
  refine WL_nil ?_
  refine W_cond_f rfl ?_
  refine W_skip ?_
  refine W_seq ?_
  refine W_region_l ?_
  refine WL_stepM rfl (R_mv) ?_
  (refine WL_call rfl (R_call rfl Try.call15 rfl) (enter_to (Mq := []) (R := []) (T := 10) 50 0 qu_start hQ H ((Bk.new _).bd' (by omega)) (by omega) (by omega)) ?_; clear H hQ; rintro _ w28 ⟨q1, M1, rfl, hQ, H⟩)
  refine WL_stepM rfl (R_mv) ?_
  refine WL_step rfl (R_extract rfl rfl) ?_
  refine WL_step rfl (R_extract rfl rfl) ?_
  refine WL_stepM rfl (R_as) ?_
  refine WL_stepM rfl (R_as) ?_
  refine WL_nil ?_
  refine W_seq ?_
  refine W_seq ?_
  refine W_region_l ?_
  refine WL_stepM rfl (R_as) ?_
  refine WL_nil ?_
  refine W_block ?_
  refine W_loopS [(4, 4), (8, 10), (31, 42)] (fun (k : Nat) E w' => ∃ f qv M, k ≤ n ∧ E 8 = I k ∧ (k = 0 ∧ f = 0 ∨ f = 1) ∧ OwnQ w.heap.size 3 qv ((qu1 (up 0 k) f).q.map I) M ∧ Hp w (M ++ ((p, blk (sxC (qu1 (up 0 k) f) qv) 64) :: [])) w') (fun k => n - k) 0 ?e0 ?r0
  · exact ⟨_, _, _, by omega, rfl, .inl ⟨rfl, rfl⟩, hQ, H⟩
  · (clear H hQ; rintro k E w1 ⟨f, qv, M, hk, h0, hf, hQ, H⟩; refine W_kn h0 ?_)
    refine W_seq ?_
    refine W_seq ?_
    refine W_region_l ?_
    refine WL_stepM rfl (R_mv) ?_
    refine WL_stepM rfl (R_mv) ?_
    refine WL_step rfl (R_lt rfl rfl) ?_
    refine WL_nil ?_
    refine W_if rfl (fun h50 => ?_) (fun h50 => ?_)
    · refine W_skip ?_
      refine W_seq ?_
      refine W_block ?_
      refine W_seq ?_
      refine W_region_l ?_
      refine WL_stepM rfl (R_mv) ?_
      refine WL_stepM rfl (R_mv) ?_
      (refine WL_call rfl (R_call rfl Try.call15 rfl) (enter_to (R := []) (T := 10) _ 1 (qu_wait (k := k) (by omega) hf) hQ H (qu_bd1 (by rw [up_length]; omega) (by omega)) (by omega) (by omega)) ?_; clear H hQ; rintro _ w58 ⟨q1, M1, rfl, hQ, H⟩)
      refine WL_stepM rfl (R_mv) ?_
      refine WL_step rfl (R_extract rfl rfl) ?_
      refine WL_step rfl (R_extract rfl rfl) ?_
      refine WL_stepM rfl (R_as) ?_
      refine WL_stepM rfl (R_as) ?_
      refine WL_nil ?_
      refine W_seq ?_
      refine W_region_l ?_
      refine WL_stepM rfl (R_mv) ?_
      refine WL_nil ?_
      refine W_cond_f rfl ?_
      refine W_skip ?_
      refine W_region_l ?_
      refine WL_stepM rfl (R_mv) ?_
      refine WL_step rfl (R_add rfl rfl (w_i64 (by omega))) ?_
      refine WL_stepM rfl (R_as) ?_
      refine WL_nil ?_
      exact ⟨(by repeat' first | with_reducible exact Same.refl | refine same_updo rfl ?_ | refine same_mov rfl ?_ | refine same_upd rfl ?_ | refine same_updn ?_ | refine same_know rfl ?_ | exact same_ovr | refine same_in rfl ?_ | exact Same.refl), k + 1, by omega, _, _, _, by omega, rfl, .inr rfl, hQ, H⟩
    · refine W_exit ?_
      refine (if_pos rfl).mpr ?_
      refine W_seq ?_
      ((obtain rfl : k = n := (by omega); obtain rfl : f = 1 := (by omega))) <;> refine W_region_l ?_
      refine WL_stepM rfl (R_mv) ?_
      refine WL_step rfl (R_bits rfl rfl (by simp) (and_mask_i64 8 256 (by decide) rfl (by decide))) ?_
      refine WL_stepM rfl (R_mv) ?_
      refine WL_step rfl (R_rem rfl rfl (by omega) (rem_pos (by omega))) ?_
      refine WL_stepM rfl (R_as) ?_
      refine WL_nil ?_
      refine W_seq ?_
      (rw [hj]) <;> refine W_region_l ?_
      refine WL_stepM rfl (R_mv) ?_
      refine WL_stepM rfl (R_mv) ?_
      (refine WL_call rfl (R_call rfl Try.call20 rfl) (quit_to _ (qu_quit hjn hn2) hQ H (by show (up 0 k).length ≤ _; rw [up_length]; omega)) ?_; clear H hQ; rintro _ w91 ⟨q1, M1, hQ, H⟩)
      refine WL_nil ?_
      refine W_seq ?_
      refine W_region_l ?_
      refine WL_stepM rfl (R_mv) ?_
      (refine WL_call rfl (R_call rfl Try.call19 rfl) (queue_ret (xs := sk k j) hQ H (by omega)) ?_; rintro v5 w96 ⟨M5, hO5, H5⟩; obtain ⟨hO5, H⟩ := H.seqO hO5 H5; clear H5; replace H := to_back H; have hQ5 := OwnQ.ofS hO5; rw [hskl] at hO5; obtain ⟨a5, c5, rfl⟩ := hO5.form)
      refine WL_stepM rfl (R_as) ?_
      refine WL_nil ?_
      refine W_seq ?_
      refine W_seq ?_
      refine W_region_l ?_
      refine WL_stepM rfl (R_mv) ?_
      refine WL_step rfl (R_not_t rfl) ?_
      refine WL_stepM rfl (R_mv) ?_
      refine WL_guard_t rfl rfl ?_
      refine WL_stepM rfl (R_mv) ?_
      refine WL_guard_t rfl rfl ?_
      refine WL_step rfl (R_len_slice Try.underlying22 rfl) ?_
      refine WL_guard_t rfl rfl ?_
      refine WL_stepM rfl (R_mv) ?_
      refine WL_guard_t rfl rfl ?_
      refine WL_step rfl (R_sub rfl rfl (w_i64 (by omega))) ?_
      refine WL_guard_t rfl rfl ?_
      refine WL_step rfl (R_ne_f rfl rfl (by omega)) ?_
      refine WL_stepM rfl (R_pk_f rfl) ?_
      refine WL_nil ?_
      refine W_cond_f rfl ?_
      refine W_skip ?_
      refine W_seq ?_
      refine W_seq ?_
      refine W_region_l ?_
      refine WL_stepM rfl (R_as) ?_
      refine WL_nil ?_
      refine W_block ?_
      refine W_loopS [(4, 4), (12, 13), (61, 78)] (fun (i : Nat) E w' => i ≤ k - 1 ∧ E 12 = I i ∧ Hp w (M1 ++ ((p, blk (sxC (qu1 (sk k j) 1) q1) 64) :: M5)) w') (fun i => k - 1 - i) 0 ?e2 ?r2
      · exact ⟨by omega, rfl, H⟩
      · (clear H; rintro i E w1 ⟨hi, h2, H⟩; refine W_kn h2 ?_)
        refine W_seq ?_
        refine W_seq ?_
        refine W_region_l ?_
        refine WL_stepM rfl (R_mv) ?_
        refine WL_stepM rfl (R_mv) ?_
        refine WL_step rfl (R_len_slice Try.underlying22 rfl) ?_
        refine WL_step rfl (R_lt rfl rfl) ?_
        refine WL_nil ?_
        refine W_if rfl (fun h135 => ?_) (fun h135 => ?_)
        · refine W_skip ?_
          refine W_seq ?_
          refine W_block ?_
          refine W_seq ?_
          refine W_region_l ?_
          refine WL_stepM rfl (R_mv) ?_
          refine WL_stepM rfl (R_as) ?_
          refine WL_nil ?_
          refine W_seq ?_
          refine W_seq ?_
          refine W_region_l ?_
          refine WL_stepM rfl (R_mv) ?_
          refine WL_stepM rfl (R_mv) ?_
          refine WL_step rfl (R_ge rfl rfl) ?_
          refine WL_nil ?_
          refine W_if rfl (fun h151 => ?_) (fun h151 => ?_)
          · refine W_region_l ?_
            refine WL_stepM rfl (R_mv) ?_
            refine WL_step rfl (R_add rfl rfl (w_i64 (by omega))) ?_
            refine WL_stepM rfl (R_as) ?_
            refine WL_nil ?_
            refine W_seq ?_
            ((have hij : ¬ i < j := (by omega); obtain ⟨b1, o1, rfl, hc1⟩ := (hQ5.rds fun q hq => H.held q (by simp [hq])).cell (i := i) (u := I ((i : Int) + 1)) (by rw [List.getElem?_map, sk_get hjn (by omega), if_neg hij]; rfl))) <;> refine W_region_l ?_
            refine WL_stepM rfl (R_mv) ?_
            refine WL_stepM rfl (R_mv) ?_
            refine WL_step rfl (R_indexAddr Try.underlying22 Try.sizeOf3 rfl rfl (by omega) (by omega) idx_cast1) ?_
            refine WL_step rfl (R_load_cell Try.isAgg3 rfl hc1) ?_
            refine WL_stepM rfl (R_mv) ?_
            refine WL_step rfl (R_ne_f rfl rfl (by omega)) ?_
            refine WL_nil ?_
            refine W_cond_f rfl ?_
            refine W_skip ?_
            refine W_region_l ?_
            refine WL_stepM rfl (R_mv) ?_
            refine WL_step rfl (R_add rfl rfl (w_i64 (by omega))) ?_
            refine WL_stepM rfl (R_as) ?_
            refine WL_nil ?_
            exact ⟨(by repeat' first | with_reducible exact Same.refl | refine same_updo rfl ?_ | refine same_mov rfl ?_ | refine same_upd rfl ?_ | refine same_updn ?_ | refine same_know rfl ?_ | exact same_ovr | refine same_in rfl ?_ | exact Same.refl), i + 1, by omega, by omega, rfl, H⟩
          · refine W_skip ?_
            refine W_seq ?_
            ((have hij : i < j := (by omega); obtain ⟨b1, o1, rfl, hc1⟩ := (hQ5.rds fun q hq => H.held q (by simp [hq])).cell (i := i) (u := I i) (by rw [List.getElem?_map, sk_get hjn (by omega), if_pos hij]; rfl))) <;> refine W_region_l ?_
            refine WL_stepM rfl (R_mv) ?_
            refine WL_stepM rfl (R_mv) ?_
            refine WL_step rfl (R_indexAddr Try.underlying22 Try.sizeOf3 rfl rfl (by omega) (by omega) idx_cast1) ?_
            refine WL_step rfl (R_load_cell Try.isAgg3 rfl hc1) ?_
            refine WL_stepM rfl (R_mv) ?_
            refine WL_step rfl (R_ne_f rfl rfl (by omega)) ?_
            refine WL_nil ?_
            refine W_cond_f rfl ?_
            refine W_skip ?_
            refine W_region_l ?_
            refine WL_stepM rfl (R_mv) ?_
            refine WL_step rfl (R_add rfl rfl (w_i64 (by omega))) ?_
            refine WL_stepM rfl (R_as) ?_
            refine WL_nil ?_
            exact ⟨(by repeat' first | with_reducible exact Same.refl | refine same_updo rfl ?_ | refine same_mov rfl ?_ | refine same_upd rfl ?_ | refine same_updn ?_ | refine same_know rfl ?_ | exact same_ovr | refine same_in rfl ?_ | exact Same.refl), i + 1, by omega, by omega, rfl, H⟩
        · refine W_exit ?_
          refine (if_pos rfl).mpr ?_
          refine W_seq ?_
          refine W_seq ?_
          refine W_region_l ?_
          refine WL_stepM rfl (R_mv) ?_
          refine WL_stepM rfl (R_mv) ?_
          (refine WL_call rfl (R_call rfl Try.call16 rfl) (holds_to 50 1 (b := true) rfl H) ?_; clear H; rintro _ w199 ⟨rfl, H⟩)
          refine WL_step rfl (R_not_t rfl) ?_
          refine WL_nil ?_
          refine W_cond_f rfl ?_
          refine W_skip ?_
          refine W_seq ?_
          refine W_region_l ?_
          refine WL_stepM rfl (R_mv) ?_
          (refine WL_call rfl (R_call rfl Try.call20 rfl) (quit_to 50 (qu_out hno) hQ H (by show (sk k j).length ≤ _; omega)) ?_; clear H hQ; rintro _ w207 ⟨q3, M3, hQ, H⟩)
          refine WL_nil ?_
          refine W_seq ?_
          refine W_region_l ?_
          refine WL_stepM rfl (R_mv) ?_
          (refine WL_call rfl (R_call rfl Try.call21 rfl) (holder_no rfl H) ?_; clear H; rintro _ w212 ⟨rfl, H⟩)
          refine WL_stepM rfl (R_mv) ?_
          refine WL_step rfl (R_extract rfl rfl) ?_
          refine WL_step rfl (R_extract rfl rfl) ?_
          refine WL_step rfl (R_extract rfl rfl) ?_
          refine WL_step rfl (R_extract rfl rfl) ?_
          refine WL_stepM rfl (R_as) ?_
          refine WL_stepM rfl (R_as) ?_
          refine WL_stepM rfl (R_as) ?_
          refine WL_stepM rfl (R_as) ?_
          refine WL_nil ?_
          refine W_seq ?_
          refine W_seq ?_
          refine W_region_l ?_
          refine WL_stepM rfl (R_mv) ?_
          refine WL_stepM rfl (R_mv) ?_
          refine WL_guard_t rfl rfl ?_
          refine WL_stepM rfl (R_mv) ?_
          refine WL_guard_t rfl rfl ?_
          refine WL_stepM rfl (R_mv) ?_
          refine WL_guard_t rfl rfl ?_
          (refine WL_call rfl (R_call rfl Try.call16 rfl) (holds_to 50 1 (b := false) rfl H) ?_; clear H; rintro _ w233 ⟨rfl, H⟩)
          refine WL_stepM rfl (R_pk_f rfl) ?_
          refine WL_nil ?_
          refine W_cond_f rfl ?_
          refine W_skip ?_
          refine W_seq ?_
          refine W_seq ?_
          refine W_region_l ?_
          refine WL_stepM rfl (R_mv) ?_
          refine WL_step rfl (R_len_slice Try.underlying22 rfl) ?_
          refine WL_step rfl (R_eq rfl rfl) ?_
          refine WL_nil ?_
          refine W_if rfl (fun h245 => ?_) (fun h245 => ?_)
          · refine W_seq ?_
            refine W_region_l ?_
            (refine WL_call rfl (R_call rfl Try.call18 rfl) (awake_ret _) ?_; rintro _ w248 ⟨rfl, H1⟩; replace H := H.seq0 H1; clear H1)
            refine WL_stepM rfl (R_as) ?_
            refine WL_nil ?_
            refine W_ret ?_
            exact ⟨_, rfl, rfl, H.none (kApp hQ.keys (kCons hp hO5.keys))⟩
          · refine W_skip ?_
            refine W_seq ?_
            ((obtain ⟨x, t, hxt⟩ : ∃ x t, sk k j = x :: t := List.exists_cons_of_ne_nil (fun e => by rw [e] at hskl; simp at hskl; omega); have hxb := sk_mem hjn (x := x) (by rw [hxt]; simp); have hskt : t.length + 1 = k - 1 := (by rw [← hskl, hxt]; rfl); rw [hxt] at H hQ hQ5; obtain ⟨b1, o1, rfl, hc1⟩ := (hQ5.rds fun q hq => H.held q (by simp [hq])).cell (i := 0) (u := I x) rfl)) <;> refine W_region_l ?_
            refine WL_stepM rfl (R_mv) ?_
            refine WL_stepM rfl (R_mv) ?_
            refine WL_step rfl (R_indexAddr Try.underlying22 Try.sizeOf3 rfl rfl (by omega) (by omega) idx_cast1) ?_
            refine WL_step rfl (R_load_cell Try.isAgg3 rfl hc1) ?_
            (refine WL_call rfl (R_call rfl Try.call15 rfl) (enter_to (R := M5) (T := 10) x 2 (qu_next hxb.1 (by omega)) hQ H (qu_bd2 (by simp; omega)) (by omega) (by omega)) ?_; clear H hQ; rintro _ w260 ⟨q4, M4, rfl, hQ, H⟩; obtain ⟨b2, o2, e2, hc2⟩ := (hQ5.rds fun q hq => H.held q (by simp [hq])).cell (i := 0) (u := I x) rfl; cases e2)
            refine WL_stepM rfl (R_mv) ?_
            refine WL_step rfl (R_extract rfl rfl) ?_
            refine WL_step rfl (R_extract rfl rfl) ?_
            refine WL_stepM rfl (R_as) ?_
            refine WL_stepM rfl (R_as) ?_
            refine WL_nil ?_
            refine W_seq ?_
            refine W_region_l ?_
            refine WL_stepM rfl (R_mv) ?_
            refine WL_stepM rfl (R_mv) ?_
            refine WL_guard_t rfl rfl ?_
            refine WL_stepM rfl (R_mv) ?_
            refine WL_guard_t rfl rfl ?_
            refine WL_stepM rfl (R_mv) ?_
            refine WL_guard_t rfl rfl ?_
            refine WL_step rfl (R_add (r := 2) rfl rfl (by decide)) ?_
            refine WL_guard_t rfl rfl ?_
            refine WL_step rfl (R_eq_t rfl rfl (by omega)) ?_
            refine WL_stepM rfl (R_pk_t rfl) ?_
            refine WL_stepM rfl (R_mv) ?_
            refine WL_guard_t rfl rfl ?_
            refine WL_stepM rfl (R_mv) ?_
            refine WL_guard_t rfl rfl ?_
            refine WL_stepM rfl (R_mv) ?_
            refine WL_guard_t rfl rfl ?_
            refine WL_step rfl (R_indexAddr Try.underlying22 Try.sizeOf3 rfl rfl (by omega) (by omega) idx_cast1) ?_
            refine WL_guard_t rfl rfl ?_
            refine WL_step rfl (R_load_cell Try.isAgg3 rfl hc2) ?_
            refine WL_guard_t rfl rfl ?_
            refine WL_stepM rfl (R_mv) ?_
            refine WL_guard_t rfl rfl ?_
            (refine WL_call rfl (R_call rfl Try.call16 rfl) (holds_to x 2 (b := true) (decide_eq_true ⟨rfl, rfl, rfl⟩) H) ?_; clear H; rintro _ w292 ⟨rfl, H⟩)
            refine WL_stepM rfl (R_pk_t rfl) ?_
            refine WL_stepM rfl (R_mv) ?_
            refine WL_guard_t rfl rfl ?_
            (refine WL_call rfl (R_call rfl Try.call18 rfl) (awake_ret _) ?_; rintro _ w296 ⟨rfl, H1⟩; replace H := H.seq0 H1; clear H1)
            refine WL_stepM rfl (R_pk_t rfl) ?_
            refine WL_stepM rfl (R_as) ?_
            refine WL_nil ?_
            refine W_ret ?_
            exact ⟨_, rfl, rfl, H.none (kApp hQ.keys (kCons hp hO5.keys))⟩
end
end Go.Proofs.Ytaclingiedmpbaa.Sect

/-
  The queue; what an Enter leaves within its bounds; the package's own try.
-/
import Derived.Test.YtaclingiedmpbaaSectB
namespace Go.Proofs.Ytaclingiedmpbaa.Sect
open Go Go.Proofs Go.Proofs.Ytaclingiedmpbaa.Fx
set_option maxRecDepth 100000
set_option linter.unusedVariables false
set_option linter.unusedSimpArgs false
set_option maxHeartbeats 1000000

/-- how many Enters at most, and the latest time -/
structure Bk (s : Sx) (T : Int) (k : Nat) : Prop where
  l0 : 1 ≤ s.lease
  l1 : s.lease ≤ 1000
  since0 : 0 ≤ s.since
  since1 : s.since ≤ T
  first0 : 0 ≤ s.first
  first1 : s.first ≤ T
  last0 : 0 ≤ s.last
  last1 : s.last ≤ T
  st0 : 0 ≤ s.stamps
  st1 : s.stamps ≤ k
  q1 : s.q.length ≤ k

theorem Bk.bd {s : Sx} {T : Int} {k : Nat} (h : Bk s T k) (hk : k ≤ 1000000) : Bd s T :=
  ⟨h.l0, h.since0, h.since1, h.first0, h.first1, h.last0, h.last1, h.st0, by have := h.st1; omega, by have := h.q1; omega⟩
theorem Bk.mono {s : Sx} {T T' : Int} {k k' : Nat} (h : Bk s T k) (hT : T ≤ T') (hk : k ≤ k') : Bk s T' k' :=
  ⟨h.l0, h.l1, h.since0, Int.le_trans h.since1 hT, h.first0, Int.le_trans h.first1 hT, h.last0, Int.le_trans h.last1 hT, h.st0, by have := h.st1; omega, by have := h.q1; omega⟩
theorem Bk.bd' {s : Sx} {T : Int} (h : Bk s 0 0) (hT : 0 ≤ T) : Bd s T := (h.mono hT (Nat.le_refl _)).bd (by omega)
theorem Bk.new (n : Int) : Bk (newSx n) 0 0 := by
  refine ⟨?_, ?_, ?_, ?_, ?_, ?_, ?_, ?_, ?_, ?_, ?_⟩ <;> simp [newSx] <;> omega

theorem Bk.en2 {s : Sx} {T n who : Int} {k : Nat} (h : Bk s T k) (h0 : 0 ≤ n) (hn : n ≤ T) : Bk (en2 s who n) T (k + 1) := by
  obtain ⟨a, b, c, d, e, f, g, i, j, l, m⟩ := h
  unfold Sect.en2
  split
  · exact ⟨a, b, c, d, e, f, g, i, j, by omega, by omega⟩
  · split
    · exact ⟨a, b, c, d, h0, hn, g, i, j, by show s.stamps ≤ _; omega, by simp; omega⟩
    · exact ⟨a, b, c, d, e, f, g, i, j, by show s.stamps ≤ _; omega, by simp; omega⟩
theorem Bk.en3 {s : Sx} {T n : Int} {k : Nat} (h : Bk s T k) (h0 : 0 ≤ n) (hn : n ≤ T) : Bk (en3 s n) T k := by
  obtain ⟨a, b, c, d, e, f, g, i, j, l, m⟩ := h
  unfold Sect.en3
  split
  · exact ⟨a, b, c, d, h0, hn, g, i, j, l, m⟩
  · exact ⟨a, b, c, d, e, f, g, i, j, l, m⟩
theorem Bk.en4 {s : Sx} {T n who : Int} {k : Nat} (h : Bk s T k) (h0 : 0 ≤ n) (hn : n ≤ T) : Bk (en4 s who n) T k := by
  obtain ⟨a, b, c, d, e, f, g, i, j, l, m⟩ := h
  unfold Sect.en4
  split
  · exact ⟨a, b, c, d, h0, hn, g, i, j, l, by simp; omega⟩
  · exact ⟨a, b, c, d, e, f, g, i, j, l, m⟩
theorem Bk.enter {s : Sx} {T who now : Int} {k : Nat} (h : Bk s T k) (h0 : 0 ≤ now) (hn : now ≤ T) : Bk (enter s who now).1 T (k + 1) := by
  have hl0 := h.last0
  have hl1 := h.last1
  unfold Sect.enter
  split
  · exact h.mono (Int.le_refl _) (by omega)
  · obtain ⟨n, hm, hn0, hn1⟩ : ∃ n, max now s.last = n ∧ 0 ≤ n ∧ n ≤ T := ⟨_, rfl, by omega, by omega⟩
    rw [hm]
    have h1 : Bk { s with last := n } T k := ⟨h.l0, h.l1, h.since0, h.since1, h.first0, h.first1, hn0, hn1, h.st0, h.st1, h.q1⟩
    unfold enterA
    split
    · exact h1.mono (Int.le_refl _) (by omega)
    · have h3 := (h1.en2 (who := who) hn0 hn1).en3 hn0 hn1
      have hst3 : (Sect.en3 (Sect.en2 { s with last := n } who n) n).stamps ≤ k := by
        rw [(en3_facts _ _).2.2.2.2, (en2_facts _ _ _).2.2.2.2]; exact h.st1
      generalize Sect.en3 (Sect.en2 { s with last := n } who n) n = s3 at *
      unfold enterB
      split
      · obtain ⟨a, b, c, d, e, f, g, i, j, l, m⟩ := h3
        show Bk (if s3.q.head? = some who then { s3 with first := n } else s3) T (k + 1)
        split
        · exact ⟨a, b, c, d, hn0, hn1, g, i, j, l, m⟩
        · exact ⟨a, b, c, d, e, f, g, i, j, l, m⟩
      · have h4 := h3.en4 (who := who) hn0 hn1
        have hst : (Sect.en4 s3 who n).stamps = s3.stamps := by unfold Sect.en4; split <;> rfl
        split
        · obtain ⟨a, b, c, d, e, f, g, i, j, l, m⟩ := h4
          refine ⟨a, b, hn0, hn1, hn0, hn1, g, i, ?_, ?_, ?_⟩
          · show 0 ≤ (Sect.en4 s3 who n).stamps + 1; omega
          · show (Sect.en4 s3 who n).stamps + 1 ≤ _; omega
          · show (Sect.en4 s3 who n).q.tail.length ≤ _; rw [List.length_tail]; omega
        · exact h4
theorem Bk.leave {s : Sx} {T who st : Int} {k : Nat} (h : Bk s T k) : Bk (leaveSx s who st) T k := by
  unfold leaveSx
  split
  · obtain ⟨a, b, c, d, e, f, g, i, j, l, m⟩ := h
    exact ⟨a, b, c, d, g, i, g, i, j, l, m⟩
  · exact h

section
variable {w0 w : World} {p : Nat} {s : Sx} {qv : Value} {Mq R : List (Nat × Obj)}

theorem queue_ret {xs : List Int} (hQ : OwnQ w0.heap.size 3 qv (xs.map I) Mq) (H : Hp w0 (Mq ++ ((p, blk (sxC s qv) 64) :: R)) w) (hb : xs.length ≤ 1000000) :
    Ret Try.prog 19 #[ptr p 0] w fun v w' => ∃ M, OwnS w.heap.size 3 1 v xs.length (xs.map I) M ∧ Hp w M w' := by
  refine Ret_of_W (args := [_]) Try.func19 rfl Try.ntmps19 Try.results19 (by simp) ?_
  have hr := get_q hQ H
  obtain ⟨qa, qc, rfl⟩ := hQ.form
  unfold sxC at H
  have hc := H.held (p, blk [I s.lease, .bool s.held, I s.who, I s.stamp, I s.since, .slice qa (xs.map I).length qc, I s.first, I s.last, I s.stamps] 64) (by simp)
  clear H hQ
  have H := Hp.focus0 hc
  refine W_seq ?_
  refine W_region_l ?_
  refine WL_stepM rfl (R_as) ?_
  refine WL_nil ?_
  refine W_seq ?_
  refine W_region_l ?_
  refine WL_stepM rfl (R_mv) ?_
  refine WL_step rfl (R_nilCheck rfl) ?_
  refine WL_step rfl (R_fieldAddr (off' := 5) Try.underlying64 rfl Try.sizeOf22 (by decide) rfl rfl) ?_
  refine WL_step rfl (R_load Try.isAgg22 rfl (H.get .here) rfl) ?_
  (refine WL_call rfl (R_call rfl Try.call35 rfl) (cloneI_ret hr hb) ?_; clear H; rintro v w11 ⟨M, hO, H⟩)
  refine WL_stepM rfl (R_as) ?_
  refine WL_nil ?_
  refine W_ret ?_
  exact ⟨_, rfl, M, hO, H⟩

theorem enter_to {s s' : Sx} {n : Int} {b : Bool} (who now : Int) {T : Int} (he : enter s who now = (s', n, b)) (hQ : OwnQ w0.heap.size 3 qv (s.q.map I) Mq) (H : Hp w0 (Mq ++ ((p, blk (sxC s qv) 64) :: R)) w) (hB : Bd s T) (hT : T ≤ 1000000) (hn : 0 ≤ now ∧ now ≤ T) :
    Ret Try.prog 15 #[ptr p 0, I who, I now] w fun v w' => ∃ qv' Mq', v = .tuple #[I n, .bool b] ∧ OwnQ w0.heap.size 3 qv' (s'.q.map I) Mq' ∧
      Hp w0 (Mq' ++ ((p, blk (sxC s' qv') 64) :: R)) w' := by
  have h := enter_ret who now hQ H hB hT hn
  rw [he] at h
  exact h

theorem holds_to {b : Bool} (who stamp : Int) (he : decide (s.held = true ∧ s.who = who ∧ s.stamp = stamp) = b) (H : Hp w0 (Mq ++ ((p, blk (sxC s qv) 64) :: R)) w) :
    Ret Try.prog 16 #[ptr p 0, I who, I stamp] w fun v w' => v = .bool b ∧ Hp w0 (Mq ++ ((p, blk (sxC s qv) 64) :: R)) w' := by
  subst he
  exact holds_ret who stamp H
theorem leave_to {s' : Sx} {b : Bool} (who stamp : Int) (he : decide (s.held = true ∧ s.who = who ∧ s.stamp = stamp) = b) (hs : leaveSx s who stamp = s') (H : Hp w0 (Mq ++ ((p, blk (sxC s qv) 64) :: R)) w) :
    Ret Try.prog 17 #[ptr p 0, I who, I stamp] w fun v w' => v = .bool b ∧ Hp w0 (Mq ++ ((p, blk (sxC s' qv) 64) :: R)) w' := by
  subst he hs
  exact leave_ret who stamp H

theorem awake_ret (w : World) : Ret Try.prog 18 #[] w fun v w' => v = .bool true ∧ Hp w [] w' := by
  refine Ret_of_W (args := []) Try.func18 rfl Try.ntmps18 Try.results18 (by simp) ?_
  have H := Hp.refl w
  have hQ := OwnQ.nil w.heap.size 3
  refine W_seq ?_
  refine W_region_l ?_
  refine WL_stepM rfl (R_as) ?_
  refine WL_nil ?_
  refine W_seq ?_
  refine W_region_l ?_
  (refine WL_call rfl (R_call rfl Try.call14 rfl) (new_ret 5 _) ?_; clear H; rintro _ w7 ⟨p, rfl, hp, H⟩)
  refine WL_stepM rfl (R_as) ?_
  refine WL_nil ?_
  refine W_seq ?_
  refine W_seq ?_
  refine W_region_l ?_
  refine WL_stepM rfl (R_mv) ?_
  refine WL_step rfl (R_eq_ptr_nil Try.underlying23 rfl rfl) ?_
  refine WL_nil ?_
  refine W_cond_f rfl ?_
  refine W_skip ?_
  refine W_seq ?_
  refine W_region_l ?_
  refine WL_stepM rfl (R_mv) ?_
  (refine WL_call rfl (R_call rfl Try.call15 rfl) (enter_to (s' := ⟨5, true, 1, 1, 0, [], 0, 0, 1⟩) (n := 1) (b := true) (Mq := []) (R := []) (T := 10) 1 0 rfl hQ H ((Bk.new 5).bd' (by omega)) (by omega) (by omega)) ?_; clear H hQ; rintro _ w21 ⟨q1, M1, rfl, hQ, H⟩)
  refine WL_stepM rfl (R_mv) ?_
  refine WL_step rfl (R_extract rfl rfl) ?_
  refine WL_step rfl (R_extract rfl rfl) ?_
  refine WL_stepM rfl (R_as) ?_
  refine WL_stepM rfl (R_as) ?_
  refine WL_nil ?_
  refine W_seq ?_
  refine W_region_l ?_
  refine WL_stepM rfl (R_mv) ?_
  (refine WL_call rfl (R_call rfl Try.call15 rfl) (enter_to (s' := ⟨5, true, 1, 1, 0, [2], 1, 1, 1⟩) (n := 0) (b := false) (R := []) (T := 10) 2 1 rfl hQ H (by refine ⟨?_, ?_, ?_, ?_, ?_, ?_, ?_, ?_, ?_, ?_⟩ <;> decide) (by omega) (by omega)) ?_; clear H hQ; rintro _ w31 ⟨q2, M2, rfl, hQ, H⟩)
  refine WL_stepM rfl (R_mv) ?_
  refine WL_step rfl (R_extract rfl rfl) ?_
  refine WL_step rfl (R_extract rfl rfl) ?_
  refine WL_stepM rfl (R_as) ?_
  refine WL_stepM rfl (R_as) ?_
  refine WL_nil ?_
  refine W_seq ?_
  refine W_region_l ?_
  refine WL_stepM rfl (R_mv) ?_
  (refine WL_call rfl (R_call rfl Try.call15 rfl) (enter_to (s' := ⟨5, true, 2, 2, 5, [], 5, 5, 2⟩) (n := 2) (b := true) (R := []) (T := 10) 2 5 rfl hQ H (by refine ⟨?_, ?_, ?_, ?_, ?_, ?_, ?_, ?_, ?_, ?_⟩ <;> decide) (by omega) (by omega)) ?_; clear H hQ; rintro _ w41 ⟨q3, M3, rfl, hQ, H⟩)
  refine WL_stepM rfl (R_mv) ?_
  refine WL_step rfl (R_extract rfl rfl) ?_
  refine WL_step rfl (R_extract rfl rfl) ?_
  refine WL_stepM rfl (R_as) ?_
  refine WL_stepM rfl (R_as) ?_
  refine WL_nil ?_
  refine W_seq ?_
  refine W_region_l ?_
  refine WL_stepM rfl (R_mv) ?_
  refine WL_step rfl (R_eq_t rfl rfl (by omega)) ?_
  refine WL_stepM rfl (R_mv) ?_
  refine WL_guard_t rfl rfl ?_
  refine WL_stepM rfl (R_mv) ?_
  refine WL_stepM rfl (R_pk_t rfl) ?_
  refine WL_stepM rfl (R_mv) ?_
  refine WL_guard_t rfl rfl ?_
  refine WL_stepM rfl (R_mv) ?_
  refine WL_guard_t rfl rfl ?_
  refine WL_step rfl (R_not_f rfl) ?_
  refine WL_stepM rfl (R_pk_t rfl) ?_
  refine WL_stepM rfl (R_mv) ?_
  refine WL_guard_t rfl rfl ?_
  refine WL_stepM rfl (R_mv) ?_
  refine WL_guard_t rfl rfl ?_
  refine WL_step rfl (R_eq_t rfl rfl (by omega)) ?_
  refine WL_stepM rfl (R_pk_t rfl) ?_
  refine WL_stepM rfl (R_mv) ?_
  refine WL_guard_t rfl rfl ?_
  refine WL_stepM rfl (R_mv) ?_
  refine WL_stepM rfl (R_pk_t rfl) ?_
  refine WL_stepM rfl (R_mv) ?_
  refine WL_guard_t rfl rfl ?_
  refine WL_stepM rfl (R_mv) ?_
  refine WL_guard_t rfl rfl ?_
  (refine WL_call rfl (R_call rfl Try.call16 rfl) (holds_to 1 1 (b := false) rfl H) ?_; clear H; rintro _ w76 ⟨rfl, H⟩)
  refine WL_guard_t rfl rfl ?_
  refine WL_step rfl (R_not_f rfl) ?_
  refine WL_stepM rfl (R_pk_t rfl) ?_
  refine WL_stepM rfl (R_mv) ?_
  refine WL_guard_t rfl rfl ?_
  refine WL_stepM rfl (R_mv) ?_
  refine WL_guard_t rfl rfl ?_
  (refine WL_call rfl (R_call rfl Try.call16 rfl) (holds_to 2 2 (b := true) rfl H) ?_; clear H; rintro _ w84 ⟨rfl, H⟩)
  refine WL_stepM rfl (R_pk_t rfl) ?_
  refine WL_stepM rfl (R_mv) ?_
  refine WL_guard_t rfl rfl ?_
  refine WL_stepM rfl (R_mv) ?_
  refine WL_guard_t rfl rfl ?_
  (refine WL_call rfl (R_call rfl Try.call19 rfl) (queue_ret hQ H (by decide)) ?_; rintro v5 w90 ⟨M5, hO5, H5⟩; obtain ⟨a5, c5, rfl⟩ := hO5.form; replace H := H.seqD H5 hO5.keys)
  refine WL_guard_t rfl rfl ?_
  refine WL_step rfl (R_len_slice Try.underlying22 rfl) ?_
  refine WL_guard_t rfl rfl ?_
  refine WL_step rfl (R_eq_t rfl rfl (by decide)) ?_
  refine WL_stepM rfl (R_pk_t rfl) ?_
  refine WL_stepM rfl (R_as) ?_
  refine WL_nil ?_
  refine W_ret ?_
  exact ⟨_, rfl, rfl, H.none (kApp hQ.keys (kCons hp kNil))⟩
end
end Go.Proofs.Ytaclingiedmpbaa.Sect

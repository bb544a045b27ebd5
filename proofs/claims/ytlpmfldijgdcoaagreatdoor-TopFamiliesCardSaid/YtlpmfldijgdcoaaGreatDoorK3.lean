/-
Who asks to come in. A kernel's sections: which one it is; it is entered, and left. A kernel's section is left; Do, asked to enter or to leave. The queue; what an Enter leaves within its bounds; the package's own try. The laws SectLease and SectAgain. One that is taken out of a row; who quits. Who quits; the law SectQuits. A section and its queue, as they lie in the world: what is changed by an Enter, and by a Quit. A kernel's section is entered, whoever waits. Equality of structs and arrays of integers. Maps from Recs to integers: made, written, read. Sums of bytes, and blank ones. Numbers in two bytes. What slices.Equal of bytes does. Sums and blank rows, as the document has them. Numbers in two bytes, as the document has them. Numbers as sets of bits. Processes' slots: their cells; which may be. Which slots may be.
-/
import Derived.Test.YtlpmfldijgdcoaaGreatDoorK2
import Derived.ChangeKeysEq
import Derived.Laws.StructEq
import Derived.Test.YtlpmfldijgdcoaaGreatDoorProg
set_option maxRecDepth 100000
set_option maxHeartbeats 16000000
namespace Go.Proofs.YtlpmfldijgdcoaaGreatDoor.Sect
open Go Go.Proofs Fx Tryz
/-- who asks is in the queue -/
def en2 (s : Sx) (who n : Int) : Sx := if who ∈ s.q then s else if s.q = [] then { s with q := s.q ++ [who], first := n } else { s with q := s.q ++ [who] }
/-- who held too long holds no more -/
def en3 (s : Sx) (n : Int) : Sx := if s.held = true ∧ s.lease ≤ n - s.since then { s with held := false, first := n } else s
/-- who was first too long is passed by -/
def en4 (s : Sx) (who n : Int) : Sx := if s.q.head? ≠ some who ∧ s.lease ≤ n - s.first then { s with q := s.q.tail, first := n } else s
/-- the first one comes in -/
def en5 (s : Sx) (who n : Int) : Sx := { s with q := s.q.tail, first := n, stamps := s.stamps + 1, held := true, who := who, stamp := s.stamps + 1, since := n }
def enterB (s : Sx) (who n : Int) : Sx × Int × Bool :=
 if s.held = true then ((if s.q.head? = some who then { s with first := n } else s), 0, false)
 else if (en4 s who n).q.head? = some who then (en5 (en4 s who n) who n, (en4 s who n).stamps + 1, true) else (en4 s who n, 0, false)
/-- Enter, of a number that may be -/
def enterA (s : Sx) (who n : Int) : Sx × Int × Bool :=
 if s.held = true ∧ s.who = who then (s, s.stamp, true) else enterB (en3 (en2 s who n) n) who n
def enter (s : Sx) (who now : Int) : Sx × Int × Bool :=
 if who < 0 ∨ 99 < who then (s, 0, false) else enterA { s with last := max now s.last } who (max now s.last)
structure Bd (s : Sx) (T : Int) : Prop where
 l0 : 1 ≤ s.lease
 since0 : 0 ≤ s.since
 since1 : s.since ≤ T
 first0 : 0 ≤ s.first
 first1 : s.first ≤ T
 last0 : 0 ≤ s.last
 last1 : s.last ≤ T
 st0 : 0 ≤ s.stamps
 st1 : s.stamps ≤ 1000000
 q1 : s.q.length ≤ 1000000
theorem en2_facts (s : Sx) (who n : Int) : who ∈ (en2 s who n).q ∧ (en2 s who n).lease = s.lease ∧ (en2 s who n).since = s.since ∧ ((en2 s who n).first = s.first ∨ (en2 s who n).first = n) ∧ (en2 s who n).stamps = s.stamps := by
 unfold en2
 split
 ·rename_i h; exact ⟨h, rfl, rfl, .inl rfl, rfl⟩
 ·split
  ·exact ⟨by simp, rfl, rfl, .inr rfl, rfl⟩
  ·exact ⟨by simp, rfl, rfl, .inl rfl, rfl⟩
theorem en3_facts (s : Sx) (n : Int) : (en3 s n).q = s.q ∧ (en3 s n).lease = s.lease ∧ (en3 s n).since = s.since ∧ ((en3 s n).first = s.first ∨ (en3 s n).first = n) ∧ (en3 s n).stamps = s.stamps := by
 unfold en3
 split
 ·exact ⟨rfl, rfl, rfl, .inr rfl, rfl⟩
 ·exact ⟨rfl, rfl, rfl, .inl rfl, rfl⟩
theorem en4_facts {s : Sx} {who n : Int} (h : who ∈ s.q) : who ∈ (en4 s who n).q ∧ (en4 s who n).stamps = s.stamps ∧ (en4 s who n).held = s.held := by
 unfold en4
 split
 ·rename_i h1
  refine ⟨?_, rfl, rfl⟩
  cases hq : s.q with
  | nil => rw [hq] at h; simp at h
  | cons x xs =>
   rw [hq] at h h1
   simp only [List.head?_cons, ne_eq, Option.some.injEq] at h1
   rcases List.mem_cons.1 h with rfl | h
   ·exact absurd rfl h1.1
   ·exact h
 ·exact ⟨h, rfl, rfl⟩
theorem enter_own {s : Sx} {who now n : Int} (h : ¬ (who < 0 ∨ 99 < who)) (hn : max now s.last = n) (hh : s.held = true ∧ s.who = who) : enter s who now = ({ s with last := n }, s.stamp, true) := by
 unfold enter enterA; rw [if_neg h, hn, if_pos hh]
section
variable {s s2 s3 s4 : Sx} {who now n y : Int} {ys : List Int} (h : ¬ (who < 0 ∨ 99 < who)) (hn : max now s.last = n) (hh : ¬ (s.held = true ∧ s.who = who)) (h2 : en2 { s with last := n } who n = s2) (h3 : en3 s2 n = s3)
include h hn hh h2 h3
theorem enter_w1 (hd : s3.held = true) (hq : s3.q = y :: ys) (hy : y = who) : enter s who now = ({ s3 with first := n }, 0, false) := by
 subst hy
 unfold enter enterA enterB; rw [if_neg h, hn, if_neg hh, h2, h3, if_pos hd, if_pos (by rw [hq]; rfl)]
theorem enter_w2 (hd : s3.held = true) (hq : s3.q = y :: ys) (hy : ¬ y = who) : enter s who now = (s3, 0, false) := by
 unfold enter enterA enterB; rw [if_neg h, hn, if_neg hh, h2, h3, if_pos hd, if_neg (by rw [hq]; exact fun e => hy (Option.some.inj e))]
theorem enter_no (hd : s3.held = false) (h4 : en4 s3 who n = s4) (hq : s4.q = y :: ys) (hy : ¬ y = who) : enter s who now = (s4, 0, false) := by
 unfold enter enterA enterB; rw [if_neg h, hn, if_neg hh, h2, h3, if_neg (by rw [hd]; decide), h4, if_neg (by rw [hq]; exact fun e => hy (Option.some.inj e))]
theorem enter_in (hd : s3.held = false) (h4 : en4 s3 who n = s4) (hq : s4.q = y :: ys) (hy : y = who) : enter s who now = (en5 s4 who n, s4.stamps + 1, true) := by
 subst hy
 unfold enter enterA enterB; rw [if_neg h, hn, if_neg hh, h2, h3, if_neg (by rw [hd]; decide), h4, if_pos (by rw [hq]; rfl)]
end
theorem en4_same {s : Sx} {who n y : Int} {ys : List Int} (hq : s.q = y :: ys) (h : y = who ∨ ¬ s.lease ≤ n - s.first) : en4 s who n = s := by
 unfold en4
 rw [if_neg]
 rintro ⟨h1, h2⟩
 rcases h with rfl | h
 ·exact h1 (by rw [hq]; rfl)
 ·exact h h2
theorem en4_pop {s : Sx} {who n y : Int} {ys : List Int} (hq : s.q = y :: ys) (hy : ¬ y = who) (hl : s.lease ≤ n - s.first) : en4 s who n = { s with q := ys, first := n } := by
 unfold en4
 rw [if_pos ⟨by rw [hq]; exact fun e => hy (Option.some.inj e), hl⟩, hq]
 rfl
section
variable {w0 w : World} {p : Nat} {s : Sx} {qv : Value} {Mq R : List (Nat × Obj)}
theorem get_q {w0 w : World} {p : Nat} {o : Obj} {qv : Value} {xs : List Value} {Mq R : List (Nat × Obj)} (hQ : Zv w0.heap.size 3 qv xs Mq) (H : Hp w0 (Mq ++ ((p, o) :: R)) w) : RdS w qv xs :=
 hQ.rds fun q hq => H.held q (by simp [hq])
theorem q_head {w0 w : World} {p : Nat} {o : Obj} {b of m c : Nat} {x : Value} {xs : List Value} {Mq R : List (Nat × Obj)} (hQ : Zv w0.heap.size 3 (.slice (some ⟨b, of, none⟩) m c) (x :: xs) Mq) (H : Hp w0 (Mq ++ ((p, o) :: R)) w) : w.cell? ⟨b, of + 0, none⟩ = some x := by
 obtain ⟨b1, o1, e, h⟩ := (get_q hQ H).cell (i := 0) (u := x) rfl
 cases e
 exact h
theorem q_some {w0 w : World} {p : Nat} {o : Obj} {a : Option Addr} {m c : Nat} {x : Value} {xs : List Value} {Mq R : List (Nat × Obj)} (hQ : Zv w0.heap.size 3 (.slice a m c) (x :: xs) Mq) (H : Hp w0 (Mq ++ ((p, o) :: R)) w) : ∃ b of, a = some ⟨b, of, none⟩ := by
 obtain ⟨b1, o1, e, h⟩ := (get_q hQ H).cell (i := 0) (u := x) rfl
 exact ⟨b1, o1, e⟩
theorem q_cons {xs : List Int} {x : Int} (h : x ∈ xs) : ∃ y ys, xs = y :: ys := List.exists_cons_of_ne_nil (by rintro rfl; simp at h)
theorem enter_ret (who now : Int) {T : Int} (hQ : Zv w0.heap.size 3 qv (s.q.map I) Mq) (H : Hp w0 (Mq ++ ((p, blk (sxC s qv) 170) :: R)) w) (hB : Bd s T) (hT : T ≤ 1000000) (hn : 0 ≤ now ∧ now ≤ T) :
  Ret Tryz.prog 158 #[ptr p 0, I who, I now] w fun v w' => ∃ qv' Mq', v = .tuple #[I (enter s who now).2.1, .bool (enter s who now).2.2] ∧ Zv w0.heap.size 3 qv' ((enter s who now).1.q.map I) Mq' ∧
   Hp w0 (Mq' ++ ((p, blk (sxC (enter s who now).1 qv') 170) :: R)) w' := by
 refine Qi (args := [_, _, _]) func158 rfl ntmps158 results158 (by simp) ?_
 obtain ⟨lease, held, who', stamp, since, q, first, last, stamps⟩ := s
 obtain ⟨l0, s0, s1, f0, f1, la0, la1, st0, st1, q1⟩ := hB
 simp only at *
 unfold sxC at H
 simp only at H
 obtain ⟨n, hnm⟩ : ∃ n, max now last = n := ⟨_, rfl⟩
 obtain ⟨qa, qc, rfl⟩ := hQ.form
 rw [List.length_map] at *
 refine Js (Jr (Ja (Ja (Jn (Js (Jr (Jm (Jm (Ji rfl (Jf 7 underlying170 rfl sizeOf3 rfl rfl (Jl isAgg3 rfl (H.get (.app _ .here)) rfl (J (Mz rfl rfl hnm) (WL_stepM rfl (R_as) ?_)))))))))))))
 refine Jn (Js (Js (Jr (Jm (J (Vb rfl rfl) (Jm ?_))))))
 apply Xz 3 16 19 [(17, 19)] H
 case hc => rfl
 case h1 =>
  intro h22
  refine Jt rfl rfl (Jm (Jt rfl rfl (J (R_gt rfl rfl) (Jp rfl (Jn ?_)))))
  exact ⟨kS, rfl, H⟩
 case h0 =>
  intro h22
  refine Jg rfl rfl (Jg rfl rfl (Jq rfl (Jn ?_)))
  exact ⟨kS, rfl, H⟩
 case h2 =>
  (clear H; intro E22 w22 H)
  refine Jn (Xo rfl (fun h36 => ?_) (fun h36 => ?_))
  ·refine Js (Jr (Ja (Ja (Jn (Je ?_)))))
   exact ⟨_, rfl, _, Mq, by unfold enter; rw [if_pos (by assumption)]; rfl, by unfold enter; rw [if_pos (by assumption)]; exact hQ, by unfold enter; rw [if_pos (by assumption)]; exact H⟩
  ·(refine Jk (Js (Jr (Jm (Jm (Ji rfl (Jf 7 underlying170 rfl sizeOf3 rfl rfl (Qd rfl (Qz (v := (.int _ _)) H sizeOf3 rfl rfl rfl (.app _ .here) (by simp)) ?_))))))); clear H; intro w51 H)
   refine Jn (Js (Js (Jr (Jm (Ji rfl (Jf 1 underlying170 rfl sizeOf4 rfl rfl (Jl isAgg4 rfl (H.get (.app _ .here)) rfl (Jm ?_))))))))
   apply Xs 7 28 35 [(29, 35)] H
   case hc => exact decV rfl
   case h1 =>
    intro h61
    refine Jt rfl rfl (Jm (Jt rfl rfl (Ji rfl (Jt rfl rfl (Jf 2 underlying170 rfl sizeOf3 rfl rfl (Jt rfl rfl (Jl isAgg3 rfl (H.get (.app _ .here)) rfl (Jt rfl rfl (Jm (Jt rfl rfl (J (Yk rfl rfl) (Jq rfl (Jn ?_)))))))))))))
    exact ⟨kS, rfl, H⟩
   case h0 =>
    intro h61
    refine Jg rfl rfl (Jg rfl rfl (Jg rfl rfl (Jg rfl rfl (Jg rfl rfl (Jg rfl rfl (Jp rfl (Jn ?_)))))))
    exact ⟨kS, rfl, H⟩
   case h2 =>
    (clear H; intro E61 w61 H)
    refine Jn (Xo rfl (fun h87 => ?_) (fun h87 => ?_))
    ·refine Js (Jr (Jm (Ji rfl (Jf 3 underlying170 rfl sizeOf3 rfl rfl (Jl isAgg3 rfl (H.get (.app _ .here)) rfl (Ja (Ja (Jn (Je ?_)))))))))
     exact ⟨_, rfl, _, Mq, by rw [enter_own (by assumption) hnm (by assumption)]; rfl, by rw [enter_own (by assumption) hnm (by assumption)]; exact hQ, by rw [enter_own (by assumption) hnm (by assumption)]; exact H⟩
    ·refine Jk ?_
     refine W_seqS [(40, 66)] (fun E w' => ∃ qv2 M2, Zv w0.heap.size 3 qv2 ((en2 ⟨lease, held, who', stamp, since, q, first, n, stamps⟩ who n).q.map I) M2 ∧ Hp w0 (M2 ++ ((p, blk (sxC (en2 ⟨lease, held, who', stamp, since, q, first, n, stamps⟩ who n) qv2) 170) :: R)) w') ?c7 ?k7
     ·(refine Js (Jr (Jm (Ji rfl (Jf 5 underlying170 rfl sizeOf22 rfl rfl (Jl isAgg22 rfl (H.get (.app _ .here)) rfl (Jm (Jz rfl call51 rfl (Nw who (get_q hQ H) (by omega)) H ?_))))))); intro w108 H)
      refine J (Zd rfl) (Jn (Xo rfl (fun h111 => ?_) (fun h111 => ?_)))
      ·refine Js (Js (Jr (Jm (Ji rfl (Jf 5 underlying170 rfl sizeOf22 rfl rfl (Jl isAgg22 rfl (H.get (.app _ .here)) rfl (J (Qh underlying22 rfl) (J (Yk rfl rfl) (Jn (Xo rfl (fun h122 => ?_) (fun h122 => ?_)))))))))))
       ·(refine Jr (Jm (Jm (Ji rfl (Jf 6 underlying170 rfl sizeOf3 rfl rfl (Qd rfl (Qz (v := (.int _ _)) H sizeOf3 rfl rfl rfl (.app _ .here) (by simp)) ?_))))); clear H; intro w128 H)
        (refine Jn (Jr (Jm (Jm (Ji rfl (Jf 5 underlying170 rfl sizeOf22 rfl rfl (Jl isAgg22 rfl (H.get (.app _ .here)) rfl (Jm (Qb rfl (Xk (vs := [(.int _ _)]) H underlying22 sizeOf3 zeroValue3 rfl rfl (by decide) rfl rfl (by simp [Value.oneCell'])) ?_)))))))); clear H; intro b137 w137 hb137 H)
        (refine Ve rfl (E_appendQ (news := [I who]) (m := 1) H (.there .here) hQ underlying22 typeInfo3 rfl rfl rfl rfl rfl rfl (Ut underlying22 (H.get .here) rfl) (by simp; omega) (by simp [Tryz.t3]; omega)) ?_; clear H hQ; intro v5 M5 w138 hQ H; replace H := H.pop (by assumption); rw [show q.map I ++ [I who] = (q ++ [who]).map I from by simp] at hQ; obtain ⟨a5, c5, rfl⟩ := hQ.form)
        (refine Ji rfl (Jf 5 underlying170 rfl sizeOf22 rfl rfl (Qd rfl (Qz (v := (.slice _ _ _)) H sizeOf22 rfl rfl rfl (.app _ .here) (by simp)) ?_)); clear H; intro w141 H)
        refine Jn ?_
        exact ⟨kS, _, _, by unfold en2; rw [if_neg (by assumption), if_pos (show q = [] from List.length_eq_zero_iff.1 (by omega))]; exact hQ, by unfold en2; rw [if_neg (by assumption), if_pos (show q = [] from List.length_eq_zero_iff.1 (by omega))]; exact H⟩
       ·(refine Jk (Jr (Jm (Jm (Ji rfl (Jf 5 underlying170 rfl sizeOf22 rfl rfl (Jl isAgg22 rfl (H.get (.app _ .here)) rfl (Jm (Qb rfl (Xk (vs := [(.int _ _)]) H underlying22 sizeOf3 zeroValue3 rfl rfl (by decide) rfl rfl (by simp [Value.oneCell'])) ?_)))))))); clear H; intro b152 w152 hb152 H)
        (refine Ve rfl (E_appendQ (news := [I who]) (m := 1) H (.there .here) hQ underlying22 typeInfo3 rfl rfl rfl rfl rfl rfl (Ut underlying22 (H.get .here) rfl) (by simp; omega) (by simp [Tryz.t3]; omega)) ?_; clear H hQ; intro v5 M5 w153 hQ H; replace H := H.pop (by assumption); rw [show q.map I ++ [I who] = (q ++ [who]).map I from by simp] at hQ; obtain ⟨a5, c5, rfl⟩ := hQ.form)
        (refine Ji rfl (Jf 5 underlying170 rfl sizeOf22 rfl rfl (Qd rfl (Qz (v := (.slice _ _ _)) H sizeOf22 rfl rfl rfl (.app _ .here) (by simp)) ?_)); clear H; intro w156 H)
        refine Jn ?_
        exact ⟨kS, _, _, by unfold en2; rw [if_neg (by assumption), if_neg (show ¬ q = [] from fun e => by subst e; simp at *)]; exact hQ, by unfold en2; rw [if_neg (by assumption), if_neg (show ¬ q = [] from fun e => by subst e; simp at *)]; exact H⟩
      ·refine Jk ?_
       exact ⟨kS, _, _, by unfold en2; rw [if_pos (Decidable.of_not_not (by assumption))]; exact hQ, by unfold en2; rw [if_pos (Decidable.of_not_not (by assumption))]; exact H⟩
     ·(clear H hQ; rintro E w1 ⟨qv2, M2, hQ, H⟩; obtain ⟨i1, i2, i3, i4, i5⟩ := en2_facts ⟨lease, held, who', stamp, since, q, first, n, stamps⟩ who n; obtain ⟨s2, hs2⟩ : ∃ x, en2 ⟨lease, held, who', stamp, since, q, first, n, stamps⟩ who n = x := ⟨_, rfl⟩; rw [hs2] at hQ H i1 i2 i3 i4 i5; simp only at i2 i3 i4 i5; unfold sxC at H; obtain ⟨a2, c2, rfl⟩ := hQ.form)
      refine W_seqS [(67, 90)] (fun E w' => Hp w0 (M2 ++ ((p, blk (sxC (en3 s2 n) (.slice a2 (s2.q.map I).length c2)) 170) :: R)) w') ?c11 ?k11
      ·refine Js ?_
       (refine Zc (fun _ => false) (by kernel_rfl) H ?_; clear H; intro w164 H)
       refine Am 0 rfl H (Az 1 rfl rfl H (fun _ hC => Qf rfl) (Az 2 rfl rfl H (fun _ hC => Qa (off' := 1) underlying170 rfl sizeOf4 (by decide) rfl rfl) (Az 3 rfl rfl H (fun _ hC => Qe isAgg4 rfl (hC.get (.app _ .here)) rfl) (Am 4 rfl H ?_))))
       refine WA_ifB 71 rfl (fun h170 => ?_) (fun h170 => ?_)
       ·refine Ai 5 rfl rfl rfl H (fun _ hC => Va) (Ai 6 rfl rfl rfl H (fun _ hC => Va) (Ag 7 rfl rfl rfl H (fun _ hC => Qf rfl) (Ag 8 rfl rfl rfl H (fun _ hC => Qa (off' := 4) underlying170 rfl sizeOf3 (by decide) rfl rfl) (Ag 9 rfl rfl rfl H (fun _ hC => Qe isAgg3 rfl (hC.get (.app _ .here)) rfl) (Ag 10 rfl rfl rfl H (fun _ hC => Vt rfl rfl (Xc (by omega))) (Ai 11 rfl rfl rfl H (fun _ hC => Va) (Ag 12 rfl rfl rfl H (fun _ hC => Qf rfl) (Ag 13 rfl rfl rfl H (fun _ hC => Qa (off' := 0) underlying170 rfl sizeOf3 (by decide) rfl rfl) (Ag 14 rfl rfl rfl H (fun _ hC => Qe isAgg3 rfl (hC.get (.app _ .here)) rfl) (Ag 15 rfl rfl rfl H (fun _ hC => Mi rfl rfl) (Ah 16 rfl rfl H (fun _ hC => Ug rfl) (Ad (Xo rfl (fun h184 => ?_) (fun h184 => ?_))))))))))))))
        ·(refine Js (Jr (Jm (Ji rfl (Jf 1 underlying170 rfl sizeOf4 rfl rfl (Qd rfl (Qz (v := (.bool _)) H sizeOf4 rfl rfl rfl (.app _ .here) (by simp)) ?_))))); clear H; intro w190 H)
         (refine Jn (Jr (Jm (Jm (Ji rfl (Jf 6 underlying170 rfl sizeOf3 rfl rfl (Qd rfl (Qz (v := (.int _ _)) H sizeOf3 rfl rfl rfl (.app _ .here) (by simp)) ?_)))))); clear H; intro w197 H)
         refine Jn ?_
         exact ⟨kS, by unfold en3; rw [if_pos ⟨by assumption, by omega⟩]; exact H⟩
        ·refine Jk ?_
         exact ⟨kS, by unfold en3; rw [if_neg (fun h => by have := h.2; omega)]; exact H⟩
       ·refine Aq 5 rfl rfl (fun h => nomatch h) H (Aq 6 rfl rfl (fun h => nomatch h) H (Aq 7 rfl rfl (fun h => nomatch h) H (Aq 8 rfl rfl (fun h => nomatch h) H (Aq 9 rfl rfl (fun h => nomatch h) H (Aq 10 rfl rfl (fun h => nomatch h) H (Aq 11 rfl rfl (fun h => nomatch h) H (Aq 12 rfl rfl (fun h => nomatch h) H (Aq 13 rfl rfl (fun h => nomatch h) H (Aq 14 rfl rfl (fun h => nomatch h) H (Aq 15 rfl rfl (fun h => nomatch h) H (Ah 16 rfl rfl H (fun _ hC => Zg rfl) (Ad (Jc rfl (Jk ?_))))))))))))))
        exact ⟨kS, by unfold en3; rw [if_neg (fun h => Bool.noConfusion (h.1.symm.trans (by assumption)))]; exact H⟩
      ·(clear H; intro E w1 H; obtain ⟨j1, j2, j3, j4, j5⟩ := en3_facts s2 n; obtain ⟨s3, hs3⟩ : ∃ x, en3 s2 n = x := ⟨_, rfl⟩; rw [hs3] at H j1 j2 j3 j4 j5; rw [← j1] at hQ H i1; obtain ⟨y, ys, hys⟩ := q_cons i1; rw [hys] at hQ H i1; unfold sxC at H; obtain ⟨b6, o6, rfl⟩ := q_some hQ H; have hly : (List.map I (y :: ys)).length = ys.length + 1 := (by simp))
       refine Js (Js (Jr (Jm (Ji rfl (Jf 1 underlying170 rfl sizeOf4 rfl rfl (Jl isAgg4 rfl (H.get (.app _ .here)) rfl (Jn (W_ifB rfl (fun h227 => ?_) (fun h227 => ?_)))))))))
       ·refine Js (Js (Jr (Jm (Ji rfl (Jf 5 underlying170 rfl sizeOf22 rfl rfl (Jl isAgg22 rfl (H.get (.app _ .here)) rfl (J (Qj underlying22 sizeOf3 rfl rfl (by omega) (by omega) Xt) (J (Qx isAgg3 rfl (q_head hQ H)) (Jm (J (Yk rfl rfl) (Jn (Xo rfl (fun h240 => ?_) (fun h240 => ?_)))))))))))))
        ·(refine Jr (Jm (Jm (Ji rfl (Jf 6 underlying170 rfl sizeOf3 rfl rfl (Qd rfl (Qz (v := (.int _ _)) H sizeOf3 rfl rfl rfl (.app _ .here) (by simp)) ?_))))); clear H; intro w246 H)
         refine Jn (Js (Jr (Ja (Ja (Jn (Je ?_))))))
         (have e := enter_w1 (s := ⟨lease, held, who', stamp, since, q, first, last, stamps⟩) (by assumption) hnm (by assumption) hs2 hs3 (by assumption) hys (by assumption); exact ⟨_, rfl, _, _, by rw [e]; rfl, by rw [e]; show Zv _ _ _ (s3.q.map I) _; rw [hys]; exact hQ, by rw [e]; exact H⟩)
        ·refine Jk (Js (Jr (Ja (Ja (Jn (Je ?_))))))
         (have e := enter_w2 (s := ⟨lease, held, who', stamp, since, q, first, last, stamps⟩) (by assumption) hnm (by assumption) hs2 hs3 (by assumption) hys (by assumption); exact ⟨_, rfl, _, _, by rw [e]; rfl, by rw [e]; show Zv _ _ _ (s3.q.map I) _; rw [hys]; exact hQ, by rw [e]; exact H⟩)
       ·refine Jk (Js ?_)
        refine W_blockS [(107, 139)] (fun E w' => ∃ qv4, Zv w0.heap.size 3 qv4 ((en4 s3 who n).q.map I) M2 ∧ Hp w0 (M2 ++ ((p, blk (sxC (en4 s3 who n) qv4) 170) :: R)) w') ?b0 ?k0
        ·refine Vs 1 ?_
         refine Js (Js ?_)
         (refine Zc (fun _ => false) (by kernel_rfl) H ?_; clear H; intro w269 H)
         refine Am 0 rfl H (Az 1 rfl rfl H (fun _ hC => Qf rfl) (Az 2 rfl rfl H (fun _ hC => Qa (off' := 5) underlying170 rfl sizeOf22 (by decide) rfl rfl) (Az 3 rfl rfl H (fun _ hC => Qe isAgg22 rfl (hC.get (.app _ .here)) rfl) (Az 4 rfl rfl H (fun _ hC => Qj underlying22 sizeOf3 rfl rfl (by omega) (by omega) Xt) (Az 5 rfl rfl H (fun _ hC => Qx isAgg3 rfl (q_head hQ hC)) (Am 6 rfl H (Az 7 rfl rfl H (fun _ hC => Zu rfl rfl) (Am 8 rfl H ?_))))))))
         refine WA_if 115 rfl (fun h279 => ?_) (fun h279 => ?_)
         ·refine Ai 9 rfl rfl rfl H (fun _ hC => Va) (Ai 10 rfl rfl rfl H (fun _ hC => Va) (Ag 11 rfl rfl rfl H (fun _ hC => Qf rfl) (Ag 12 rfl rfl rfl H (fun _ hC => Qa (off' := 6) underlying170 rfl sizeOf3 (by decide) rfl rfl) (Ag 13 rfl rfl rfl H (fun _ hC => Qe isAgg3 rfl (hC.get (.app _ .here)) rfl) (Ag 14 rfl rfl rfl H (fun _ hC => Vt rfl rfl (Xc (by omega))) (Ai 15 rfl rfl rfl H (fun _ hC => Va) (Ag 16 rfl rfl rfl H (fun _ hC => Qf rfl) (Ag 17 rfl rfl rfl H (fun _ hC => Qa (off' := 0) underlying170 rfl sizeOf3 (by decide) rfl rfl) (Ag 18 rfl rfl rfl H (fun _ hC => Qe isAgg3 rfl (hC.get (.app _ .here)) rfl) (Ag 19 rfl rfl rfl H (fun _ hC => Mi rfl rfl) (Ah 20 rfl rfl H (fun _ hC => Ug rfl) (Ad (Xo rfl (fun h293 => ?_) (fun h293 => ?_))))))))))))))
          ·(refine Jk (Jb (Jr (Jm (Jm (Jm (Ji rfl (Jf 5 underlying170 rfl sizeOf22 rfl rfl (Jl isAgg22 rfl (H.get (.app _ .here)) rfl (WL_tailQ hQ underlying22 sizeOf3 rfl rfl ?_))))))))); clear hQ; intro v5 hQ; obtain ⟨z, zs, hzs⟩ := q_cons ((List.mem_cons.1 i1).resolve_left (fun e => absurd e.symm (by assumption))); rw [hzs] at hQ; obtain ⟨a7, c7, rfl⟩ := hQ.form; obtain ⟨b7, o7, rfl⟩ := q_some hQ H; have hlz : (List.map I (z :: zs)).length = zs.length + 1 := (by simp))
           (refine Jm (Ji rfl (Jf 5 underlying170 rfl sizeOf22 rfl rfl (Qd rfl (Qz (v := (.slice _ _ _)) H sizeOf22 rfl rfl rfl (.app _ .here) (by simp)) ?_))); clear H; intro w307 H)
           (refine Ji rfl (Jf 6 underlying170 rfl sizeOf3 rfl rfl (Qd rfl (Qz (v := (.int _ _)) H sizeOf3 rfl rfl rfl (.app _ .here) (by simp)) ?_)); clear H; intro w310 H)
           refine Jn ?_
           refine Bp ?_
           refine Js (Js ?_)
           (refine Zc (fun _ => false) (by kernel_rfl) H ?_; clear H; intro w315 H)
           refine Am 0 rfl H (Az 1 rfl rfl H (fun _ hC => Qf rfl) (Az 2 rfl rfl H (fun _ hC => Qa (off' := 5) underlying170 rfl sizeOf22 (by decide) rfl rfl) (Az 3 rfl rfl H (fun _ hC => Qe isAgg22 rfl (hC.get (.app _ .here)) rfl) (Az 4 rfl rfl H (fun _ hC => Qj underlying22 sizeOf3 rfl rfl (by omega) (by omega) Xt) (Az 5 rfl rfl H (fun _ hC => Qx isAgg3 rfl (q_head hQ hC)) (Am 6 rfl H (Az 7 rfl rfl H (fun _ hC => Zu rfl rfl) (Am 8 rfl H ?_))))))))
           refine WA_if 115 rfl (fun h325 => ?_) (fun h325 => ?_)
           ·refine Ai 9 rfl rfl rfl H (fun _ hC => Va) (Ai 10 rfl rfl rfl H (fun _ hC => Va) (Ag 11 rfl rfl rfl H (fun _ hC => Qf rfl) (Ag 12 rfl rfl rfl H (fun _ hC => Qa (off' := 6) underlying170 rfl sizeOf3 (by decide) rfl rfl) (Ag 13 rfl rfl rfl H (fun _ hC => Qe isAgg3 rfl (hC.get (.app _ .here)) rfl) (Ag 14 rfl rfl rfl H (fun _ hC => Vt rfl rfl (Xc (by omega))) (Ai 15 rfl rfl rfl H (fun _ hC => Va) (Ag 16 rfl rfl rfl H (fun _ hC => Qf rfl) (Ag 17 rfl rfl rfl H (fun _ hC => Qa (off' := 0) underlying170 rfl sizeOf3 (by decide) rfl rfl) (Ag 18 rfl rfl rfl H (fun _ hC => Qe isAgg3 rfl (hC.get (.app _ .here)) rfl) (Ag 19 rfl rfl rfl H (fun _ hC => Zn rfl rfl (by omega)) (Ah 20 rfl rfl H (fun _ hC => Ug rfl) (Ad (Jc rfl (Xr ?_))))))))))))))
            refine (if_pos rfl).mpr ?_
            exact ⟨kS, _, by rw [en4_pop hys (by assumption) (by assumption)]; show Zv _ _ _ (ys.map I) _; rw [hzs]; exact hQ, by rw [en4_pop hys (by assumption) (by assumption)]; exact H⟩
           ·refine Aq 9 rfl rfl (fun h => nomatch h) H (Aq 10 rfl rfl (fun h => nomatch h) H (Aq 11 rfl rfl (fun h => nomatch h) H (Aq 12 rfl rfl (fun h => nomatch h) H (Aq 13 rfl rfl (fun h => nomatch h) H (Aq 14 rfl rfl (fun h => nomatch h) H (Aq 15 rfl rfl (fun h => nomatch h) H (Aq 16 rfl rfl (fun h => nomatch h) H (Aq 17 rfl rfl (fun h => nomatch h) H (Aq 18 rfl rfl (fun h => nomatch h) H (Aq 19 rfl rfl (fun h => nomatch h) H (Ah 20 rfl rfl H (fun _ hC => Zg rfl) (Ad (Jc rfl (Xr ?_))))))))))))))
            refine (if_pos rfl).mpr ?_
            exact ⟨kS, _, by rw [en4_pop hys (by assumption) (by assumption)]; show Zv _ _ _ (ys.map I) _; rw [hzs]; exact hQ, by rw [en4_pop hys (by assumption) (by assumption)]; exact H⟩
          ·refine Xr ?_
           refine (if_pos rfl).mpr ?_
           exact ⟨kS, _, by rw [en4_same hys (.inr (by assumption)), hys]; exact hQ, by rw [en4_same hys (.inr (by assumption))]; exact H⟩
         ·refine Aq 9 rfl rfl (fun h => nomatch h) H (Aq 10 rfl rfl (fun h => nomatch h) H (Aq 11 rfl rfl (fun h => nomatch h) H (Aq 12 rfl rfl (fun h => nomatch h) H (Aq 13 rfl rfl (fun h => nomatch h) H (Aq 14 rfl rfl (fun h => nomatch h) H (Aq 15 rfl rfl (fun h => nomatch h) H (Aq 16 rfl rfl (fun h => nomatch h) H (Aq 17 rfl rfl (fun h => nomatch h) H (Aq 18 rfl rfl (fun h => nomatch h) H (Aq 19 rfl rfl (fun h => nomatch h) H (Ah 20 rfl rfl H (fun _ hC => Zg rfl) (Ad (Jc rfl (Xr ?_))))))))))))))
          refine (if_pos rfl).mpr ?_
          exact ⟨kS, _, by rw [en4_same hys (.inl (Decidable.of_not_not (by assumption))), hys]; exact hQ, by rw [en4_same hys (.inl (Decidable.of_not_not (by assumption)))]; exact H⟩
        ·(clear H hQ; rintro E w1 ⟨qv4, hQ, H⟩; rw [← hys] at i1; obtain ⟨f1', f2', f3'⟩ := en4_facts (who := who) (n := n) i1; obtain ⟨s4, hs4⟩ : ∃ x, en4 s3 who n = x := ⟨_, rfl⟩; rw [hs4] at H hQ f1' f2' f3'; obtain ⟨z, zs, hzs⟩ := q_cons f1'; rw [hzs] at hQ; obtain ⟨a7, c7, rfl⟩ := hQ.form; obtain ⟨b7, o7, rfl⟩ := q_some hQ H; unfold sxC at H; have hlz : (List.map I (z :: zs)).length = zs.length + 1 := (by simp))
         refine Js (Js (Jr (Jm (Ji rfl (Jf 5 underlying170 rfl sizeOf22 rfl rfl (Jl isAgg22 rfl (H.get (.app _ .here)) rfl (J (Qj underlying22 sizeOf3 rfl rfl (by omega) (by omega) Xt) (J (Qx isAgg3 rfl (q_head hQ H)) (Jm (J (Zu rfl rfl) (Jn (Xo rfl (fun h393 => ?_) (fun h393 => ?_)))))))))))))
         ·refine Js (Jr (Ja (Ja (Jn (Je ?_)))))
          (have e := enter_no (s := ⟨lease, held, who', stamp, since, q, first, last, stamps⟩) (by assumption) hnm (by assumption) hs2 hs3 (by assumption) hs4 hzs (by assumption); exact ⟨_, rfl, _, _, by rw [e]; rfl, by rw [e]; show Zv _ _ _ (s4.q.map I) _; rw [hzs]; exact hQ, by rw [e]; exact H⟩)
         ·(refine Jk (Js (Jr (Jm (Jm (Jm (Ji rfl (Jf 5 underlying170 rfl sizeOf22 rfl rfl (Jl isAgg22 rfl (H.get (.app _ .here)) rfl (WL_tailQ hQ underlying22 sizeOf3 rfl rfl ?_))))))))); clear hQ; intro v5 hQ; obtain ⟨a8, c8, rfl⟩ := hQ.form)
          (refine Jm (Ji rfl (Jf 5 underlying170 rfl sizeOf22 rfl rfl (Qd rfl (Qz (v := (.slice _ _ _)) H sizeOf22 rfl rfl rfl (.app _ .here) (by simp)) ?_))); clear H; intro w414 H)
          (refine Ji rfl (Jf 6 underlying170 rfl sizeOf3 rfl rfl (Qd rfl (Qz (v := (.int _ _)) H sizeOf3 rfl rfl rfl (.app _ .here) (by simp)) ?_)); clear H; intro w417 H)
          (refine Jn (Js (Jr (Jm (Ji rfl (Jf 8 underlying170 rfl sizeOf3 rfl rfl (Jl isAgg3 rfl (H.get (.app _ .here)) rfl (J (Xg rfl rfl (Xc (by omega))) (Ji rfl (Jf 8 underlying170 rfl sizeOf3 rfl rfl (Qd rfl (Qz (v := (.int _ _)) H sizeOf3 rfl rfl rfl (.app _ .here) (by simp)) ?_)))))))))); clear H; intro w428 H)
          (refine Jn (Js (Jr (Jm (Jm (Jm (Jm (Jm (Jm (Ji rfl (Jf 8 underlying170 rfl sizeOf3 rfl rfl (Jl isAgg3 rfl (H.get (.app _ .here)) rfl (Jm (Ji rfl (Jf 1 underlying170 rfl sizeOf4 rfl rfl (Qd rfl (Qz (v := (.bool _)) H sizeOf4 rfl rfl rfl (.app _ .here) (by simp)) ?_))))))))))))))); clear H; intro w444 H)
          (refine Ji rfl (Jf 2 underlying170 rfl sizeOf3 rfl rfl (Qd rfl (Qz (v := (.int _ _)) H sizeOf3 rfl rfl rfl (.app _ .here) (by simp)) ?_)); clear H; intro w447 H)
          (refine Ji rfl (Jf 3 underlying170 rfl sizeOf3 rfl rfl (Qd rfl (Qz (v := (.int _ _)) H sizeOf3 rfl rfl rfl (.app _ .here) (by simp)) ?_)); clear H; intro w450 H)
          (refine Ji rfl (Jf 4 underlying170 rfl sizeOf3 rfl rfl (Qd rfl (Qz (v := (.int _ _)) H sizeOf3 rfl rfl rfl (.app _ .here) (by simp)) ?_)); clear H; intro w453 H)
          refine Jn (Js (Jr (Jm (Ji rfl (Jf 3 underlying170 rfl sizeOf3 rfl rfl (Jl isAgg3 rfl (H.get (.app _ .here)) rfl (Ja (Ja (Jn (Je ?_))))))))))
          (have e := enter_in (s := ⟨lease, held, who', stamp, since, q, first, last, stamps⟩) (by assumption) hnm (by assumption) hs2 hs3 (by assumption) hs4 hzs (Decidable.of_not_not (by assumption)); exact ⟨_, rfl, _, _, by rw [e]; rfl, by rw [e]; show Zv _ _ _ (s4.q.tail.map I) _; rw [hzs]; exact hQ, by rw [e]; exact H⟩)
end
end Go.Proofs.YtlpmfldijgdcoaaGreatDoor.Sect
namespace Go.Proofs.YtlpmfldijgdcoaaGreatDoor.Kn
open Go Go.Proofs Fx Sect Tryz
/-- a slice that is read, and of what kind its block is -/
structure RdT (T : Nat) (w : World) (v : Value) (xs : List Value) : Prop where
 rd : RdS w v xs
 ty : ∀ a m c, v = .slice (some a) m c → ∃ o, w.heap[a.block]? = some o ∧ elT o = T
theorem RdT.keep {T : Nat} {w w' : World} {v : Value} {xs : List Value} {L : List (Nat × Obj)} (h : RdT T w v xs) (H : Hp w L w') (hn : Out [T] w L) : RdT T w' v xs := by
 refine ⟨h.rd.mono H fun a m c e hm => ?_, fun a m c e => ?_⟩
 ·obtain ⟨o, h1, h2⟩ := h.ty a m c e
  obtain ⟨p, hp, e2⟩ := List.mem_map.1 hm
  rcases hn p hp with h3 | ⟨o', h3, h4⟩
  ·have := Qr h1; omega
  ·rw [e2, h1] at h3
   cases h3
   exact h4 (by rw [h2]; simp)
 ·obtain ⟨o, h1, h2⟩ := h.ty a m c e
  exact ⟨o, H.Xw h1 (by rw [h2]; simp) hn, h2⟩
theorem RdT.own {w : World} {B e m : Nat} {v : Value} {xs : List Value} {M : List (Nat × Obj)} (h : Yo B e 1 v m xs M) (hM : ∀ p ∈ M, w.heap[p.1]? = some p.2) : RdT e w v xs := by
 refine ⟨RdS.own h hM, fun a m c e => ?_⟩
 rcases h.2 with ⟨h1, _⟩ | h1
 ·subst e; cases h1
 ·obtain ⟨b, cap, sp, h2, h3, h4, h5⟩ := h1
  subst e
  cases h2
  exact ⟨_, hM (b, _) (by rw [h4]; exact .head _), rfl⟩
/-- a section that an environment may enter -/
structure Ks (w : World) (κ : KS) (e n sp : Nat) : Prop where
 hk : w.heap[κ.k]? = some κ.kb
 ex : ∃ (envs : List Int) (mays : List Value) (l : List Int) (mv : Value) (ss : List Value) (x : Int), RdT 3 w (.slice κ.ea κ.en κ.ec) (envs.map I) ∧ envs[e]? = some x ∧ RdT 22 w κ.mayv mays ∧ mays[n]? = some mv ∧
  RdT 3 w mv (l.map I) ∧ x ∈ l ∧ RdT 115 w κ.sv ss ∧ ss[n]? = some (ptr sp 0) ∧ l.length ≤ 100 ∧ ss.length ≤ 8
 he : e < κ.en
 he2 : κ.en ≤ 40
def sT : List Nat := [113, 3, 22, 115]
theorem Ks.keep {w w' : World} {κ : KS} {e n sp : Nat} {L : List (Nat × Obj)} (h : Ks w κ e n sp) (H : Hp w L w') (hn : Out sT w L) : Ks w' κ e n sp := by
 obtain ⟨envs, mays, l, mv, ss, x, h1, h2, h3, h4, h5, h6, h7, h8, h9⟩ := h.ex
 exact ⟨H.Xw h.hk (by simp [sT, elT, KS.kb]) hn, ⟨envs, mays, l, mv, ss, x, h1.keep H (hn.sub (by simp [sT])), h2, h3.keep H (hn.sub (by simp [sT])), h4, h5.keep H (hn.sub (by simp [sT])), h6, h7.keep H (hn.sub (by simp [sT])), h8, h9⟩, h.he, h.he2⟩
theorem Ks.Ql {w w' : World} {κ : KS} {e n sp : Nat} {L : List (Nat × Obj)} (h : Ks w κ e n sp) (H : Hp w L w') (hn : ∀ p ∈ L, w.heap.size ≤ p.1) : Ks w' κ e n sp := h.keep H (Out.ofN hn)
section
variable {w : World} {κ : KS} {e n sp : Nat}
theorem bytes_no {op a b c d f : Int} {ba : Option Addr} {bl bc : Nat} (h1 : op ≠ 1) (h2 : op ≠ 2) (h3 : op ≠ 3) (k : Value) (e : Int) :
  Ret Tryz.prog 68 #[k, I e, .agg #[I op, I a, I b, I c, I d, I f, .slice ba bl bc]] w fun v w' => v = .tuple #[nilS, I 0, .bool false] ∧ Hp w [] w' := by
 refine Qi (args := [_, _, _]) func68 rfl ntmps68 results68 (by simp) ?_
 have H := Hp.refl w
 have q : ∀ (m : Int), op ≠ m → decide (op = m) = false := fun m h => decide_eq_false h
 (refine Js (Jr (Qb rfl (Xl (vs := [I op, I a, I b, I c, I d, I f, .slice ba bl bc]) H rfl rfl) ?_)); clear H; intro c5 w3 hc5 H)
 refine Ja (Ja (Ja (Jn (Js (Js (Jr (Jf 0 underlying44 rfl sizeOf3 rfl rfl (Jl isAgg3 rfl (H.get .here) rfl (Jn (Jb (Js (Jr (J (Xf rfl rfl (by omega)) (Ja (Jn (Jc rfl (Js (Jr (J (Xf rfl rfl (by omega)) (Ja (Jn (Jc rfl (Js (Jr (J (Xf rfl rfl (by omega)) (Ja (Jn (Jc rfl (Js (Jr (Ja (Ja (Ja (Jn (Je ?_)))))))))))))))))))))))))))))))))))
 exact ⟨_, rfl, rfl, H.none kYs⟩
theorem sect_ret (hs : Ks w κ e n sp) : Ret Tryz.prog 157 #[ptr κ.k 0, I e, I n] w fun v w' => v = .tuple #[ptr sp 0, I 0] ∧ Hp w [] w' := by
 refine Qi (args := [_, _, _]) func157 rfl ntmps157 results157 (by simp) ?_
 have H := Hp.refl w
 obtain ⟨envs, mays, l, mv, ss, x, h1, h2, h3, h4, h5, h6, h7, h8, h9, h10⟩ := hs.ex
 have hk := hs.hk
 have he := hs.he
 have he2 := hs.he2
 obtain ⟨k, m, mb, N, s, q, r, a, ca, ea, en, ec, mayv, sv, PB, ts, spl, tl, xs, now⟩ := κ
 unfold KS.kb at hk
 simp only at h1 h3 h7 hk he he2
 obtain ⟨ma, mc, rfl⟩ := h3.rd.form
 obtain ⟨sa, sc, rfl⟩ := h7.rd.form
 obtain ⟨b1, o1, rfl, hc1⟩ := h1.rd.cell (i := e) (u := I x) (by rw [List.getElem?_map, h2]; rfl)
 obtain ⟨b2, o2, rfl, hc2⟩ := h3.rd.cell h4
 obtain ⟨b3, o3, rfl, hc3⟩ := h7.rd.cell h8
 have hnm := (List.getElem?_eq_some_iff.1 h4).1
 have hns := (List.getElem?_eq_some_iff.1 h8).1
 have hcont : decide (x ∈ l) = true := decide_eq_true h6
 obtain ⟨va, vc, rfl⟩ := h5.rd.form
 refine Js (Jr (Ja (Ja (Jn (Js (Js ?_))))))
 (refine Zc (fun _ => false) (by kernel_rfl) H ?_; clear H; intro w8 H)
 (refine Am 0 rfl H (Az 1 rfl rfl H (fun _ hC => Xp rfl rfl (by omega)) (Am 2 rfl H (Ai 3 rfl rfl rfl H (fun _ hC => Va) (Ai 4 rfl rfl rfl H (fun _ hC => Va) (Ag 5 rfl rfl rfl H (fun _ hC => Qf rfl) (Ag 6 rfl rfl rfl H (fun _ hC => Qa (off' := 6) underlying113 rfl sizeOf111 (by decide) rfl rfl) (Ag 7 rfl rfl rfl H (fun _ hC => Qe isAgg111 rfl (hC.block hk (by simp)) rfl) (Ag 8 rfl rfl rfl H (fun _ hC => Qh underlying111 rfl) (Ag 9 rfl rfl rfl H (fun _ hC => Zn rfl rfl (by omega)) (Ah 10 rfl rfl H (fun _ hC => Zg rfl) (Am 11 rfl H (Ai 12 rfl rfl rfl H (fun _ hC => Va) (Ag 13 rfl rfl rfl H (fun _ hC => Qf rfl) (Ag 14 rfl rfl rfl H (fun _ hC => Qa (off' := 1) underlying113 rfl sizeOf74 (by decide) rfl rfl) (Ag 15 rfl rfl rfl H (fun _ hC => Qe isAgg74 rfl (hC.block hk (by simp)) rfl) (Ai 16 rfl rfl rfl H (fun _ hC => Va) (Ag 17 rfl rfl rfl H (fun _ hC => Qj (off' := o2 + n) underlying74 sizeOf22 rfl rfl (by omega) (by omega) (by omega)) (Ag 18 rfl rfl rfl H (fun _ hC => Qx isAgg22 rfl (hC.Zx hc2 kYs)) (Ai 19 rfl rfl rfl H (fun _ hC => Va) (Ag 20 rfl rfl rfl H (fun _ hC => Qf rfl) (Ag 21 rfl rfl rfl H (fun _ hC => Qa (off' := 0) underlying113 rfl sizeOf22 (by decide) rfl rfl) (Ag 22 rfl rfl rfl H (fun _ hC => Qe isAgg22 rfl (hC.block hk (by simp)) rfl) (Ai 23 rfl rfl rfl H (fun _ hC => Va) (Ag 24 rfl rfl rfl H (fun _ hC => Qj (off' := o1 + e) underlying22 sizeOf3 rfl rfl (by omega) (by omega) (by omega)) (Ag 25 rfl rfl rfl H (fun _ hC => Qx isAgg3 rfl (hC.Zx hc1 kYs)) (Ao 26 (Qv rfl (.inr ⟨_, _, rfl, rfl⟩) (Qw rfl call51 rfl) (by exact Nw x (h5.rd.same H) (by omega)) (by first | exact fun _ _ hR _ => H.seq0 hR.2 | exact fun _ _ hR h => Bool.noConfusion h | exact fun _ _ hR _ => (H.seq0 hR.2).none kYs | exact fun _ _ hR _ => (H.seq0 hR.2).Ub kYs) ?_))))))))))))))))))))))))))); rintro v w36 ⟨hv, H1⟩; rw [hcont] at hv; subst hv; replace H := H.seq0 H1; clear H1)
 refine Ag 27 rfl rfl rfl H (fun _ hC => Xj rfl) (Ah 28 rfl rfl H (fun _ hC => Zg rfl) (Ad (Jc rfl (Jk (Js (Jr (Jm (Ji rfl (Jf 6 underlying113 rfl sizeOf111 rfl rfl (Jl isAgg111 rfl (H.block hk (by simp)) rfl (Jm (J (Qj (off' := o3 + n) underlying111 sizeOf115 rfl rfl (by omega) (by omega) (by omega)) (J (Qx isAgg115 rfl (H.Zx hc3 kYs)) (Ja (Ja (Jn (Je ?_)))))))))))))))))
 exact ⟨_, rfl, rfl, H⟩
theorem Sect_ret (hs : Ks w κ e n sp) : Ret Tryz.prog 59 #[ptr κ.k 0, I n] w fun v w' => v = ptr sp 0 ∧ Hp w [] w' := by
 refine Qi (args := [_, _]) func59 rfl ntmps59 results59 (by simp) ?_
 have H := Hp.refl w
 obtain ⟨envs, mays, l, mv, ss, x, h1, h2, h3, h4, h5, h6, h7, h8, h9, h10⟩ := hs.ex
 have hk := hs.hk
 obtain ⟨k, m, mb, N, s, q, r, a, ca, ea, en, ec, mayv, sv, PB, ts, spl, tl, xs, now⟩ := κ
 unfold KS.kb at hk
 simp only at h7 hk
 obtain ⟨sa, sc, rfl⟩ := h7.rd.form
 obtain ⟨b3, o3, rfl, hc3⟩ := h7.rd.cell h8
 have hns := (List.getElem?_eq_some_iff.1 h8).1
 refine Js (Jr (Ja (Jn (Js (Js (Jr (Jm (J (Xp rfl rfl (by omega)) (Jm (Jt rfl rfl (Jm (Jt rfl rfl (Jm (Jt rfl rfl (Ji rfl (Jt rfl rfl (Jf 6 underlying113 rfl sizeOf111 rfl rfl (Jt rfl rfl (Jl isAgg111 rfl (H.block hk (by simp)) rfl (Jt rfl rfl (J (Qh underlying111 rfl) (Jt rfl rfl (J (Zn rfl rfl (by omega)) (Jp rfl (Jn (Jc rfl (Jk (Js (Jr (Jm (Ji rfl (Jf 6 underlying113 rfl sizeOf111 rfl rfl (Jl isAgg111 rfl (H.block hk (by simp)) rfl (Jm (J (Qj (off' := o3 + n) underlying111 sizeOf115 rfl rfl (by omega) (by omega) (by omega)) (J (Qx isAgg115 rfl (H.Zx hc3 kYs)) (Ja (Jn (Je ?_)))))))))))))))))))))))))))))))))))))))
 exact ⟨_, rfl, rfl, H⟩
/-- a section in which nobody waits is entered -/
theorem enter_ret {S : Sx} {T : Int} (hs : Ks w κ e n sp) (hsp : w.heap[sp]? = some (blk (sxC S nilS) 170)) (hq : S.q = []) (hB : Bd S T) (hT : T ≤ 1000000) (hn : 0 ≤ κ.now ∧ κ.now ≤ T) :
  Ret Tryz.prog 117 #[ptr κ.k 0, I e, .agg #[I 8, I 0, I 0, I n, I 0, I 0, nilS]] w fun v w' => ∃ qv M, v = .tuple #[I (enter S e κ.now).2.1, I 0] ∧ (∀ p ∈ M, w.heap.size ≤ p.1) ∧ Hp w (M ++ [(sp, blk (sxC (enter S e κ.now).1 qv) 170)]) w' := by
 refine Qi (args := [_, _, _]) func117 rfl ntmps117 results117 (by simp) ?_
 have H := Hp.focus0 hsp
 have hk := hs.hk
 unfold KS.kb at hk
 have hks : κ.k ≠ sp := Vg hk hsp (by simp)
 (refine Js (Jr (Qb rfl (Xl (vs := [I 8, I 0, I 0, I n, I 0, I 0, nilS]) H rfl rfl) ?_)); clear H; intro c5 w3 hc5 H; have hk5 := H.Xw (T := sT) hk (by simp [sT, elT]) (Out.new hc5 (Out.cons hsp (by simp [sT, elT]) Out.nil)); have hs5 := hs.keep H (Out.new hc5 (Out.cons hsp (by simp [sT, elT]) Out.nil)))
 (refine Ja (Ja (Jn (Js (Jr (Jm (Jm (Jf 3 underlying44 rfl sizeOf3 rfl rfl (Jl isAgg3 rfl (H.get .here) rfl (Jy rfl call157 rfl (sect_ret hs5) ?_))))))))); rintro _ w13 ⟨rfl, H1⟩; replace hk5 := H1.Qc hk5 kYs; replace H := H.seq0 H1; clear H1)
 (refine Jm (Jx rfl rfl (Jx rfl rfl (Ja (Ja (Jn (Js (Js (Jr (Jm (J (Yl rfl rfl (by omega)) (Jn (Jc rfl (Jk (Js (Jr (Jm (Jm (Jm (Ji rfl (Jf 7 underlying113 rfl sizeOf3 rfl rfl (J (Qe (v := I κ.now) isAgg3 rfl hk5 rfl) (Jy rfl call158 rfl (Sect.enter_ret (w0 := w) (Mq := []) (R := [(c5, blk [I 8, I 0, I 0, I n, I 0, I 0, nilS] 44)]) (e : Int) κ.now (by rw [hq]; exact Zv.nil _ _) H.swap2 hB hT hn) ?_)))))))))))))))))))))); clear H; rintro _ w36 ⟨qv, M, rfl, hO, H⟩)
 refine Jm (Jx rfl rfl (Jx rfl rfl (Ja (Ja (Jn (Js (Jr (Jm (Ja (Ja (Jn (Je ?_))))))))))))
 (refine ⟨_, rfl, qv, M, rfl, hO.keys, ?_⟩; exact (H.perm (by rw [← List.singleton_append, ← List.append_assoc]; exact List.perm_append_comm)).pop hc5)
end
end Go.Proofs.YtlpmfldijgdcoaaGreatDoor.Kn
namespace Go.Proofs.YtlpmfldijgdcoaaGreatDoor.Kn
open Go Go.Proofs Fx Sect Tryz
/-- a block of the outset and new ones have turned, over a list of new ones -/
theorem hp_over2 {w0 w w' : World} {L M : List (Nat × Obj)} {b : Nat} {o o' : Obj} (H : Hp w0 L w) (hb : w0.heap[b]? = some o) (hM : ∀ p ∈ M, w.heap.size ≤ p.1) (H1 : Hp w (M ++ [(b, o')]) w') (hL : ∀ p ∈ L, w0.heap.size ≤ p.1) : Hp w0 (M ++ (b, o') :: L) w' := by
 exact ((H.foc hb hL).seq (H1.perm List.perm_append_comm) (Yh .here (okSeq_all hM))).perm ((List.reverse_perm M).append_right _)
theorem hp_cut1 {w0 w : World} {M : List (Nat × Obj)} {p : Nat × Obj} {b : Nat} {o : Obj} (H : Hp w0 (M ++ p :: [(b, o)]) w) (hb : w0.heap.size ≤ b) : Hp w0 (M ++ [p]) w := by
 rw [List.append_cons] at H
 exact H.cut (fun q hq => by rw [List.mem_singleton] at hq; subst hq; exact hb)
theorem hp_cut2 {w0 w : World} {M : List (Nat × Obj)} {p : Nat × Obj} {b c : Nat} {o o' : Obj} (H : Hp w0 (M ++ p :: [(b, o), (c, o')]) w) (hb : w0.heap.size ≤ b) (hc : w0.heap.size ≤ c) : Hp w0 (M ++ [p]) w := by
 rw [List.append_cons] at H
 exact H.cut (fun q hq => by
  rcases List.mem_cons.1 hq with rfl | hq
  ·exact hb
  ·rw [List.mem_singleton] at hq; subst hq; exact hc)
section
variable {w : World} {κ : KS} {e n sp : Nat}
/-- what Leave answers -/
def lvE (S : Sx) (e : Nat) (st : Int) : Int := if S.held = true ∧ S.who = e ∧ S.stamp = st then 0 else 8
theorem By {S : Sx} {qv : Value} {st : Int} (hs : Ks w κ e n sp) (hsp : w.heap[sp]? = some (blk (sxC S qv) 170)) :
  Ret Tryz.prog 118 #[ptr κ.k 0, I e, .agg #[I 9, I 0, I st, I n, I 0, I 0, nilS]] w fun v w' => v = I (lvE S e st) ∧ Hp w [(sp, blk (sxC (Yy S e st) qv) 170)] w' := by
 refine Qi (args := [_, _, _]) func118 rfl ntmps118 results118 (by simp) ?_
 have H := Hp.focus0 hsp
 have hk := hs.hk
 unfold KS.kb at hk
 (refine Js (Jr (Qb rfl (Xl (vs := [I 9, I 0, I st, I n, I 0, I 0, nilS]) H rfl rfl) ?_)); clear H; intro c5 w3 hc5 H; have hs5 := hs.keep H (Out.new hc5 (Out.cons hsp (by simp [sT, elT]) Out.nil)))
 (refine Ja (Jn (Js (Jr (Jm (Jm (Jf 3 underlying44 rfl sizeOf3 rfl rfl (Jl isAgg3 rfl (H.get .here) rfl (Jz rfl call157 rfl (sect_ret hs5) H ?_)))))))); intro w12 H)
 (refine Jm (Jx rfl rfl (Jx rfl rfl (Ja (Ja (Jn (Js (Js (Jr (Jm (J (Yr rfl rfl (by omega)) (Jm (Jt rfl rfl (Jm (Jt rfl rfl (Jm (Jt rfl rfl (Jf 2 underlying44 rfl sizeOf3 rfl rfl (Jt rfl rfl (Jl isAgg3 rfl (H.get .here) rfl (Jt rfl rfl (Jy rfl call159 rfl (Sect.By (w0 := w) (Mq := []) (R := [(c5, blk [I 9, I 0, I st, I n, I 0, I 0, nilS] 44)]) (e : Int) st H.swap2) ?_))))))))))))))))))))); clear H; rintro _ w34 ⟨rfl, H⟩; replace H := H.swap2)
 refine Jt rfl rfl (J (Zd rfl) (Jq rfl (Jn (Xo rfl (fun h39 => ?_) (fun h39 => ?_)))))
 ·refine Jr (Ja (Jn (Js (Jr (Jm (Ja (Jn (Je ?_))))))))
  exact ⟨_, rfl, (by unfold lvE; rw [if_neg (by assumption)]; rfl), H.pop hc5⟩
 ·refine Jk (Js (Jr (Jm (Ja (Jn (Je ?_))))))
  exact ⟨_, rfl, (by unfold lvE; rw [if_pos (Decidable.of_not_not (by assumption))]; rfl), H.pop hc5⟩
theorem number_enter {S : Sx} {T : Int} (hs : Ks w κ e n sp) (hsp : w.heap[sp]? = some (blk (sxC S nilS) 170)) (hq : S.q = []) (hB : Bd S T) (hT : T ≤ 1000000) (hn : 0 ≤ κ.now ∧ κ.now ≤ T) :
  Ret Tryz.prog 69 #[ptr κ.k 0, I e, .agg #[I 8, I 0, I 0, I n, I 0, I 0, nilS]] w fun v w' => ∃ qv M, v = .tuple #[I (enter S e κ.now).2.1, I 0] ∧ (∀ p ∈ M, w.heap.size ≤ p.1) ∧ Hp w (M ++ [(sp, blk (sxC (enter S e κ.now).1 qv) 170)]) w' := by
 refine Qi (args := [_, _, _]) func69 rfl ntmps69 results69 (by simp) ?_
 have H := Hp.refl w
 (refine Js (Jr (Qb rfl (Xl (vs := [I 8, I 0, I 0, I n, I 0, I 0, nilS]) H rfl rfl) ?_)); clear H; intro c5 w3 hc5 H)
 (refine Ja (Ja (Jn (Js (Js (Jr (Jf 0 underlying44 rfl sizeOf3 rfl rfl (Jl isAgg3 rfl (H.get .here) rfl (Jn (Jb (Js (Jr (J (Xf rfl rfl (by omega)) (Ja (Jn (Jc rfl (Js (Jr (J (Xf rfl rfl (by omega)) (Ja (Jn (Jc rfl (Js (Jr (J (Xf rfl rfl (by omega)) (Ja (Jn (Jc rfl (Js (Jr (J (Xf rfl rfl (by omega)) (Ja (Jn (Jc rfl (Js (Jr (J (Yr rfl rfl (by omega)) (Ja (Jn (Jd rfl (Js (Jr (Jm (Jm (J (Qo (vs := [I 8, I 0, I 0, I n, I 0, I 0, nilS]) isAgg44 sizeOf44 rfl (H.get .here) rfl (by simp)) (Jy rfl call117 rfl (enter_ret (hs.Ql H kYs) (H.Qc hsp kYs) hq hB hT hn) ?_))))))))))))))))))))))))))))))))))))))))))))); rintro _ w49 ⟨qv, M, rfl, hM, H1⟩; have h9 : ∀ p ∈ M, w.heap.size ≤ p.1 := fun p hp => Nat.le_trans H.size (hM p hp))
 refine Jx rfl rfl (Jx rfl rfl (Ja (Ja (Jn (Je ?_)))))
 exact ⟨_, rfl, qv, M, rfl, h9, hp_cut1 (hp_over2 H hsp hM H1 kYs) hc5⟩
theorem number_leave {S : Sx} {qv : Value} {st : Int} (hs : Ks w κ e n sp) (hsp : w.heap[sp]? = some (blk (sxC S qv) 170)) :
  Ret Tryz.prog 69 #[ptr κ.k 0, I e, .agg #[I 9, I 0, I st, I n, I 0, I 0, nilS]] w fun v w' => v = .tuple #[I 0, I (lvE S e st)] ∧ Hp w [(sp, blk (sxC (Yy S e st) qv) 170)] w' := by
 refine Qi (args := [_, _, _]) func69 rfl ntmps69 results69 (by simp) ?_
 have H := Hp.refl w
 (refine Js (Jr (Qb rfl (Xl (vs := [I 9, I 0, I st, I n, I 0, I 0, nilS]) H rfl rfl) ?_)); clear H; intro c5 w3 hc5 H)
 (refine Ja (Ja (Jn (Js (Js (Jr (Jf 0 underlying44 rfl sizeOf3 rfl rfl (Jl isAgg3 rfl (H.get .here) rfl (Jn (Jb (Js (Jr (J (Xf rfl rfl (by omega)) (Ja (Jn (Jc rfl (Js (Jr (J (Xf rfl rfl (by omega)) (Ja (Jn (Jc rfl (Js (Jr (J (Xf rfl rfl (by omega)) (Ja (Jn (Jc rfl (Js (Jr (J (Xf rfl rfl (by omega)) (Ja (Jn (Jc rfl (Js (Jr (J (Xf rfl rfl (by omega)) (Ja (Jn (Jc rfl (Js (Jr (J (Yr rfl rfl (by omega)) (Ja (Jn (Jd rfl (Js (Jr (Jm (Jm (J (Qo (vs := [I 9, I 0, I st, I n, I 0, I 0, nilS]) isAgg44 sizeOf44 rfl (H.get .here) rfl (by simp)) (Jy rfl call118 rfl (By (hs.Ql H kYs) (H.Qc hsp kYs)) ?_))))))))))))))))))))))))))))))))))))))))))))))))))); rintro _ w55 ⟨rfl, H1⟩; replace H := H.Bx hsp kYs H1; clear H1)
 refine Ja (Ja (Jn (Je ?_)))
 exact ⟨_, rfl, rfl, H.pop2 hc5⟩
theorem do_enter {S : Sx} {T : Int} (hs : Ks w κ e n sp) (hsp : w.heap[sp]? = some (blk (sxC S nilS) 170)) (hq : S.q = []) (hB : Bd S T) (hT : T ≤ 1000000) (hn : 0 ≤ κ.now ∧ κ.now ≤ T) :
  Ret Tryz.prog 36 #[ptr κ.k 0, I e, .agg #[I 8, I 0, I 0, I n, I 0, I 0, nilS]] w fun v w' => ∃ qv M, v = .agg #[I 0, I (enter S e κ.now).2.1, nilS] ∧ (∀ p ∈ M, w.heap.size ≤ p.1) ∧ Hp w (M ++ [(sp, blk (sxC (enter S e κ.now).1 qv) 170)]) w' := by
 refine Qy (args := [_, _, _]) func36 rfl ntmps36 results36 (by simp) ?_
 have H := Hp.refl w
 have hk := hs.hk
 have he := hs.he
 have he2 := hs.he2
 unfold KS.kb at hk
 (refine Js (Jr (Qb rfl (Xl (vs := [I 8, I 0, I 0, I n, I 0, I 0, nilS]) H rfl rfl) ?_)); clear H; intro c5 w3 hc5 H)
 (refine Qb rfl (Qp (vs := [I 0, I 0, nilS]) H zeroValue96 rfl) ?_; clear H; intro c6 w4 hc6 H)
 (refine Jn (Js (Js (Jr (Jm (J (Xp rfl rfl (by omega)) (Jm (Jt rfl rfl (Jm (Jt rfl rfl (Jm (Jt rfl rfl (Ji rfl (Jt rfl rfl (Jf 0 underlying113 rfl sizeOf22 rfl rfl (Jt rfl rfl (Jl isAgg22 rfl (H.Qc hk kYs) rfl (Jt rfl rfl (J (Qh underlying22 rfl) (Jt rfl rfl (J (Zn rfl rfl (by omega)) (Jp rfl (Jn (Jc rfl (Jk (Js (Js (Jr (Jm (Jm (J (Qo (vs := [I 8, I 0, I 0, I n, I 0, I 0, nilS]) isAgg44 sizeOf44 rfl (H.get (.there .here)) rfl (by simp)) (Jz rfl call68 rfl (bytes_no (by decide) (by decide) (by decide) _ _) H ?_))))))))))))))))))))))))))))))); intro w36 H)
 (refine Jm (Jx rfl rfl (Jx rfl rfl (Jx rfl rfl (Ja (Ja (Ja (Jn (Js (Jr (Jm (Jn (Jc rfl (Jk (Js (Jr (Jm (Jm (J (Qo (vs := [I 8, I 0, I 0, I n, I 0, I 0, nilS]) isAgg44 sizeOf44 rfl (H.get (.there .here)) rfl (by simp)) (Jy rfl call69 rfl (number_enter (hs.Ql H kYs) (H.Qc hsp kYs) hq hB hT hn) ?_))))))))))))))))))); rintro _ w56 ⟨qv, M, rfl, hM, H1⟩; have h9 : ∀ p ∈ M, w.heap.size ≤ p.1 := fun p hp => Nat.le_trans H.size (hM p hp); replace H := hp_over2 H hsp hM H1 kYs; clear H1)
 (refine Jm (Jx rfl rfl (Jx rfl rfl (Ja (Ja (Jn (Js (Jr (Jm (Jm (J (Qm (places := [(0, 1), (1, 1), (2, 1)]) (vs := [I 0, I (enter S e κ.now).2.1, nilS]) underlying96 typeInfo96 rfl rfl (by kernel_rfl) rfl rfl rfl) (Qd rfl (Qg (vs := [I 0, I (enter S e κ.now).2.1, nilS]) H sizeOf96 rfl rfl (by simp [Value.oneCell']) (.app _ (.there .here)) (by simp)) ?_))))))))))); clear H; intro w68 H; replace H : Hp w (M ++ (sp, blk (sxC (enter S e κ.now).1 qv) 170) :: [(c6, blk [I 0, I (enter S e κ.now).2.1, nilS] 96), (c5, blk [I 8, I 0, I 0, I n, I 0, I 0, nilS] 44)]) w68 := H)
 refine Jn (Je ?_)
 exact ⟨_, ⟨_, rfl, ldA isAgg96 sizeOf96 (H.get (.app _ (.there .here))) rfl (by simp)⟩, qv, M, rfl, h9, hp_cut2 H hc6 hc5⟩
theorem do_leave {S : Sx} {qv : Value} {st : Int} (hs : Ks w κ e n sp) (hsp : w.heap[sp]? = some (blk (sxC S qv) 170)) :
  Ret Tryz.prog 36 #[ptr κ.k 0, I e, .agg #[I 9, I 0, I st, I n, I 0, I 0, nilS]] w fun v w' => v = .agg #[I (lvE S e st), I 0, nilS] ∧ Hp w [(sp, blk (sxC (Yy S e st) qv) 170)] w' := by
 refine Qy (args := [_, _, _]) func36 rfl ntmps36 results36 (by simp) ?_
 have H := Hp.refl w
 have hk := hs.hk
 have he := hs.he
 have he2 := hs.he2
 unfold KS.kb at hk
 (refine Js (Jr (Qb rfl (Xl (vs := [I 9, I 0, I st, I n, I 0, I 0, nilS]) H rfl rfl) ?_)); clear H; intro c5 w3 hc5 H)
 (refine Qb rfl (Qp (vs := [I 0, I 0, nilS]) H zeroValue96 rfl) ?_; clear H; intro c6 w4 hc6 H)
 (refine Jn (Js (Js (Jr (Jm (J (Xp rfl rfl (by omega)) (Jm (Jt rfl rfl (Jm (Jt rfl rfl (Jm (Jt rfl rfl (Ji rfl (Jt rfl rfl (Jf 0 underlying113 rfl sizeOf22 rfl rfl (Jt rfl rfl (Jl isAgg22 rfl (H.Qc hk kYs) rfl (Jt rfl rfl (J (Qh underlying22 rfl) (Jt rfl rfl (J (Zn rfl rfl (by omega)) (Jp rfl (Jn (Jc rfl (Jk (Js (Js (Jr (Jm (Jm (J (Qo (vs := [I 9, I 0, I st, I n, I 0, I 0, nilS]) isAgg44 sizeOf44 rfl (H.get (.there .here)) rfl (by simp)) (Jz rfl call68 rfl (bytes_no (by decide) (by decide) (by decide) _ _) H ?_))))))))))))))))))))))))))))))); intro w36 H)
 (refine Jm (Jx rfl rfl (Jx rfl rfl (Jx rfl rfl (Ja (Ja (Ja (Jn (Js (Jr (Jm (Jn (Jc rfl (Jk (Js (Jr (Jm (Jm (J (Qo (vs := [I 9, I 0, I st, I n, I 0, I 0, nilS]) isAgg44 sizeOf44 rfl (H.get (.there .here)) rfl (by simp)) (Jy rfl call69 rfl (number_leave (hs.Ql H kYs) (H.Qc hsp kYs)) ?_))))))))))))))))))); rintro _ w56 ⟨rfl, H1⟩; replace H := H.Bx hsp kYs H1; clear H1)
 (refine Jm (Jx rfl rfl (Jx rfl rfl (Ja (Ja (Jn (Js (Jr (Jm (Jm (J (Qm (places := [(0, 1), (1, 1), (2, 1)]) (vs := [I (lvE S e st), I 0, nilS]) underlying96 typeInfo96 rfl rfl (by kernel_rfl) rfl rfl rfl) (Qd rfl (Qg (vs := [I (lvE S e st), I 0, nilS]) H sizeOf96 rfl rfl (by simp [Value.oneCell']) (.there .here) (by simp)) ?_))))))))))); clear H; intro w68 H; replace H : Hp w [(sp, blk (sxC (Yy S e st) qv) 170), (c6, blk [I (lvE S e st), I 0, nilS] 96), (c5, blk [I 9, I 0, I st, I n, I 0, I 0, nilS] 44)] w68 := H)
 refine Jn (Je ?_)
 exact ⟨_, ⟨_, rfl, ldA isAgg96 sizeOf96 (H.get (.there .here)) rfl (by simp)⟩, rfl, (H.pop2 hc6).pop2 hc5⟩
end
end Go.Proofs.YtlpmfldijgdcoaaGreatDoor.Kn
namespace Go.Proofs.YtlpmfldijgdcoaaGreatDoor.Sect
open Go Go.Proofs Fx Tryz
/-- how many Enters at most, and the latest time -/
structure Bk (s : Sx) (T : Int) (k : Nat) : Prop where
 l0 : 1 ≤ s.lease
 l1 : s.lease ≤ 1000
 since0 : 0 ≤ s.since
 since1 : s.since ≤ T
 first0 : 0 ≤ s.first
 first1 : s.first ≤ T
 last0 : 0 ≤ s.last
 last1 : s.last ≤ T
 st0 : 0 ≤ s.stamps
 st1 : s.stamps ≤ k
 q1 : s.q.length ≤ k
theorem Bk.bd {s : Sx} {T : Int} {k : Nat} (h : Bk s T k) (hk : k ≤ 1000000) : Bd s T :=
 ⟨h.l0, h.since0, h.since1, h.first0, h.first1, h.last0, h.last1, h.st0, by have := h.st1; omega, by have := h.q1; omega⟩
theorem Bk.mono {s : Sx} {T T' : Int} {k k' : Nat} (h : Bk s T k) (hT : T ≤ T') (hk : k ≤ k') : Bk s T' k' :=
 ⟨h.l0, h.l1, h.since0, Int.le_trans h.since1 hT, h.first0, Int.le_trans h.first1 hT, h.last0, Int.le_trans h.last1 hT, h.st0, by have := h.st1; omega, by have := h.q1; omega⟩
theorem Bk.new (n : Int) : Bk (Bh n) 0 0 := by
 refine ⟨?_, ?_, ?_, ?_, ?_, ?_, ?_, ?_, ?_, ?_, ?_⟩ <;> simp [Bh] <;> omega
theorem Bk.en2 {s : Sx} {T n who : Int} {k : Nat} (h : Bk s T k) (h0 : 0 ≤ n) (hn : n ≤ T) : Bk (en2 s who n) T (k + 1) := by
 obtain ⟨a, b, c, d, e, f, g, i, j, l, m⟩ := h
 unfold Sect.en2
 split
 ·exact ⟨a, b, c, d, e, f, g, i, j, by omega, by omega⟩
 ·split
  ·exact ⟨a, b, c, d, h0, hn, g, i, j, by show s.stamps ≤ _; omega, by simp; omega⟩
  ·exact ⟨a, b, c, d, e, f, g, i, j, by show s.stamps ≤ _; omega, by simp; omega⟩
theorem Bk.en3 {s : Sx} {T n : Int} {k : Nat} (h : Bk s T k) (h0 : 0 ≤ n) (hn : n ≤ T) : Bk (en3 s n) T k := by
 obtain ⟨a, b, c, d, e, f, g, i, j, l, m⟩ := h
 unfold Sect.en3
 split
 ·exact ⟨a, b, c, d, h0, hn, g, i, j, l, m⟩
 ·exact ⟨a, b, c, d, e, f, g, i, j, l, m⟩
theorem Bk.en4 {s : Sx} {T n who : Int} {k : Nat} (h : Bk s T k) (h0 : 0 ≤ n) (hn : n ≤ T) : Bk (en4 s who n) T k := by
 obtain ⟨a, b, c, d, e, f, g, i, j, l, m⟩ := h
 unfold Sect.en4
 split
 ·exact ⟨a, b, c, d, h0, hn, g, i, j, l, by simp; omega⟩
 ·exact ⟨a, b, c, d, e, f, g, i, j, l, m⟩
theorem Bk.enter {s : Sx} {T who now : Int} {k : Nat} (h : Bk s T k) (h0 : 0 ≤ now) (hn : now ≤ T) : Bk (enter s who now).1 T (k + 1) := by
 have hl0 := h.last0
 have hl1 := h.last1
 unfold Sect.enter
 split
 ·exact h.mono (Int.le_refl _) (by omega)
 ·obtain ⟨n, hm, hn0, hn1⟩ : ∃ n, max now s.last = n ∧ 0 ≤ n ∧ n ≤ T := ⟨_, rfl, by omega, by omega⟩
  rw [hm]
  have h1 : Bk { s with last := n } T k := ⟨h.l0, h.l1, h.since0, h.since1, h.first0, h.first1, hn0, hn1, h.st0, h.st1, h.q1⟩
  unfold enterA
  split
  ·exact h1.mono (Int.le_refl _) (by omega)
  ·have h3 := (h1.en2 (who := who) hn0 hn1).en3 hn0 hn1
   have hst3 : (Sect.en3 (Sect.en2 { s with last := n } who n) n).stamps ≤ k := by
    rw [(en3_facts _ _).2.2.2.2, (en2_facts _ _ _).2.2.2.2]; exact h.st1
   generalize Sect.en3 (Sect.en2 { s with last := n } who n) n = s3 at *
   unfold enterB
   split
   ·obtain ⟨a, b, c, d, e, f, g, i, j, l, m⟩ := h3
    show Bk (if s3.q.head? = some who then { s3 with first := n } else s3) T (k + 1)
    split
    ·exact ⟨a, b, c, d, hn0, hn1, g, i, j, l, m⟩
    ·exact ⟨a, b, c, d, e, f, g, i, j, l, m⟩
   ·have h4 := h3.en4 (who := who) hn0 hn1
    have hst : (Sect.en4 s3 who n).stamps = s3.stamps := by unfold Sect.en4; split <;> rfl
    split
    ·obtain ⟨a, b, c, d, e, f, g, i, j, l, m⟩ := h4
     refine ⟨a, b, hn0, hn1, hn0, hn1, g, i, ?_, ?_, ?_⟩
     ·show 0 ≤ (Sect.en4 s3 who n).stamps + 1; omega
     ·show (Sect.en4 s3 who n).stamps + 1 ≤ _; omega
     ·show (Sect.en4 s3 who n).q.tail.length ≤ _; rw [List.length_tail]; omega
    ·exact h4
theorem Bk.leave {s : Sx} {T who st : Int} {k : Nat} (h : Bk s T k) : Bk (Yy s who st) T k := by
 unfold Yy
 split
 ·obtain ⟨a, b, c, d, e, f, g, i, j, l, m⟩ := h
  exact ⟨a, b, c, d, g, i, g, i, j, l, m⟩
 ·exact h
section
variable {w0 w : World} {p : Nat} {s : Sx} {qv : Value} {Mq R : List (Nat × Obj)}
end
end Go.Proofs.YtlpmfldijgdcoaaGreatDoor.Sect
namespace Go.Proofs.YtlpmfldijgdcoaaGreatDoor.Sect
open Go Go.Proofs Fx Tryz
/-- one holds from nought on -/
def lsSx (L : Int) (q : List Int) (f n : Int) : Sx := ⟨L, true, 1, 1, 0, q, f, n, 1⟩
section
variable {w : World} {p : Nat}
end
end Go.Proofs.YtlpmfldijgdcoaaGreatDoor.Sect
namespace Go.Proofs.YtlpmfldijgdcoaaGreatDoor.Sect
open Go Go.Proofs Fx Tryz
theorem cells_in {pre A B sp : List Value} {a : Value} {k m : Nat} (hk : A.length = k) (hm : B.length = m) : (pre ++ ((A ++ a :: B) ++ sp)).take (pre.length + k) ++ B ++ (pre ++ ((A ++ a :: B) ++ sp)).drop (pre.length + k + B.length) = pre ++ ((A ++ B) ++ ((a :: B).drop B.length ++ sp)) := by
 subst hk hm
 have h1 : (pre ++ ((A ++ a :: B) ++ sp)).take (pre.length + A.length) = pre ++ A := by
  rw [List.take_length_add_append, List.append_assoc A, List.take_left]
 have h2 : (pre ++ ((A ++ a :: B) ++ sp)).drop (pre.length + A.length + B.length) = (a :: B).drop B.length ++ sp := by
  rw [Nat.add_assoc, List.drop_length_add_append, List.append_assoc A, List.drop_length_add_append, List.drop_append_of_le_length (by simp)]
 rw [h1, h2]; simp
theorem cells_clear {pre AB D sp : List Value} {z : Value} {k : Nat} (hD : D.length = 1) (hk : AB.length = k) : (pre ++ (AB ++ (D ++ sp))).take (pre.length + k) ++ [z] ++ (pre ++ (AB ++ (D ++ sp))).drop (pre.length + k + 1) = pre ++ (AB ++ (z :: sp)) := by
 subst hk
 obtain ⟨a, rfl⟩ := List.length_eq_one_iff.1 hD
 rw [List.take_length_add_append, List.take_left, Nat.add_assoc, List.drop_length_add_append, List.drop_length_add_append]
 simp
section
variable {P : Program} {E : Env} {w : World} {d : Option Nat} {ty : TypeId} {pos : String} {after : Array Edge}
theorem R_to {t elem : TypeId} {x hi : Operand} {b off len cap i sz : Nat} (ht : P.underlying t = some (.slice elem)) (hS : ∀ w, (sizeOf elem).run P w = .ok sz w)
  (hx : ev E x = sl b off len cap) (hhi : ev E hi = I i) (hlc : len ≤ cap) (hic : i ≤ cap)
  : (execOp (ev E) (mk d (.slice t x none (some hi) none) ty pos after)).run P w = .ok (.value (sl b off i cap)) w := by
 have := Bq (d := d) (ty := ty) (pos := pos) (after := after) (w := w) (off' := off) (i := 0) (j := (i : Int)) ht hS hx .none (.some hhi) hlc (by omega) (by omega) (by omega) (.inl rfl) (by simp)
 simpa using this
theorem R_from {t elem : TypeId} {x lo : Operand} {b off len cap k m : Nat} {k' : Int} (ht : P.underlying t = some (.slice elem)) (hS : ∀ w, (sizeOf elem).run P w = .ok 1 w)
  (hx : ev E x = sl b off len cap) (hlo : ev E lo = I k') (hk' : k' = k) (hlc : len ≤ cap) (hm : len = k + m) (hkc : k < cap)
  : (execOp (ev E) (mk d (.slice t x (some lo) none none) ty pos after)).run P w = .ok (.value (sl b (off + k) m (cap - k))) w := by
 subst hk'
 have := Bq (d := d) (ty := ty) (pos := pos) (after := after) (w := w) (off' := off + k) (i := (k : Int)) (j := (len : Int)) ht hS hx (.some hlo) .none hlc (by omega) (by omega) (by omega) (.inr (by omega)) (by simp)
 rw [show ((len : Int) - k).toNat = m by omega, show ((cap : Int) - k).toNat = cap - k by omega] at this
 exact this
theorem R_mid {t elem : TypeId} {x lo hi : Operand} {b off len cap k : Nat} {k' j' : Int} (ht : P.underlying t = some (.slice elem)) (hS : ∀ w, (sizeOf elem).run P w = .ok 1 w)
  (hx : ev E x = sl b off len cap) (hlo : ev E lo = I k') (hhi : ev E hi = I j') (hk' : k' = k) (hj' : j' = k + 1) (hlc : len ≤ cap) (hkc : k < cap)
  : (execOp (ev E) (mk d (.slice t x (some lo) (some hi) none) ty pos after)).run P w = .ok (.value (sl b (off + k) 1 (cap - k))) w := by
 subst hk' hj'
 have := Bq (d := d) (ty := ty) (pos := pos) (after := after) (w := w) (off' := off + k) (i := (k : Int)) (j := (k : Int) + 1) ht hS hx (.some hlo) (.some hhi) hlc (by omega) (by omega) (by omega) (.inr (by omega)) (by simp)
 rw [show ((k : Int) + 1 - k).toNat = 1 by omega, show ((cap : Int) - k).toNat = cap - k by omega] at this
 exact this
theorem del_src {tx e' e : TypeId} {b cap' : Nat} {pre A B sp : List Value} {a : Value} {ao : Option Addr} (hk : P.underlying tx = some (.slice e')) (hblk : w.heap[b]? = some (blk (pre ++ ((A ++ a :: B) ++ sp)) e)) (h1 : ∀ u ∈ B, u.oneCell' = true)
  (hao : ao = some ⟨b, pre.length + (A.length + 1), none⟩ ∨ B = []) (hc : B.length ≤ cap') : Src P 1 tx (.slice ao B.length cap') B.length B w := by
 have hr : RdS w (.slice ao B.length cap') B := by
  refine ⟨ao, cap', rfl, hc, ?_⟩
  rcases hao with rfl | rfl
  ·refine .inr ⟨b, pre.length + (A.length + 1), rfl, fun j u hu => ?_⟩
   rw [Uf hblk, List.getElem?_append_right (by omega), List.append_assoc, List.getElem?_append_right (by omega)]
   have hj := (List.getElem?_eq_some_iff.1 hu).1
   rw [show pre.length + (A.length + 1) + j - pre.length - A.length = j + 1 by omega, List.cons_append, List.getElem?_cons_succ, List.getElem?_append_left hj]
   exact hu
  ·exact .inl rfl
 exact hr.src hk h1
end
section
variable {w0 w : World} {p : Nat} {s : Sx} {qv : Value} {Mq R : List (Nat × Obj)}
theorem delete_ret {A B : List Int} {a : Int} {v : Value} (hQ : Zv w0.heap.size 3 v ((A ++ a :: B).map I) Mq) (H : Hp w0 (Mq ++ R) w) (hb : (A ++ a :: B).length ≤ 1000000) :
  Ret Tryz.prog 170 #[v, I A.length, I ((A.length : Int) + 1)] w fun r w' => ∃ M', Zv w0.heap.size 3 r ((A ++ B).map I) M' ∧ Hp w0 (M' ++ R) w' := by
 refine Qi (args := [_, _, _]) func170 rfl ntmps170 results170 (by simp) ?_
 rcases hQ with ⟨_, h, _⟩ | ⟨b, off, cap, pre, sp, rfl, hbb, rfl, hp, hsp, hcap⟩
 ·simp at h
 rw [List.length_map] at hsp hcap ⊢
 subst hp
 have hn2 : (A ++ a :: B).length = A.length + 1 + B.length := by simp; omega
 rw [hn2] at hsp hcap hb ⊢
 rw [List.singleton_append, List.map_append, List.map_cons] at H
 have hone : ∀ u ∈ B.map I, u.oneCell' = true := by intro u hu; obtain ⟨x, _, rfl⟩ := List.mem_map.1 hu; rfl
 have hA : (A.map I).length = A.length := List.length_map _
 have hB : (B.map I).length = B.length := List.length_map _
 have hAB : (A.map I ++ B.map I).length = A.length + B.length := by simp
 have hD : ((I a :: B.map I).drop (B.map I).length).length = 1 := by rw [List.length_drop, List.length_cons]; omega
 by_cases hlast : cap = A.length + 1
 ·obtain rfl : B = [] := List.length_eq_zero_iff.1 (by omega)
  refine Js (Jr (Ja (Jn (Js (Jr (Jm (Jm (Jm (Jm (J (Qh underlying22 rfl) (J (R_slice3lo underlying22 sizeOf3 rfl rfl (j := A.length + 1) rfl rfl (by omega) (by omega) (by omega) (by omega)) (Jn (Js (Js (Jr (Jm (Jm (J (Xf rfl rfl (by omega)) (Jn (Jc rfl (Jk (Js (Jr (Jm (J (Qh underlying22 rfl) (Ja (Jn (Js ?_))))))))))))))))))))))))))))
  (refine Xi (Kp []) (fun _ => false) (by kernel_rfl) H ?_; clear H; intro w30 H)
  (refine Am 0 rfl (H.kp.sub (by simp)) (Am 1 rfl (H.kp.sub (by simp)) (Az 2 rfl rfl (H.kp.sub (by simp)) (fun _ hC => R_to underlying22 sizeOf3 rfl rfl (by omega) (by omega)) (Am 3 rfl (H.kp.sub (by simp)) (Am 4 rfl (H.kp.sub (by simp)) (Az 5 rfl rfl (H.kp.sub (by simp)) (fun _ hC => R_sliceE underlying22 sizeOf3 rfl (.some rfl) .none (by omega) (by simp <;> omega)) (Ao 6 (WI_effn rfl (.inl rfl) (E_appendIn H .here underlying22 typeInfo3 rfl rfl rfl (del_src (B := [].map I) (sp := sp) underlying22 (H.get .here) hone (.inr rfl) (Nat.le_refl _)) (by simp <;> omega) (by simp <;> omega)) (fun _ _ _ => kC) ?_))))))); clear H; intro _ w38 _ H; rw [cells_in hA hB] at H)
  (refine Aa 7 rfl (H.kp.sub (by simp)) (Ad (Js (Jr (Jm (Jm (J (Qh underlying22 rfl) (Jm (J (R_mid (k := A.length) underlying22 sizeOf3 rfl rfl rfl (by simp) (by simp) (by simp <;> omega) (by omega)) (Qb rfl (E_clear1 (z := I 0) H .here underlying22 zeroValue3 rfl rfl rfl (by simp <;> omega)) ?_))))))))); clear H; intro _ w48 _ H; rw [cells_clear (k := A.length) hD (by simp)] at H)
  refine Jn (Js (Jr (Jm (Ja (Jn (Je ?_))))))
  exact ⟨_, rfl, [_], .inr ⟨b, pre.length, cap, pre, I 0 :: sp, by simp; rfl, hbb, by rw [List.map_append], rfl, by simp <;> omega, by simp <;> omega⟩, H⟩
 ·refine Js (Jr (Ja (Jn (Js (Jr (Jm (Jm (Jm (Jm (J (Qh underlying22 rfl) (J (R_slice3lo underlying22 sizeOf3 rfl rfl (j := A.length + 1) rfl rfl (by omega) (by omega) (by omega) (by omega)) (Jn (Js (Js (Jr (Jm (Jm (J (Xf rfl rfl (by omega)) (Jn (Jc rfl (Jk (Js (Jr (Jm (J (Qh underlying22 rfl) (Ja (Jn (Js ?_))))))))))))))))))))))))))))
  (refine Xi (Kp []) (fun _ => false) (by kernel_rfl) H ?_; clear H; intro w30 H)
  (refine Am 0 rfl (H.kp.sub (by simp)) (Am 1 rfl (H.kp.sub (by simp)) (Az 2 rfl rfl (H.kp.sub (by simp)) (fun _ hC => R_to underlying22 sizeOf3 rfl rfl (by omega) (by omega)) (Am 3 rfl (H.kp.sub (by simp)) (Am 4 rfl (H.kp.sub (by simp)) (Az 5 rfl rfl (H.kp.sub (by simp)) (fun _ hC => R_from (k := A.length + 1) (m := (B.map I).length) underlying22 sizeOf3 rfl rfl (by omega) (by omega) (by omega) (by omega)) (Ao 6 (WI_effn rfl (.inl rfl) (E_appendIn H .here underlying22 typeInfo3 rfl rfl rfl (del_src (A := A.map I) (sp := sp) underlying22 (H.get .here) hone (.inl (by rw [hA])) (by omega)) (by omega) (by simp <;> omega)) (fun _ _ _ => kC) ?_))))))); clear H; intro _ w38 _ H; rw [cells_in hA hB] at H)
  (refine Aa 7 rfl (H.kp.sub (by simp)) (Ad (Js (Jr (Jm (Jm (J (Qh underlying22 rfl) (Jm (J (R_mid (k := A.length + B.length) underlying22 sizeOf3 rfl rfl rfl (by omega) (by omega) (by omega) (by omega)) (Qb rfl (E_clear1 (z := I 0) H .here underlying22 zeroValue3 rfl rfl rfl (by simp <;> omega)) ?_))))))))); clear H; intro _ w48 _ H; rw [cells_clear hD hAB] at H)
  refine Jn (Js (Jr (Jm (Ja (Jn (Je ?_))))))
  exact ⟨_, rfl, [_], .inr ⟨b, pre.length, cap, pre, I 0 :: sp, by simp; rfl, hbb, by rw [List.map_append], rfl, by simp <;> omega, by simp <;> omega⟩, H⟩
end
end Go.Proofs.YtlpmfldijgdcoaaGreatDoor.Sect
namespace Go.Proofs.YtlpmfldijgdcoaaGreatDoor.Sect
open Go Go.Proofs Fx Tryz
/-- a row without the first one that is so -/
def rm (xs : List Int) (x : Int) : List Int := match xs with
 | [] => []
 | y :: ys => if x = y then ys else y :: rm ys x
theorem rm_cases (xs : List Int) (x : Int) : (¬ x ∈ xs ∧ idx xs x = -1 ∧ rm xs x = xs) ∨ (∃ A B, xs = A ++ x :: B ∧ idx xs x = (A.length : Int) ∧ rm xs x = A ++ B ∧ (A = [] ↔ xs.head? = some x)) := by
 induction xs with
 | nil => exact .inl ⟨by simp, rfl, rfl⟩
 | cons y ys ih =>
  unfold idx rm
  by_cases h : x = y
  ·subst h
   exact .inr ⟨[], ys, rfl, by simp, by simp, by simp⟩
  ·rw [if_neg h, if_neg h]
   rcases ih with ⟨h1, h2, h3⟩ | ⟨A, B, h1, h2, h3, h4⟩
   ·exact .inl ⟨by simp [h, h1], by rw [h2]; rfl, by rw [h3]⟩
   ·refine .inr ⟨y :: A, B, by rw [h1]; rfl, ?_, by rw [h3]; rfl, by simp; exact fun e => h e.symm⟩
    rw [h2, if_neg (by omega)]; simp
def Mc (s : Sx) (who : Int) : Sx := if s.held = true ∧ s.who = who then { s with held := false, first := s.last } else s
def quitB (s : Sx) (who : Int) : Sx := if s.q.head? = some who then { s with q := rm s.q who, first := s.last } else { s with q := rm s.q who }
def Bf (s : Sx) (who : Int) : Sx := quitB (Mc s who) who
theorem mem_head {xs : List Int} {x : Int} (h : xs.head? = some x) : x ∈ xs := by
 cases xs with
 | nil => cases h
 | cons a t => cases h; simp
theorem quitA_q (s : Sx) (who : Int) : (Mc s who).q = s.q := by unfold Mc; split <;> rfl
section
variable {w0 w : World} {p : Nat} {s : Sx} {qv : Value} {Mq R : List (Nat × Obj)}
theorem drop_mid {A M B : List (Nat × Obj)} (H : Hp w0 (A ++ (M ++ B)) w) (hM : ∀ p ∈ M, w0.heap.size ≤ p.1) : Hp w0 (A ++ B) w :=
 Hp.Ub (M := M) (H.perm (List.perm_append_comm_assoc A M B)) hM
theorem quit_ret (who : Int) (hQ : Zv w0.heap.size 3 qv (s.q.map I) Mq) (H : Hp w0 (Mq ++ ((p, blk (sxC s qv) 170) :: R)) w) (hb : s.q.length ≤ 1000000) :
  Ret Tryz.prog 131 #[ptr p 0, I who] w fun v w' => ∃ qv' Mq', Zv w0.heap.size 3 qv' ((Bf s who).q.map I) Mq' ∧ Hp w0 (Mq' ++ ((p, blk (sxC (Bf s who) qv') 170) :: R)) w' := by
 refine Qi (args := [_, _]) func131 rfl ntmps131 results131 (by simp) ?_
 obtain ⟨qa, qc, rfl⟩ := hQ.form
 have hr := get_q hQ H
 unfold sxC at H
 have hB : (Mc s who).q.length ≤ 1000000 := by rw [quitA_q]; exact hb
 rcases rm_cases s.q who with ⟨hm, hi, hrm⟩ | ⟨A, B, hq, hi, hrm, hh⟩
 ·refine W_seqS [(5, 26)] (fun E w' => Hp w0 (Mq ++ ((p, blk (sxC (Mc s who) (.slice qa (s.q.map I).length qc)) 170) :: R)) w') ?c0 ?k0
  ·refine Js (Jr (Jm (Ji rfl (Jf 1 underlying170 rfl sizeOf4 rfl rfl (Jl isAgg4 rfl (H.get (.app _ .here)) rfl (Jm ?_))))))
   apply Xs 7 9 16 [(10, 16)] H
   case hc => exact decV rfl
   case h1 =>
    intro h9
    refine Jt rfl rfl (Jm (Jt rfl rfl (Ji rfl (Jt rfl rfl (Jf 2 underlying170 rfl sizeOf3 rfl rfl (Jt rfl rfl (Jl isAgg3 rfl (H.get (.app _ .here)) rfl (Jt rfl rfl (Jm (Jt rfl rfl (J (Yk rfl rfl) (Jq rfl (Jn ?_)))))))))))))
    exact ⟨kS, rfl, H⟩
   case h0 =>
    intro h9
    refine Jg rfl rfl (Jg rfl rfl (Jg rfl rfl (Jg rfl rfl (Jg rfl rfl (Jg rfl rfl (Jp rfl (Jn ?_)))))))
    exact ⟨kS, rfl, H⟩
   case h2 =>
    (clear H; intro E9 w9 H)
    refine Jn (Xo rfl (fun h35 => ?_) (fun h35 => ?_))
    ·(refine Js (Jr (Jm (Ji rfl (Jf 1 underlying170 rfl sizeOf4 rfl rfl (Qd rfl (Qz (v := (.bool _)) H sizeOf4 rfl rfl rfl (.app _ .here) (by simp)) ?_))))); clear H; intro w41 H)
     (refine Jn (Jr (Jm (Jm (Ji rfl (Jf 7 underlying170 rfl sizeOf3 rfl rfl (Jl isAgg3 rfl (H.get (.app _ .here)) rfl (Ji rfl (Jf 6 underlying170 rfl sizeOf3 rfl rfl (Qd rfl (Qz (v := (.int _ _)) H sizeOf3 rfl rfl rfl (.app _ .here) (by simp)) ?_))))))))); clear H; intro w51 H)
     refine Jn ?_
     exact ⟨kS, by unfold Mc; rw [if_pos (by assumption)]; exact H⟩
    ·refine Jk ?_
     exact ⟨kS, by unfold Mc; rw [if_neg (by assumption)]; exact H⟩
  ·(clear H; intro E w1 H; have hr2 := get_q hQ H; unfold sxC at H)
   (refine Js (Jr (Jm (Ji rfl (Jf 5 underlying170 rfl sizeOf22 rfl rfl (Jl isAgg22 rfl (H.get (.app _ .here)) rfl (Jm (Jy rfl call79 rfl (index_ret who hr2 (by omega)) ?_))))))); rintro _ w64 ⟨rfl, H1⟩; rw [hi]; replace H := H.seq0 H1; clear H1)
   refine Ja (Jn (Js (Js (Jr (Jm (J (Za rfl rfl (by omega)) (Jn (Jd rfl (Je ?_)))))))))
   (have hs : Bf s who = Mc s who := (by unfold Bf quitB; rw [quitA_q, hrm, if_neg (fun e => hm (mem_head e))]; rw [← quitA_q s who]); exact ⟨_, rfl, _, _, by rw [hs, quitA_q]; exact hQ, by rw [hs]; exact H⟩)
 ·have hl : s.q.length = A.length + 1 + B.length := by rw [hq]; simp; omega
  refine W_seqS [(5, 26)] (fun E w' => Hp w0 (Mq ++ ((p, blk (sxC (Mc s who) (.slice qa (s.q.map I).length qc)) 170) :: R)) w') ?c1 ?k1
  ·refine Js (Jr (Jm (Ji rfl (Jf 1 underlying170 rfl sizeOf4 rfl rfl (Jl isAgg4 rfl (H.get (.app _ .here)) rfl (Jm ?_))))))
   apply Xs 7 9 16 [(10, 16)] H
   case hc => exact decV rfl
   case h1 =>
    intro h9
    refine Jt rfl rfl (Jm (Jt rfl rfl (Ji rfl (Jt rfl rfl (Jf 2 underlying170 rfl sizeOf3 rfl rfl (Jt rfl rfl (Jl isAgg3 rfl (H.get (.app _ .here)) rfl (Jt rfl rfl (Jm (Jt rfl rfl (J (Yk rfl rfl) (Jq rfl (Jn ?_)))))))))))))
    exact ⟨kS, rfl, H⟩
   case h0 =>
    intro h9
    refine Jg rfl rfl (Jg rfl rfl (Jg rfl rfl (Jg rfl rfl (Jg rfl rfl (Jg rfl rfl (Jp rfl (Jn ?_)))))))
    exact ⟨kS, rfl, H⟩
   case h2 =>
    (clear H; intro E9 w9 H)
    refine Jn (Xo rfl (fun h35 => ?_) (fun h35 => ?_))
    ·(refine Js (Jr (Jm (Ji rfl (Jf 1 underlying170 rfl sizeOf4 rfl rfl (Qd rfl (Qz (v := (.bool _)) H sizeOf4 rfl rfl rfl (.app _ .here) (by simp)) ?_))))); clear H; intro w41 H)
     (refine Jn (Jr (Jm (Jm (Ji rfl (Jf 7 underlying170 rfl sizeOf3 rfl rfl (Jl isAgg3 rfl (H.get (.app _ .here)) rfl (Ji rfl (Jf 6 underlying170 rfl sizeOf3 rfl rfl (Qd rfl (Qz (v := (.int _ _)) H sizeOf3 rfl rfl rfl (.app _ .here) (by simp)) ?_))))))))); clear H; intro w51 H)
     refine Jn ?_
     exact ⟨kS, by unfold Mc; rw [if_pos (by assumption)]; exact H⟩
    ·refine Jk ?_
     exact ⟨kS, by unfold Mc; rw [if_neg (by assumption)]; exact H⟩
  ·(clear H; intro E w1 H; have hr2 := get_q hQ H; unfold sxC at H)
   (refine Js (Jr (Jm (Ji rfl (Jf 5 underlying170 rfl sizeOf22 rfl rfl (Jl isAgg22 rfl (H.get (.app _ .here)) rfl (Jm (Jy rfl call79 rfl (index_ret who hr2 (by omega)) ?_))))))); rintro _ w64 ⟨rfl, H1⟩; rw [hi]; replace H := H.seq0 H1; clear H1)
   (refine Ja (Jn (Js (Js (Jr (Jm (J (Xp rfl rfl (by omega)) (Jn (Jc rfl (Jk (Js (Jr (Jm (Jm (Ji rfl (Jf 5 underlying170 rfl sizeOf22 rfl rfl (Jl isAgg22 rfl (H.get (.app _ .here)) rfl (Jy rfl call43 rfl (cloneI_ret (get_q hQ H) (by omega)) ?_))))))))))))))))); rintro v5 w82 ⟨M5, hO, H1⟩; obtain ⟨hO, H⟩ := H.Yn hO H1; clear H1; have hQ5 := Zv.ofS hO; rw [hq] at hQ5)
   (refine Jm (Jm (J (Xg rfl rfl (Xc (by omega))) (Jy rfl call170 rfl (delete_ret hQ5 H (by rw [← hq]; exact hb)) ?_))); clear H hQ5; rintro v6 w86 ⟨M6, hQ6, H⟩; replace H := drop_mid H hQ.keys; rw [← hrm] at hQ6; obtain ⟨a6, c6, rfl⟩ := hQ6.form)
   (refine Ji rfl (Jf 5 underlying170 rfl sizeOf22 rfl rfl (Qd rfl (Qz (v := (.slice _ _ _)) H sizeOf22 rfl rfl rfl (.app _ .here) (by simp)) ?_)); clear H; intro w89 H)
   refine Jn (Js (Jr (Jm (J (Yk rfl rfl) (Jn (Xo rfl (fun h96 => ?_) (fun h96 => ?_)))))))
   ·(refine Jr (Jm (Jm (Ji rfl (Jf 7 underlying170 rfl sizeOf3 rfl rfl (Jl isAgg3 rfl (H.get (.app _ .here)) rfl (Ji rfl (Jf 6 underlying170 rfl sizeOf3 rfl rfl (Qd rfl (Qz (v := (.int _ _)) H sizeOf3 rfl rfl rfl (.app _ .here) (by simp)) ?_)))))))); clear H; intro w105 H)
    refine Jn ?_
    (have hA : A = [] := (by apply List.length_eq_zero_iff.1; omega); have hs : Bf s who = { Mc s who with q := rm s.q who, first := (Mc s who).last } := (by unfold Bf quitB; rw [quitA_q, if_pos (hh.1 hA)]); exact ⟨_, rfl, _, _, by rw [hs]; exact hQ6, by rw [hs]; exact H⟩)
   ·refine Jk ?_
    (have hA : ¬ A = [] := (by intro e; subst e; simp at *); have hs : Bf s who = { Mc s who with q := rm s.q who } := (by unfold Bf quitB; rw [quitA_q, if_neg (fun e => hA (hh.2 e))]); exact ⟨_, rfl, _, _, by rw [hs]; exact hQ6, by rw [hs]; exact H⟩)
end
end Go.Proofs.YtlpmfldijgdcoaaGreatDoor.Sect
namespace Go.Proofs.YtlpmfldijgdcoaaGreatDoor.Kn
open Go Go.Proofs Fx Sect Tryz
/-- a section, and where its queue lies -/
def Sq (w : World) (sp : Nat) (S : Sx) (qs : List Nat) : Prop :=
 ∃ qv Mq, w.heap[sp]? = some (blk (sxC S qv) 170) ∧ Zv 0 3 qv (S.q.map I) Mq ∧ (∀ p ∈ Mq, w.heap[p.1]? = some p.2) ∧ qs = Mq.map (·.1)
/-- the same of blocks that were turned -/
def SqL (sp : Nat) (S : Sx) (qs : List Nat) (Q : List (Nat × Obj)) : Prop :=
 ∃ qv Mq, (sp, blk (sxC S qv) 170) ∈ Q ∧ Zv 0 3 qv (S.q.map I) Mq ∧ Mq ⊆ Q ∧ qs = Mq.map (·.1)
theorem SqL.at {w : World} {sp : Nat} {S : Sx} {qs : List Nat} {Q : List (Nat × Obj)} (h : SqL sp S qs Q) (hh : ∀ p ∈ Q, w.heap[p.1]? = some p.2) : Sq w sp S qs := by
 obtain ⟨qv, Mq, h1, h2, h3, h4⟩ := h
 exact ⟨qv, Mq, hh _ h1, h2, fun p hp => hh p (h3 hp), h4⟩
/-- which blocks were turned -/
def Kq (n sp : Nat) (qs : List Nat) (Q : List (Nat × Obj)) : Prop := ∀ p ∈ Q, p.1 = sp ∨ p.1 ∈ qs ∨ n ≤ p.1
theorem ownQ_one {e : TypeId} {v : Value} {xs : List Value} {M : List (Nat × Obj)} {B : Nat} (h : Zv B e v xs M) : M = [] ∨ ∃ b ys, M = [(b, blk ys e)] := by
 rcases h with ⟨_, _, h⟩ | ⟨b, off, cap, pre, sp, _, _, h, _⟩
 ·exact .inl h
 ·exact .inr ⟨b, _, h⟩
theorem ownQ_up {e : TypeId} {v : Value} {xs : List Value} {M : List (Nat × Obj)} {B : Nat} (h : Zv 0 e v xs M) (hb : ∀ p ∈ M, B ≤ p.1) : Zv B e v xs M := by
 rcases h with h | ⟨b, off, cap, pre, sp, h1, _, h2, h3⟩
 ·exact .inl h
 ·exact .inr ⟨b, off, cap, pre, sp, h1, hb (b, _) (by rw [h2]; exact .head _), h2, h3⟩
section
variable {w w' : World} {sp : Nat} {S : Sx} {qs : List Nat} {L : List (Nat × Obj)}
theorem Sq.keep (h : Sq w sp S qs) (H : Hp w L w') (hn : ∀ p ∈ L, p.1 ≠ sp ∧ p.1 ∉ qs) : Sq w' sp S qs := by
 obtain ⟨qv, Mq, h1, h2, h3, rfl⟩ := h
 refine ⟨qv, Mq, H.block h1 (fun hm => ?_), h2, fun p hp => H.block (h3 p hp) (fun hm => ?_), rfl⟩
 ·obtain ⟨p, hp, e⟩ := List.mem_map.1 hm; exact (hn p hp).1 e
 ·obtain ⟨p', hp', e⟩ := List.mem_map.1 hm; exact (hn p' hp').2 (by rw [e]; exact List.mem_map_of_mem hp)
theorem Sq.int (h : Sq w sp S qs) {b : Nat} (hb : b ∈ qs) : ∃ o, w.heap[b]? = some o ∧ elT o = 3 := by
 obtain ⟨qv, Mq, h1, h2, h3, rfl⟩ := h
 rcases ownQ_one h2 with rfl | ⟨b', ys, rfl⟩
 ·nomatch hb
 ·obtain rfl := List.mem_singleton.1 hb
  exact ⟨_, h3 _ (.head _), rfl⟩
theorem Sq.sect (h : Sq w sp S qs) : ∃ o, w.heap[sp]? = some o ∧ elT o = 170 := by
 obtain ⟨qv, Mq, h1, _⟩ := h; exact ⟨_, h1, rfl⟩
theorem Sq.lt (h : Sq w sp S qs) {b : Nat} (hb : b ∈ qs) : b < w.heap.size := by
 obtain ⟨o, h1, _⟩ := h.int hb; exact Qr h1
theorem Sq.slt (h : Sq w sp S qs) : sp < w.heap.size := by
 obtain ⟨o, h1, _⟩ := h.sect; exact Qr h1
theorem Sq.Ql (h : Sq w sp S qs) (H : Hp w L w') (hn : ∀ p ∈ L, w.heap.size ≤ p.1) : Sq w' sp S qs :=
 h.keep H fun p hp => ⟨fun e => by have := hn p hp; have := h.slt; omega, fun e => by have := hn p hp; have := h.lt e; omega⟩
/-- all other blocks of a world held, but for those of the queue and of the section -/
theorem frame (h : Sq w sp S qs) (hl : ∀ b ∈ qs, b + 1 < w.heap.size) {qv : Value} {Mq : List (Nat × Obj)} (h1 : w.heap[sp]? = some (blk (sxC S qv) 170)) (h2 : Zv 0 3 qv (S.q.map I) Mq)
  (h3 : ∀ p ∈ Mq, w.heap[p.1]? = some p.2) (h4 : qs = Mq.map (·.1)) :
  ∃ w0 R, Zv w0.heap.size 3 qv (S.q.map I) Mq ∧ Hp w0 (Mq ++ ((sp, blk (sxC S qv) 170) :: R)) w ∧
   ∀ (w' : World) (S' : Sx) (qv' : Value) (Mq' : List (Nat × Obj)), Zv w0.heap.size 3 qv' (S'.q.map I) Mq' → Hp w0 (Mq' ++ ((sp, blk (sxC S' qv') 170) :: R)) w' →
    ∃ Q qs', Kq w.heap.size sp qs Q ∧ SqL sp S' qs' Q ∧ (∀ b ∈ qs', b ∈ qs ∨ w.heap.size ≤ b) ∧ Hp w Q w' := by
 subst h4
 rcases ownQ_one h2 with rfl | ⟨qb, ys, rfl⟩
 ·refine ⟨w, [], ownQ_up h2 (fun p hp => nomatch hp), Hp.focus0 h1, fun w' S' qv' Mq' hQ H => ?_⟩
  have hk := hQ.keys
  refine ⟨Mq' ++ [(sp, blk (sxC S' qv') 170)], Mq'.map (·.1), fun p hp => ?_, ⟨qv', Mq', by simp, hQ.mono (Nat.zero_le _), List.subset_append_left _ _, rfl⟩, fun b hb => ?_, H⟩
  ·rcases List.mem_append.1 hp with hp | hp
   ·exact .inr (.inr (hk p hp))
   ·rw [List.mem_singleton.1 hp]; exact .inl rfl
  ·obtain ⟨p, hp, rfl⟩ := List.mem_map.1 hb; exact .inr (hk p hp)
 ·have hq := h3 (qb, blk ys 3) (.head _)
  have hql := hl qb (.head _)
  have hqs : qb ≠ sp := Vg hq h1 (by simp)
  have hss := Qr h1
  simp only at hq
  let R : List (Nat × Obj) := ((List.range w.heap.size).filter fun b => decide (qb < b ∧ b ≠ sp)).filterMap fun b => (w.heap[b]?).map fun o => (b, o)
  have hR : ∀ p, p ∈ R ↔ (qb < p.1 ∧ p.1 ≠ sp ∧ w.heap[p.1]? = some p.2) := by
   intro p
   simp only [R, List.mem_filterMap, List.mem_filter, List.mem_range, decide_eq_true_eq, Option.map_eq_some_iff]
   constructor
   ·rintro ⟨b, ⟨hb, hb2⟩, o, ho, rfl⟩; exact ⟨hb2.1, hb2.2, ho⟩
   ·rintro ⟨h5, h6, h7⟩; exact ⟨p.1, ⟨Qr h7, h5, h6⟩, p.2, h7, rfl⟩
  have hRn : (R.map (·.1)).Nodup := by
   have e : R.map (·.1) = ((List.range w.heap.size).filter fun b => decide (qb < b ∧ b ≠ sp)) := by
    simp only [R, List.map_filterMap]
    have : ∀ l : List Nat, (∀ b ∈ l, b < w.heap.size) → l.filterMap (fun b => ((w.heap[b]?).map fun o => (b, o)).map (·.1)) = l := by
     intro l hl
     induction l with
     | nil => rfl
     | cons b l ih =>
      have hb := hl b (.head _)
      rw [List.filterMap_cons, Array.getElem?_eq_getElem hb]
      simp only [Option.map_some]
      rw [ih fun x hx => hl x (.tail _ hx)]
    exact this _ fun b hb => List.mem_range.1 (List.mem_filter.1 hb).1
   rw [e]; exact (List.nodup_range).filter _
  have hkR : ∀ k, k ∈ R.map (·.1) ↔ (qb < k ∧ k ≠ sp ∧ k < w.heap.size) := by
   intro k
   constructor
   ·intro hk; obtain ⟨p, hp, rfl⟩ := List.mem_map.1 hk; have := (hR p).1 hp; exact ⟨this.1, this.2.1, Qr this.2.2⟩
   ·rintro ⟨h5, h6, h7⟩; exact List.mem_map.2 ⟨(k, w.heap[k]), (hR _).2 ⟨h5, h6, Array.getElem?_eq_getElem h7⟩, rfl⟩
  have h0s : (w.heap.extract 0 qb).size = qb := by simp; omega
  have h0g : ∀ k, k < qb → (w.heap.extract 0 qb)[k]? = w.heap[k]? := by
   intro k hk; rw [Array.getElem?_extract]; simp; omega
  refine ⟨{ w with heap := w.heap.extract 0 qb }, R, ownQ_up h2 (fun p hp => by rw [List.mem_singleton.1 hp]; exact Nat.le_of_eq h0s), ⟨rfl, rfl, rfl, by show (w.heap.extract 0 qb).size ≤ _; omega, fun k hk _ => (h0g k (by rw [← h0s]; exact hk)).symm, ?_, ?_⟩, ?_⟩
  ·intro p hp
   simp only [List.cons_append, List.nil_append, List.mem_cons] at hp
   rcases hp with rfl | rfl | hp
   ·exact hq
   ·exact h1
   ·exact ((hR p).1 hp).2.2
  ·simp only [List.cons_append, List.nil_append, List.map_cons, List.nodup_cons, List.mem_cons]
   refine ⟨?_, ?_, hRn⟩
   ·rintro (h5 | h5)
    ·exact hqs h5
    ·have := (hkR _).1 h5; omega
   ·intro h5; exact ((hkR _).1 h5).2.1 rfl
  ·intro w' S' qv' Mq' hQ H
   have hkq : ∀ p ∈ Mq', p.1 = qb ∨ w.heap.size ≤ p.1 := by
    intro p hp
    have h5 := hQ.keys p hp
    have h6 : qb ≤ p.1 := by rw [← h0s]; exact h5
    have hnd := H.nodup
    rw [List.map_append, List.map_cons] at hnd
    have hd := (List.nodup_append.1 hnd).2.2 p.1 (List.mem_map_of_mem hp)
    by_cases h7 : p.1 = qb
    ·exact .inl h7
    ·refine .inr (Nat.not_lt.1 fun h8 => ?_)
     by_cases h9 : p.1 = sp
     ·exact hd sp (.head _) h9
     ·exact hd p.1 (.tail _ ((hkR _).2 ⟨by omega, h9, h8⟩)) rfl
   have hsz : w.heap.size ≤ w'.heap.size := by
    by_cases hlast : w.heap.size - 1 = sp
    ·have := Qr (H.held (sp, blk (sxC S' qv') 170) (by simp)); simp only at this; omega
    ·obtain ⟨p, hp, he⟩ := List.mem_map.1 ((hkR (w.heap.size - 1)).2 ⟨by omega, hlast, by omega⟩)
     have := Qr (H.held p (by simp [hp])); omega
   obtain ⟨oq, hoq⟩ : ∃ oq, w'.heap[qb]? = some oq := ⟨_, Array.getElem?_eq_getElem (by omega)⟩
   have hold : ∀ k, k < w.heap.size → k ≠ sp → k ≠ qb → w'.heap[k]? = w.heap[k]? := by
    intro k hk h5 h6
    by_cases h7 : k < qb
    ·rw [H.old k (by rw [h0s]; exact h7) ?_]
     ·exact h0g k h7
     ·rw [List.map_append, List.map_cons, List.mem_append, List.mem_cons]
      rintro (h8 | h8 | h8)
      ·obtain ⟨p, hp, rfl⟩ := List.mem_map.1 h8; rcases hkq p hp with h9 | h9 <;> omega
      ·exact h5 h8
      ·have := (hkR _).1 h8; omega
    ·obtain ⟨p, hp, he⟩ := List.mem_map.1 ((hkR k).2 ⟨by omega, h5, hk⟩)
     have h8 := H.held p (by simp [hp])
     have h9 := ((hR p).1 hp).2.2
     rw [← he, h8, h9]
   have hnd := H.nodup
   rw [List.map_append, List.map_cons] at hnd
   have hnd1 := (List.nodup_append.1 hnd).1
   have hspq : sp ∉ Mq'.map (·.1) := fun hm => (List.nodup_append.1 hnd).2.2 sp hm sp (.head _) rfl
   by_cases hin : qb ∈ Mq'.map (·.1)
   ·refine ⟨(sp, blk (sxC S' qv') 170) :: Mq', Mq'.map (·.1), fun p hp => ?_, ⟨qv', Mq', .head _, hQ.mono (Nat.zero_le _), List.subset_cons_self _ _, rfl⟩, fun b hb => ?_, ⟨H.os, H.tape, H.output, hsz, fun k hk hn => ?_, fun p hp => ?_, ?_⟩⟩
    ·rcases List.mem_cons.1 hp with rfl | hp
     ·exact .inl rfl
     ·rcases hkq p hp with h5 | h5
      ·exact .inr (.inl (by rw [h5]; exact .head _))
      ·exact .inr (.inr h5)
    ·obtain ⟨p, hp, rfl⟩ := List.mem_map.1 hb
     rcases hkq p hp with h5 | h5
     ·exact .inl (by rw [h5]; exact .head _)
     ·exact .inr h5
    ·rw [List.map_cons, List.mem_cons, not_or] at hn
     exact hold k hk hn.1 (fun e => hn.2 (by rw [e]; exact hin))
    ·rcases List.mem_cons.1 hp with rfl | hp
     ·exact H.held _ (by simp)
     ·exact H.held _ (by simp [hp])
    ·rw [List.map_cons, List.nodup_cons]; exact ⟨hspq, hnd1⟩
   ·refine ⟨(sp, blk (sxC S' qv') 170) :: (qb, oq) :: Mq', Mq'.map (·.1), fun p hp => ?_, ⟨qv', Mq', .head _, hQ.mono (Nat.zero_le _), fun p hp => .tail _ (.tail _ hp), rfl⟩, fun b hb => ?_, ⟨H.os, H.tape, H.output, hsz, fun k hk hn => ?_, fun p hp => ?_, ?_⟩⟩
    ·rcases List.mem_cons.1 hp with rfl | hp
     ·exact .inl rfl
     ·rcases List.mem_cons.1 hp with rfl | hp
      ·exact .inr (.inl (.head _))
      ·rcases hkq p hp with h5 | h5
       ·exact .inr (.inl (by rw [h5]; exact .head _))
       ·exact .inr (.inr h5)
    ·obtain ⟨p, hp, rfl⟩ := List.mem_map.1 hb
     rcases hkq p hp with h5 | h5
     ·exact .inl (by rw [h5]; exact .head _)
     ·exact .inr h5
    ·rw [List.map_cons, List.map_cons, List.mem_cons, List.mem_cons, not_or, not_or] at hn
     exact hold k hk hn.1 hn.2.1
    ·rcases List.mem_cons.1 hp with rfl | hp
     ·exact H.held _ (by simp)
     ·rcases List.mem_cons.1 hp with rfl | hp
      ·exact hoq
      ·exact H.held _ (by simp [hp])
    ·rw [List.map_cons, List.map_cons, List.nodup_cons, List.nodup_cons, List.mem_cons, not_or]; exact ⟨⟨fun e => hqs e.symm, hspq⟩, hin, hnd1⟩
theorem Enter_Q (h : Sq w sp S qs) (hl : ∀ b ∈ qs, b + 1 < w.heap.size) {T : Int} (who now : Int) (hB : Bd S T) (hT : T ≤ 1000000) (hn : 0 ≤ now ∧ now ≤ T) :
  Ret Tryz.prog 158 #[ptr sp 0, I who, I now] w fun v w' => v = .tuple #[I (enter S who now).2.1, .bool (enter S who now).2.2] ∧ ∃ Q qs', Kq w.heap.size sp qs Q ∧ SqL sp (enter S who now).1 qs' Q ∧ (∀ b ∈ qs', b ∈ qs ∨ w.heap.size ≤ b) ∧ Hp w Q w' := by
 obtain ⟨qv, Mq, h1, h2, h3, h4⟩ := h
 obtain ⟨w0, R, hQ, H, hf⟩ := frame ⟨qv, Mq, h1, h2, h3, h4⟩ hl h1 h2 h3 h4
 exact (Sect.enter_ret who now hQ H hB hT hn).mono fun v w' ⟨qv', Mq', e, hQ', H'⟩ => ⟨e, hf w' _ qv' Mq' hQ' H'⟩
theorem Quit_Q (h : Sq w sp S qs) (hl : ∀ b ∈ qs, b + 1 < w.heap.size) (who : Int) (hb : S.q.length ≤ 1000000) :
  Ret Tryz.prog 131 #[ptr sp 0, I who] w fun v w' => ∃ Q qs', Kq w.heap.size sp qs Q ∧ SqL sp (Bf S who) qs' Q ∧ (∀ b ∈ qs', b ∈ qs ∨ w.heap.size ≤ b) ∧ Hp w Q w' := by
 obtain ⟨qv, Mq, h1, h2, h3, h4⟩ := h
 obtain ⟨w0, R, hQ, H, hf⟩ := frame ⟨qv, Mq, h1, h2, h3, h4⟩ hl h1 h2 h3 h4
 exact (Sect.quit_ret who hQ H hb).mono fun v w' ⟨qv', Mq', hQ', H'⟩ => hf w' _ qv' Mq' hQ' H'
end
end Go.Proofs.YtlpmfldijgdcoaaGreatDoor.Kn
namespace Go.Proofs.YtlpmfldijgdcoaaGreatDoor.Kn
open Go Go.Proofs Fx Sect Tryz
/-- blocks of the outset, and new ones, turn beside blocks of one's own -/
theorem olds {w0 w w' : World} {L M : List (Nat × Obj)} (H : Hp w0 L w) (hL : ∀ p ∈ L, w0.heap.size ≤ p.1) (H1 : Hp w M w') (hM : ∀ p ∈ M, p.1 < w0.heap.size ∨ w.heap.size ≤ p.1) : Hp w0 (M ++ L) w' := by
 have hLw : ∀ p ∈ L, p.1 < w.heap.size := fun p hp => Qr (H.held p hp)
 have hdis : ∀ p ∈ L, p.1 ∉ M.map (·.1) := by
  intro p hp hm
  obtain ⟨q, hq, e⟩ := List.mem_map.1 hm
  have h1 := hM q hq
  have h2 := hL p hp
  have h3 := hLw p hp
  omega
 refine ⟨H1.os.trans H.os, H1.tape.trans H.tape, H1.output.trans H.output, Nat.le_trans H.size H1.size, fun k hk hn => ?_, fun p hp => ?_, ?_⟩
 ·rw [List.map_append, List.mem_append, not_or] at hn
  rw [H1.old k (Nat.lt_of_lt_of_le hk H.size) hn.1]
  exact H.old k hk hn.2
 ·rcases List.mem_append.1 hp with hp | hp
  ·exact H1.held p hp
  ·exact H1.block (H.held p hp) (hdis p hp)
 ·rw [List.map_append, List.nodup_append]
  refine ⟨H1.nodup, H.nodup, fun a ha b hb e => ?_⟩
  subst e
  obtain ⟨p, hp, rfl⟩ := List.mem_map.1 hb
  exact hdis p hp ha
/-- a section and its queue have turned, and what else is told -/
def SqP (w : World) (sp : Nat) (S : Sx) (qs : List Nat) (X : List (Nat × Obj)) (w' : World) : Prop :=
 ∃ Q qs', Kq w.heap.size sp qs Q ∧ SqL sp S qs' Q ∧ (∀ b ∈ qs', b ∈ qs ∨ w.heap.size ≤ b) ∧ Hp w (X ++ Q) w'
section
variable {w w1 w' : World} {κ : KS} {e n sp : Nat} {S : Sx} {qs : List Nat} {L : List (Nat × Obj)}
theorem Kq.le {a b : Nat} {Q : List (Nat × Obj)} (h : Kq b sp qs Q) (hn : a ≤ b) : Kq a sp qs Q := fun p hp => (h p hp).imp id (Or.imp id (Nat.le_trans hn))
theorem Kq.olds (hq : Sq w sp S qs) {Q : List (Nat × Obj)} (h : Kq w1.heap.size sp qs Q) : ∀ p ∈ Q, p.1 < w.heap.size ∨ w1.heap.size ≤ p.1 := by
 intro p hp
 rcases h p hp with h1 | h1 | h1
 ·exact .inl (by rw [h1]; exact hq.slt)
 ·exact .inl (hq.lt h1)
 ·exact .inr h1
theorem lastN (hq : Sq w sp S qs) {c : Nat} {o : Obj} (H : Hp w ((c, o) :: L) w1) (hc : w.heap.size ≤ c) : ∀ b ∈ qs, b + 1 < w1.heap.size := by
 intro b hb
 have h1 := hq.lt hb
 have h2 := Qr (H.held (c, o) (.head _))
 simp only at h2; omega
/-- behind blocks of one's own -/
theorem SqP.own {S' : Sx} {X : List (Nat × Obj)} (hq : Sq w sp S qs) (H : Hp w L w1) (hL : ∀ p ∈ L, w.heap.size ≤ p.1) (hX : ∀ p ∈ X, p.1 < w.heap.size ∨ w1.heap.size ≤ p.1) (h : SqP w1 sp S' qs X w') :
  ∃ Q qs', Kq w.heap.size sp qs Q ∧ SqL sp S' qs' Q ∧ (∀ b ∈ qs', b ∈ qs ∨ w.heap.size ≤ b) ∧ Hp w (X ++ (Q ++ L)) w' := by
 obtain ⟨Q, qs', k1, k2, k3, H1⟩ := h
 refine ⟨Q, qs', k1.le H.size, k2, fun b hb => (k3 b hb).imp id (Nat.le_trans H.size), ?_⟩
 have := olds H hL H1 (fun p hp => (List.mem_append.1 hp).elim (hX p) (k1.olds hq p))
 rwa [List.append_assoc] at this
theorem enterQ (hs : Ks w κ e n sp) (hq : Sq w sp S qs) {T : Int} (hB : Bd S T) (hT : T ≤ 1000000) (hn : 0 ≤ κ.now ∧ κ.now ≤ T) :
  Ret Tryz.prog 117 #[ptr κ.k 0, I e, .agg #[I 8, I 0, I 0, I n, I 0, I 0, nilS]] w fun v w' => v = .tuple #[I (enter S e κ.now).2.1, I 0] ∧ SqP w sp (enter S e κ.now).1 qs [] w' := by
 refine Qi (args := [_, _, _]) func117 rfl ntmps117 results117 (by simp) ?_
 have H := Hp.refl w
 have hk := hs.hk
 unfold KS.kb at hk
 (refine Js (Jr (Qb rfl (Xl (vs := [I 8, I 0, I 0, I n, I 0, I 0, nilS]) H rfl rfl) ?_)); clear H; intro c5 w3 hc5 H)
 (refine Ja (Ja (Jn (Js (Jr (Jm (Jm (Jf 3 underlying44 rfl sizeOf3 rfl rfl (Jl isAgg3 rfl (H.get .here) rfl (Jz rfl call157 rfl (sect_ret (hs.Ql H kYs)) H ?_))))))))); intro w13 H)
 (refine Jm (Jx rfl rfl (Jx rfl rfl (Ja (Ja (Jn (Js (Js (Jr (Jm (J (Yl rfl rfl (by omega)) (Jn (Jc rfl (Jk (Js (Jr (Jm (Jm (Jm (Ji rfl (Jf 7 underlying113 rfl sizeOf3 rfl rfl (J (Qe (v := I κ.now) isAgg3 rfl (H.Qc hk kYs) rfl) (Jy rfl call158 rfl (Enter_Q (hq.Ql H kYs) (lastN hq H hc5) (e : Int) κ.now hB hT hn) ?_)))))))))))))))))))))); rintro _ w36 ⟨rfl, h9⟩; have h8 := SqP.own (X := []) hq H kYs (fun _ h => nomatch h) h9; clear H h9; obtain ⟨Q, qs', k1, k2, k3, H⟩ := h8)
 refine Jm (Jx rfl rfl (Jx rfl rfl (Ja (Ja (Jn (Js (Jr (Jm (Ja (Ja (Jn (Je ?_))))))))))))
 exact ⟨_, rfl, rfl, Q, qs', k1, k2, k3, Hp.cut (L := Q) (M := [_]) H kYs⟩
theorem numberQ (hs : Ks w κ e n sp) (hq : Sq w sp S qs) {T : Int} (hB : Bd S T) (hT : T ≤ 1000000) (hn : 0 ≤ κ.now ∧ κ.now ≤ T) :
  Ret Tryz.prog 69 #[ptr κ.k 0, I e, .agg #[I 8, I 0, I 0, I n, I 0, I 0, nilS]] w fun v w' => v = .tuple #[I (enter S e κ.now).2.1, I 0] ∧ SqP w sp (enter S e κ.now).1 qs [] w' := by
 refine Qi (args := [_, _, _]) func69 rfl ntmps69 results69 (by simp) ?_
 have H := Hp.refl w
 (refine Js (Jr (Qb rfl (Xl (vs := [I 8, I 0, I 0, I n, I 0, I 0, nilS]) H rfl rfl) ?_)); clear H; intro c5 w3 hc5 H)
 (refine Ja (Ja (Jn (Js (Js (Jr (Jf 0 underlying44 rfl sizeOf3 rfl rfl (Jl isAgg3 rfl (H.get .here) rfl (Jn (Jb (Js (Jr (J (Xf rfl rfl (by omega)) (Ja (Jn (Jc rfl (Js (Jr (J (Xf rfl rfl (by omega)) (Ja (Jn (Jc rfl (Js (Jr (J (Xf rfl rfl (by omega)) (Ja (Jn (Jc rfl (Js (Jr (J (Xf rfl rfl (by omega)) (Ja (Jn (Jc rfl (Js (Jr (J (Yr rfl rfl (by omega)) (Ja (Jn (Jd rfl (Js (Jr (Jm (Jm (J (Qo (vs := [I 8, I 0, I 0, I n, I 0, I 0, nilS]) isAgg44 sizeOf44 rfl (H.get .here) rfl (by simp)) (Jy rfl call117 rfl (enterQ (hs.Ql H kYs) (hq.Ql H kYs) hB hT hn) ?_))))))))))))))))))))))))))))))))))))))))))))); rintro _ w49 ⟨rfl, h9⟩; have h8 := SqP.own (X := []) hq H kYs (fun _ h => nomatch h) h9; clear H h9; obtain ⟨Q, qs', k1, k2, k3, H⟩ := h8)
 refine Jx rfl rfl (Jx rfl rfl (Ja (Ja (Jn (Je ?_)))))
 exact ⟨_, rfl, rfl, Q, qs', k1, k2, k3, Hp.cut (L := Q) (M := [_]) H kYs⟩
theorem doEnterQ (hs : Ks w κ e n sp) (hq : Sq w sp S qs) {T : Int} (hB : Bd S T) (hT : T ≤ 1000000) (hn : 0 ≤ κ.now ∧ κ.now ≤ T) :
  Ret Tryz.prog 36 #[ptr κ.k 0, I e, .agg #[I 8, I 0, I 0, I n, I 0, I 0, nilS]] w fun v w' => v = .agg #[I 0, I (enter S e κ.now).2.1, nilS] ∧ SqP w sp (enter S e κ.now).1 qs [] w' := by
 refine Qy (args := [_, _, _]) func36 rfl ntmps36 results36 (by simp) ?_
 have H := Hp.refl w
 have hk := hs.hk
 have he := hs.he
 have he2 := hs.he2
 unfold KS.kb at hk
 (refine Js (Jr (Qb rfl (Xl (vs := [I 8, I 0, I 0, I n, I 0, I 0, nilS]) H rfl rfl) ?_)); clear H; intro c5 w3 hc5 H)
 (refine Qb rfl (Qp (vs := [I 0, I 0, nilS]) H zeroValue96 rfl) ?_; clear H; intro c6 w4 hc6 H)
 (refine Jn (Js (Js (Jr (Jm (J (Xp rfl rfl (by omega)) (Jm (Jt rfl rfl (Jm (Jt rfl rfl (Jm (Jt rfl rfl (Ji rfl (Jt rfl rfl (Jf 0 underlying113 rfl sizeOf22 rfl rfl (Jt rfl rfl (Jl isAgg22 rfl (H.Qc hk kYs) rfl (Jt rfl rfl (J (Qh underlying22 rfl) (Jt rfl rfl (J (Zn rfl rfl (by omega)) (Jp rfl (Jn (Jc rfl (Jk (Js (Js (Jr (Jm (Jm (J (Qo (vs := [I 8, I 0, I 0, I n, I 0, I 0, nilS]) isAgg44 sizeOf44 rfl (H.get (.there .here)) rfl (by simp)) (Jz rfl call68 rfl (bytes_no (by decide) (by decide) (by decide) _ _) H ?_))))))))))))))))))))))))))))))); intro w36 H)
 (refine Jm (Jx rfl rfl (Jx rfl rfl (Jx rfl rfl (Ja (Ja (Ja (Jn (Js (Jr (Jm (Jn (Jc rfl (Jk (Js (Jr (Jm (Jm (J (Qo (vs := [I 8, I 0, I 0, I n, I 0, I 0, nilS]) isAgg44 sizeOf44 rfl (H.get (.there .here)) rfl (by simp)) (Jy rfl call69 rfl (numberQ (hs.Ql H kYs) (hq.Ql H kYs) hB hT hn) ?_))))))))))))))))))); rintro _ w56 ⟨rfl, h9⟩; have h8 := SqP.own (X := []) hq H kYs (fun _ h => nomatch h) h9; clear H h9; obtain ⟨Q, qs', k1, k2, k3, H⟩ := h8; replace H : Hp w (Q ++ _) _ := H)
 (refine Jm (Jx rfl rfl (Jx rfl rfl (Ja (Ja (Jn (Js (Jr (Jm (Jm (J (Qm (places := [(0, 1), (1, 1), (2, 1)]) (vs := [I 0, I (enter S e κ.now).2.1, nilS]) underlying96 typeInfo96 rfl rfl (by kernel_rfl) rfl rfl rfl) (Qd rfl (Qg (vs := [I 0, I (enter S e κ.now).2.1, nilS]) H sizeOf96 rfl rfl (by simp [Value.oneCell']) (.app _ .here) (by simp)) ?_))))))))))); clear H; intro w68 H; replace H : Hp w (Q ++ [(c6, blk [I 0, I (enter S e κ.now).2.1, nilS] 96), (c5, blk [I 8, I 0, I 0, I n, I 0, I 0, nilS] 44)]) w68 := H)
 refine Jn (Je ?_)
 exact ⟨_, ⟨_, rfl, ldA isAgg96 sizeOf96 (H.get (.app _ .here)) rfl (by simp)⟩, rfl, Q, qs', k1, k2, k3, Hp.cut (L := Q) (M := [_, _]) H kYs⟩
end
end Go.Proofs.YtlpmfldijgdcoaaGreatDoor.Kn
namespace Go.Proofs.YtlpmfldijgdcoaaGreatDoor.Fx
open Go
def Zl (ks : List IntKind) (ns : List Int) : List Value := List.zipWith Value.int ks ns
def mkV (agg : Bool) (cs : List Value) : Value := match agg with | true => .agg cs.toArray | false => cs.headD undef
/-- Values of type t are integers of these kinds, one behind the other; two are equal as these are. -/
structure EqC (P : Program) (t : TypeId) (ks : List IntKind) (agg : Bool) (d0 : Nat) : Prop where
 hA : ∀ w, (isAgg t).run P w = .ok agg w
 hS : ∀ w, (sizeOf t).run P w = .ok ks.length w
 one : agg = false → ks.length = 1
 eq : ∀ d, d0 ≤ d → ∀ (ns ms : List Int), ns.length = ks.length → ms.length = ks.length → ∀ w, (Op.equalIn d t (mkV agg (Zl ks ns)) (mkV agg (Zl ks ms))).run P w = .ok (decide (ns = ms)) w
theorem Uq {ks : List IntKind} {ns : List Int} (h : ns.length = ks.length) : (Zl ks ns).length = ks.length := by simp [Zl, h]
theorem Dd {k1 k2 : List IntKind} {n1 n2 : List Int} (h : n1.length = k1.length) : Zl (k1 ++ k2) (n1 ++ n2) = Zl k1 n1 ++ Zl k2 n2 := by
 unfold Zl
 rw [List.zipWith_append h.symm]
section
variable {P : Program} {w : World}
theorem EqC.part {t : TypeId} {ks : List IntKind} {agg : Bool} {d0 off : Nat} (h : EqC P t ks agg d0) {ns : List Int} (hn : ns.length = ks.length) {pre post : List Value} (hp : pre.length = off) :
  (Go.part t (pre ++ (Zl ks ns ++ post)).toArray off).run P w = .ok (mkV agg (Zl ks ns)) w := by
 subst hp
 have hl := Uq hn
 cases agg with
 | true =>
  simp only [Go.part, Sem.run_bind, h.hA, Result.andThen_ok, if_true, h.hS, Sem.run_pure, mkV]
  congr 2
  apply Array.ext'
  simp [List.extract_eq_take_drop, ← hl]
 | false =>
  have h1 := h.one rfl
  obtain ⟨v, hv⟩ : ∃ v, Zl ks ns = [v] := by
   rw [h1] at hl
   exact List.length_eq_one_iff.1 hl
  simp [Go.part, h.hA, mkV, hv]
theorem EqC.int {t : TypeId} {k : IntKind} (hA : ∀ w, (isAgg t).run P w = .ok false w) (hS : ∀ w, (sizeOf t).run P w = .ok 1 w) (ht : P.underlying t = some (.int k)) : EqC P t [k] false 1 := by
 refine ⟨hA, hS, fun _ => rfl, fun d hd ns ms hn hm w => ?_⟩
 obtain ⟨n, rfl⟩ := List.length_eq_one_iff.1 hn
 obtain ⟨m, rfl⟩ := List.length_eq_one_iff.1 hm
 obtain ⟨d, rfl⟩ : ∃ e, d = e + 1 := ⟨d - 1, by omega⟩
 have := run_equalIn_int (P := P) w d t k k n m ht
 simp only [mkV, Zl, List.zipWith_cons_cons, List.zipWith_nil_left, List.headD_cons]
 rw [this]
 simp [Bool.beq_eq_decide_eq]
/-- the fields of a struct, from some place on -/
inductive FieldsC (P : Program) (d0 : Nat) : Nat → List Field → List IntKind → Prop
 | nil {off : Nat} : FieldsC P d0 off [] []
 | cons {off : Nat} {f : Field} {fs : List Field} {k ks : List IntKind} {agg : Bool} {d : Nat} : f.name ≠ "_" → f.offset = off → EqC P f.type k agg d → d ≤ d0 → FieldsC P d0 (off + k.length) fs ks → FieldsC P d0 off (f :: fs) (k ++ ks)
theorem FieldsC.run {d0 d : Nat} (hd : d0 ≤ d) : ∀ {fs : List Field} {off : Nat} {ks : List IntKind}, FieldsC P d0 off fs ks → ∀ (ns ms : List Int), ns.length = ks.length → ms.length = ks.length → ∀ (pre pre' : List Value), pre.length = off → pre'.length = off → ∀ w,
  (Op.eqFields d (pre ++ Zl ks ns).toArray (pre' ++ Zl ks ms).toArray fs).run P w = .ok (decide (ns = ms)) w := by
 intro fs off ks h
 induction h with
 | nil =>
  intro ns ms hn hm pre pre' _ _ w
  obtain rfl := List.length_eq_zero_iff.1 hn
  obtain rfl := List.length_eq_zero_iff.1 hm
  simp [Op.eqFields]
 | @cons off f fs k ks agg d1 hname hoff hE hd1 hfs ih =>
  intro ns ms hn hm pre pre' hp hp' w
  rw [List.length_append] at hn hm
  have en : ns = ns.take k.length ++ ns.drop k.length := (List.take_append_drop _ _).symm
  have em : ms = ms.take k.length ++ ms.drop k.length := (List.take_append_drop _ _).symm
  have h1 : (ns.take k.length).length = k.length := by simp; omega
  have h2 : (ms.take k.length).length = k.length := by simp; omega
  have h3 : (ns.drop k.length).length = ks.length := by simp; omega
  have h4 : (ms.drop k.length).length = ks.length := by simp; omega
  generalize ns.take k.length = n1 at *
  generalize ns.drop k.length = n2 at *
  generalize ms.take k.length = m1 at *
  generalize ms.drop k.length = m2 at *
  subst en em
  rw [Dd h1, Dd h2]
  have e1 := hE.part (w := w) h1 (post := Zl ks n2) hp
  have e2 := hE.part (w := w) h2 (post := Zl ks m2) hp'
  have e3 := hE.eq d (by omega) n1 m1 h1 h2 w
  have e4 := ih n2 m2 h3 h4 (pre ++ Zl k n1) (pre' ++ Zl k m1) (by rw [List.length_append, Uq h1, hp]) (by rw [List.length_append, Uq h2, hp']) w
  rw [List.append_assoc, List.append_assoc] at e4
  have hiff : (n1 ++ n2 = m1 ++ m2) ↔ (n1 = m1 ∧ n2 = m2) := ⟨fun h => List.append_inj h (by omega), fun h => by rw [h.1, h.2]⟩
  simp only [Op.eqFields, hname, ne_eq, not_false_eq_true, if_true, Sem.run_bind, hoff, e1, e2, e3, Result.andThen_ok]
  by_cases hnm : n1 = m1
  ·subst hnm
   simp only [decide_true, Bool.not_true, Bool.false_eq_true, if_false, e4]
   congr 1
   exact decide_eq_decide.2 (by rw [hiff]; simp)
  ·simp only [decide_eq_false hnm, Bool.not_false, if_true, Sem.run_pure]
   congr 1
   exact (decide_eq_false (fun h => hnm (hiff.1 h).1)).symm
theorem EqC.struct {t : TypeId} {fs : Array Field} {ks : List IntKind} {d0 : Nat} (hA : ∀ w, (isAgg t).run P w = .ok true w) (hS : ∀ w, (sizeOf t).run P w = .ok ks.length w) (ht : P.underlying t = some (.struct fs)) (hp : P.stoodInHeld t = false)
  (hf : FieldsC P d0 0 fs.toList ks) : EqC P t ks true (d0 + 1) := by
 refine ⟨hA, hS, (fun h => by cases h), fun d hd ns ms hn hm w => ?_⟩
 obtain ⟨d, rfl⟩ : ∃ e, d = e + 1 := ⟨d - 1, by omega⟩
 have hfo : P.fieldsOf t = fs := by unfold Program.fieldsOf; rw [ht]
 have h := run_equalIn_struct (P := P) w d t (Zl ks ns).toArray (Zl ks ms).toArray (by rw [hfo]; exact ht) hp
 rw [hfo] at h
 simp only [mkV]
 rw [h]
 exact hf.run (by omega) ns ms hn hm [] [] rfl rfl w
theorem items_run {e : TypeId} {k : List IntKind} {agg : Bool} {d0 d : Nat} (hE : EqC P e k agg d0) (hd : d0 ≤ d) : ∀ (m i : Nat) (ns ms : List Int), ns.length = m * k.length → ms.length = m * k.length → ∀ (pre pre' : List Value), pre.length = i * k.length → pre'.length = i * k.length → ∀ w,
  (Op.eqItems d e k.length (pre ++ Zl (List.replicate m k).flatten ns).toArray (pre' ++ Zl (List.replicate m k).flatten ms).toArray (List.range' i m)).run P w = .ok (decide (ns = ms)) w
 | 0, i, ns, ms, hn, hm, pre, pre', _, _, w => by
  rw [Nat.zero_mul] at hn hm
  obtain rfl := List.length_eq_zero_iff.1 hn
  obtain rfl := List.length_eq_zero_iff.1 hm
  simp [Op.eqItems]
 | m + 1, i, ns, ms, hn, hm, pre, pre', hp, hp', w => by
  rw [Nat.add_mul, Nat.one_mul] at hn hm
  have en : ns = ns.take k.length ++ ns.drop k.length := (List.take_append_drop _ _).symm
  have em : ms = ms.take k.length ++ ms.drop k.length := (List.take_append_drop _ _).symm
  have h1 : (ns.take k.length).length = k.length := by simp; omega
  have h2 : (ms.take k.length).length = k.length := by simp; omega
  have h3 : (ns.drop k.length).length = m * k.length := by simp; omega
  have h4 : (ms.drop k.length).length = m * k.length := by simp; omega
  generalize ns.take k.length = n1 at *
  generalize ns.drop k.length = n2 at *
  generalize ms.take k.length = m1 at *
  generalize ms.drop k.length = m2 at *
  subst en em
  rw [List.replicate_succ, List.flatten_cons, Dd h1, Dd h2, List.range'_succ]
  have e1 := hE.part (w := w) h1 (post := Zl (List.replicate m k).flatten n2) hp
  have e2 := hE.part (w := w) h2 (post := Zl (List.replicate m k).flatten m2) hp'
  have e3 := hE.eq d (by omega) n1 m1 h1 h2 w
  have e4 := items_run hE hd m (i + 1) n2 m2 h3 h4 (pre ++ Zl k n1) (pre' ++ Zl k m1) (by rw [List.length_append, Uq h1, hp, Nat.add_mul, Nat.one_mul]) (by rw [List.length_append, Uq h2, hp', Nat.add_mul, Nat.one_mul]) w
  rw [List.append_assoc, List.append_assoc] at e4
  have hiff : (n1 ++ n2 = m1 ++ m2) ↔ (n1 = m1 ∧ n2 = m2) := ⟨fun h => List.append_inj h (by omega), fun h => by rw [h.1, h.2]⟩
  simp only [Op.eqItems, Sem.run_bind, e1, e2, e3, Result.andThen_ok]
  by_cases hnm : n1 = m1
  ·subst hnm
   simp only [decide_true, Bool.not_true, Bool.false_eq_true, if_false, e4]
   congr 1
   exact decide_eq_decide.2 (by rw [hiff]; simp)
  ·simp only [decide_eq_false hnm, Bool.not_false, if_true, Sem.run_pure]
   congr 1
   exact (decide_eq_false (fun h => hnm (hiff.1 h).1)).symm
theorem EqC.array {t e : TypeId} {n : Nat} {k ks : List IntKind} {agg : Bool} {d0 : Nat} {i : TypeInfo} (hE : EqC P e k agg d0) (hA : ∀ w, (isAgg t).run P w = .ok true w) (hS : ∀ w, (sizeOf t).run P w = .ok ks.length w) (ht : P.underlying t = some (.array n e)) (hi : P.info? e = some i) (hc : P.cellsOf e = k.length)
  (hk : ks = (List.replicate n k).flatten) : EqC P t ks true (d0 + 1) := by
 refine ⟨hA, hS, (fun h => by cases h), fun d hd ns ms hn hm w => ?_⟩
 obtain ⟨d, rfl⟩ : ∃ e, d = e + 1 := ⟨d - 1, by omega⟩
 have h := run_equalIn_array (P := P) w d (Zl ks ns).toArray (Zl ks ms).toArray ht hi
 simp only [mkV]
 rw [h, hc, List.range_eq_range']
 have hl : ks.length = n * k.length := by rw [hk]; simp
 rw [hl] at hn hm
 have := items_run hE (show d0 ≤ d by omega) n 0 ns ms hn hm [] [] (by simp) (by simp) w
 rw [← hk] at this
 exact this
theorem EqC.mono {t : TypeId} {ks : List IntKind} {agg : Bool} {d0 d1 : Nat} (h : EqC P t ks agg d0) (hd : d0 ≤ d1) : EqC P t ks agg d1 :=
 ⟨h.hA, h.hS, h.one, fun d hd' => h.eq d (by omega)⟩
end
section
variable {P : Program} {E : Env} {w : World} {d : Option Nat} {ty : TypeId} {pos : String} {after : Array Edge}
theorem run_eqGuard_agg {op : BinOp} {t : TypeId} {x y : Operand} {a b : Array Value} (hg : P.eqGuardType P.depth t = false) : (eqGuard op t x y (.agg a) (.agg b)).run P w = .ok () w := by
 unfold eqGuard
 cases op <;> simp [hg]
/-- structs and arrays of integers -/
theorem R_eq_C {t t' : TypeId} {ks : List IntKind} {d0 : Nat} {x y : Operand} {xs ys : List Value} {ns ms : List Int} (hE : EqC P t ks true d0) (hd : d0 ≤ 10000) (hg : P.eqGuardType P.depth t = false) (hx : ev E x = .agg xs.toArray) (hy : ev E y = .agg ys.toArray)
  (hxs : xs = Zl ks ns) (hys : ys = Zl ks ms) (hn : ns.length = ks.length) (hm : ms.length = ks.length)
  : (execOp (ev E) (mk d (.binOp .eql t x y t') ty pos after)).run P w = .ok (.value (.bool (decide (ns = ms)))) w := by
 subst hxs hys
 have h := hE.eq 10000 hd ns ms hn hm w
 refine R_eqv hx hy (run_eqGuard_agg hg) ?_
 rw [run_eql_struct]
 simp only [mkV] at h
 rw [h]; rfl
end
end Go.Proofs.YtlpmfldijgdcoaaGreatDoor.Fx
namespace Go.Proofs.YtlpmfldijgdcoaaGreatDoor.Mr
open Go Go.Proofs Fx Tryz
/-- a Ref -/
def rf (r : Int × Int) : Value := .agg #[I r.1, I r.2]
def recK : List IntKind := [.i64] ++ ([.i64] ++ [])
theorem eq_rec : EqC Tryz.prog 182 recK true 2 := by
 have hi := EqC.int isAgg3 sizeOf3 underlying3
 refine EqC.struct (d0 := 1) isAgg182 sizeOf182 underlying182 (by kernel_rfl) ?_
 unfold recK
 refine FieldsC.cons (by decide) rfl hi (by decide) ?_
 exact FieldsC.cons (by decide) rfl hi (by decide) .nil
/-- what a map's entries are -/
def MapIs (es : Array MapEntry) (l : List (Int × Int)) : Prop := es.toList.map (fun e => (e.key, e.val)) = l.map fun r => (rf r, I 1)
theorem MapIs.nil : MapIs #[] [] := rfl
theorem MapIs.push {es : Array MapEntry} {l : List (Int × Int)} (h : MapIs es l) (r : Int × Int) (c : Nat) : MapIs (es.push ⟨rf r, I 1, c⟩) (l ++ [r]) := by
 unfold MapIs at h ⊢
 rw [Array.toList_push, List.map_append, h, List.map_append]; rfl
theorem equal_rec (r s : Int × Int) (w : World) : (Op.equal 182 (rf r) (rf s)).run Tryz.prog w = .ok (decide (r = s)) w := by
 have h := eq_rec.eq 10000 (by decide) [r.1, r.2] [s.1, s.2] rfl rfl w
 have e : ([r.1, r.2] = [s.1, s.2]) ↔ r = s := by
  constructor
  ·intro h; simp only [List.cons.injEq, and_true] at h; exact Prod.ext h.1 h.2
  ·rintro rfl; rfl
 rw [decide_eq_decide.2 e] at h
 exact h
theorem findAsk : ∀ (es : List MapEntry) (l : List (Int × Int)) (i : Nat) (r : Int × Int) (w : World), es.map (fun e => (e.key, e.val)) = l.map (fun r => (rf r, I 1)) →
  (r ∈ l → ∃ j, (Instr.findAsking 182 (rf r) es i).run Tryz.prog w = .ok (some (j, I 1)) w) ∧ (r ∉ l → (Instr.findAsking 182 (rf r) es i).run Tryz.prog w = .ok none w)
 | [], [], i, r, w, _ => ⟨fun h => absurd h (by simp), fun _ => rfl⟩
 | [], _ :: _, _, _, _, h => by simp at h
 | _ :: _, [], _, _, _, h => by simp at h
 | e :: es, s :: l, i, r, w, h => by
  simp only [List.map_cons, List.cons.injEq, Prod.mk.injEq] at h
  obtain ⟨⟨hk, hv⟩, h2⟩ := h
  obtain ⟨i1, i2⟩ := findAsk es l (i + 1) r w h2
  have hstep : (Instr.findAsking 182 (rf r) (e :: es) i).run Tryz.prog w = if r = s then .ok (some (i, I 1)) w else (Instr.findAsking 182 (rf r) es (i + 1)).run Tryz.prog w := by
   rw [Instr.findAsking]
   simp only [Sem.run_bind, hk, hv, equal_rec, Result.andThen_ok]
   by_cases hrs : r = s
   ·simp [hrs]
   ·simp [hrs]
  constructor
  ·intro hm
   rw [hstep]
   by_cases hrs : r = s
   ·rw [if_pos hrs]; exact ⟨_, rfl⟩
   ·rw [if_neg hrs]; exact i1 ((List.mem_cons.1 hm).resolve_left hrs)
  ·intro hm
   rw [hstep, if_neg (by rintro rfl; exact hm (.head _))]
   exact i2 (fun h => hm (.tail _ h))
theorem findKey_rec {es : Array MapEntry} {l : List (Int × Int)} (h : MapIs es l) (r : Int × Int) (w : World) :
  (r ∈ l → ∃ j, (Instr.findKey 182 (rf r) es.toList).run Tryz.prog w = .ok (some (j, I 1)) w) ∧ (r ∉ l → (Instr.findKey 182 (rf r) es.toList).run Tryz.prog w = .ok none w) := by
 have hu := underlying182
 have hf : (Instr.findKey 182 (rf r) es.toList).run Tryz.prog w = (Instr.findAsking 182 (rf r) es.toList).run Tryz.prog w := by
  unfold Instr.findKey
  simp only [Sem.run_bind, run_underlying hu, Result.andThen_ok]
  cases hes : es.toList with
  | nil => rfl
  | cons e t => rfl
 rw [hf]
 exact findAsk es.toList l 0 r w h
theorem checkKey_rec (b : Bool) (r : Int × Int) (w : World) : (Instr.checkKey b 10000 182 (rf r)).run Tryz.prog w = .ok () w := by
 kernel_rfl
theorem run_getMap {w : World} {b c : Nat} {es : Array MapEntry} (hb : w.heap[b]? = some (.map es c)) : (getObj b).run Tryz.prog w = .ok (.map es c) w := by
 simp [getObj, Sem.run, hb]
section
variable {E : Env} {w0 w : World} {L : List (Nat × Obj)} {d : Option Nat} {ty : TypeId} {pos : String} {after : Array Edge}
theorem E_makeMap {t : TypeId} (H : Hp w0 L w) : ∃ b w', w0.heap.size ≤ b ∧ Hp w0 ((b, .map #[] 0) :: L) w' ∧ (execOp (ev E) (mk d (.makeMap t none) ty pos after)).run Tryz.prog w = .ok (.value (.map (some b))) w' :=
 E_new (v := fun b => .map (some b)) H (by simp [execOp, Instr.makeMap])
theorem R_lookup_yes {x y : Operand} {b c : Nat} {es : Array MapEntry} {l : List (Int × Int)} {r : Int × Int} (hb : w.heap[b]? = some (.map es c)) (hm : MapIs es l) (hx : ev E x = .map (some b)) (hy : ev E y = rf r) (h : r ∈ l) :
  (execOp (ev E) (mk d (.lookup 175 x y false) ty pos after)).run Tryz.prog w = .ok (.value (I 1)) w := by
 obtain ⟨j, hj⟩ := (findKey_rec hm r w).1 h
 simp [execOp, hx, hy, Instr.lookup, run_underlying underlying175, run_getMap hb, checkKey_rec, hj]
theorem R_lookup_no {x y : Operand} {b c : Nat} {es : Array MapEntry} {l : List (Int × Int)} {r : Int × Int} (hb : w.heap[b]? = some (.map es c)) (hm : MapIs es l) (hx : ev E x = .map (some b)) (hy : ev E y = rf r) (h : r ∉ l) :
  (execOp (ev E) (mk d (.lookup 175 x y false) ty pos after)).run Tryz.prog w = .ok (.value (I 0)) w := by
 have hj := (findKey_rec hm r w).2 h
 simp [execOp, hx, hy, Instr.lookup, run_underlying underlying175, run_getMap hb, checkKey_rec, hj, zeroValue3]
end
end Go.Proofs.YtlpmfldijgdcoaaGreatDoor.Mr
namespace Go.Proofs.YtlpmfldijgdcoaaGreatDoor.Codec
open Go Go.Proofs Fx Tryz
/-- the sum of bytes, and of how many there are -/
def Nh (xs : List UInt8) : UInt8 := xs.foldl (· + ·) (UInt8.ofNat xs.length)
theorem sum_ret {xs : List UInt8} {w : World} {l : Value} (hl : RdS w l (xs.map U)) (hb : xs.length ≤ 9223372036854775807) :
  Ret Tryz.prog 125 #[l] w fun v w' => v = U (Nh xs) ∧ Hp w [] w' := by
 refine Qi (args := [_]) func125 rfl ntmps125 results125 (by simp) ?_
 have H := Hp.refl w
 obtain ⟨ao, ca, rfl, hca, hra⟩ := id hl
 simp only [List.length_map] at hl ⊢
 refine Js (Jr (Ja (Jn (Js (Jr (Jm (J (Qh underlying36 rfl) (J (Xe underlying3 underlying5 rfl Un) (Ja (Jn (Js (Js (Jr (Jm (J (Qh underlying36 rfl) (Jm (Jn (Jb (Dp (fun (i : Nat) E w' => i ≤ xs.length ∧ E 9 = .slice ao xs.length ca ∧ E 10 = I xs.length ∧ E 11 = I i ∧ E 3 = U ((xs.take i).foldl (· + ·) (UInt8.ofNat xs.length)) ∧ Hp w [] w') (fun i => xs.length - i) 0 ?_ ?_)))))))))))))))))))
 ·exact ⟨by omega, rfl, rfl, rfl, rfl, H⟩
 ·(clear H; rintro i E w1 ⟨hi, h0, h1, h2, h3, H⟩; refine W_know4 h0 h1 h2 h3 ?_; by_cases hlt : i < xs.length)
  ·refine Js (Jr (J (Za rfl rfl (by omega)) (Jn (Js (Jd rfl (Jk (Js (Jb (Js ?_)))))))))
   (obtain ⟨b1, o1, rfl, hc1⟩ := hl.cell (i := i) (u := U xs[i]) (by rw [List.getElem?_map, List.getElem?_eq_getElem (by omega)]; rfl); refine Qk ?_)
   refine J (Qj underlying36 sizeOf5 rfl rfl (by omega) (by omega) Xt) (J (Qx isAgg5 rfl (H.cell hc1 (by simp))) (Ja (Jn (Jr (Jm (Jm (J (Xg rfl rfl u8_add) (Ja (Jn (Jr (J (Xg rfl rfl (Xc (by omega))) (Jm (Jn ?_)))))))))))))
   exact ⟨i + 1, by omega, by omega, rfl, rfl, rfl, (by rw [List.take_succ_eq_append_getElem hlt, List.foldl_append]; rfl), H⟩
  ·refine Js (Jr (J (Xp rfl rfl (by omega)) (Jn (Js (Jc rfl (Xr ?_))))))
   refine (if_pos rfl).mpr ?_
   refine Js (Jr (Jm (Ja (Jn (Je ?_)))))
   exact ⟨_, rfl, congrArg U (by unfold Nh; rw [List.take_of_length_le (l := xs) (i := i) (by omega)]), H⟩
theorem notz_ret (x : UInt8) (w : World) : Ret Tryz.prog 192 #[U x] w fun v w' => v = .bool (decide (x ≠ 0)) ∧ Hp w [] w' := by
 refine Qi (args := [_]) func192 rfl ntmps192 results192 (by simp) ?_
 refine Js (Jr (Ja (Jn (Js (Jr (Jm (J (Zu rfl rfl) (Ja (Jn (Je ?_))))))))))
 exact ⟨_, rfl, congrArg Value.bool (decide_eq_decide.2 u8_ne), Hp.refl _⟩
theorem Nc {xs : List UInt8} {w : World} {l : Value} (hl : RdS w l (xs.map U)) (hb : xs.length ≤ 9223372036854775807) :
  Ret Tryz.prog 232 #[l, .func (.func 192) #[] #[]] w fun v w' => ∃ r : Int, v = I r ∧ (0 ≤ r ↔ ∃ x ∈ xs, x ≠ 0) ∧ Hp w [] w' := by
 refine Qi (args := [_, _]) func232 rfl ntmps232 results232 (by simp) ?_
 have H := Hp.refl w
 obtain ⟨ao, ca, rfl, hca, hra⟩ := id hl
 simp only [List.length_map] at hl ⊢
 refine Js (Jr (Ja (Jn (Js (Js (Jr (Jm (J (Qh underlying36 rfl) (Jm (Jn (Jb (Dp (fun (i : Nat) E w' => i ≤ xs.length ∧ E 0 = .slice ao xs.length ca ∧ E 1 = .func (.func 192) #[] #[] ∧ E 7 = I xs.length ∧ E 8 = I i ∧ (∀ x ∈ xs.take i, x = 0) ∧ Hp w [] w') (fun i => xs.length - i) 0 ?_ ?_))))))))))))
 ·exact ⟨by omega, rfl, rfl, rfl, rfl, (by simp), H⟩
 ·(clear H; rintro i E w1 ⟨hi, h0, h1, h2, h3, hz, H⟩; refine W_know4 h0 h1 h2 h3 ?_; by_cases hlt : i < xs.length)
  ·refine Js (Jr (J (Za rfl rfl (by omega)) (Jn (Js (Jd rfl (Jk (Js (Jb (Js (Jr (Jm (Ja (Jn (Js ?_))))))))))))))
   (obtain ⟨b1, o1, rfl, hc1⟩ := hl.cell (i := i) (u := U xs[i]) (by rw [List.getElem?_map, List.getElem?_eq_getElem (by omega)]; rfl); refine Qk ?_)
   (refine Jm (Jm (Jm (J (Qj underlying36 sizeOf5 rfl rfl (by omega) (by omega) Xt) (J (Qx isAgg5 rfl (H.cell hc1 (by simp))) (Jz rfl call192 rfl (notz_ret _ _) H ?_))))); intro w37 H)
   refine Jn (Xo rfl (fun hne => ?_) (fun hne => ?_))
   ·refine Js (Jr (Jm (Ja (Jn (Je ?_)))))
    (exact ⟨_, rfl, _, rfl, ⟨fun _ => ⟨xs[i], List.getElem_mem hlt, hne⟩, fun _ => by omega⟩, H⟩)
   ·refine Jk (Jr (J (Xg rfl rfl (Xc (by omega))) (Jm (Jn ?_))))
    (exact ⟨i + 1, by omega, by omega, rfl, rfl, rfl, rfl, (by intro x hx; rw [List.take_succ_eq_append_getElem hlt] at hx; rcases List.mem_append.1 hx with hx | hx; exact hz x hx; rw [List.mem_singleton.1 hx]; exact Classical.not_not.1 hne), H⟩)
  ·refine Js (Jr (J (Xp rfl rfl (by omega)) (Jn (Js (Jc rfl (Xr ?_))))))
   refine (if_pos rfl).mpr ?_
   refine Js (Jr (Ja (Jn (Je ?_))))
   exact ⟨_, rfl, _, rfl, ⟨fun h => by omega, fun ⟨x, hx, hn⟩ => (hn (hz x (by rw [List.take_of_length_le (by omega)]; exact hx))).elim⟩, H⟩
theorem Da {xs : List UInt8} {w : World} {l : Value} (hl : RdS w l (xs.map U)) (hb : xs.length ≤ 9223372036854775807) :
  Ret Tryz.prog 191 #[l, .func (.func 192) #[] #[]] w fun v w' => v = .bool (decide (∃ x ∈ xs, x ≠ 0)) ∧ Hp w [] w' := by
 refine Qi (args := [_, _]) func191 rfl ntmps191 results191 (by simp) ?_
 have H := Hp.refl w
 (refine Js (Jr (Ja (Jn (Js (Jr (Jm (Jm (Jy rfl call232 rfl (Nc hl hb) ?_)))))))); rintro _ w9 ⟨r, rfl, hr, H1⟩; replace H := H.seq0 H1; clear H1)
 refine J (Mi rfl rfl) (Ja (Jn (Je ?_)))
 exact ⟨_, rfl, congrArg Value.bool (decide_eq_decide.2 hr), H⟩
theorem Dx {xs : List UInt8} {w : World} {l : Value} (hl : RdS w l (xs.map U)) (hb : xs.length ≤ 9223372036854775807) :
  Ret Tryz.prog 146 #[l] w fun v w' => v = .bool (decide (∀ x ∈ xs, x = 0)) ∧ Hp w [] w' := by
 refine Qi (args := [_]) func146 rfl ntmps146 results146 (by simp) ?_
 have H := Hp.refl w
 (refine Js (Jr (Ja (Jn (Js (Jr (Jm (Jz rfl call191 rfl (Da hl hb) H ?_))))))); intro w8 H)
 refine J (Zd rfl) (Ja (Jn (Je ?_)))
 exact ⟨_, rfl, congrArg Value.bool (decide_eq_decide.2 (by simp)), H⟩
end Go.Proofs.YtlpmfldijgdcoaaGreatDoor.Codec
namespace Go.Proofs.YtlpmfldijgdcoaaGreatDoor.Codec
open Go Go.Proofs Fx Tryz
theorem put2_yes {c : List Value} {w : World} {b off len cap e k m : Nat} (hb : w.heap[b]? = some (blk c e)) (h1 : k + 2 ≤ len) (h2 : off + len ≤ c.length) (h3 : m ≤ 65535) (hlc : len ≤ 9223372036854775807) :
  Ret Tryz.prog 200 #[sl b off len cap, I k, I m] w fun v w' => v = .bool true ∧ Hp w [(b, blk ((c.set (off + k) (U (UInt8.ofNat (m / 256)))).set (off + k + 1) (U (UInt8.ofNat m))) e)] w' := by
 refine Qi (args := [_, _, _]) func200 rfl ntmps200 results200 (by simp) ?_
 have H := Hp.focus0 hb
 (refine Js (Jr (Ja (Jn (Js (Js (Jr (Jm (J (Xp rfl rfl (by omega)) (Jm (Jt rfl rfl (Jm (Jt rfl rfl (Jm (Jt rfl rfl (J (Qh underlying36 rfl) (Jt rfl rfl (J (Vt rfl rfl (Xc (by omega))) (Jt rfl rfl (J (Zm rfl rfl (by omega)) (Jp rfl (Jm (Jt rfl rfl (Jm (Jt rfl rfl (J (Xp rfl rfl (by omega)) (Jp rfl (Jm (Jt rfl rfl (Jm (Jt rfl rfl (J (Zm rfl rfl (by omega)) (Jp rfl (Jn (Jc rfl (Jk (Js (Jr (Jm (Jm (Jm (Jm (J (Xg rfl rfl (Xc (by omega))) (Jm (J (R_shr rfl rfl (by decide) (shr_any 256 (by decide))) (J (Xe underlying3 underlying5 rfl Un) (Jm (J (Xe underlying3 underlying5 rfl Un) (J (Qj underlying36 sizeOf5 rfl rfl (by omega) (by omega) Xt) (Qd rfl (Qz (v := (.int _ _)) H sizeOf5 rfl rfl rfl .here (by omega)) ?_))))))))))))))))))))))))))))))))))))))))))))))))); clear H; intro w50 H)
 (refine J (Qj (off' := off + k + 1) underlying36 sizeOf5 rfl rfl (by omega) (by omega) (by omega)) (Qd rfl (Qz (v := (.int _ _)) H sizeOf5 rfl rfl rfl .here (by simp; omega)) ?_); clear H; intro w52 H)
 refine Jn (Js (Jr (Ja (Jn (Je ?_)))))
 exact ⟨_, rfl, rfl, H⟩
theorem get2_yes {xs : List UInt8} {w : World} {l : Value} {k : Nat} (hl : RdS w l (xs.map U)) (hb : xs.length ≤ 9223372036854775807) (h : k + 2 ≤ xs.length) :
  Ret Tryz.prog 201 #[l, I k] w fun v w' => v = .tuple #[I ((xs[k]'(by omega)).toNat * 256 + (xs[k + 1]'(by omega)).toNat), .bool true] ∧ Hp w [] w' := by
 refine Qi (args := [_, _]) func201 rfl ntmps201 results201 (by simp) ?_
 have H := Hp.refl w
 obtain ⟨ao, ca, rfl, hca, hra⟩ := id hl
 obtain ⟨b, off, rfl, hc⟩ : ∃ b off, ao = some ⟨b, off, none⟩ ∧ ∀ j u, (xs.map U)[j]? = some u → w.cell? ⟨b, off + j, none⟩ = some u := by
  rcases hra with h0 | h0
  ·simp at h0; subst h0; simp at h
  ·exact h0
 have hc1 := hc k (U (xs[k]'(by omega))) (by rw [List.getElem?_map, List.getElem?_eq_getElem (by omega)]; rfl)
 have hc2 := hc (k + 1) (U (xs[k + 1]'(by omega))) (by rw [List.getElem?_map, List.getElem?_eq_getElem (by omega)]; rfl)
 have hk1 := (xs[k]'(by omega)).toNat_lt
 have hk2 := (xs[k + 1]'(by omega)).toNat_lt
 simp only [List.length_map] at hl ⊢
 refine Js (Jr (Ja (Ja (Jn (Js (Js (Jr (Jm (J (Xp rfl rfl (by omega)) (Jm (Jt rfl rfl (Jm (Jt rfl rfl (Jm (Jt rfl rfl (J (Qh underlying36 rfl) (Jt rfl rfl (J (Vt rfl rfl (Xc (by omega))) (Jt rfl rfl (J (Zm rfl rfl (by omega)) (Jp rfl (Jn (Jc rfl (Jk (Js ?_)))))))))))))))))))))))))
 (refine Zc (fun _ => false) (by kernel_rfl) H ?_; clear H; intro w27 H)
 refine Am 0 rfl H (Am 1 rfl H (Az 2 rfl rfl H (fun _ hC => Qj underlying36 sizeOf5 rfl rfl (by omega) (by omega) Xt) (Az 3 rfl rfl H (fun _ hC => Qx isAgg5 rfl (hC.cell hc1 (by simp))) (Az 4 rfl rfl H (fun _ hC => Xe underlying5 underlying3 rfl Yf) (Az 5 rfl rfl H (fun _ hC => R_shl rfl rfl (by decide) (shl_i64 256 (by decide) (by omega))) (Am 6 rfl H (Am 7 rfl H (Az 8 rfl rfl H (fun _ hC => Xg rfl rfl (Xc (by omega))) (Az 9 rfl rfl H (fun _ hC => Qj (off' := off + (k + 1)) underlying36 sizeOf5 rfl rfl (by omega) (by omega) (by omega)) (Az 10 rfl rfl H (fun _ hC => Qx isAgg5 rfl (hC.cell hc2 (by simp))) (Az 11 rfl rfl H (fun _ hC => Xe underlying5 underlying3 rfl Yf) (Az 12 rfl rfl H (fun _ hC => Zb rfl rfl (by simp) (or_bytes _ _)) (Aa 13 rfl H (Aa 14 rfl H (Ad (Je ?_))))))))))))))))
 exact ⟨_, rfl, rfl, H⟩
end Go.Proofs.YtlpmfldijgdcoaaGreatDoor.Codec
namespace Go.Proofs.YtlpmfldijgdcoaaGreatDoor.Codec
open Go Go.Proofs Fx Tryz
theorem take_snoc_eq {xs ys : List UInt8} {i : Nat} (h : xs.take i = ys.take i) (hx : i < xs.length) (hy : i < ys.length) (he : xs[i] = ys[i]) : xs.take (i + 1) = ys.take (i + 1) := by
 rw [List.take_succ_eq_append_getElem hx, List.take_succ_eq_append_getElem hy, h, he]
theorem equal_ret {xs ys : List UInt8} {w : World} {a b : Value} (ha : RdS w a (xs.map U)) (hb : RdS w b (ys.map U)) (hl : xs.length ≤ 1000000000) (hl2 : ys.length ≤ 1000000000) :
  Ret Tryz.prog 197 #[a, b] w fun v w' => v = .bool (decide (xs = ys)) ∧ Hp w [] w' := by
 refine Qi (args := [_, _]) func197 rfl ntmps197 results197 (by simp) ?_
 have H := Hp.refl w
 obtain ⟨ao, ca, rfl, hca, hra⟩ := id ha
 obtain ⟨bo, cb, rfl, hcb, hrb⟩ := id hb
 simp only [List.length_map] at ha hb ⊢
 by_cases hlen : xs.length = ys.length
 ·refine Js (Jr (Ja (Jn (Js (Js (Jr (Jm (J (Qh underlying36 rfl) (Jm (J (Qh underlying36 rfl) (J (Yl rfl rfl (by omega)) (Jn (Jc rfl (Jk (Js (Js (Jr (Jm (J (Qh underlying36 rfl) (Jm (Jn (Jb (Dp (fun (i : Nat) E w' => i ≤ xs.length ∧ xs.take i = ys.take i ∧ E 0 = .slice ao xs.length ca ∧ E 1 = .slice bo ys.length cb ∧ E 12 = I xs.length ∧ E 13 = I i ∧ Hp w [] w') (fun i => xs.length - i) 0 ?_ ?_)))))))))))))))))))))))
  ·exact ⟨by omega, by simp, rfl, rfl, rfl, rfl, H⟩
  ·(clear H; rintro i E w1 ⟨hi, ht, h0, h1, h2, h3, H⟩; refine W_know4 h0 h1 h2 h3 ?_; by_cases hlt : i < xs.length)
   ·refine Js (Jr (J (Za rfl rfl (by omega)) (Jn (Js (Jd rfl (Jk (Js (Jb (Js (Jr (Jm (Ja (Jn (Js ?_))))))))))))))
    (obtain ⟨b1, o1, rfl, hc1⟩ := ha.cell (i := i) (u := U xs[i]) (by rw [List.getElem?_map, List.getElem?_eq_getElem hlt]; rfl); obtain ⟨b2, o2, rfl, hc2⟩ := hb.cell (i := i) (u := U ys[i]) (by rw [List.getElem?_map, List.getElem?_eq_getElem (show i < ys.length by omega)]; rfl); by_cases hne : xs[i] = ys[i] <;> (refine Zc (fun _ => false) (by kernel_rfl) H ?_; clear H; intro w2 H))
    ·refine Am 0 rfl H (Am 1 rfl H (Az 2 rfl rfl H (fun _ hC => Qj underlying36 sizeOf5 rfl rfl (by omega) (by omega) Xt) (Az 3 rfl rfl H (fun _ hC => Qx isAgg5 rfl (hC.cell hc1 (by simp))) (Am 4 rfl H (Am 5 rfl H (Az 6 rfl rfl H (fun _ hC => Qj underlying36 sizeOf5 rfl rfl (by omega) (by omega) Xt) (Az 7 rfl rfl H (fun _ hC => Qx isAgg5 rfl (hC.cell hc2 (by simp))) (Az 8 rfl rfl H (fun _ hC => Yl rfl rfl (by rw [hne])) (Ad (Jc rfl (Jk (Jr (J (Xg rfl rfl (Xc (by omega))) (Jm (Jn ?_)))))))))))))))
     exact ⟨i + 1, by omega, by omega, take_snoc_eq ht hlt (by omega) hne, rfl, rfl, rfl, rfl, H⟩
    ·refine Am 0 rfl H (Am 1 rfl H (Az 2 rfl rfl H (fun _ hC => Qj underlying36 sizeOf5 rfl rfl (by omega) (by omega) Xt) (Az 3 rfl rfl H (fun _ hC => Qx isAgg5 rfl (hC.cell hc1 (by simp))) (Am 4 rfl H (Am 5 rfl H (Az 6 rfl rfl H (fun _ hC => Qj underlying36 sizeOf5 rfl rfl (by omega) (by omega) Xt) (Az 7 rfl rfl H (fun _ hC => Qx isAgg5 rfl (hC.cell hc2 (by simp))) (Az 8 rfl rfl H (fun _ hC => Dq rfl rfl (fun h => hne (u8_eq.1 h))) (Ad (Jd rfl (Js (Jr (Ja (Jn (Je ?_)))))))))))))))
     exact ⟨_, rfl, congrArg Value.bool (decide_eq_false (fun e => hne (by subst e; rfl))).symm, H⟩
   ·refine Js (Jr (J (Xp rfl rfl (by omega)) (Jn (Js (Jc rfl (Xr ?_))))))
    refine (if_pos rfl).mpr ?_
    refine Js (Jr (Ja (Jn (Je ?_))))
    exact ⟨_, rfl, congrArg Value.bool (decide_eq_true (by rw [List.take_of_length_le (l := xs) (i := i) (by omega), List.take_of_length_le (l := ys) (i := i) (by omega)] at ht; exact ht)).symm, H⟩
 ·refine Js (Jr (Ja (Jn (Js (Js (Jr (Jm (J (Qh underlying36 rfl) (Jm (J (Qh underlying36 rfl) (J (Dq rfl rfl (by omega)) (Jn (Jd rfl (Js (Jr (Ja (Jn (Je ?_))))))))))))))))))
  exact ⟨_, rfl, congrArg Value.bool (decide_eq_false (fun e => by subst e; exact hlen rfl)).symm, H⟩
end Go.Proofs.YtlpmfldijgdcoaaGreatDoor.Codec
namespace Go.Proofs.YtlpmfldijgdcoaaGreatDoor.Codec
open Go Go.Proofs Fx Tryz
def sumN (n : Nat) (l : List UInt8) : Nat := l.foldl (fun a y => a + y.toNat) n
theorem sumN_le (l : List UInt8) : ∀ n, sumN n l ≤ n + 255 * l.length := by
 induction l with
 | nil => intro n; simp [sumN]
 | cons y l ih =>
  intro n
  have := ih (n + y.toNat)
  have hy := y.toNat_lt
  unfold sumN at this ⊢
  rw [List.foldl_cons, List.length_cons]
  omega
theorem sumN_ofNat (l : List UInt8) : ∀ n, UInt8.ofNat (sumN n l) = l.foldl (· + ·) (UInt8.ofNat n) := by
 induction l with
 | nil => intro n; rfl
 | cons y l ih =>
  intro n
  have := ih (n + y.toNat)
  unfold sumN at this ⊢
  rw [List.foldl_cons, List.foldl_cons, this, UInt8.ofNat_add, UInt8.ofNat_toNat]
theorem sumN_take {l : List UInt8} {n i : Nat} (h : i < l.length) : sumN n (l.take (i + 1)) = sumN n (l.take i) + l[i].toNat := by
 unfold sumN
 rw [List.take_succ_eq_append_getElem h, List.foldl_append]; rfl
theorem refSum_ret {xs : List UInt8} (w : World) (hb : xs.length ≤ 100000) :
  Ret Tryz.prog 73 #[S xs] w fun v w' => v = U (Nh xs) ∧ Hp w [] w' := by
 refine Qi (args := [_]) func73 rfl ntmps73 results73 (by simp) ?_
 have H := Hp.refl w
 refine Js (Jr (Ja (Jn (Js (Jr (Jm (J (Na underlying9 rfl) (Ja (Jn (Js (Js (Jr (Ja (Jn (Jb (Dp (fun (i : Nat) E w' => i ≤ xs.length ∧ E 0 = S xs ∧ E 3 = I (sumN xs.length (xs.take i) : Nat) ∧ E 4 = I i ∧ Hp w [] w') (fun i => xs.length - i) 0 ?_ ?_))))))))))))))))
 ·exact ⟨by omega, rfl, rfl, rfl, H⟩
 ·(clear H; rintro i E w1 ⟨hi, h0, h1, h2, H⟩; refine W_know3 h0 h1 h2 ?_; by_cases hlt : i < xs.length)
  ·refine Js (Js (Jr (Jm (Jm (J (Na underlying9 rfl) (J (Za rfl rfl (by omega)) (Jn (Jd rfl (Jk (Js (Jb ?_)))))))))))
   (have hsl := sumN_le (xs.take i) xs.length; rw [List.length_take, Nat.min_eq_left hi] at hsl; have hx8 := xs[i].toNat_lt; refine Qk ?_)
   refine Jm (Jm (Jm (J (Vz (u := xs[i]) (i := (i : Int)) underlying9 rfl rfl (by omega) (by rw [Int.toNat_natCast, List.getElem?_eq_getElem hlt])) (J (Xe underlying5 underlying3 rfl Yf) (J (Xg (r := (sumN xs.length (xs.take (i + 1)) : Nat)) rfl rfl (by rw [Xc (by omega), sumN_take hlt]; omega)) (Ja (Jn (Jr (Jm (J (Xg rfl rfl (Xc (by omega))) (Ja (Jn ?_))))))))))))
   exact ⟨i + 1, by omega, by omega, rfl, rfl, rfl, H⟩
  ·refine Js (Js (Jr (Jm (Jm (J (Na underlying9 rfl) (J (Xp rfl rfl (by omega)) (Jn (Jc rfl (Xr ?_)))))))))
   refine (if_pos rfl).mpr ?_
   refine Js (Jr (Jm (J (Xe underlying3 underlying5 rfl Un) (Ja (Jn (Je ?_))))))
   exact ⟨_, rfl, congrArg U (by rw [sumN_ofNat, List.take_of_length_le (l := xs) (by omega)]; rfl), H⟩
theorem refBlank_ret {xs : List UInt8} (w : World) (hb : xs.length ≤ 100000) :
  Ret Tryz.prog 37 #[S xs] w fun v w' => v = .bool (decide (∀ x ∈ xs, x = 0)) ∧ Hp w [] w' := by
 refine Qi (args := [_]) func37 rfl ntmps37 results37 (by simp) ?_
 have H := Hp.refl w
 refine Js (Jr (Ja (Jn (Js (Js (Jr (Ja (Jn (Jb (Dp (fun (i : Nat) E w' => i ≤ xs.length ∧ E 0 = S xs ∧ E 3 = I i ∧ (∀ x ∈ xs.take i, x = 0) ∧ Hp w [] w') (fun i => xs.length - i) 0 ?_ ?_))))))))))
 ·exact ⟨by omega, rfl, rfl, (by simp), H⟩
 ·(clear H; rintro i E w1 ⟨hi, h0, h1, hz, H⟩; refine W_know2 h0 h1 ?_; by_cases hlt : i < xs.length)
  ·refine Js (Js (Jr (Jm (Jm (J (Na underlying9 rfl) (J (Za rfl rfl (by omega)) (Jn (Jd rfl (Jk (Js (Jb (Js ?_))))))))))))
   (by_cases hne : xs[i] = 0 <;> refine Qk ?_)
   ·refine Jm (Jm (J (Vz (u := xs[i]) (i := (i : Int)) underlying9 rfl rfl (by omega) (by rw [Int.toNat_natCast, List.getElem?_eq_getElem hlt])) (J (Yl rfl rfl (by rw [hne]; rfl)) (Jn (Jc rfl (Jk (Jr (Jm (J (Xg rfl rfl (Xc (by omega))) (Ja (Jn ?_)))))))))))
    exact ⟨i + 1, by omega, by omega, rfl, rfl, (by intro x hx; rw [List.take_succ_eq_append_getElem hlt] at hx; rcases List.mem_append.1 hx with hx | hx; exact hz x hx; rw [List.mem_singleton.1 hx]; exact hne), H⟩
   ·refine Jm (Jm (J (Vz (u := xs[i]) (i := (i : Int)) underlying9 rfl rfl (by omega) (by rw [Int.toNat_natCast, List.getElem?_eq_getElem hlt])) (J (Dq rfl rfl (by intro h; exact u8_ne.2 hne h)) (Jn (Jd rfl (Js (Jr (Ja (Jn (Je ?_))))))))))
    exact ⟨_, rfl, congrArg Value.bool (decide_eq_false (fun h => hne (h _ (List.getElem_mem hlt)))).symm, H⟩
  ·refine Js (Js (Jr (Jm (Jm (J (Na underlying9 rfl) (J (Xp rfl rfl (by omega)) (Jn (Jc rfl (Xr ?_)))))))))
   refine (if_pos rfl).mpr ?_
   refine Js (Jr (Ja (Jn (Je ?_))))
   exact ⟨_, rfl, congrArg Value.bool (decide_eq_true (fun x hx => hz x (by rw [List.take_of_length_le (by omega)]; exact hx))).symm, H⟩
end Go.Proofs.YtlpmfldijgdcoaaGreatDoor.Codec
namespace Go.Proofs.YtlpmfldijgdcoaaGreatDoor.Codec
open Go Go.Proofs Fx Tryz
theorem two_ret (n : Nat) (w : World) :
  Ret Tryz.prog 72 #[I n] w fun v w' => v = S [UInt8.ofNat (n / 256), UInt8.ofNat n] ∧ Hp w [] w' := by
 refine Qi (args := [_]) func72 rfl ntmps72 results72 (by simp) ?_
 have H := Hp.refl w
 (refine Js (Jr (Ja (Jn (Js (Jr (Jm (J (R_shr (r := ((n / 256 : Nat) : Int)) rfl rfl (by decide) ((shr_any 256 (by decide)).trans (by omega))) (J (Xe underlying3 underlying5 rfl Un) (Jm (J (Xe underlying3 underlying5 rfl Un) (Qb rfl (Xk (vs := [(.int _ _), (.int _ _)]) H underlying36 sizeOf5 zeroValue5 rfl rfl (by decide) rfl rfl (by simp [Value.oneCell'])) ?_))))))))))); clear H; intro b12 w12 hb12 H)
 refine J (Ua (xs := [UInt8.ofNat (n / 256), UInt8.ofNat n]) underlying36 underlying5 underlying9 rfl (RdS.blk (H.get .here) rfl (by simp) (by simp))) (Ja (Jn (Je ?_)))
 exact ⟨_, rfl, rfl, H.pop (by assumption)⟩
end Go.Proofs.YtlpmfldijgdcoaaGreatDoor.Codec
namespace Go.Proofs.YtlpmfldijgdcoaaGreatDoor.Fx
open Go Go.Proofs
theorem bv_wrap (x : BitVec 64) : IntKind.i64.wrap (x.toNat : Int) = x.toInt := by
 have hx := x.isLt
 rw [IntKind.wrap_i64, BitVec.toInt_eq_toNat_cond]
 split <;> omega
theorem bv_and (x y : BitVec 64) : Dn .and .i64 x.toInt y.toInt = (x &&& y).toInt := by
 show IntKind.i64.wrap ((BitVec.ofInt 64 x.toInt &&& BitVec.ofInt 64 y.toInt).toNat : Int) = _
 rw [BitVec.ofInt_toInt, BitVec.ofInt_toInt, bv_wrap]
theorem bv_or (x y : BitVec 64) : Dn .or .i64 x.toInt y.toInt = (x ||| y).toInt := by
 show IntKind.i64.wrap ((BitVec.ofInt 64 x.toInt ||| BitVec.ofInt 64 y.toInt).toNat : Int) = _
 rw [BitVec.ofInt_toInt, BitVec.ofInt_toInt, bv_wrap]
theorem bv_andNot (x y : BitVec 64) : Dn .andNot .i64 x.toInt y.toInt = (x &&& ~~~ y).toInt := by
 show IntKind.i64.wrap ((BitVec.ofInt 64 x.toInt &&& ~~~ BitVec.ofInt 64 y.toInt).toNat : Int) = _
 rw [BitVec.ofInt_toInt, BitVec.ofInt_toInt, bv_wrap]
theorem bv_small {x : BitVec 64} (h : x.toNat < 65536) : x.toInt = (x.toNat : Int) := by
 rw [BitVec.toInt_eq_toNat_cond, if_pos (by omega)]
theorem De {x : BitVec 64} : x.toInt = 0 ↔ x = 0#64 := by
 constructor
 ·intro h; exact BitVec.eq_of_toInt_eq (by rw [h]; rfl)
 ·rintro rfl; rfl
theorem bv_in {x m : BitVec 64} (h : x &&& ~~~ m = 0#64) : x = x &&& m := by
 apply BitVec.eq_of_getLsbD_eq
 intro i hi
 have := congrArg (fun v => v.getLsbD i) h
 simp only [BitVec.getLsbD_and, BitVec.getLsbD_not, BitVec.getLsbD_zero, hi, decide_true, Bool.true_and] at this ⊢
 cases hx : x.getLsbD i <;> cases hm : m.getLsbD i <;> simp_all
theorem bv_lt {x m : BitVec 64} (h : x &&& ~~~ m = 0#64) : x.toNat ≤ m.toNat := by
 rw [bv_in h, BitVec.toNat_and]
 exact Nat.and_le_right
theorem bv_or_and {x y z k : BitVec 64} : ((x ||| y) ||| z) &&& k = 0#64 ↔ x &&& k = 0#64 ∧ y &&& k = 0#64 ∧ z &&& k = 0#64 := by
 constructor
 ·intro h
  refine ⟨?_, ?_, ?_⟩ <;>
  ·apply BitVec.eq_of_getLsbD_eq
   intro i hi
   have := congrArg (fun v => v.getLsbD i) h
   simp only [BitVec.getLsbD_and, BitVec.getLsbD_or, BitVec.getLsbD_zero] at this ⊢
   cases hx : x.getLsbD i <;> cases hy : y.getLsbD i <;> cases hz : z.getLsbD i <;> cases hk : k.getLsbD i <;> simp_all
 ·rintro ⟨h1, h2, h3⟩
  apply BitVec.eq_of_getLsbD_eq
  intro i hi
  have e1 := congrArg (fun v => v.getLsbD i) h1
  have e2 := congrArg (fun v => v.getLsbD i) h2
  have e3 := congrArg (fun v => v.getLsbD i) h3
  simp only [BitVec.getLsbD_and, BitVec.getLsbD_or, BitVec.getLsbD_zero] at e1 e2 e3 ⊢
  cases hx : x.getLsbD i <;> cases hy : y.getLsbD i <;> cases hz : z.getLsbD i <;> cases hk : k.getLsbD i <;> simp_all
end Go.Proofs.YtlpmfldijgdcoaaGreatDoor.Fx
namespace Go.Proofs.YtlpmfldijgdcoaaGreatDoor.Slot
open Go Go.Proofs Fx Codec Tryz
/-- a slot -/
structure Pi where
 s : Int
 p : Int
 g : Int
 e : Int
 a : BitVec 64
 b : BitVec 64
 c : BitVec 64
 d : BitVec 64
 f : List Int
 hf : f.length = 8
theorem pi_ext {p q : Pi} (h1 : p.s = q.s) (h2 : p.p = q.p) (h3 : p.g = q.g) (h4 : p.e = q.e) (h5 : p.a = q.a) (h6 : p.b = q.b) (h7 : p.c = q.c) (h8 : p.d = q.d) (h9 : p.f = q.f) : p = q := by
 obtain ⟨a, b, c, d, e, f, g, h, i, _⟩ := p
 obtain ⟨a', b', c', d', e', f', g', h', i', _⟩ := q
 simp only at h1 h2 h3 h4 h5 h6 h7 h8 h9
 subst h1 h2 h3 h4 h5 h6 h7 h8 h9
 rfl
def piC (p : Pi) : List Value := [I p.s, I p.p, I p.g, I p.e, I p.a.toInt, I p.b.toInt, I p.c.toInt, I p.d.toInt] ++ p.f.map fun x => I x
abbrev vP (p : Pi) : Value := .agg (piC p).toArray
def Xn : Pi := ⟨0, 0, 0, 0, 0, 0, 0, 0, List.replicate 8 0, rfl⟩
theorem Ya (p : Pi) : (piC p).length = 16 := by simp [piC, p.hf]
theorem piC_all (p : Pi) : ((piC p).drop 0).take 16 = piC p := by rw [List.drop_zero, List.take_of_length_le (by rw [Ya]; decide)]
theorem piC_one (p : Pi) : ∀ v ∈ piC p, v.oneCell' = true := by
 intro v hv
 simp only [piC, List.mem_append, List.mem_cons, List.mem_map, List.not_mem_nil, or_false] at hv
 rcases hv with (rfl | rfl | rfl | rfl | rfl | rfl | rfl | rfl) | ⟨x, _, rfl⟩ <;> rfl
section
variable {E : Env} {w0 w : World} {L : List (Nat × Obj)} {d : Option Nat} {ty e : TypeId} {pos : String} {after : Array Edge} {x y : Operand} {b : Nat} {p q : Pi} {f : Obj → List (Nat × Obj)} {c : List Value}
theorem ldP (hb : w.heap[b]? = some (blk (piC p) e)) : (loadVar 58 ⟨b, 0, none⟩).run Tryz.prog w = .ok (vP p) w :=
 ldA isAgg58 sizeOf58 hb (piC_all p) (by rw [Ya]; decide)
theorem Xa (hx : ev E x = ptr b 0) (hb : w.heap[b]? = some (blk (piC p) e)) : (execOp (ev E) (mk d (.load 58 x) ty pos after)).run Tryz.prog w = .ok (.value (vP p)) w :=
 Qo isAgg58 sizeOf58 hx hb (piC_all p) (by rw [Ya]; decide)
/-- a whole slot over whatever was there -/
theorem E_storeV (H : Hp w0 L w) (hx : ev E x = ptr b 0) (hy : ev E y = vP q) (hL : At L b (blk c e) f) (hc : c.length = 16) :
  ∃ w', Hp w0 (f (blk (piC q) e)) w' ∧ (execOp (ev E) (mk d (.store 58 x y) ty pos after)).run Tryz.prog w = .ok .skip w' := by
 have h := Qg (d := d) (ty := ty) (pos := pos) (after := after) (vs := piC q) H (fun w => by rw [Ya]; exact sizeOf58 w) hx hy (piC_one q) hL (by rw [Ya, hc]; decide)
 rw [List.take_zero, List.nil_append, Ya, List.drop_of_length_le (by rw [hc]; decide), List.append_nil] at h
 exact h
theorem Qn (H : Hp w0 L w) (hx : ev E x = ptr b 0) (hy : ev E y = vP q) (hL : At L b (blk (piC p) e) f) :
  ∃ w', Hp w0 (f (blk (piC q) e)) w' ∧ (execOp (ev E) (mk d (.store 58 x y) ty pos after)).run Tryz.prog w = .ok .skip w' :=
 E_storeV H hx hy hL (Ya p)
theorem Qt (H : Hp w0 L w) : ∃ b w', w0.heap.size ≤ b ∧ Hp w0 ((b, blk (piC Xn) 58) :: L) w' ∧ (execOp (ev E) (mk d (.alloc 58) ty pos after)).run Tryz.prog w = .ok (.value (ptr b 0)) w' :=
 Qp (vs := piC Xn) H zeroValue58 rfl
theorem Ys (H : Hp w0 L w) (hx : ev E x = vP q) : ∃ b w', w0.heap.size ≤ b ∧ Hp w0 ((b, blk (piC q) 58) :: L) w' ∧ (execOp (ev E) (mk d (.box 58 x) ty pos after)).run Tryz.prog w = .ok (.value (ptr b 0)) w' :=
 Xl (v := vP q) (vs := piC q) H hx rfl
theorem Uw : (execOp (ev E) (mk d (.build 58 #[]) ty pos after)).run Tryz.prog w = .ok (.value (vP Xn)) w :=
 Qm (places := [(0, 1), (1, 1), (2, 1), (3, 1), (4, 1), (5, 1), (6, 1), (7, 1), (8, 8)]) (vs := piC Xn) underlying58 typeInfo58 rfl rfl (by kernel_rfl) rfl rfl rfl
/-- an array of nothing -/
theorem R_zeroArr {P : Program} {t elem : TypeId} {n : Nat} {zs : List Value} {i : TypeInfo} {z : Value} (hu : P.underlying t = some (.array n elem)) (hI : ∀ w, (typeInfo t).run P w = .ok i w) (hE : ∃ j, P.info? elem = some j)
  (hZ : i.zero = some z) (hz : z.cells = zs.toArray) : (execOp (ev E) (mk d (.build t #[]) ty pos after)).run P w = .ok (.value (.agg zs.toArray)) w := by
 obtain ⟨j, hj⟩ := hE
 refine Nb (ps := []) rfl ?_
 unfold Program.built
 rw [Vv hI w, hu]
 simp only [hZ, hz, hj]
 rfl
end
/-- none but signals -/
def okB (x : BitVec 64) : Prop := x &&& ~~~ 65534#64 = 0#64
instance (x : BitVec 64) : Decidable (okB x) := by unfold okB; infer_instance
def okP (p : Pi) : Prop := ((1 ≤ p.s ∧ p.s ≤ 3) ∧ (0 ≤ p.p ∧ p.p ≤ 8) ∧ (0 ≤ p.g ∧ p.g ≤ 7) ∧ (0 ≤ p.e ∧ p.e ≤ 255)) ∧
 ((okB p.a ∧ okB p.b ∧ okB p.c ∧ okB p.d) ∧ (p.b &&& 16896#64 = 0#64 ∧ p.c &&& 16896#64 = 0#64 ∧ p.d &&& 16896#64 = 0#64) ∧ p.c &&& p.d = 0#64) ∧
 (∀ x ∈ p.f, 0 ≤ x ∧ x ≤ 12) ∧ ((p.s = 2 ∧ p.a = 0#64 ∧ p.f = List.replicate 8 0) ∨ (¬ p.s = 2 ∧ p.e = 0))
instance (p : Pi) : Decidable (okP p) := by unfold okP; infer_instance
def b8 (n : Int) : UInt8 := UInt8.ofNat n.toNat
theorem Dg {n : Int} (h : 0 ≤ n) : IntKind.u8.wrap n = ((b8 n).toNat : Int) := by
 obtain ⟨m, rfl⟩ : ∃ m : Nat, n = (m : Int) := ⟨n.toNat, by omega⟩
 exact Un
def two (x : BitVec 64) : List UInt8 := [UInt8.ofNat (x.toNat / 256), UInt8.ofNat x.toNat]
/-- the first twenty-one bytes -/
def hbs (p : Pi) : List UInt8 := [b8 p.s, b8 p.p, b8 p.g, b8 p.e] ++ two p.a ++ two p.b ++ two p.c ++ two p.d ++ p.f.map b8 ++ [167]
theorem My (p : Pi) : (hbs p).length = 21 := by simp [hbs, two, p.hf]
/-- a slot's bytes -/
def Xm (p : Pi) : List UInt8 := hbs p ++ [Nh (hbs p), 0, 0]
theorem Yu (p : Pi) : (Xm p).length = 24 := by simp [Xm, My]
theorem Ux (n lo hi : Int) (w : World) : Ret Tryz.prog 70 #[I n, I lo, I hi] w fun v w' => v = .bool (decide (lo ≤ n ∧ n ≤ hi)) ∧ Hp w [] w' := by
 refine Qi (args := [_, _, _]) func70 rfl ntmps70 results70 (by simp) ?_
 have H := Hp.refl w
 refine Js (Jr (Ja (Jn (Js (Jr (Jm (Jm (J (Mi rfl rfl) (Jm ?_)))))))))
 apply Xs 4 10 14 [(11, 14)] H
 case hc => rfl
 case h1 =>
  intro h11
  refine Jt rfl rfl (Jm (Jt rfl rfl (Jm (Jt rfl rfl (J (R_le rfl rfl) (Jq rfl (Jn ?_)))))))
  exact ⟨kS, rfl, H⟩
 case h0 =>
  intro h11
  refine Jg rfl rfl (Jg rfl rfl (Jg rfl rfl (Jp rfl (Jn ?_))))
  exact ⟨kS, rfl, H⟩
 case h2 =>
  (clear H; intro E11 w11 H)
  refine Ja (Jn (Je ?_))
  exact ⟨_, rfl, congrArg Value.bool (decide_eq_decide.2 (by omega)), H⟩
theorem fd_ret (n : Int) (w : World) : Ret Tryz.prog 236 #[I n] w fun v w' => v = .bool (decide (n < 0 ∨ 12 < n)) ∧ Hp w [] w' := by
 refine Qi (args := [_]) func236 rfl ntmps236 results236 (by simp) ?_
 have H := Hp.refl w
 refine Js (Jr (Ja (Jn (Js (Jr (Jm (J (Vb rfl rfl) (Jm ?_))))))))
 apply Xz 3 5 8 [(6, 8)] H
 case hc => rfl
 case h1 =>
  intro h10
  refine Jt rfl rfl (Jm (Jt rfl rfl (J (R_gt rfl rfl) (Jp rfl (Jn ?_)))))
  exact ⟨kS, rfl, H⟩
 case h0 =>
  intro h10
  refine Jg rfl rfl (Jg rfl rfl (Jq rfl (Jn ?_)))
  exact ⟨kS, rfl, H⟩
 case h2 =>
  (clear H; intro E10 w10 H)
  refine Ja (Jn (Je ?_))
  exact ⟨_, rfl, congrArg Value.bool (decide_eq_decide.2 (by omega)), H⟩
theorem bits_ret (x k : BitVec 64) (w : World) : Ret Tryz.prog 235 #[I x.toInt, I k.toInt] w fun v w' => v = .bool (decide (okB x ∧ x &&& k = 0#64)) ∧ Hp w [] w' := by
 refine Qi (args := [_, _]) func235 rfl ntmps235 results235 (by simp) ?_
 have H := Hp.refl w
 have hm : (65534 : Int) = (65534#64).toInt := rfl
 refine Js (Jr (Ja (Jn (Js (Jr (Jm (J (Zb rfl rfl (by simp) (bv_andNot x 65534#64)) (J (Yk rfl rfl) (Jm ?_)))))))))
 apply Xs 5 8 13 [(9, 13)] H
 case hc => rfl
 case h1 =>
  intro h11
  refine Jt rfl rfl (Jm (Jt rfl rfl (Jm (Jt rfl rfl (J (Zb rfl rfl (by simp) (bv_and x k)) (Jt rfl rfl (J (Yk rfl rfl) (Jq rfl (Jn ?_)))))))))
  exact ⟨kS, rfl, H⟩
 case h0 =>
  intro h11
  refine Jg rfl rfl (Jg rfl rfl (Jg rfl rfl (Jg rfl rfl (Jp rfl (Jn ?_)))))
  exact ⟨kS, rfl, H⟩
 case h2 =>
  (clear H; intro E11 w11 H)
  refine Ja (Jn (Je ?_))
  exact ⟨_, rfl, congrArg Value.bool (decide_eq_decide.2 (by simp only [okB, De])), H⟩
theorem Ms (x : BitVec 64) (w : World) : Ret Tryz.prog 71 #[I x.toInt] w fun v w' => v = .bool (decide (okB x)) ∧ Hp w [] w' := by
 refine Qi (args := [_]) func71 rfl ntmps71 results71 (by simp) ?_
 have H := Hp.refl w
 have hge : okB x → 0 ≤ x.toInt := fun h => by
  have := bv_lt h
  rw [bv_small (by simp at this; omega)]
  omega
 refine Js (Jr (Ja (Jn (Js (Jr (Jm (J (Mi rfl rfl) (Jm ?_))))))))
 apply Xs 4 5 9 [(6, 9)] H
 case hc => rfl
 case h1 =>
  intro h10
  refine Jt rfl rfl (Jm (Jt rfl rfl (J (Zb rfl rfl (by simp) (bv_andNot x 65534#64)) (Jt rfl rfl (J (Yk rfl rfl) (Jq rfl (Jn ?_)))))))
  exact ⟨kS, rfl, H⟩
 case h0 =>
  intro h10
  refine Jg rfl rfl (Jg rfl rfl (Jg rfl rfl (Jp rfl (Jn ?_))))
  exact ⟨kS, rfl, H⟩
 case h2 =>
  (clear H; intro E10 w10 H)
  refine Ja (Jn (Je ?_))
  exact ⟨_, rfl, congrArg Value.bool (decide_eq_decide.2 (by rw [De]; exact ⟨fun h => h.2, fun h => ⟨hge h, h⟩⟩)), H⟩
theorem Nc {xs : List Int} {w : World} {l : Value} (hl : RdS w l (xs.map fun x => I x)) (hb : xs.length ≤ 9223372036854775807) :
  Ret Tryz.prog 119 #[l, .func (.func 236) #[] #[]] w fun v w' => ∃ r : Int, v = I r ∧ (0 ≤ r ↔ ∃ x ∈ xs, x < 0 ∨ 12 < x) ∧ Hp w [] w' := by
 refine Qi (args := [_, _]) func119 rfl ntmps119 results119 (by simp) ?_
 have H := Hp.refl w
 obtain ⟨ao, ca, rfl, hca, hra⟩ := id hl
 simp only [List.length_map] at hl ⊢
 refine Js (Jr (Ja (Jn (Js (Js (Jr (Jm (J (Qh underlying22 rfl) (Jm (Jn (Jb (Dp (fun (i : Nat) E w' => i ≤ xs.length ∧ E 0 = .slice ao xs.length ca ∧ E 1 = .func (.func 236) #[] #[] ∧ E 7 = I xs.length ∧ E 8 = I i ∧ (∀ x ∈ xs.take i, ¬ (x < 0 ∨ 12 < x)) ∧ Hp w [] w') (fun i => xs.length - i) 0 ?_ ?_))))))))))))
 ·exact ⟨by omega, rfl, rfl, rfl, rfl, (by simp), H⟩
 ·(clear H; rintro i E w1 ⟨hi, h0, h1, h2, h3, hz, H⟩; refine W_know4 h0 h1 h2 h3 ?_; by_cases hlt : i < xs.length)
  ·refine Js (Jr (J (Za rfl rfl (by omega)) (Jn (Js (Jd rfl (Jk (Js (Jb (Js (Jr (Jm (Ja (Jn (Js ?_))))))))))))))
   (obtain ⟨b1, o1, rfl, hc1⟩ := hl.cell (i := i) (u := I xs[i]) (by rw [List.getElem?_map, List.getElem?_eq_getElem (by omega)]; rfl); refine Qk ?_)
   (refine Jm (Jm (Jm (J (Qj underlying22 sizeOf3 rfl rfl (by omega) (by omega) Xt) (J (Qx isAgg3 rfl (H.cell hc1 (by simp))) (Jz rfl call236 rfl (fd_ret _ _) H ?_))))); intro w37 H)
   refine Jn (Xo rfl (fun hne => ?_) (fun hne => ?_))
   ·refine Js (Jr (Jm (Ja (Jn (Je ?_)))))
    (exact ⟨_, rfl, _, rfl, ⟨fun _ => ⟨xs[i], List.getElem_mem hlt, hne⟩, fun _ => by omega⟩, H⟩)
   ·refine Jk (Jr (J (Xg rfl rfl (Xc (by omega))) (Jm (Jn ?_))))
    (exact ⟨i + 1, by omega, by omega, rfl, rfl, rfl, rfl, (by intro x hx; rw [List.take_succ_eq_append_getElem hlt] at hx; rcases List.mem_append.1 hx with hx | hx; exact hz x hx; rw [List.mem_singleton.1 hx]; exact hne), H⟩)
  ·refine Js (Jr (J (Xp rfl rfl (by omega)) (Jn (Js (Jc rfl (Xr ?_))))))
   refine (if_pos rfl).mpr ?_
   refine Js (Jr (Ja (Jn (Je ?_))))
   exact ⟨_, rfl, _, rfl, ⟨fun h => by omega, fun ⟨x, hx, hn⟩ => (hz x (by rw [List.take_of_length_le (by omega)]; exact hx) hn).elim⟩, H⟩
theorem Da {xs : List Int} {w : World} {l : Value} (hl : RdS w l (xs.map fun x => I x)) (hb : xs.length ≤ 9223372036854775807) :
  Ret Tryz.prog 75 #[l, .func (.func 236) #[] #[]] w fun v w' => v = .bool (decide (∃ x ∈ xs, x < 0 ∨ 12 < x)) ∧ Hp w [] w' := by
 refine Qi (args := [_, _]) func75 rfl ntmps75 results75 (by simp) ?_
 have H := Hp.refl w
 (refine Js (Jr (Ja (Jn (Js (Jr (Jm (Jm (Jy rfl call119 rfl (Nc hl hb) ?_)))))))); rintro _ w9 ⟨r, rfl, hr, H1⟩; replace H := H.seq0 H1; clear H1)
 refine J (Mi rfl rfl) (Ja (Jn (Je ?_)))
 exact ⟨_, rfl, congrArg Value.bool (decide_eq_decide.2 hr), H⟩
end Go.Proofs.YtlpmfldijgdcoaaGreatDoor.Slot
namespace Go.Proofs.YtlpmfldijgdcoaaGreatDoor.Slot
open Go Go.Proofs Fx Codec Tryz
theorem hfd (p : Pi) : ((piC p).drop 8).take 8 = p.f.map fun x => I x := by
 unfold piC
 rw [List.drop_left' (by simp), List.take_of_length_le (by simp [p.hf])]
theorem zip_rep {k : IntKind} : ∀ (n : Nat) (l : List Int), l.length = n → List.zipWith Value.int (List.replicate n k) l = l.map (Value.int k)
 | 0, [], _ => rfl
 | n + 1, a :: l, h => by rw [List.replicate_succ, List.zipWith_cons_cons, List.map_cons, zip_rep n l (by simpa using h)]
theorem eq_fds : EqC Tryz.prog 56 (List.replicate 8 .i64) true 2 :=
 EqC.array (EqC.int isAgg3 sizeOf3 underlying3) isAgg56 sizeOf56 underlying56 (Vv typeInfo3 default) (by kernel_rfl) rfl
theorem R_eq_fds {E : Env} {w : World} {d : Option Nat} {ty : TypeId} {pos : String} {after : Array Edge} {t' : TypeId} {x y : Operand} {f g : List Int} (hf : f.length = 8) (hg : g.length = 8) (hx : ev E x = .agg (f.map fun x => I x).toArray) (hy : ev E y = .agg (g.map fun x => I x).toArray)
  : (execOp (ev E) (mk d (.binOp .eql 56 x y t') ty pos after)).run Tryz.prog w = .ok (.value (.bool (decide (f = g)))) w :=
 R_eq_C eq_fds (by decide) (by kernel_rfl) hx hy (zip_rep 8 f hf).symm (zip_rep 8 g hg).symm (by rw [hf]; rfl) (by rw [hg]; rfl)
theorem mid_of {a b c d : BitVec 64} (h : ¬((((¬(okB a ∧ a &&& 0#64 = 0#64) ∨ ¬(okB b ∧ b &&& 16896#64 = 0#64)) ∨ ¬(okB c ∧ c &&& 16896#64 = 0#64)) ∨ ¬(okB d ∧ d &&& 16896#64 = 0#64)) ∨ (c &&& d).toInt ≠ 0)) :
  (okB a ∧ okB b ∧ okB c ∧ okB d) ∧ (b &&& 16896#64 = 0#64 ∧ c &&& 16896#64 = 0#64 ∧ d &&& 16896#64 = 0#64) ∧ c &&& d = 0#64 := by
 have h5 : c &&& d = 0#64 := De.1 (Classical.byContradiction fun hn => h (.inr hn))
 have h1 : okB a ∧ a &&& 0#64 = 0#64 := Classical.byContradiction fun hn => h (.inl (.inl (.inl (.inl hn))))
 have h2 : okB b ∧ b &&& 16896#64 = 0#64 := Classical.byContradiction fun hn => h (.inl (.inl (.inl (.inr hn))))
 have h3 : okB c ∧ c &&& 16896#64 = 0#64 := Classical.byContradiction fun hn => h (.inl (.inl (.inr hn)))
 have h4 : okB d ∧ d &&& 16896#64 = 0#64 := Classical.byContradiction fun hn => h (.inl (.inr hn))
 exact ⟨⟨h1.1, h2.1, h3.1, h4.1⟩, ⟨h2.2, h3.2, h4.2⟩, h5⟩
theorem Dm (p : Pi) (w : World) : Ret Tryz.prog 199 #[vP p] w fun v w' => v = .bool (decide (okP p)) ∧ Hp w [] w' := by
 refine Qi (args := [_]) func199 rfl ntmps199 results199 (by simp) ?_
 have H := Hp.refl w
 have hz8 : (List.replicate 8 (0 : Int)).length = 8 := rfl
 (refine Js (Jr (Qb rfl (Ys H rfl) ?_)); clear H; intro bx w3 hbx H)
 refine Ja (Jn (Js (Js (Jr (Jf 0 underlying58 rfl sizeOf3 rfl rfl (Jl isAgg3 rfl (H.get .here) rfl (J (Vb rfl rfl) (Jm ?_))))))))
 apply Xz 4 6 10 [(7, 10)] H
 case hc => rfl
 case h1 =>
  intro h13
  refine Jt rfl rfl (Jf 0 underlying58 rfl sizeOf3 rfl rfl (Jt rfl rfl (Jl isAgg3 rfl (H.get .here) rfl (Jt rfl rfl (J (R_gt rfl rfl) (Jp rfl (Jn ?_)))))))
  exact ⟨kS, rfl, H⟩
 case h0 =>
  intro h13
  refine Jg rfl rfl (Jg rfl rfl (Jg rfl rfl (Jq rfl (Jn ?_))))
  exact ⟨kS, rfl, H⟩
 case h2 =>
  (clear H; intro E13 w13 H)
  refine Jm ?_
  apply Xz 4 11 15 [(12, 15)] H
  case hc => rfl
  case h1 =>
   intro h30
   refine Jt rfl rfl (Jf 1 underlying58 rfl sizeOf3 rfl rfl (Jt rfl rfl (Jl isAgg3 rfl (H.get .here) rfl (Jt rfl rfl (J (Vb rfl rfl) (Jp rfl (Jn ?_)))))))
   exact ⟨kS, rfl, H⟩
  case h0 =>
   intro h30
   refine Jg rfl rfl (Jg rfl rfl (Jg rfl rfl (Jq rfl (Jn ?_))))
   exact ⟨kS, rfl, H⟩
  case h2 =>
   (clear H; intro E30 w30 H)
   refine Jm ?_
   apply Xz 4 16 20 [(17, 20)] H
   case hc => rfl
   case h1 =>
    intro h47
    refine Jt rfl rfl (Jf 1 underlying58 rfl sizeOf3 rfl rfl (Jt rfl rfl (Jl isAgg3 rfl (H.get .here) rfl (Jt rfl rfl (J (R_gt rfl rfl) (Jp rfl (Jn ?_)))))))
    exact ⟨kS, rfl, H⟩
   case h0 =>
    intro h47
    refine Jg rfl rfl (Jg rfl rfl (Jg rfl rfl (Jq rfl (Jn ?_))))
    exact ⟨kS, rfl, H⟩
   case h2 =>
    (clear H; intro E47 w47 H)
    refine Jm ?_
    apply Xz 4 21 25 [(22, 25)] H
    case hc => rfl
    case h1 =>
     intro h64
     refine Jt rfl rfl (Jf 2 underlying58 rfl sizeOf3 rfl rfl (Jt rfl rfl (Jl isAgg3 rfl (H.get .here) rfl (Jt rfl rfl (J (Vb rfl rfl) (Jp rfl (Jn ?_)))))))
     exact ⟨kS, rfl, H⟩
    case h0 =>
     intro h64
     refine Jg rfl rfl (Jg rfl rfl (Jg rfl rfl (Jq rfl (Jn ?_))))
     exact ⟨kS, rfl, H⟩
    case h2 =>
     (clear H; intro E64 w64 H)
     refine Jm ?_
     apply Xz 4 26 30 [(27, 30)] H
     case hc => rfl
     case h1 =>
      intro h81
      refine Jt rfl rfl (Jf 2 underlying58 rfl sizeOf3 rfl rfl (Jt rfl rfl (Jl isAgg3 rfl (H.get .here) rfl (Jt rfl rfl (J (Mi rfl rfl) (Jp rfl (Jn ?_)))))))
      exact ⟨kS, rfl, H⟩
     case h0 =>
      intro h81
      refine Jg rfl rfl (Jg rfl rfl (Jg rfl rfl (Jq rfl (Jn ?_))))
      exact ⟨kS, rfl, H⟩
     case h2 =>
      (clear H; intro E81 w81 H)
      refine Jm ?_
      apply Xz 4 31 35 [(32, 35)] H
      case hc => rfl
      case h1 =>
       intro h98
       refine Jt rfl rfl (Jf 3 underlying58 rfl sizeOf3 rfl rfl (Jt rfl rfl (Jl isAgg3 rfl (H.get .here) rfl (Jt rfl rfl (J (Vb rfl rfl) (Jp rfl (Jn ?_)))))))
       exact ⟨kS, rfl, H⟩
      case h0 =>
       intro h98
       refine Jg rfl rfl (Jg rfl rfl (Jg rfl rfl (Jq rfl (Jn ?_))))
       exact ⟨kS, rfl, H⟩
      case h2 =>
       (clear H; intro E98 w98 H)
       refine Jm ?_
       apply Xz 4 36 40 [(37, 40)] H
       case hc => rfl
       case h1 =>
        intro h115
        refine Jt rfl rfl (Jf 3 underlying58 rfl sizeOf3 rfl rfl (Jt rfl rfl (Jl isAgg3 rfl (H.get .here) rfl (Jt rfl rfl (J (R_gt rfl rfl) (Jp rfl (Jn ?_)))))))
        exact ⟨kS, rfl, H⟩
       case h0 =>
        intro h115
        refine Jg rfl rfl (Jg rfl rfl (Jg rfl rfl (Jq rfl (Jn ?_))))
        exact ⟨kS, rfl, H⟩
       case h2 =>
        (clear H; intro E115 w115 H)
        refine Jn (Xo rfl (fun h132 => ?_) (fun h132 => ?_))
        ·refine Js (Jr (Ja (Jn (Je ?_))))
         exact ⟨_, rfl, congrArg Value.bool (decide_eq_false (fun h => by simp only [okP] at h; omega)).symm, H.none kYs⟩
        ·(refine Jk (Js (Js (Jr (Jf 4 underlying58 rfl sizeOf3 rfl rfl (Jl isAgg3 rfl (H.get .here) rfl (Jz rfl call235 rfl (bits_ret _ 0#64 _) H ?_)))))); intro w145 H)
         refine J (Zd rfl) (Jm ?_)
         apply Xz 5 45 50 [(46, 50)] H
         case hc => rfl
         case h1 =>
          intro h148
          (refine Jt rfl rfl (Jf 5 underlying58 rfl sizeOf3 rfl rfl (Jt rfl rfl (Jl isAgg3 rfl (H.get .here) rfl (Jt rfl rfl (Jz rfl call235 rfl (bits_ret _ 16896#64 _) H ?_))))); intro w154 H)
          refine Jt rfl rfl (J (Zd rfl) (Jp rfl (Jn ?_)))
          exact ⟨kS, rfl, H⟩
         case h0 =>
          intro h148
          refine Jg rfl rfl (Jg rfl rfl (Jg rfl rfl (Jg rfl rfl (Jq rfl (Jn ?_)))))
          exact ⟨kS, rfl, H⟩
         case h2 =>
          (clear H; intro E148 w148 H)
          refine Jm ?_
          apply Xz 5 51 56 [(52, 56)] H
          case hc => rfl
          case h1 =>
           intro h168
           (refine Jt rfl rfl (Jf 6 underlying58 rfl sizeOf3 rfl rfl (Jt rfl rfl (Jl isAgg3 rfl (H.get .here) rfl (Jt rfl rfl (Jz rfl call235 rfl (bits_ret _ 16896#64 _) H ?_))))); intro w174 H)
           refine Jt rfl rfl (J (Zd rfl) (Jp rfl (Jn ?_)))
           exact ⟨kS, rfl, H⟩
          case h0 =>
           intro h168
           refine Jg rfl rfl (Jg rfl rfl (Jg rfl rfl (Jg rfl rfl (Jq rfl (Jn ?_)))))
           exact ⟨kS, rfl, H⟩
          case h2 =>
           (clear H; intro E168 w168 H)
           refine Jm ?_
           apply Xz 5 57 62 [(58, 62)] H
           case hc => rfl
           case h1 =>
            intro h188
            (refine Jt rfl rfl (Jf 7 underlying58 rfl sizeOf3 rfl rfl (Jt rfl rfl (Jl isAgg3 rfl (H.get .here) rfl (Jt rfl rfl (Jz rfl call235 rfl (bits_ret _ 16896#64 _) H ?_))))); intro w194 H)
            refine Jt rfl rfl (J (Zd rfl) (Jp rfl (Jn ?_)))
            exact ⟨kS, rfl, H⟩
           case h0 =>
            intro h188
            refine Jg rfl rfl (Jg rfl rfl (Jg rfl rfl (Jg rfl rfl (Jq rfl (Jn ?_)))))
            exact ⟨kS, rfl, H⟩
           case h2 =>
            (clear H; intro E188 w188 H)
            refine Jm ?_
            apply Xz 7 63 70 [(64, 70)] H
            case hc => rfl
            case h1 =>
             intro h208
             refine Jt rfl rfl (Jf 6 underlying58 rfl sizeOf3 rfl rfl (Jt rfl rfl (Jl isAgg3 rfl (H.get .here) rfl (Jt rfl rfl (Jf 7 underlying58 rfl sizeOf3 rfl rfl (Jt rfl rfl (Jl isAgg3 rfl (H.get .here) rfl (Jt rfl rfl (J (Zb rfl rfl (by simp) (bv_and p.c p.d)) (Jt rfl rfl (J (Zu rfl rfl) (Jp rfl (Jn ?_)))))))))))))
             exact ⟨kS, rfl, H⟩
            case h0 =>
             intro h208
             refine Jg rfl rfl (Jg rfl rfl (Jg rfl rfl (Jg rfl rfl (Jg rfl rfl (Jg rfl rfl (Jq rfl (Jn ?_)))))))
             exact ⟨kS, rfl, H⟩
            case h2 =>
             (clear H; intro E208 w208 H)
             refine Jn (Xo rfl (fun h234 => ?_) (fun h234 => ?_))
             ·refine Js (Jr (Ja (Jn (Je ?_))))
              exact ⟨_, rfl, congrArg Value.bool (decide_eq_false (fun h => by have h2 := h.2.1; simp_all [De])).symm, H.none kYs⟩
             ·(refine Jk (Js (Js (Jr (Jf 8 underlying58 rfl sizeOf56 rfl rfl (J (R_all underlying56 sizeOf3 rfl (by decide)) (Jz rfl call75 rfl (Da (xs := p.f) (RdS.blk (c := piC p) (off := 8) (H.get .here) (hfd p) (by rw [Ya]; decide) (by decide)) (by rw [p.hf]; decide)) H ?_)))))); intro w247 H)
              refine Jn (Xo rfl (fun h249 => ?_) (fun h249 => ?_))
              ·refine Js (Jr (Ja (Jn (Je ?_))))
               exact ⟨_, rfl, congrArg Value.bool (decide_eq_false (fun h => by obtain ⟨x, hx, hn⟩ := ‹∃ x ∈ p.f, _›; have := h.2.2.1 x hx; omega)).symm, H.none kYs⟩
              ·refine Jk (Js (Js (Jr (Jf 0 underlying58 rfl sizeOf3 rfl rfl (Jl isAgg3 rfl (H.get .here) rfl (J (Yk rfl rfl) (Jn (Xo rfl (fun h264 => ?_) (fun h264 => ?_)))))))))
               ·refine Js (Jr (Jf 4 underlying58 rfl sizeOf3 rfl rfl (Jl isAgg3 rfl (H.get .here) rfl (J (Yk rfl rfl) (Jm ?_)))))
                apply Xs 5 80 85 [(81, 85)] H
                case hc => rfl
                case h1 =>
                 intro h271
                 refine Jt rfl rfl (Jf 8 underlying58 rfl sizeOf56 rfl rfl (Jt rfl rfl (J (Qo (vs := p.f.map fun x => I x) isAgg56 sizeOf56 rfl (H.get .here) (hfd p) (by rw [Ya]; decide)) (Jt rfl rfl (J (R_zeroArr (zs := (List.replicate 8 0).map fun x => I x) underlying56 typeInfo56 ⟨_, Vv typeInfo3 default⟩ rfl rfl) (Jt rfl rfl (J (R_eq_fds p.hf hz8 rfl rfl) (Jq rfl (Jn ?_)))))))))
                 exact ⟨kS, rfl, H⟩
                case h0 =>
                 intro h271
                 refine Jg rfl rfl (Jg rfl rfl (Jg rfl rfl (Jg rfl rfl (Jp rfl (Jn ?_)))))
                 exact ⟨kS, rfl, H⟩
                case h2 =>
                 (clear H; intro E271 w271 H)
                 refine Ja (Jn (Je ?_))
                 exact ⟨_, rfl, congrArg Value.bool (decide_eq_decide.2 ⟨fun h => ⟨by omega, mid_of (by assumption), fun x hx => Classical.byContradiction fun hn => ‹¬ ∃ x ∈ p.f, _› ⟨x, hx, by omega⟩, .inl ⟨by omega, De.1 h.1, h.2⟩⟩, fun h => by rcases h.2.2.2 with ⟨_, h1, h2⟩ | ⟨h1, _⟩; exact ⟨De.2 h1, h2⟩; exact (h1 (by omega)).elim⟩), H.none kYs⟩
               ·refine Jk (Js (Jr (Jf 3 underlying58 rfl sizeOf3 rfl rfl (Jl isAgg3 rfl (H.get .here) rfl (J (Yk rfl rfl) (Ja (Jn (Je ?_))))))))
                exact ⟨_, rfl, congrArg Value.bool (decide_eq_decide.2 ⟨fun h => ⟨by omega, mid_of (by assumption), fun x hx => Classical.byContradiction fun hn => ‹¬ ∃ x ∈ p.f, _› ⟨x, hx, by omega⟩, .inr ⟨by omega, h⟩⟩, fun h => by rcases h.2.2.2 with ⟨h1, _⟩ | ⟨_, h1⟩; exact (‹¬ p.s = 2› h1).elim; exact h1⟩), H.none kYs⟩
end Go.Proofs.YtlpmfldijgdcoaaGreatDoor.Slot

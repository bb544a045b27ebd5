/-
  The law SectComes.
-/
import Derived.Test.YtaclingiedmpbaaSectI
import Derived.Test.YtaclingiedmpbaaSectF
namespace Go.Proofs.Ytaclingiedmpbaa.Sect
open Go Go.Proofs Go.Proofs.Ytaclingiedmpbaa.Fx
set_option maxRecDepth 100000
set_option linter.unusedVariables false
set_option linter.unusedSimpArgs false
set_option maxHeartbeats 1000000

/-- numbers below eight, each once -/
def Qs (q : List Int) : Prop := q.Nodup ∧ ∀ x ∈ q, 0 ≤ x ∧ x ≤ 7
theorem Qs.nil : Qs [] := ⟨List.nodup_nil, fun _ h => by cases h⟩
theorem Qs.sub {q r : List Int} (h : Qs q) (hs : r.Sublist q) : Qs r := ⟨h.1.sublist hs, fun x hx => h.2 x (hs.subset hx)⟩
theorem Qs.tail {q : List Int} (h : Qs q) : Qs q.tail := h.sub (List.tail_sublist q)
theorem Qs.app {q : List Int} {x : Int} (h : Qs q) (hx : ¬ x ∈ q) (h0 : 0 ≤ x) (h1 : x ≤ 7) : Qs (q ++ [x]) := by
  refine ⟨List.nodup_append.2 ⟨h.1, by simp, fun a ha b hb => ?_⟩, fun y hy => ?_⟩
  · rw [List.mem_singleton.1 hb]; rintro rfl; exact hx ha
  · rcases List.mem_append.1 hy with hy | hy
    · exact h.2 y hy
    · rw [List.mem_singleton.1 hy]; exact ⟨h0, h1⟩
theorem rm_sub (q : List Int) (x : Int) : (rm q x).Sublist q := by
  induction q with
  | nil => exact .slnil
  | cons y ys ih =>
    unfold rm
    split
    · exact List.sublist_cons_self _ _
    · exact ih.cons_cons _
theorem nodup_len {n : Nat} : ∀ {q : List Int}, q.Nodup → (∀ x ∈ q, 0 ≤ x ∧ x < n) → q.length ≤ n := by
  induction n with
  | zero =>
    intro q _ h
    cases q with
    | nil => simp
    | cons a t => have := h a (by simp); omega
  | succ n ih =>
    intro q hn h
    by_cases hm : (n : Int) ∈ q
    · have h1 := ih (q := q.erase n) (hn.erase _) (fun x hx => by
        rw [hn.mem_erase_iff] at hx
        have := h x hx.2
        have := hx.1
        omega)
      rw [List.length_erase_of_mem hm] at h1
      omega
    · have := ih hn (fun x hx => by
        have := h x hx
        have : x ≠ n := fun e => hm (e ▸ hx)
        omega)
      omega
theorem Qs.len {q : List Int} (h : Qs q) : q.length ≤ 8 := nodup_len h.1 (fun x hx => by have := h.2 x hx; omega)

theorem en_q {s : Sx} {who now : Int} (h : Qs s.q) (h0 : 0 ≤ who) (h1 : who ≤ 7) : Qs (enter s who now).1.q ∧ (enter s who now).1.lease = s.lease := by
  unfold enter
  split
  · exact ⟨h, rfl⟩
  · generalize max now s.last = n
    unfold enterA
    split
    · exact ⟨h, rfl⟩
    · have h2 : Qs (en2 { s with last := n } who n).q := by
        unfold en2
        split
        · exact h
        · rename_i hm
          split <;> exact h.app hm h0 h1
      have l2 := (en2_facts { s with last := n } who n).2.1
      obtain ⟨a1, a2, _⟩ := en3_facts (en2 { s with last := n } who n) n
      rw [← a1] at h2
      rw [l2] at a2
      generalize en3 (en2 { s with last := n } who n) n = s3 at *
      have h4 : Qs (en4 s3 who n).q := by
        unfold en4; split
        · exact h2.tail
        · exact h2
      have l4 : (en4 s3 who n).lease = s3.lease := by unfold en4; split <;> rfl
      unfold enterB
      split
      · split <;> exact ⟨h2, a2⟩
      · split
        · exact ⟨h4.tail, l4.trans a2⟩
        · exact ⟨h4, l4.trans a2⟩
theorem quit_q {s : Sx} {who : Int} (h : Qs s.q) : Qs (quitSx s who).q ∧ (quitSx s who).lease = s.lease := by
  have h1 : (quitA s who).lease = s.lease := by unfold quitA; split <;> rfl
  refine ⟨?_, ?_⟩
  · rw [quitSx, quitB_q, quitA_q]; exact h.sub (rm_sub _ _)
  · rw [← h1]; unfold quitSx quitB; split <;> rfl
theorem Bk.quit {s : Sx} {T who : Int} {k : Nat} (h : Bk s T k) : Bk (quitSx s who) T k := by
  have hA : Bk (quitA s who) T k := by
    unfold quitA
    split
    · obtain ⟨a, b, c, d, e, f, g, i, j, l, m⟩ := h
      exact ⟨a, b, c, d, g, i, g, i, j, l, m⟩
    · exact h
  have hl := (rm_sub (quitA s who).q who).length_le
  obtain ⟨a, b, c, d, e, f, g, i, j, l, m⟩ := hA
  unfold quitSx quitB
  split
  · exact ⟨a, b, c, d, g, i, g, i, j, l, by show (rm _ _).length ≤ _; omega⟩
  · exact ⟨a, b, c, d, e, f, g, i, j, l, by show (rm _ _).length ≤ _; omega⟩

/-- behind who asked i times, and was not let in -/
def Wt (s : Sx) (w : Int) (i : Nat) : Prop := i = 0 ∨ (s.held = false ∧ ∃ pre suf, s.q = pre ++ w :: suf ∧ 1 ≤ pre.length ∧ pre.length + i ≤ 8)
theorem Wt.lt {s : Sx} {w : Int} {i : Nat} (h : Wt s w i) : i ≤ 7 := by
  rcases h with rfl | ⟨_, pre, suf, _, h1, h2⟩ <;> omega

/-- what stands at the head is passed by, or stays -/
theorem en4_pos {s : Sx} {w n : Int} {pre suf : List Int} (hq : s.q = pre ++ w :: suf) (hn : s.q.Nodup) :
    ∃ pre', (en4 s w n).q = pre' ++ w :: suf ∧ pre'.length ≤ pre.length ∧ (s.lease ≤ n - s.first → 1 ≤ pre.length → pre'.length + 1 ≤ pre.length) ∧ (en4 s w n).stamps = s.stamps ∧ (en4 s w n).held = s.held := by
  unfold en4
  cases pre with
  | nil =>
    rw [if_neg (fun h => h.1 (by rw [hq]; rfl))]
    exact ⟨[], hq, Nat.le_refl _, fun _ h => by simp at h, rfl, rfl⟩
  | cons a pre =>
    have ha : s.q.head? ≠ some w := by
      rw [hq]
      intro e
      cases e
      rw [hq] at hn
      simp at hn
    by_cases h : s.lease ≤ n - s.first
    · rw [if_pos ⟨ha, h⟩]
      exact ⟨pre, by show s.q.tail = _; rw [hq]; rfl, by simp, fun _ _ => by simp, rfl, rfl⟩
    · rw [if_neg (fun h' => h h'.2)]
      exact ⟨a :: pre, hq, Nat.le_refl _, fun h' => absurd h' h, rfl, rfl⟩

theorem enterB_pos {s : Sx} {w n : Int} {pre suf : List Int} (hh : s.held = false) (hq : s.q = pre ++ w :: suf) (hn : s.q.Nodup) :
    (∃ s' st, enterB s w n = (s', st, true) ∧ s'.held = true ∧ s'.who = w ∧ s'.stamp = st) ∨
    (∃ s' pre', enterB s w n = (s', 0, false) ∧ s'.held = false ∧ s'.q = pre' ++ w :: suf ∧ 1 ≤ pre'.length ∧ pre'.length ≤ pre.length ∧ (s.lease ≤ n - s.first → 1 ≤ pre.length → pre'.length + 1 ≤ pre.length)) := by
  obtain ⟨pre', h1, h2, h3, h4, h5⟩ := en4_pos (n := n) hq hn
  unfold enterB
  rw [if_neg (by rw [hh]; decide)]
  by_cases h : (en4 s w n).q.head? = some w
  · rw [if_pos h]
    exact .inl ⟨_, _, rfl, rfl, rfl, rfl⟩
  · rw [if_neg h]
    refine .inr ⟨_, pre', rfl, h5.trans hh, h1, ?_, h2, h3⟩
    rcases pre' with _ | ⟨a, pre'⟩
    · exact absurd (by rw [h1]; rfl) h
    · simp

theorem wt_step {s : Sx} {w T n L : Int} {k i : Nat} (hB : Bk s T k) (hQ : Qs s.q) (hl : s.lease = L) (hw0 : 0 ≤ w) (hw1 : w ≤ 7) (hn : T + L = n) (h : Wt s w i) :
    (∃ s' st, enter s w n = (s', st, true) ∧ decide (s'.held = true ∧ s'.who = w ∧ s'.stamp = st) = true) ∨
    (∃ s', enter s w n = (s', 0, false) ∧ Wt s' w (i + 1)) := by
  have hx : max n s.last = n := by have := hB.last1; have := hB.l0; omega
  unfold enter
  rw [if_neg (by omega), hx]
  unfold enterA
  by_cases ho : s.held = true ∧ s.who = w
  · rw [if_pos (show ({ s with last := n } : Sx).held = true ∧ ({ s with last := n } : Sx).who = w from ho)]
    exact .inl ⟨_, _, rfl, decide_eq_true ⟨ho.1, ho.2, rfl⟩⟩
  · rw [if_neg (show ¬ (({ s with last := n } : Sx).held = true ∧ ({ s with last := n } : Sx).who = w) from ho)]
    have h2 : Qs (en2 { s with last := n } w n).q := by
      unfold en2
      split
      · exact hQ
      · rename_i hm
        split <;> exact hQ.app hm hw0 hw1
    obtain ⟨f1, f2, f3, f4, f5⟩ := en2_facts { s with last := n } w n
    have f6 : (en2 { s with last := n } w n).held = s.held := by unfold en2; split <;> (try split) <;> rfl
    have f7 : w ∈ s.q → en2 { s with last := n } w n = { s with last := n } := fun hm => if_pos hm
    generalize en2 { s with last := n } w n = s2 at *
    obtain ⟨g1, g2, g3, g4, g5⟩ := en3_facts s2 n
    have g6 : (en3 s2 n).held = false := by
      unfold en3
      split
      · rfl
      · rename_i hne
        cases hs : s2.held with
        | false => rfl
        | true =>
          refine absurd ⟨hs, ?_⟩ hne
          have := hB.since1
          have e1 : s2.lease = s.lease := f2
          have e2 : s2.since = s.since := f3
          omega
    have g7 : s2.held = false → en3 s2 n = s2 := fun hs => if_neg (fun h' => by rw [hs] at h'; cases h'.1)
    obtain ⟨pre, suf, hps⟩ := List.append_of_mem f1
    have hlen := h2.len
    rw [hps] at hlen
    simp only [List.length_append, List.length_cons] at hlen
    rcases h with rfl | ⟨hh, pre0, suf0, hq0, hp0, hp1⟩
    · rcases enterB_pos (n := n) g6 (g1.trans hps) (by rw [g1]; exact h2.1) with ⟨s', st, he, a, b, c⟩ | ⟨s', pre', he, a, b, c, d, _⟩
      · exact .inl ⟨s', st, he, decide_eq_true ⟨a, b, c⟩⟩
      · exact .inr ⟨s', he, .inr ⟨a, pre', suf, b, c, by omega⟩⟩
    · have e2 := f7 (by rw [hq0]; simp)
      subst e2
      have e3 := g7 hh
      rw [e3] at g6 ⊢
      rcases enterB_pos (s := { s with last := n }) (n := n) hh hq0 hQ.1 with ⟨s', st, he, a, b, c⟩ | ⟨s', pre', he, a, b, c, d, e⟩
      · exact .inl ⟨s', st, he, decide_eq_true ⟨a, b, c⟩⟩
      · have := e (by show s.lease ≤ n - s.first; have := hB.first1; omega) hp0
        exact .inr ⟨s', he, .inr ⟨a, pre', suf0, b, c, by omega⟩⟩

section
variable {w : World} {p : Nat}
theorem comes_ret {xs : List SOp} {l : Value} (a c : Int) (hl : RdR opC w l xs) (hb : xs.length ≤ 9223372036854775807) :
    Ret Try.prog 7 #[I a, l, I c] w fun v w' => v = .bool true ∧ Hp w [] w' := by
  refine Ret_of_W (args := [_, _, _]) Try.func7 rfl Try.ntmps7 Try.results7 (by simp) ?_
  have H := Hp.refl w
  have hQ := OwnQ.nil w.heap.size 3
  obtain ⟨ao, ca, rfl⟩ := hl.form
  obtain ⟨L, hL, hL1, hL2⟩ : ∃ L : Int, a % 16 + 1 = L ∧ 1 ≤ L ∧ L ≤ 16 := ⟨_, rfl, by omega, by omega⟩
  obtain ⟨v, hv, hv0, hv7⟩ : ∃ v : Int, c % 8 = v ∧ 0 ≤ v ∧ v ≤ 7 := ⟨_, rfl, by omega, by omega⟩
  refine W_seq ?_
  refine W_region_l ?_
  refine WL_stepM rfl (R_as) ?_
  refine WL_nil ?_
  refine W_seq ?_
  refine W_region_l ?_
  refine WL_stepM rfl (R_mv) ?_
  refine WL_step rfl (R_bits rfl rfl (by simp) (and_mask_i64 4 16 (by decide) rfl (by decide))) ?_
  refine WL_step rfl (R_add rfl rfl (w_i64 (by omega))) ?_
  refine WL_stepM rfl (R_as) ?_
  refine WL_nil ?_
  refine W_seq ?_
  (rw [hL]) <;> refine W_region_l ?_
  refine WL_stepM rfl (R_mv) ?_
  (refine WL_call rfl (R_call rfl Try.call14 rfl) (new_ret L _) ?_; clear H; rintro _ w15 ⟨p, rfl, hp, H⟩)
  refine WL_stepM rfl (R_as) ?_
  refine WL_nil ?_
  refine W_seq ?_
  refine W_seq ?_
  refine W_region_l ?_
  refine WL_stepM rfl (R_mv) ?_
  refine WL_step rfl (R_eq_ptr_nil Try.underlying23 rfl rfl) ?_
  refine WL_nil ?_
  refine W_cond_f rfl ?_
  refine W_skip ?_
  refine W_seq ?_
  refine W_region_l ?_
  refine WL_stepM rfl (R_mv) ?_
  refine WL_step rfl (R_bits rfl rfl (by simp) (and_mask_i64 3 8 (by decide) rfl (by decide))) ?_
  refine WL_stepM rfl (R_as) ?_
  refine WL_nil ?_
  refine W_seq ?_
  (rw [hv]) <;> refine W_region_l ?_
  refine WL_stepM rfl (R_as) ?_
  refine WL_nil ?_
  refine W_seq ?_
  refine W_seq ?_
  refine W_region_l ?_
  refine WL_stepM rfl (R_as) ?_
  refine WL_nil ?_
  refine W_block ?_
  refine W_loopS [(8, 9), (22, 62)] (fun (k : Nat) E w' => ∃ (n : Int) (s : Sx) (qv : Value) (M : List (Nat × Obj)), k ≤ xs.length ∧ k ≤ 80 ∧ E 8 = I n ∧ E 9 = I k ∧ Bk s n k ∧ Qs s.q ∧ s.lease = L ∧ 0 ≤ n ∧ n ≤ 7 * k ∧ OwnQ w.heap.size 3 qv (s.q.map I) M ∧ Hp w (M ++ ((p, blk (sxC s qv) 64) :: [])) w') (fun k => 80 - k) 0 ?e0 ?r0
  · exact ⟨0, newSx L, _, _, by omega, by omega, rfl, rfl, Bk.new L, Qs.nil, (by rw [newSx_ok hL1 (by omega)]), by omega, by omega, hQ, H⟩
  · (clear H hQ; rintro k E w1 ⟨n, s, qv, M, hk, hk2, h0, h1, hB, hS, hsl, hn0, hn1, hQ, H⟩; refine W_kn2 h0 h1 ?_)
    refine W_seq ?_
    refine W_seq ?_
    refine W_region_l ?_
    refine WL_stepM rfl (R_mv) ?_
    refine WL_stepM rfl (R_mv) ?_
    refine WL_step rfl (R_len_slice Try.underlying32 rfl) ?_
    refine WL_step rfl (R_lt rfl rfl) ?_
    refine WL_stepM rfl (R_mv) ?_
    apply WL_andK 3 26 29 [(27, 29)] H
    case hc => rfl
    case h1 =>
      intro h52
      refine WL_guard_t rfl rfl ?_
      refine WL_stepM rfl (R_mv) ?_
      refine WL_guard_t rfl rfl ?_
      refine WL_step rfl (R_lt rfl rfl) ?_
      refine WL_stepM rfl (R_pk_t rfl) ?_
      refine WL_nil ?_
      exact ⟨(by repeat' first | with_reducible exact Same.refl | refine same_updo rfl ?_ | refine same_mov rfl ?_ | refine same_upd rfl ?_ | refine same_updn ?_ | refine same_know rfl ?_ | exact same_ovr | refine same_in rfl ?_ | exact Same.refl), rfl, H⟩
    case h0 =>
      intro h52
      refine WL_guard_f rfl rfl (by decide) ?_
      refine WL_guard_f rfl rfl (by decide) ?_
      refine WL_stepM rfl (R_pk_f rfl) ?_
      refine WL_nil ?_
      exact ⟨(by repeat' first | with_reducible exact Same.refl | refine same_updo rfl ?_ | refine same_mov rfl ?_ | refine same_upd rfl ?_ | refine same_updn ?_ | refine same_know rfl ?_ | exact same_ovr | refine same_in rfl ?_ | exact Same.refl), rfl, H⟩
    case h2 =>
      (clear H; intro E52 w52 H)
      refine WL_nil ?_
      refine W_if rfl (fun h66 => ?_) (fun h66 => ?_)
      · refine W_skip ?_
        refine W_seq ?_
        refine W_block ?_
        refine W_seq ?_
        (obtain ⟨⟨oa, ob, oc, od⟩, ho⟩ : ∃ o, xs[k]? = some o := ⟨_, List.getElem?_eq_getElem (by omega)⟩; obtain ⟨b1, o1, rfl, hc⟩ := hl.cell opC_len ho; obtain ⟨m, hm, hm0, hm1⟩ : ∃ m : Int, n + od % 8 = m ∧ n ≤ m ∧ m ≤ n + 7 := ⟨_, rfl, by omega, by omega⟩) <;> refine W_region_l ?_
        refine WL_stepM rfl (R_mv) ?_
        refine WL_stepM rfl (R_mv) ?_
        refine WL_stepM rfl (R_mv) ?_
        refine WL_step rfl (R_indexAddr Try.underlying32 Try.sizeOf35 rfl rfl (by omega) (by omega) idx_castn) ?_
        refine WL_step rfl (R_fieldAddr (off' := _ + 3) Try.underlying35 rfl Try.sizeOf3 (by decide) rfl rfl) ?_
        refine WL_step rfl (R_load_cell Try.isAgg3 rfl (H.cellN (hc 3 (I od) rfl) (kApp hQ.keys (kCons hp kNil)))) ?_
        refine WL_step rfl (R_bits rfl rfl (by simp) (and_mask_i64 3 8 (by decide) rfl (by decide))) ?_
        refine WL_step rfl (R_add rfl rfl (w_i64 (by omega))) ?_
        refine WL_stepM rfl (R_as) ?_
        refine WL_nil ?_
        refine W_seq ?_
        (rw [hm]) <;> refine W_region_l ?_
        refine WL_stepM rfl (R_mv) ?_
        refine WL_stepM rfl (R_mv) ?_
        refine WL_step rfl (R_indexAddr Try.underlying32 Try.sizeOf35 rfl rfl (by omega) (by omega) idx_castn) ?_
        refine WL_step rfl (R_fieldAddr Try.underlying35 rfl Try.sizeOf3 (by decide) rfl rfl) ?_
        refine WL_step rfl (R_load_cell Try.isAgg3 rfl (H.cellN (hc 0 (I oa) rfl) (kApp hQ.keys (kCons hp kNil)))) ?_
        refine WL_step rfl (R_lt rfl rfl) ?_
        refine WL_nil ?_
        refine W_if rfl (fun h91 => ?_) (fun h91 => ?_)
        · refine W_region_l ?_
          refine WL_stepM rfl (R_mv) ?_
          refine WL_stepM rfl (R_mv) ?_
          refine WL_stepM rfl (R_mv) ?_
          refine WL_step rfl (R_indexAddr Try.underlying32 Try.sizeOf35 rfl rfl (by omega) (by omega) idx_castn) ?_
          refine WL_step rfl (R_fieldAddr (off' := _ + 1) Try.underlying35 rfl Try.sizeOf3 (by decide) rfl rfl) ?_
          refine WL_step rfl (R_load_cell Try.isAgg3 rfl (H.cellN (hc 1 (I ob) rfl) (kApp hQ.keys (kCons hp kNil)))) ?_
          refine WL_step rfl (R_bits rfl rfl (by simp) (and_mask_i64 3 8 (by decide) rfl (by decide))) ?_
          refine WL_stepM rfl (R_mv) ?_
          (have hwt : ob = ob := rfl; have hB1 := (hB.mono hm0 (Nat.le_refl _)).enter (who := ob % 8) (now := m) (by omega) (Int.le_refl _); have hS1 := en_q (now := m) hS (show 0 ≤ ob % 8 by omega) (by omega); refine WL_call rfl (R_call rfl Try.call15 rfl) (enter_ret (R := []) (T := m) (ob % 8) m hQ H ((hB.mono hm0 (Nat.le_refl _)).bd (by omega)) (by omega) (by omega)) ?_; clear H hQ; rintro _ w101 ⟨q1, M1, rfl, hQ, H⟩)
          refine WL_nil ?_
          refine W_region_l ?_
          refine WL_stepM rfl (R_mv) ?_
          refine WL_step rfl (R_add rfl rfl (w_i64 (by omega))) ?_
          refine WL_stepM rfl (R_as) ?_
          refine WL_nil ?_
          exact ⟨(by repeat' first | with_reducible exact Same.refl | refine same_updo rfl ?_ | refine same_mov rfl ?_ | refine same_upd rfl ?_ | refine same_updn ?_ | refine same_know rfl ?_ | exact same_ovr | refine same_in rfl ?_ | exact Same.refl), k + 1, by omega, m, (enter s (ob % 8) m).1, _, _, by omega, by omega, rfl, rfl, hB1, hS1.1, hS1.2.trans hsl, by omega, by omega, hQ, H⟩
        · refine W_region_l ?_
          refine WL_stepM rfl (R_mv) ?_
          refine WL_stepM rfl (R_mv) ?_
          refine WL_stepM rfl (R_mv) ?_
          refine WL_step rfl (R_indexAddr Try.underlying32 Try.sizeOf35 rfl rfl (by omega) (by omega) idx_castn) ?_
          refine WL_step rfl (R_fieldAddr (off' := _ + 1) Try.underlying35 rfl Try.sizeOf3 (by decide) rfl rfl) ?_
          refine WL_step rfl (R_load_cell Try.isAgg3 rfl (H.cellN (hc 1 (I ob) rfl) (kApp hQ.keys (kCons hp kNil)))) ?_
          refine WL_step rfl (R_bits rfl rfl (by simp) (and_mask_i64 3 8 (by decide) rfl (by decide))) ?_
          (have hB2 := ((hB.mono hm0 (Nat.le_succ _)).quit (who := ob % 8)); have hS2 := quit_q (who := ob % 8) hS; have hlq := hS.len; refine WL_call rfl (R_call rfl Try.call20 rfl) (quit_ret (R := []) (ob % 8) hQ H (by omega)) ?_; clear H hQ; rintro _ w117 ⟨q1, M1, hQ, H⟩)
          refine WL_nil ?_
          refine W_region_l ?_
          refine WL_stepM rfl (R_mv) ?_
          refine WL_step rfl (R_add rfl rfl (w_i64 (by omega))) ?_
          refine WL_stepM rfl (R_as) ?_
          refine WL_nil ?_
          exact ⟨(by repeat' first | with_reducible exact Same.refl | refine same_updo rfl ?_ | refine same_mov rfl ?_ | refine same_upd rfl ?_ | refine same_updn ?_ | refine same_know rfl ?_ | exact same_ovr | refine same_in rfl ?_ | exact Same.refl), k + 1, by omega, m, quitSx s (ob % 8), _, _, by omega, by omega, rfl, rfl, hB2, hS2.1, hS2.2.trans hsl, by omega, by omega, hQ, H⟩
      · refine W_exit ?_
        refine (if_pos rfl).mpr ?_
        refine W_seq ?_
        refine W_seq ?_
        refine W_region_l ?_
        refine WL_stepM rfl (R_as) ?_
        refine WL_nil ?_
        refine W_block ?_
        refine W_loopS [(6, 6), (8, 8), (10, 12), (63, 84)] (fun (i : Nat) E w' => ∃ (n : Int) (s : Sx) (qv : Value) (M : List (Nat × Obj)), i ≤ 10 ∧ E 8 = I n ∧ E 10 = I i ∧ Bk s n (80 + i) ∧ Qs s.q ∧ s.lease = L ∧ 0 ≤ n ∧ n ≤ 560 + 16 * i ∧ Wt s v i ∧ OwnQ w.heap.size 3 qv (s.q.map I) M ∧ Hp w (M ++ ((p, blk (sxC s qv) 64) :: [])) w') (fun i => 10 - i) 0 ?e2 ?r2
        · exact ⟨n, s, _, _, by omega, rfl, rfl, hB.mono (Int.le_refl _) (by omega), hS, hsl, by omega, by omega, .inl rfl, hQ, H⟩
        · (clear H hQ hB hS hsl hn0 hn1; rintro i E w1 ⟨n, s, qv, M, hi, h2, h3, hB, hS, hsl, hn0, hn1, hW, hQ, H⟩; have hi7 := hW.lt; refine W_kn2 h2 h3 ?_)
          refine W_seq ?_
          refine W_seq ?_
          refine W_region_l ?_
          refine WL_stepM rfl (R_mv) ?_
          refine WL_step rfl (R_lt_t rfl rfl (by omega)) ?_
          refine WL_nil ?_
          refine W_cond_t rfl ?_
          refine W_skip ?_
          refine W_seq ?_
          refine W_block ?_
          refine W_seq ?_
          refine W_region_l ?_
          refine WL_stepM rfl (R_mv) ?_
          refine WL_stepM rfl (R_mv) ?_
          refine WL_step rfl (R_add rfl rfl (w_i64 (by omega))) ?_
          refine WL_stepM rfl (R_as) ?_
          refine WL_nil ?_
          refine W_seq ?_
          ((obtain ⟨m, hm, hm0⟩ : ∃ m : Int, n + L = m ∧ n ≤ m := ⟨_, rfl, by omega⟩; rw [hm]; have hB1 := (hB.mono hm0 (Nat.le_refl _)).enter (who := v) (now := m) (by omega) (Int.le_refl _); have hS1 := en_q (now := m) hS hv0 hv7; rcases wt_step hB hS hsl hv0 hv7 hm hW with ⟨s', st, he, hd⟩ | ⟨s', he, hW'⟩ <;> rw [he] at hB1 hS1)) <;> refine W_region_l ?_
          · refine WL_stepM rfl (R_mv) ?_
            refine WL_stepM rfl (R_mv) ?_
            refine WL_stepM rfl (R_mv) ?_
            (refine WL_call rfl (R_call rfl Try.call15 rfl) (enter_to (R := []) (T := m) _ _ he hQ H ((hB.mono hm0 (Nat.le_refl _)).bd (by omega)) (by omega) (by omega)) ?_; clear H hQ; rintro _ w157 ⟨q1, M1, rfl, hQ, H⟩)
            refine WL_stepM rfl (R_mv) ?_
            refine WL_step rfl (R_extract rfl rfl) ?_
            refine WL_step rfl (R_extract rfl rfl) ?_
            refine WL_stepM rfl (R_as) ?_
            refine WL_stepM rfl (R_as) ?_
            refine WL_nil ?_
            refine W_seq ?_
            refine W_region_l ?_
            refine WL_stepM rfl (R_mv) ?_
            refine WL_nil ?_
            refine W_cond_t rfl ?_
            refine W_seq ?_
            refine W_region_l ?_
            refine WL_stepM rfl (R_mv) ?_
            refine WL_stepM rfl (R_mv) ?_
            refine WL_stepM rfl (R_mv) ?_
            (refine WL_call rfl (R_call rfl Try.call16 rfl) (holds_to _ _ (b := true) hd H) ?_; clear H; rintro _ w174 ⟨rfl, H⟩)
            refine WL_stepM rfl (R_mv) ?_
            refine WL_guard_t rfl rfl ?_
            (refine WL_call rfl (R_call rfl Try.call18 rfl) (awake_ret _) ?_; rintro _ w177 ⟨rfl, H1⟩; replace H := H.seq0 H1; clear H1)
            refine WL_stepM rfl (R_pk_t rfl) ?_
            refine WL_stepM rfl (R_as) ?_
            refine WL_nil ?_
            refine W_ret ?_
            exact ⟨_, rfl, rfl, H.none (kApp hQ.keys (kCons hp kNil))⟩
          · refine WL_stepM rfl (R_mv) ?_
            refine WL_stepM rfl (R_mv) ?_
            refine WL_stepM rfl (R_mv) ?_
            (refine WL_call rfl (R_call rfl Try.call15 rfl) (enter_to (R := []) (T := m) _ _ he hQ H ((hB.mono hm0 (Nat.le_refl _)).bd (by omega)) (by omega) (by omega)) ?_; clear H hQ; rintro _ w186 ⟨q1, M1, rfl, hQ, H⟩)
            refine WL_stepM rfl (R_mv) ?_
            refine WL_step rfl (R_extract rfl rfl) ?_
            refine WL_step rfl (R_extract rfl rfl) ?_
            refine WL_stepM rfl (R_as) ?_
            refine WL_stepM rfl (R_as) ?_
            refine WL_nil ?_
            refine W_seq ?_
            refine W_region_l ?_
            refine WL_stepM rfl (R_mv) ?_
            refine WL_nil ?_
            refine W_cond_f rfl ?_
            refine W_skip ?_
            refine W_region_l ?_
            refine WL_stepM rfl (R_mv) ?_
            refine WL_step rfl (R_add rfl rfl (w_i64 (by omega))) ?_
            refine WL_stepM rfl (R_as) ?_
            refine WL_nil ?_
            exact ⟨(by repeat' first | with_reducible exact Same.refl | refine same_updo rfl ?_ | refine same_mov rfl ?_ | refine same_upd rfl ?_ | refine same_updn ?_ | refine same_know rfl ?_ | exact same_ovr | refine same_in rfl ?_ | exact Same.refl), i + 1, by omega, m, s', _, _, by omega, rfl, rfl, hB1, hS1.1, hS1.2.trans hsl, by omega, by omega, hW', hQ, H⟩
end
end Go.Proofs.Ytaclingiedmpbaa.Sect

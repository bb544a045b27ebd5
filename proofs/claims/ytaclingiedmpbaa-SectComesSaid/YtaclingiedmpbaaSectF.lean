/-
  The law SectOne.
-/
import Derived.Test.YtaclingiedmpbaaSectD
namespace Go.Proofs.Ytaclingiedmpbaa.Sect
open Go Go.Proofs Go.Proofs.Ytaclingiedmpbaa.Fx
set_option maxRecDepth 100000
set_option linter.unusedVariables false
set_option linter.unusedSimpArgs false
set_option maxHeartbeats 1000000

/-- a call -/
structure SOp where
  kind : Int
  who : Int
  stamp : Int
  ticks : Int
def opC (o : SOp) : List Value := [I o.kind, I o.who, I o.stamp, I o.ticks]
theorem opC_len (o : SOp) : (opC o).length = 4 := rfl

theorem enter_cases (s : Sx) {who now : Int} (h0 : 0 ≤ who) (h1 : who ≤ 99) :
    (∃ s', enter s who now = (s', s.stamp, true) ∧ s.held = true ∧ s.who = who ∧ s'.held = true ∧ s'.who = who ∧ s'.stamp = s.stamp ∧ s'.stamps = s.stamps) ∨
    (∃ s', enter s who now = (s', s.stamps + 1, true) ∧ s'.held = true ∧ s'.who = who ∧ s'.stamp = s.stamps + 1 ∧ s'.stamps = s.stamps + 1) ∨
    (∃ s', enter s who now = (s', 0, false) ∧ s'.stamps = s.stamps ∧ (s'.held = true → s.held = true ∧ s'.who = s.who ∧ s'.stamp = s.stamp)) := by
  have hw : ¬ (who < 0 ∨ 99 < who) := by omega
  unfold enter
  rw [if_neg hw]
  generalize max now s.last = n
  unfold enterA
  split
  · rename_i h
    exact .inl ⟨_, rfl, h.1, h.2, h.1, h.2, rfl, rfl⟩
  · have e2 : ∀ s : Sx, (en2 s who n).held = s.held ∧ (en2 s who n).who = s.who ∧ (en2 s who n).stamp = s.stamp ∧ (en2 s who n).stamps = s.stamps := by
      intro s; unfold en2; split <;> (try split) <;> exact ⟨rfl, rfl, rfl, rfl⟩
    have e3 : ∀ s : Sx, ((en3 s n).held = true → s.held = true) ∧ (en3 s n).who = s.who ∧ (en3 s n).stamp = s.stamp ∧ (en3 s n).stamps = s.stamps := by
      intro s; unfold en3; split
      · exact ⟨(fun h => by cases h), rfl, rfl, rfl⟩
      · exact ⟨fun h => h, rfl, rfl, rfl⟩
    have e4 : ∀ s : Sx, (en4 s who n).held = s.held ∧ (en4 s who n).who = s.who ∧ (en4 s who n).stamp = s.stamp ∧ (en4 s who n).stamps = s.stamps := by
      intro s; unfold en4; split <;> exact ⟨rfl, rfl, rfl, rfl⟩
    obtain ⟨a1, a2, a3, a4⟩ := e2 { s with last := n }
    obtain ⟨b1, b2, b3, b4⟩ := e3 (en2 { s with last := n } who n)
    generalize en3 (en2 { s with last := n } who n) n = s3 at *
    obtain ⟨c1, c2, c3, c4⟩ := e4 s3
    unfold enterB
    split
    · rename_i h
      right; right
      split
      · exact ⟨_, rfl, b4.trans a4, fun _ => ⟨a1 ▸ b1 h, b2.trans a2, b3.trans a3⟩⟩
      · exact ⟨_, rfl, b4.trans a4, fun _ => ⟨a1 ▸ b1 h, b2.trans a2, b3.trans a3⟩⟩
    · rename_i h
      split
      · right; left
        refine ⟨_, by rw [c4, b4, a4], rfl, rfl, ?_, ?_⟩
        · show (en4 s3 who n).stamps + 1 = _; rw [c4, b4, a4]
        · show (en4 s3 who n).stamps + 1 = _; rw [c4, b4, a4]
      · right; right
        exact ⟨_, rfl, c4.trans (b4.trans a4), fun h' => absurd (c1 ▸ h') h⟩

theorem leave_q {s s' : Sx} {who n : Int} (h : leaveSx s who n = s') : s.q = s'.q := by
  subst h
  unfold leaveSx
  split <;> rfl
/-- what everybody had last, and the latest stamp -/
structure One (s : Sx) (top : Int) (g : Nat → Int) : Prop where
  st : s.stamps = top
  t0 : 0 ≤ top
  g1 : ∀ i, g i ≤ top
  hd : s.held = true → s.stamp = top ∧ ∃ j : Nat, s.who = j ∧ g j = top
def upd (g : Nat → Int) (j : Nat) (n : Int) : Nat → Int := fun i => if i = j then n else g i

theorem one_enter {s : Sx} {top : Int} {g : Nat → Int} (h : One s top g) {j : Nat} (hj : j < 8) (now : Int) :
    (∃ s', enter s j now = (s', top, true) ∧ g j = top ∧ One s' top g) ∨
    (∃ s', enter s j now = (s', top + 1, true) ∧ g j ≤ top ∧ One s' (top + 1) (upd g j (top + 1))) ∨
    (∃ s', enter s j now = (s', 0, false) ∧ One s' top g) := by
  obtain ⟨st, t0, g1, hd⟩ := h
  rcases enter_cases s (who := j) (now := now) (by omega) (by omega) with ⟨s', he, a, b, c, d, e, f⟩ | ⟨s', he, c, d, e, f⟩ | ⟨s', he, a, b⟩
  · obtain ⟨h1, i, h2, h3⟩ := hd a
    obtain rfl : i = j := by omega
    refine .inl ⟨s', by rw [he, h1], h3, f.trans st, t0, g1, fun _ => ⟨e.trans h1, i, d, h3⟩⟩
  · refine .inr (.inl ⟨s', by rw [he, st], g1 j, by rw [f, st], by omega, fun i => ?_, fun _ => ⟨by rw [e, st], j, d, by simp [upd]⟩⟩)
    unfold upd
    split
    · exact Int.le_refl _
    · have := g1 i; omega
  · refine .inr (.inr ⟨s', he, a.trans st, t0, g1, fun h' => ?_⟩)
    obtain ⟨q1, q2, q3⟩ := b h'
    obtain ⟨h1, i, h2, h3⟩ := hd q1
    exact ⟨q3.trans h1, i, q2.trans h2, h3⟩
theorem one_leave {s : Sx} {top : Int} {g : Nat → Int} (h : One s top g) (j : Nat) :
    (∃ s', decide (s.held = true ∧ s.who = j ∧ s.stamp = g j) = true ∧ leaveSx s j (g j) = s' ∧ s'.held = false ∧ One s' top g) ∨
    (decide (s.held = true ∧ s.who = j ∧ s.stamp = g j) = false ∧ leaveSx s j (g j) = s) := by
  unfold leaveSx
  by_cases hp : s.held = true ∧ s.who = j ∧ s.stamp = g j
  · left
    refine ⟨_, decide_eq_true hp, if_pos hp, rfl, h.st, h.t0, h.g1, fun h' => by cases h'⟩
  · exact .inr ⟨decide_eq_false hp, if_neg hp⟩

theorem one_hold {s : Sx} {top c : Int} {g : Nat → Int} {i : Nat} (h : One s top g) (hc : (∃ j : Nat, s.held = true ∧ s.who = j ∧ j < i) ∨ c = 0) :
    (decide (s.held = true ∧ s.who = (i : Int) ∧ s.stamp = g i) = true ∧ g i = top ∧ c = 0 ∧ ∃ j : Nat, s.held = true ∧ s.who = j ∧ j < i + 1) ∨
    (decide (s.held = true ∧ s.who = (i : Int) ∧ s.stamp = g i) = false ∧ ((∃ j : Nat, s.held = true ∧ s.who = j ∧ j < i + 1) ∨ c = 0)) := by
  by_cases hp : s.held = true ∧ s.who = (i : Int) ∧ s.stamp = g i
  · left
    refine ⟨decide_eq_true hp, ?_, ?_, i, hp.1, hp.2.1, by omega⟩
    · have := (h.hd hp.1).1; have := hp.2.2; omega
    · rcases hc with ⟨j, a, b, c⟩ | hc
      · have := hp.2.1; omega
      · exact hc
  · right
    refine ⟨decide_eq_false hp, ?_⟩
    rcases hc with ⟨j, a, b, c⟩ | hc
    · exact .inl ⟨j, a, b, by omega⟩
    · exact .inr hc

section
variable {w : World} {p : Nat}

theorem arr_cell {w0 w : World} {L : List (Nat × Obj)} {q : Nat} {g : Nat → Int} {e : TypeId} {n j : Nat} (H : Hp w0 L w) (hm : (q, blk (tab n fun i => I (g i)) e) ∈ L) (hj : j < n) : w.cell? ⟨q, j, none⟩ = some (I (g j)) := by
  rw [cell_blk (H.held _ hm), tab_get _ hj]

attribute [local simp] tab_length
theorem one_ret {xs : List SOp} {l : Value} (a : Int) (hl : RdR opC w l xs) (hb : xs.length ≤ 9223372036854775807) :
    Ret Try.prog 5 #[I a, l] w fun v w' => v = .bool true ∧ Hp w [] w' := by
  refine Ret_of_W (args := [_, _]) Try.func5 rfl Try.ntmps5 Try.results5 (by simp) ?_
  have H := Hp.refl w
  have hQ := OwnQ.nil w.heap.size 3
  obtain ⟨ao, ca, rfl⟩ := hl.form
  obtain ⟨L, hL, hL1, hL2⟩ : ∃ L : Int, a % 8 + 1 = L ∧ 1 ≤ L ∧ L ≤ 8 := ⟨_, rfl, by omega, by omega⟩
  refine W_seq ?_
  refine W_region_l ?_
  refine WL_stepM rfl (R_as) ?_
  refine WL_nil ?_
  refine W_seq ?_
  refine W_region_l ?_
  refine WL_stepM rfl (R_mv) ?_
  refine WL_step rfl (R_bits rfl rfl (by simp) (and_mask_i64 3 8 (by decide) rfl (by decide))) ?_
  refine WL_step rfl (R_add rfl rfl (w_i64 (by omega))) ?_
  refine WL_stepM rfl (R_as) ?_
  refine WL_nil ?_
  refine W_seq ?_
  (rw [hL]) <;> refine W_region_l ?_
  refine WL_stepM rfl (R_mv) ?_
  (refine WL_call rfl (R_call rfl Try.call14 rfl) (new_ret L _) ?_; clear H; rintro _ w15 ⟨p, rfl, hp, H⟩)
  refine WL_stepM rfl (R_as) ?_
  refine WL_nil ?_
  refine W_seq ?_
  refine W_seq ?_
  refine W_region_l ?_
  refine WL_stepM rfl (R_mv) ?_
  refine WL_step rfl (R_eq_ptr_nil Try.underlying23 rfl rfl) ?_
  refine WL_nil ?_
  refine W_cond_f rfl ?_
  refine W_skip ?_
  refine W_seq ?_
  refine W_region_l ?_
  refine WL_stepM rfl (R_as) ?_
  refine WL_stepM rfl (R_as) ?_
  refine WL_nil ?_
  refine W_seq ?_
  refine W_region_l ?_
  (refine WL_effn rfl (E_alloc H Try.zeroValue33 rfl) ?_; clear H; intro q w33 hq H; replace H := H.swap2)
  refine WL_nil ?_
  refine W_seq ?_
  refine W_seq ?_
  refine W_region_l ?_
  refine WL_stepM rfl (R_as) ?_
  refine WL_nil ?_
  refine W_block ?_
  refine W_loopS [(4, 4), (6, 7), (9, 14), (22, 113)] (fun (k : Nat) E w' => ∃ (n top : Int) (g : Nat → Int) (s : Sx) (qv : Value) (M : List (Nat × Obj)), k ≤ xs.length ∧ k ≤ 120 ∧ E 6 = I n ∧ E 7 = I top ∧ E 9 = I k ∧ One s top g ∧ Bk s n k ∧ 0 ≤ n ∧ n ≤ 3 * k ∧ OwnQ w.heap.size 3 qv (s.q.map I) M ∧ Hp w (M ++ ((p, blk (sxC s qv) 64) :: (q, blk (tab 8 fun i => I (g i)) 33) :: [])) w') (fun k => 120 - k) 0 ?e0 ?r0
  · exact ⟨0, 0, fun _ => 0, newSx L, _, _, by omega, by omega, rfl, rfl, rfl, ⟨rfl, by omega, fun _ => by omega, fun h => by cases h⟩, Bk.new L, by omega, by omega, hQ, H⟩
  · (clear H hQ; rintro k E w1 ⟨n, top, g, s, qv, M, hk, hk2, h0, h1, h2, hO, hB, hn0, hn1, hQ, H⟩; refine W_kn3 h0 h1 h2 ?_)
    refine W_seq ?_
    refine W_seq ?_
    refine W_region_l ?_
    refine WL_stepM rfl (R_mv) ?_
    refine WL_stepM rfl (R_mv) ?_
    refine WL_step rfl (R_len_slice Try.underlying32 rfl) ?_
    refine WL_step rfl (R_lt rfl rfl) ?_
    refine WL_stepM rfl (R_mv) ?_
    apply WL_andK 3 26 29 [(27, 29)] H
    case hc => rfl
    case h1 =>
      intro h51
      refine WL_guard_t rfl rfl ?_
      refine WL_stepM rfl (R_mv) ?_
      refine WL_guard_t rfl rfl ?_
      refine WL_step rfl (R_lt rfl rfl) ?_
      refine WL_stepM rfl (R_pk_t rfl) ?_
      refine WL_nil ?_
      exact ⟨(by repeat' first | refine same_updo rfl ?_ | refine same_mov rfl ?_ | refine same_upd rfl ?_ | refine same_updn ?_ | refine same_know rfl ?_ | exact same_ovr | refine same_in rfl ?_ | exact Same.refl), rfl, H⟩
    case h0 =>
      intro h51
      refine WL_guard_f rfl rfl (by decide) ?_
      refine WL_guard_f rfl rfl (by decide) ?_
      refine WL_stepM rfl (R_pk_f rfl) ?_
      refine WL_nil ?_
      exact ⟨(by repeat' first | refine same_updo rfl ?_ | refine same_mov rfl ?_ | refine same_upd rfl ?_ | refine same_updn ?_ | refine same_know rfl ?_ | exact same_ovr | refine same_in rfl ?_ | exact Same.refl), rfl, H⟩
    case h2 =>
      (clear H; intro E51 w51 H)
      refine WL_nil ?_
      refine W_if rfl (fun h65 => ?_) (fun h65 => ?_)
      · refine W_skip ?_
        refine W_seq ?_
        refine W_block ?_
        refine W_seq ?_
        (obtain ⟨⟨oa, ob, oc, od⟩, ho⟩ : ∃ o, xs[k]? = some o := ⟨_, List.getElem?_eq_getElem (by omega)⟩; obtain ⟨b1, o1, rfl, hc⟩ := hl.cell opC_len ho) <;> refine W_region_l ?_
        refine WL_stepM rfl (R_mv) ?_
        refine WL_stepM rfl (R_mv) ?_
        refine WL_step rfl (R_indexAddr Try.underlying32 Try.sizeOf35 rfl rfl (by omega) (by omega) idx_castn) ?_
        refine WL_step rfl (R_fieldAddr (off' := _ + 1) Try.underlying35 rfl Try.sizeOf3 (by decide) rfl rfl) ?_
        refine WL_step rfl (R_load_cell Try.isAgg3 rfl (H.cellN (hc 1 (I ob) rfl) (kApp hQ.keys (kCons hp (kCons hq kNil))))) ?_
        refine WL_step rfl (R_bits rfl rfl (by simp) (and_mask_i64 3 8 (by decide) rfl (by decide))) ?_
        refine WL_stepM rfl (R_as) ?_
        refine WL_nil ?_
        refine W_seq ?_
        (obtain ⟨j, hj, hj8⟩ : ∃ j : Nat, ob % 8 = (j : Int) ∧ j < 8 := ⟨(ob % 8).toNat, by omega, by omega⟩; rw [hj]; obtain ⟨m, hm, hm0, hm1⟩ : ∃ m : Int, n + od % 4 = m ∧ n ≤ m ∧ m ≤ n + 3 := ⟨_, rfl, by omega, by omega⟩) <;> refine W_region_l ?_
        refine WL_stepM rfl (R_mv) ?_
        refine WL_stepM rfl (R_mv) ?_
        refine WL_stepM rfl (R_mv) ?_
        refine WL_step rfl (R_indexAddr Try.underlying32 Try.sizeOf35 rfl rfl (by omega) (by omega) idx_castn) ?_
        refine WL_step rfl (R_fieldAddr (off' := _ + 3) Try.underlying35 rfl Try.sizeOf3 (by decide) rfl rfl) ?_
        refine WL_step rfl (R_load_cell Try.isAgg3 rfl (H.cellN (hc 3 (I od) rfl) (kApp hQ.keys (kCons hp (kCons hq kNil))))) ?_
        refine WL_step rfl (R_bits rfl rfl (by simp) (and_mask_i64 2 4 (by decide) rfl (by decide))) ?_
        refine WL_step rfl (R_add rfl rfl (w_i64 (by omega))) ?_
        refine WL_stepM rfl (R_as) ?_
        refine WL_nil ?_
        refine W_seqS [(4, 4), (7, 7), (11, 12), (46, 88)] (fun E w' => ∃ (top : Int) (g : Nat → Int) (s : Sx) (qv : Value) (M : List (Nat × Obj)), E 7 = I top ∧ One s top g ∧ Bk s m (k + 1) ∧ OwnQ w.heap.size 3 qv (s.q.map I) M ∧ Hp w (M ++ ((p, blk (sxC s qv) 64) :: (q, blk (tab 8 fun i => I (g i)) 33) :: [])) w') ?c12 ?k12
        · refine W_seq ?_
          refine W_region_l ?_
          refine WL_stepM rfl (R_mv) ?_
          refine WL_stepM rfl (R_mv) ?_
          refine WL_step rfl (R_indexAddr Try.underlying32 Try.sizeOf35 rfl rfl (by omega) (by omega) idx_castn) ?_
          refine WL_step rfl (R_fieldAddr Try.underlying35 rfl Try.sizeOf3 (by decide) rfl rfl) ?_
          refine WL_step rfl (R_load_cell Try.isAgg3 rfl (H.cellN (hc 0 (I oa) rfl) (kApp hQ.keys (kCons hp (kCons hq kNil))))) ?_
          refine WL_step rfl (R_bits rfl rfl (by simp) (and_mask_i64 1 2 (by decide) rfl (by decide))) ?_
          refine WL_step rfl (R_eq rfl rfl) ?_
          refine WL_nil ?_
          refine W_if rfl (fun h102 => ?_) (fun h102 => ?_)
          · refine W_seq ?_
            (rw [hm]; have hB1 := (hB.mono hm0 (Nat.le_refl _)).enter (who := j) (now := m) (by omega) (Int.le_refl _); rcases one_enter hO hj8 m with ⟨s', he, hg, hO'⟩ | ⟨s', he, hg, hO'⟩ | ⟨s', he, hO'⟩ <;> rw [he] at hB1) <;> refine W_region_l ?_
            · refine WL_stepM rfl (R_mv) ?_
              refine WL_stepM rfl (R_mv) ?_
              refine WL_stepM rfl (R_mv) ?_
              (refine WL_call rfl (R_call rfl Try.call15 rfl) (enter_to (R := [(q, _)]) (T := m) _ _ he hQ H ((hB.mono hm0 (Nat.le_refl _)).bd (by omega)) (by omega) (by omega)) ?_; clear H hQ; rintro _ w108 ⟨q1, M1, rfl, hQ, H⟩)
              refine WL_stepM rfl (R_mv) ?_
              refine WL_step rfl (R_extract rfl rfl) ?_
              refine WL_step rfl (R_extract rfl rfl) ?_
              refine WL_stepM rfl (R_as) ?_
              refine WL_stepM rfl (R_as) ?_
              refine WL_nil ?_
              refine W_seq ?_
              refine W_region_l ?_
              refine WL_stepM rfl (R_mv) ?_
              refine WL_stepM rfl (R_mv) ?_
              refine WL_guard_t rfl rfl ?_
              refine WL_stepM rfl (R_mv) ?_
              refine WL_guard_t rfl rfl ?_
              refine WL_stepM rfl (R_mv) ?_
              refine WL_guard_t rfl rfl ?_
              refine WL_step rfl (R_indexAddrA Try.underlying33 Try.sizeOf3 rfl rfl (by omega) (by omega) idx0_cast) ?_
              refine WL_guard_t rfl rfl ?_
              refine WL_step rfl (R_load Try.isAgg3 rfl (H.get (.app _ (.there .here))) (tab_get _ hj8)) ?_
              refine WL_guard_t rfl rfl ?_
              refine WL_step rfl (R_ne_f rfl rfl (by omega)) ?_
              refine WL_stepM rfl (R_pk_t rfl) ?_
              refine WL_nil ?_
              refine W_cond_f rfl ?_
              refine W_skip ?_
              exact ⟨(by repeat' first | refine same_updo rfl ?_ | refine same_mov rfl ?_ | refine same_upd rfl ?_ | refine same_updn ?_ | refine same_know rfl ?_ | exact same_ovr | refine same_in rfl ?_ | exact Same.refl), top, g, s', _, _, rfl, hO', hB1, hQ, H⟩
            · refine WL_stepM rfl (R_mv) ?_
              refine WL_stepM rfl (R_mv) ?_
              refine WL_stepM rfl (R_mv) ?_
              (refine WL_call rfl (R_call rfl Try.call15 rfl) (enter_to (R := [(q, _)]) (T := m) _ _ he hQ H ((hB.mono hm0 (Nat.le_refl _)).bd (by omega)) (by omega) (by omega)) ?_; clear H hQ; rintro _ w137 ⟨q1, M1, rfl, hQ, H⟩)
              refine WL_stepM rfl (R_mv) ?_
              refine WL_step rfl (R_extract rfl rfl) ?_
              refine WL_step rfl (R_extract rfl rfl) ?_
              refine WL_stepM rfl (R_as) ?_
              refine WL_stepM rfl (R_as) ?_
              refine WL_nil ?_
              refine W_seq ?_
              refine W_region_l ?_
              refine WL_stepM rfl (R_mv) ?_
              refine WL_stepM rfl (R_mv) ?_
              refine WL_guard_t rfl rfl ?_
              refine WL_stepM rfl (R_mv) ?_
              refine WL_guard_t rfl rfl ?_
              refine WL_stepM rfl (R_mv) ?_
              refine WL_guard_t rfl rfl ?_
              refine WL_step rfl (R_indexAddrA Try.underlying33 Try.sizeOf3 rfl rfl (by omega) (by omega) idx0_cast) ?_
              refine WL_guard_t rfl rfl ?_
              refine WL_step rfl (R_load Try.isAgg3 rfl (H.get (.app _ (.there .here))) (tab_get _ hj8)) ?_
              refine WL_guard_t rfl rfl ?_
              refine WL_step rfl (R_ne_t rfl rfl (by omega)) ?_
              refine WL_stepM rfl (R_pk_t rfl) ?_
              refine WL_nil ?_
              refine W_cond_t rfl ?_
              refine W_seq ?_
              refine W_seq ?_
              refine W_region_l ?_
              refine WL_stepM rfl (R_mv) ?_
              refine WL_stepM rfl (R_mv) ?_
              refine WL_step rfl (R_le_f rfl rfl (by omega)) ?_
              refine WL_nil ?_
              refine W_cond_f rfl ?_
              refine W_skip ?_
              refine W_seq ?_
              refine W_region_l ?_
              refine WL_stepM rfl (R_mv) ?_
              refine WL_stepM rfl (R_as) ?_
              refine WL_nil ?_
              refine W_region_l ?_
              refine WL_stepM rfl (R_mv) ?_
              refine WL_stepM rfl (R_mv) ?_
              refine WL_step rfl (R_indexAddrA Try.underlying33 Try.sizeOf3 rfl rfl (by omega) (by omega) idx0_cast) ?_
              (refine WL_effu rfl (E_store (v := (.int _ _)) H Try.sizeOf3 rfl rfl rfl (.app _ (.there .here)) (by simp; omega)) ?_; clear H; intro w179 H)
              refine WL_nil ?_
              exact ⟨(by repeat' first | refine same_updo rfl ?_ | refine same_mov rfl ?_ | refine same_upd rfl ?_ | refine same_updn ?_ | refine same_know rfl ?_ | exact same_ovr | refine same_in rfl ?_ | exact Same.refl), top + 1, upd g j (top + 1), s', _, _, rfl, hO', hB1, hQ, (by rw [tab_set (g := fun i => I (upd g j (top + 1) i)) hj8 (by simp [upd]) (fun i _ hi => by simp [upd, hi])] at H; exact H)⟩
            · refine WL_stepM rfl (R_mv) ?_
              refine WL_stepM rfl (R_mv) ?_
              refine WL_stepM rfl (R_mv) ?_
              (refine WL_call rfl (R_call rfl Try.call15 rfl) (enter_to (R := [(q, _)]) (T := m) _ _ he hQ H ((hB.mono hm0 (Nat.le_refl _)).bd (by omega)) (by omega) (by omega)) ?_; clear H hQ; rintro _ w185 ⟨q1, M1, rfl, hQ, H⟩)
              refine WL_stepM rfl (R_mv) ?_
              refine WL_step rfl (R_extract rfl rfl) ?_
              refine WL_step rfl (R_extract rfl rfl) ?_
              refine WL_stepM rfl (R_as) ?_
              refine WL_stepM rfl (R_as) ?_
              refine WL_nil ?_
              refine W_seq ?_
              refine W_region_l ?_
              refine WL_stepM rfl (R_mv) ?_
              refine WL_stepM rfl (R_mv) ?_
              refine WL_guard_f rfl rfl (by decide) ?_
              refine WL_guard_f rfl rfl (by decide) ?_
              refine WL_guard_f rfl rfl (by decide) ?_
              refine WL_guard_f rfl rfl (by decide) ?_
              refine WL_guard_f rfl rfl (by decide) ?_
              refine WL_stepM rfl (R_pk_f rfl) ?_
              refine WL_nil ?_
              refine W_cond_f rfl ?_
              refine W_skip ?_
              exact ⟨(by repeat' first | refine same_updo rfl ?_ | refine same_mov rfl ?_ | refine same_upd rfl ?_ | refine same_updn ?_ | refine same_know rfl ?_ | exact same_ovr | refine same_in rfl ?_ | exact Same.refl), top, g, s', _, _, rfl, hO', hB1, hQ, H⟩
          · refine W_seq ?_
            (rcases one_leave hO j with ⟨s', hd, hs, hh, hO'⟩ | ⟨hd, hs⟩) <;> refine W_region_l ?_
            · refine WL_stepM rfl (R_mv) ?_
              refine WL_stepM rfl (R_mv) ?_
              refine WL_stepM rfl (R_mv) ?_
              refine WL_step rfl (R_indexAddrA Try.underlying33 Try.sizeOf3 rfl rfl (by omega) (by omega) idx0_cast) ?_
              refine WL_step rfl (R_load Try.isAgg3 rfl (H.get (.app _ (.there .here))) (tab_get _ hj8)) ?_
              (refine WL_call rfl (R_call rfl Try.call17 rfl) (leave_to _ _ hd hs H) ?_; clear H; rintro _ w213 ⟨rfl, H⟩)
              refine WL_stepM rfl (R_mv) ?_
              refine WL_guard_t rfl rfl ?_
              refine WL_stepM rfl (R_mv) ?_
              refine WL_guard_t rfl rfl ?_
              refine WL_stepM rfl (R_mv) ?_
              refine WL_guard_t rfl rfl ?_
              refine WL_stepM rfl (R_mv) ?_
              refine WL_guard_t rfl rfl ?_
              refine WL_step rfl (R_indexAddrA Try.underlying33 Try.sizeOf3 rfl rfl (by omega) (by omega) idx0_cast) ?_
              refine WL_guard_t rfl rfl ?_
              refine WL_step rfl (R_load Try.isAgg3 rfl (H.get (.app _ (.there .here))) (tab_get _ hj8)) ?_
              refine WL_guard_t rfl rfl ?_
              (refine WL_call rfl (R_call rfl Try.call16 rfl) (holds_to _ _ (b := false) (decide_eq_false (fun h => by rw [hh] at h; cases h.1)) H) ?_; clear H; rintro _ w226 ⟨rfl, H⟩)
              refine WL_stepM rfl (R_pk_t rfl) ?_
              refine WL_nil ?_
              refine W_cond_f rfl ?_
              refine W_skip ?_
              exact ⟨(by repeat' first | refine same_updo rfl ?_ | refine same_mov rfl ?_ | refine same_upd rfl ?_ | refine same_updn ?_ | refine same_know rfl ?_ | exact same_ovr | refine same_in rfl ?_ | exact Same.refl), top, g, s', _, _, rfl, hO', by rw [← hs]; exact ((hB.mono hm0 (Nat.le_succ _)).leave), by rw [← leave_q hs]; exact hQ, H⟩
            · refine WL_stepM rfl (R_mv) ?_
              refine WL_stepM rfl (R_mv) ?_
              refine WL_stepM rfl (R_mv) ?_
              refine WL_step rfl (R_indexAddrA Try.underlying33 Try.sizeOf3 rfl rfl (by omega) (by omega) idx0_cast) ?_
              refine WL_step rfl (R_load Try.isAgg3 rfl (H.get (.app _ (.there .here))) (tab_get _ hj8)) ?_
              (refine WL_call rfl (R_call rfl Try.call17 rfl) (leave_to _ _ hd hs H) ?_; clear H; rintro _ w237 ⟨rfl, H⟩)
              refine WL_stepM rfl (R_mv) ?_
              refine WL_guard_f rfl rfl (by decide) ?_
              refine WL_guard_f rfl rfl (by decide) ?_
              refine WL_guard_f rfl rfl (by decide) ?_
              refine WL_guard_f rfl rfl (by decide) ?_
              refine WL_guard_f rfl rfl (by decide) ?_
              refine WL_guard_f rfl rfl (by decide) ?_
              refine WL_stepM rfl (R_pk_f rfl) ?_
              refine WL_nil ?_
              refine W_cond_f rfl ?_
              refine W_skip ?_
              exact ⟨(by repeat' first | refine same_updo rfl ?_ | refine same_mov rfl ?_ | refine same_upd rfl ?_ | refine same_updn ?_ | refine same_know rfl ?_ | exact same_ovr | refine same_in rfl ?_ | exact Same.refl), top, g, s, _, _, rfl, hO, hB.mono hm0 (Nat.le_succ _), hQ, H⟩
        · (clear H hQ hO hB; rintro E w1 ⟨top, g, s, qv, M, h1, hO, hB, hQ, H⟩; refine W_kn h1 ?_)
          refine W_seq ?_
          refine W_region_l ?_
          refine WL_stepM rfl (R_as) ?_
          refine WL_nil ?_
          refine W_seq ?_
          refine W_seq ?_
          refine W_region_l ?_
          refine WL_stepM rfl (R_as) ?_
          refine WL_nil ?_
          refine W_block ?_
          refine W_loopS [(4, 4), (13, 14), (89, 111)] (fun (i : Nat) E w' => ∃ c : Int, i ≤ 8 ∧ E 13 = I c ∧ E 14 = I i ∧ 0 ≤ c ∧ c ≤ 1 ∧ ((∃ j : Nat, s.held = true ∧ s.who = j ∧ j < i) ∨ c = 0) ∧ Hp w (M ++ ((p, blk (sxC s qv) 64) :: (q, blk (tab 8 fun i => I (g i)) 33) :: [])) w') (fun i => 8 - i) 0 ?e2 ?r2
          · exact ⟨0, by omega, rfl, rfl, by omega, by omega, .inr rfl, H⟩
          · (clear H; rintro i E w1 ⟨c, hi, h0, h1, hc0, hc1, hcc, H⟩; refine W_kn2 h0 h1 ?_)
            refine W_seq ?_
            refine W_seq ?_
            refine W_region_l ?_
            refine WL_stepM rfl (R_mv) ?_
            refine WL_step rfl (R_lt rfl rfl) ?_
            refine WL_nil ?_
            refine W_if rfl (fun h269 => ?_) (fun h269 => ?_)
            · refine W_skip ?_
              refine W_seq ?_
              refine W_block ?_
              refine W_seq ?_
              (rcases one_hold hO hcc with ⟨hd, hgi, hc00, hcc'⟩ | ⟨hd, hcc'⟩) <;> refine W_region_l ?_
              · refine WL_stepM rfl (R_mv) ?_
                refine WL_step rfl (R_indexAddrA Try.underlying33 Try.sizeOf3 rfl rfl (by omega) (by omega) idx0_cast) ?_
                refine WL_step rfl (R_load Try.isAgg3 rfl (H.get (.app _ (.there .here))) (tab_get _ (show i < 8 by omega))) ?_
                refine WL_step rfl (R_gt rfl rfl) ?_
                refine WL_stepM rfl (R_mv) ?_
                refine WL_if 97 rfl (fun h280 => ?_) (fun h280 => ?_)
                · refine WL_guard_t rfl rfl ?_
                  refine WL_stepM rfl (R_mv) ?_
                  refine WL_guard_t rfl rfl ?_
                  refine WL_stepM rfl (R_mv) ?_
                  refine WL_guard_t rfl rfl ?_
                  refine WL_stepM rfl (R_mv) ?_
                  refine WL_guard_t rfl rfl ?_
                  refine WL_step rfl (R_indexAddrA Try.underlying33 Try.sizeOf3 rfl rfl (by omega) (by omega) idx0_cast) ?_
                  refine WL_guard_t rfl rfl ?_
                  refine WL_step rfl (R_load Try.isAgg3 rfl (H.get (.app _ (.there .here))) (tab_get _ (show i < 8 by omega))) ?_
                  refine WL_guard_t rfl rfl ?_
                  (refine WL_call rfl (R_call rfl Try.call16 rfl) (holds_to _ _ hd H) ?_; clear H; rintro _ w304 ⟨rfl, H⟩)
                  refine WL_stepM rfl (R_pk_t rfl) ?_
                  refine WL_nil ?_
                  refine W_cond_t rfl ?_
                  refine W_seq ?_
                  refine W_region_l ?_
                  refine WL_stepM rfl (R_mv) ?_
                  refine WL_step rfl (R_add rfl rfl (w_i64 (by omega))) ?_
                  refine WL_stepM rfl (R_as) ?_
                  refine WL_nil ?_
                  refine W_seq ?_
                  refine W_region_l ?_
                  refine WL_stepM rfl (R_mv) ?_
                  refine WL_step rfl (R_indexAddrA Try.underlying33 Try.sizeOf3 rfl rfl (by omega) (by omega) idx0_cast) ?_
                  refine WL_step rfl (R_load Try.isAgg3 rfl (H.get (.app _ (.there .here))) (tab_get _ (show i < 8 by omega))) ?_
                  refine WL_stepM rfl (R_mv) ?_
                  refine WL_step rfl (R_ne_f rfl rfl (by omega)) ?_
                  refine WL_nil ?_
                  refine W_cond_f rfl ?_
                  refine W_skip ?_
                  refine W_region_l ?_
                  refine WL_stepM rfl (R_mv) ?_
                  refine WL_step rfl (R_add rfl rfl (w_i64 (by omega))) ?_
                  refine WL_stepM rfl (R_as) ?_
                  refine WL_nil ?_
                  exact ⟨(by repeat' first | refine same_updo rfl ?_ | refine same_mov rfl ?_ | refine same_upd rfl ?_ | refine same_updn ?_ | refine same_know rfl ?_ | exact same_ovr | refine same_in rfl ?_ | exact Same.refl), i + 1, by omega, _, by omega, rfl, rfl, by omega, by omega, .inl hcc', H⟩
                · refine WL_guard_f rfl rfl (by decide) ?_
                  refine WL_guard_f rfl rfl (by decide) ?_
                  refine WL_guard_f rfl rfl (by decide) ?_
                  refine WL_guard_f rfl rfl (by decide) ?_
                  refine WL_guard_f rfl rfl (by decide) ?_
                  refine WL_guard_f rfl rfl (by decide) ?_
                  refine WL_stepM rfl (R_pk_f rfl) ?_
                  refine WL_nil ?_
                  refine W_cond_f rfl ?_
                  refine W_skip ?_
                  refine W_region_l ?_
                  refine WL_stepM rfl (R_mv) ?_
                  refine WL_step rfl (R_add rfl rfl (w_i64 (by omega))) ?_
                  refine WL_stepM rfl (R_as) ?_
                  refine WL_nil ?_
                  exact ⟨(by repeat' first | refine same_updo rfl ?_ | refine same_mov rfl ?_ | refine same_upd rfl ?_ | refine same_updn ?_ | refine same_know rfl ?_ | exact same_ovr | refine same_in rfl ?_ | exact Same.refl), i + 1, by omega, _, by omega, rfl, rfl, by omega, by omega, .inl hcc', H⟩
              · refine WL_stepM rfl (R_mv) ?_
                refine WL_step rfl (R_indexAddrA Try.underlying33 Try.sizeOf3 rfl rfl (by omega) (by omega) idx0_cast) ?_
                refine WL_step rfl (R_load Try.isAgg3 rfl (H.get (.app _ (.there .here))) (tab_get _ (show i < 8 by omega))) ?_
                refine WL_step rfl (R_gt rfl rfl) ?_
                refine WL_stepM rfl (R_mv) ?_
                refine WL_if 97 rfl (fun h351 => ?_) (fun h351 => ?_)
                · refine WL_guard_t rfl rfl ?_
                  refine WL_stepM rfl (R_mv) ?_
                  refine WL_guard_t rfl rfl ?_
                  refine WL_stepM rfl (R_mv) ?_
                  refine WL_guard_t rfl rfl ?_
                  refine WL_stepM rfl (R_mv) ?_
                  refine WL_guard_t rfl rfl ?_
                  refine WL_step rfl (R_indexAddrA Try.underlying33 Try.sizeOf3 rfl rfl (by omega) (by omega) idx0_cast) ?_
                  refine WL_guard_t rfl rfl ?_
                  refine WL_step rfl (R_load Try.isAgg3 rfl (H.get (.app _ (.there .here))) (tab_get _ (show i < 8 by omega))) ?_
                  refine WL_guard_t rfl rfl ?_
                  (refine WL_call rfl (R_call rfl Try.call16 rfl) (holds_to _ _ hd H) ?_; clear H; rintro _ w375 ⟨rfl, H⟩)
                  refine WL_stepM rfl (R_pk_t rfl) ?_
                  refine WL_nil ?_
                  refine W_cond_f rfl ?_
                  refine W_skip ?_
                  refine W_region_l ?_
                  refine WL_stepM rfl (R_mv) ?_
                  refine WL_step rfl (R_add rfl rfl (w_i64 (by omega))) ?_
                  refine WL_stepM rfl (R_as) ?_
                  refine WL_nil ?_
                  exact ⟨(by repeat' first | refine same_updo rfl ?_ | refine same_mov rfl ?_ | refine same_upd rfl ?_ | refine same_updn ?_ | refine same_know rfl ?_ | exact same_ovr | refine same_in rfl ?_ | exact Same.refl), i + 1, by omega, _, by omega, rfl, rfl, by omega, by omega, hcc', H⟩
                · refine WL_guard_f rfl rfl (by decide) ?_
                  refine WL_guard_f rfl rfl (by decide) ?_
                  refine WL_guard_f rfl rfl (by decide) ?_
                  refine WL_guard_f rfl rfl (by decide) ?_
                  refine WL_guard_f rfl rfl (by decide) ?_
                  refine WL_guard_f rfl rfl (by decide) ?_
                  refine WL_stepM rfl (R_pk_f rfl) ?_
                  refine WL_nil ?_
                  refine W_cond_f rfl ?_
                  refine W_skip ?_
                  refine W_region_l ?_
                  refine WL_stepM rfl (R_mv) ?_
                  refine WL_step rfl (R_add rfl rfl (w_i64 (by omega))) ?_
                  refine WL_stepM rfl (R_as) ?_
                  refine WL_nil ?_
                  exact ⟨(by repeat' first | refine same_updo rfl ?_ | refine same_mov rfl ?_ | refine same_upd rfl ?_ | refine same_updn ?_ | refine same_know rfl ?_ | exact same_ovr | refine same_in rfl ?_ | exact Same.refl), i + 1, by omega, _, by omega, rfl, rfl, by omega, by omega, hcc', H⟩
            · refine W_exit ?_
              refine (if_pos rfl).mpr ?_
              refine W_seq ?_
              refine W_region_l ?_
              refine WL_stepM rfl (R_mv) ?_
              refine WL_step rfl (R_gt_f rfl rfl (by omega)) ?_
              refine WL_nil ?_
              refine W_cond_f rfl ?_
              refine W_skip ?_
              refine W_region_l ?_
              refine WL_stepM rfl (R_mv) ?_
              refine WL_step rfl (R_add rfl rfl (w_i64 (by omega))) ?_
              refine WL_stepM rfl (R_as) ?_
              refine WL_nil ?_
              exact ⟨(by repeat' first | refine same_updo rfl ?_ | refine same_mov rfl ?_ | refine same_upd rfl ?_ | refine same_updn ?_ | refine same_know rfl ?_ | exact same_ovr | refine same_in rfl ?_ | exact Same.refl), k + 1, by omega, m, top, g, s, qv, M, by omega, by omega, congrArg I hm, rfl, rfl, hO, hB, by omega, by omega, hQ, H⟩
      · refine W_exit ?_
        refine (if_pos rfl).mpr ?_
        refine W_seq ?_
        refine W_region_l ?_
        (refine WL_call rfl (R_call rfl Try.call18 rfl) (awake_ret _) ?_; rintro _ w421 ⟨rfl, H1⟩; replace H := H.seq0 H1; clear H1)
        refine WL_stepM rfl (R_as) ?_
        refine WL_nil ?_
        refine W_ret ?_
        exact ⟨_, rfl, rfl, H.none (kApp hQ.keys (kCons hp (kCons hq kNil)))⟩
end
end Go.Proofs.Ytaclingiedmpbaa.Sect

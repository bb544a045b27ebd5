/-
  The law SectTurns.
-/
import Derived.Test.YtaclingiedmpbaaSectF
namespace Go.Proofs.Ytaclingiedmpbaa.Sect
open Go Go.Proofs Go.Proofs.Ytaclingiedmpbaa.Fx
set_option maxRecDepth 100000
set_option linter.unusedVariables false
set_option linter.unusedSimpArgs false
set_option maxHeartbeats 1000000

/-- nobody holds, at nought -/
def tuSx (L wh stp : Int) (q : List Int) (st : Int) : Sx := ⟨L, false, wh, stp, 0, q, 0, 0, st⟩
/-- one holds, at nought -/
def tuIn (L who : Int) (q : List Int) (st : Int) : Sx := ⟨L, true, who, st, 0, q, 0, 0, st⟩
def ask (q : List Int) (x : Int) : List Int := if x ∈ q then q else q ++ [x]

theorem tu_en2 (L wh stp : Int) (q : List Int) (st x : Int) : en2 (tuSx L wh stp q st) x 0 = tuSx L wh stp (ask q x) st := by
  by_cases h : x ∈ q
  · have h' : x ∈ (tuSx L wh stp q st).q := h
    unfold en2 ask; rw [if_pos h, if_pos h']
  · have h' : ¬ x ∈ (tuSx L wh stp q st).q := h
    unfold en2 ask; rw [if_neg h, if_neg h']; split <;> rfl
theorem tu_in {L wh stp st x : Int} {q q2 : List Int} (hL : 1 ≤ L) (h0 : 0 ≤ x) (h1 : x ≤ 99) (h : ask q x = x :: q2) : enter (tuSx L wh stp q st) x 0 = (tuIn L x q2 (st + 1), st + 1, true) := by
  have hm : max 0 (tuSx L wh stp q st).last = 0 := rfl
  have hl : ¬ L ≤ 0 := by omega
  unfold enter enterA
  rw [if_neg (by omega), hm, if_neg (fun e => Bool.noConfusion e.1), show ({ tuSx L wh stp q st with last := 0 } : Sx) = tuSx L wh stp q st from rfl, tu_en2, h]
  simp [tuSx, tuIn, en3, en4, en5, enterB, hl]
theorem tu_no {L wh stp st x : Int} {q : List Int} (hL : 1 ≤ L) (h0 : 0 ≤ x) (h1 : x ≤ 99) (h : (ask q x).head? ≠ some x) : enter (tuSx L wh stp q st) x 0 = (tuSx L wh stp (ask q x) st, 0, false) := by
  have hm : max 0 (tuSx L wh stp q st).last = 0 := rfl
  have hl : ¬ L ≤ 0 := by omega
  unfold enter enterA
  rw [if_neg (by omega), hm, if_neg (fun e => Bool.noConfusion e.1), show ({ tuSx L wh stp q st with last := 0 } : Sx) = tuSx L wh stp q st from rfl, tu_en2]
  generalize ask q x = q1 at *
  simp [tuSx, tuIn, en3, en4, en5, enterB, hl, h]
theorem tu_out (L x : Int) (q : List Int) (st : Int) : leaveSx (tuIn L x q st) x st = tuSx L x st q st := by
  unfold leaveSx
  rw [if_pos ⟨rfl, rfl, rfl⟩]; rfl
theorem tu_bd {L wh stp st : Int} {q : List Int} (hL : 1 ≤ L) (h0 : 0 ≤ st) (h1 : st ≤ 1000) (hq : q.length ≤ 1000) : Bd (tuSx L wh stp q st) 10 :=
  ⟨hL, (by decide : (0 : Int) ≤ 0), (by decide : (0 : Int) ≤ 10), (by decide : (0 : Int) ≤ 0), (by decide : (0 : Int) ≤ 10), (by decide : (0 : Int) ≤ 0), (by decide : (0 : Int) ≤ 10), h0, by show st ≤ _; omega, by show q.length ≤ _; omega⟩

/-- round r, behind i who asked -/
structure Tn (n r k i : Nat) (q : List Int) (c : Nat → Int) : Prop where
  mem : ∀ y ∈ q, ∃ m : Nat, y = m ∧ m < n
  ql : q.length ≤ 8 * r + i
  c0 : ∀ x, 0 ≤ c x
  c1 : ∀ x, c x ≤ 8 * r + i
  main : ∀ x, x < n → 0 < c x ∨ (r = 0 ∧ ∀ j, j < i → (j + k) % n ≠ x) ∨
    ∃ pre suf, q = pre ++ ((x : Nat) : Int) :: suf ∧ (pre.length + r + 1 ≤ 8 ∨ (1 ≤ r ∧ pre.length + r ≤ 8 ∧ ∀ j, j < i → q.head? ≠ some (((j + k) % n : Nat) : Int)))

theorem Tn.start (n k : Nat) : Tn n 0 k 0 [] fun _ => 0 :=
  ⟨fun _ h => by simp at h, by simp, fun _ => by simp, fun _ => by simp, fun x _ => .inr (.inl ⟨rfl, fun j hj => by omega⟩)⟩
theorem ask_mem {n : Nat} {q : List Int} {w : Nat} (hw : w < n) (h : ∀ y ∈ q, ∃ m : Nat, y = m ∧ m < n) : ∀ y ∈ ask q (w : Int), ∃ m : Nat, y = m ∧ m < n := by
  unfold ask
  split
  · exact h
  · intro y hy
    rcases List.mem_append.1 hy with hy | hy
    · exact h y hy
    · simp at hy; exact ⟨w, hy, hw⟩
theorem ask_len (q : List Int) (x : Int) : (ask q x).length ≤ q.length + 1 := by
  unfold ask
  split
  · omega
  · simp
/-- who stands in the queue still stands there when another one has asked -/
theorem ask_keep {q pre suf : List Int} {x y : Int} (h : q = pre ++ x :: suf) : (∃ suf', ask q y = pre ++ x :: suf') ∧ (ask q y).head? = q.head? := by
  unfold ask
  split
  · exact ⟨⟨suf, h⟩, rfl⟩
  · subst h
    refine ⟨⟨suf ++ [y], by simp⟩, ?_⟩
    cases pre <;> simp
theorem head_cons {l : List Int} {x : Int} (h : l.head? = some x) : ∃ t, l = x :: t := by
  cases l with
  | nil => cases h
  | cons a t => cases h; exact ⟨t, rfl⟩
/-- who asked stands in the queue -/
theorem ask_in (q : List Int) (x : Int) : ∃ pre suf, ask q x = pre ++ x :: suf ∧ pre.length ≤ q.length := by
  unfold ask
  split
  · rename_i h
    obtain ⟨pre, suf, rfl⟩ := List.append_of_mem h
    exact ⟨pre, suf, rfl, by simp⟩
  · exact ⟨q, [], rfl, Nat.le_refl _⟩

theorem Tn.in_ {n r k i : Nat} {q q2 : List Int} {c : Nat → Int} (h : Tn n r k i q c) (hi : i < 8) {w : Nat} (hw : (i + k) % n = w) (hwn : w < n) (ha : ask q (w : Int) = (w : Int) :: q2) :
    Tn n r k (i + 1) q2 (upd c w (c w + 1)) := by
  have hl := ask_len q (w : Int)
  rw [ha] at hl
  simp only [List.length_cons] at hl
  have hm := ask_mem hwn h.mem
  rw [ha] at hm
  refine ⟨fun y hy => hm y (by simp [hy]), by have := h.ql; omega, fun x => ?_, fun x => ?_, fun x hx => ?_⟩
  · unfold upd; split
    · have := h.c0 w; omega
    · exact h.c0 x
  · unfold upd; split
    · have := h.c1 w; omega
    · have := h.c1 x; omega
  · by_cases hxw : x = w
    · left; unfold upd; rw [if_pos hxw]; have := h.c0 w; omega
    · rcases h.main x hx with h1 | ⟨h1, h2⟩ | ⟨pre, suf, h1, h2⟩
      · left; unfold upd; rw [if_neg hxw]; exact h1
      · refine .inr (.inl ⟨h1, fun j hj => ?_⟩)
        rcases Nat.lt_or_ge j i with hj' | hj'
        · exact h2 j hj'
        · obtain rfl : j = i := by omega
          rw [hw]; exact fun e => hxw e.symm
      · obtain ⟨⟨suf', hs⟩, hh⟩ := ask_keep (y := (w : Int)) h1
        rw [ha] at hs
        cases pre with
        | nil =>
          simp only [List.nil_append, List.cons.injEq] at hs
          exact absurd (by omega) hxw
        | cons a pre =>
          simp only [List.cons_append, List.cons.injEq] at hs
          refine .inr (.inr ⟨pre, suf', hs.2, .inl ?_⟩)
          simp only [List.length_cons] at h2
          omega
theorem Tn.no {n r k i : Nat} {q : List Int} {c : Nat → Int} (h : Tn n r k i q c) (hi : i < 8) {w : Nat} (hw : (i + k) % n = w) (hwn : w < n) (ha : (ask q (w : Int)).head? ≠ some (w : Int)) :
    Tn n r k (i + 1) (ask q (w : Int)) c := by
  have hl := ask_len q (w : Int)
  refine ⟨ask_mem hwn h.mem, by have := h.ql; omega, h.c0, fun x => by have := h.c1 x; omega, fun x hx => ?_⟩
  rcases h.main x hx with h1 | ⟨h1, h2⟩ | ⟨pre, suf, h1, h2⟩
  · exact .inl h1
  · by_cases hxw : x = w
    · right; right
      subst hxw
      obtain ⟨pre, suf, hp, hpl⟩ := ask_in q (x : Int)
      exact ⟨pre, suf, hp, .inl (by have := h.ql; omega)⟩
    · refine .inr (.inl ⟨h1, fun j hj => ?_⟩)
      rcases Nat.lt_or_ge j i with hj' | hj'
      · exact h2 j hj'
      · obtain rfl : j = i := by omega
        rw [hw]; exact fun e => hxw e.symm
  · obtain ⟨⟨suf', hs⟩, hh⟩ := ask_keep (y := (w : Int)) h1
    refine .inr (.inr ⟨pre, suf', hs, ?_⟩)
    rcases h2 with h2 | ⟨h2, h3, h4⟩
    · exact .inl h2
    · refine .inr ⟨h2, h3, fun j hj => ?_⟩
      rcases Nat.lt_or_ge j i with hj' | hj'
      · rw [hh]; exact h4 j hj'
      · obtain rfl : j = i := by omega
        rw [hw]; exact ha
theorem all_asked {n k y : Nat} (hy : y < n) : ∃ j, j < n ∧ (j + k) % n = y := by
  refine ⟨(y + (n - k % n)) % n, Nat.mod_lt _ (by omega), ?_⟩
  have h1 := Nat.div_add_mod k n
  have h2 := Nat.mod_lt k (show 0 < n by omega)
  rw [Nat.mod_add_mod, show y + (n - k % n) + k = y + n * (k / n + 1) by rw [Nat.mul_add]; omega, Nat.add_mul_mod_self_left, Nat.mod_eq_of_lt hy]
theorem Tn.round {n r k : Nat} {q : List Int} {c : Nat → Int} (h : Tn n r k n q c) (hn : n ≤ 8) (k' : Nat) : Tn n (r + 1) k' 0 q c := by
  refine ⟨h.mem, by have := h.ql; omega, h.c0, fun x => by have := h.c1 x; omega, fun x hx => ?_⟩
  rcases h.main x hx with h1 | ⟨h1, h2⟩ | ⟨pre, suf, h1, h2⟩
  · exact .inl h1
  · obtain ⟨j, hj, he⟩ := all_asked (k := k) hx
    exact absurd he (h2 j hj)
  · refine .inr (.inr ⟨pre, suf, h1, .inr ⟨by omega, ?_, fun j hj => by omega⟩⟩)
    rcases h2 with h2 | ⟨h2, h3, h4⟩
    · omega
    · exfalso
      obtain ⟨y, ys, hq⟩ : ∃ y ys, q = y :: ys := List.exists_cons_of_ne_nil (by rw [h1]; simp)
      obtain ⟨m, rfl, hm⟩ := h.mem y (by rw [hq]; simp)
      obtain ⟨j, hj, he⟩ := all_asked (k := k) hm
      exact h4 j hj (by rw [hq, he]; rfl)
theorem Tn.done {n k : Nat} {q : List Int} {c : Nat → Int} (h : Tn n 20 k 0 q c) {x : Nat} (hx : x < n) : 0 < c x := by
  rcases h.main x hx with h1 | ⟨h1, h2⟩ | ⟨pre, suf, h1, h2⟩
  · exact h1
  · omega
  · omega

section
variable {w : World} {p : Nat}
attribute [local simp] tab_length
theorem turns_ret {xs : List Int} {l : Value} (a b : Int) (hl : RdS w l (xs.map I)) (hb : xs.length ≤ 9223372036854775807) :
    Ret Try.prog 6 #[I a, I b, l] w fun v w' => v = .bool true ∧ Hp w [] w' := by
  refine Ret_of_W (args := [_, _, _]) Try.func6 rfl Try.ntmps6 Try.results6 (by simp) ?_
  have H := Hp.refl w
  have hQ := OwnQ.nil w.heap.size 3
  obtain ⟨ao, ca, rfl⟩ := hl.form
  simp only [List.length_map] at hl ⊢
  obtain ⟨L, hL, hL1, hL2⟩ : ∃ L : Int, a % 16 + 2 = L ∧ 1 ≤ L ∧ L ≤ 100 := ⟨_, rfl, by omega, by omega⟩
  obtain ⟨n, hn, hn1, hn2⟩ : ∃ n : Nat, b % 256 % 7 + 2 = n ∧ 2 ≤ n ∧ n ≤ 8 := ⟨(b % 256 % 7 + 2).toNat, by omega, by omega, by omega⟩
  refine W_seq ?_
  refine W_region_l ?_
  refine WL_stepM rfl (R_as) ?_
  refine WL_nil ?_
  refine W_seq ?_
  refine W_region_l ?_
  refine WL_stepM rfl (R_mv) ?_
  refine WL_step rfl (R_bits rfl rfl (by simp) (and_mask_i64 4 16 (by decide) rfl (by decide))) ?_
  refine WL_step rfl (R_add rfl rfl (w_i64 (by omega))) ?_
  refine WL_stepM rfl (R_mv) ?_
  refine WL_step rfl (R_bits rfl rfl (by simp) (and_mask_i64 8 256 (by decide) rfl (by decide))) ?_
  refine WL_step rfl (R_rem rfl rfl (by omega) (rem_pos (by omega))) ?_
  refine WL_step rfl (R_add rfl rfl (w_i64 (by omega))) ?_
  refine WL_stepM rfl (R_as) ?_
  refine WL_stepM rfl (R_as) ?_
  refine WL_nil ?_
  refine W_seq ?_
  (rw [hL, hn]) <;> refine W_region_l ?_
  refine WL_stepM rfl (R_mv) ?_
  (refine WL_call rfl (R_call rfl Try.call14 rfl) (new_ret L _) ?_; clear H; rintro _ w20 ⟨p, rfl, hp, H⟩; rw [newSx_ok hL1 (by omega)] at H)
  refine WL_stepM rfl (R_as) ?_
  refine WL_nil ?_
  refine W_seq ?_
  refine W_seq ?_
  refine W_region_l ?_
  refine WL_stepM rfl (R_mv) ?_
  refine WL_step rfl (R_eq_ptr_nil Try.underlying23 rfl rfl) ?_
  refine WL_nil ?_
  refine W_cond_f rfl ?_
  refine W_skip ?_
  refine W_seq ?_
  refine W_region_l ?_
  (refine WL_effn rfl (E_alloc H Try.zeroValue33 rfl) ?_; clear H; intro q w33 hq H; replace H := H.swap2)
  refine WL_nil ?_
  refine W_seq ?_
  refine W_seq ?_
  refine W_region_l ?_
  refine WL_stepM rfl (R_as) ?_
  refine WL_nil ?_
  refine W_block ?_
  refine W_loopS [(6, 6), (9, 14), (29, 68)] (fun (r : Nat) E w' => ∃ (wh stp st : Int) (u : List Int) (c : Nat → Int) (qv : Value) (M : List (Nat × Obj)), r ≤ 20 ∧ E 9 = I r ∧ (∀ kk, Tn n r kk 0 u c) ∧ 0 ≤ st ∧ st ≤ 8 * r ∧ OwnQ w.heap.size 3 qv (u.map I) M ∧ Hp w (M ++ ((p, blk (sxC (tuSx L wh stp u st) qv) 64) :: (q, blk (tab 8 fun i => I (c i)) 33) :: [])) w') (fun r => 20 - r) 0 ?e0 ?r0
  · exact ⟨0, 0, 0, [], fun _ => 0, _, _, by omega, rfl, Tn.start n, by omega, by omega, hQ, H⟩
  · (clear H hQ; rintro r E w1 ⟨wh, stp, st, u, c, qv, M, hr, h0, hT, hs0, hs1, hQ, H⟩; refine W_kn h0 ?_)
    refine W_seq ?_
    refine W_seq ?_
    refine W_region_l ?_
    refine WL_stepM rfl (R_mv) ?_
    refine WL_step rfl (R_lt rfl rfl) ?_
    refine WL_nil ?_
    refine W_if rfl (fun h49 => ?_) (fun h49 => ?_)
    · refine W_skip ?_
      refine W_seq ?_
      refine W_block ?_
      refine W_seq ?_
      refine W_region_l ?_
      refine WL_stepM rfl (R_as) ?_
      refine WL_nil ?_
      refine W_seqS [(10, 10), (33, 41)] (fun E w' => ∃ kk : Nat, kk < 8 ∧ E 10 = I kk ∧ Hp w (M ++ ((p, blk (sxC (tuSx L wh stp u st) qv) 64) :: (q, blk (tab 8 fun i => I (c i)) 33) :: [])) w') ?c10 ?k10
      · refine W_seq ?_
        refine W_region_l ?_
        refine WL_stepM rfl (R_mv) ?_
        refine WL_stepM rfl (R_mv) ?_
        refine WL_step rfl (R_len_slice Try.underlying22 rfl) ?_
        refine WL_step rfl (R_lt rfl rfl) ?_
        refine WL_nil ?_
        refine W_if rfl (fun h65 => ?_) (fun h65 => ?_)
        · (obtain ⟨b1, o1, rfl, hc1⟩ := hl.cell (i := r) (u := I xs[r]) (by rw [List.getElem?_map, List.getElem?_eq_getElem (by omega)]; rfl)) <;> refine W_region_l ?_
          refine WL_stepM rfl (R_mv) ?_
          refine WL_stepM rfl (R_mv) ?_
          refine WL_step rfl (R_indexAddr Try.underlying22 Try.sizeOf3 rfl rfl (by omega) (by omega) idx_cast1) ?_
          refine WL_step rfl (R_load_cell Try.isAgg3 rfl (H.cellN hc1 (kApp hQ.keys (kCons hp (kCons hq kNil))))) ?_
          refine WL_step rfl (R_bits rfl rfl (by simp) (and_mask_i64 3 8 (by decide) rfl (by decide))) ?_
          refine WL_stepM rfl (R_as) ?_
          refine WL_nil ?_
          exact ⟨(by repeat' first | with_reducible exact Same.refl | refine same_updo rfl ?_ | refine same_mov rfl ?_ | refine same_upd rfl ?_ | refine same_updn ?_ | refine same_know rfl ?_ | exact same_ovr | refine same_in rfl ?_ | exact Same.refl), (xs[r] % 8).toNat, by omega, congrArg I (by omega), H⟩
        · refine W_skip ?_
          exact ⟨(by repeat' first | with_reducible exact Same.refl | refine same_updo rfl ?_ | refine same_mov rfl ?_ | refine same_upd rfl ?_ | refine same_updn ?_ | refine same_know rfl ?_ | exact same_ovr | refine same_in rfl ?_ | exact Same.refl), 0, by omega, rfl, H⟩
      · (clear H; rintro E w1 ⟨kk, hkk, h1, H⟩; refine W_kn h1 ?_)
        refine W_seq ?_
        refine W_region_l ?_
        refine WL_stepM rfl (R_as) ?_
        refine WL_nil ?_
        refine W_block ?_
        refine W_loopS [(6, 6), (11, 14), (42, 68)] (fun (i : Nat) E w' => ∃ (wh stp st : Int) (u : List Int) (c : Nat → Int) (qv : Value) (M : List (Nat × Obj)), i ≤ n ∧ E 11 = I i ∧ Tn n r kk i u c ∧ 0 ≤ st ∧ st ≤ 8 * r + i ∧ OwnQ w.heap.size 3 qv (u.map I) M ∧ Hp w (M ++ ((p, blk (sxC (tuSx L wh stp u st) qv) 64) :: (q, blk (tab 8 fun i => I (c i)) 33) :: [])) w') (fun i => n - i) 0 ?e2 ?r2
        · exact ⟨_, _, _, u, c, _, _, by omega, rfl, hT kk, by omega, by omega, hQ, H⟩
        · (clear H hQ hT hs0 hs1; rintro i E w1 ⟨wh, stp, st, u, c, qv, M, hi, h2, hT, hs0, hs1, hQ, H⟩; refine W_kn h2 ?_)
          refine W_seq ?_
          refine W_seq ?_
          refine W_region_l ?_
          refine WL_stepM rfl (R_mv) ?_
          refine WL_stepM rfl (R_mv) ?_
          refine WL_step rfl (R_lt rfl rfl) ?_
          refine WL_nil ?_
          refine W_if rfl (fun h92 => ?_) (fun h92 => ?_)
          · refine W_skip ?_
            refine W_seq ?_
            refine W_block ?_
            refine W_seq ?_
            refine W_region_l ?_
            refine WL_stepM rfl (R_mv) ?_
            refine WL_stepM rfl (R_mv) ?_
            refine WL_step rfl (R_add rfl rfl (w_i64 (by omega))) ?_
            refine WL_stepM rfl (R_mv) ?_
            refine WL_step rfl (R_rem rfl rfl (by omega) (rem_pos (by omega))) ?_
            refine WL_stepM rfl (R_as) ?_
            refine WL_nil ?_
            refine W_seq ?_
            ((obtain ⟨j, hj⟩ : ∃ j : Nat, (i + kk) % n = j := ⟨_, rfl⟩; have hjn : j < n := hj ▸ Nat.mod_lt _ (by omega); rw [show ((i : Int) + kk) % n = j by rw [← hj]; push_cast; rfl]; have hql := hT.ql; have hcj := hT.c1 j; have hcj0 := hT.c0 j; by_cases hh : (ask u (j : Int)).head? = some (j : Int))) <;> refine W_region_l ?_
            · refine WL_stepM rfl (R_mv) ?_
              refine WL_stepM rfl (R_mv) ?_
              (obtain ⟨u2, hu2⟩ := head_cons hh; have hT2 := hT.in_ (by omega) hj hjn hu2; refine WL_call rfl (R_call rfl Try.call15 rfl) (enter_to (R := [(q, _)]) (T := 10) _ _ (tu_in hL1 (by omega) (by omega) hu2) hQ H (tu_bd hL1 hs0 (by omega) (by omega)) (by omega) (by omega)) ?_; clear H hQ; rintro _ w109 ⟨q1, M1, rfl, hQ, H⟩)
              refine WL_stepM rfl (R_mv) ?_
              refine WL_step rfl (R_extract rfl rfl) ?_
              refine WL_step rfl (R_extract rfl rfl) ?_
              refine WL_stepM rfl (R_as) ?_
              refine WL_stepM rfl (R_as) ?_
              refine WL_nil ?_
              refine W_seq ?_
              refine W_region_l ?_
              refine WL_stepM rfl (R_mv) ?_
              refine WL_nil ?_
              refine W_cond_t rfl ?_
              refine W_seq ?_
              refine W_region_l ?_
              refine WL_stepM rfl (R_mv) ?_
              refine WL_step rfl (R_indexAddrA Try.underlying33 Try.sizeOf3 rfl rfl (by omega) (by omega) idx0_cast) ?_
              refine WL_step rfl (R_load Try.isAgg3 rfl (H.get (.app _ (.there .here))) (tab_get _ (show j < 8 by omega))) ?_
              refine WL_step rfl (R_add rfl rfl (w_i64 (by omega))) ?_
              refine WL_step rfl (R_indexAddrA Try.underlying33 Try.sizeOf3 rfl rfl (by omega) (by omega) idx0_cast) ?_
              (refine WL_effu rfl (E_store (v := (.int _ _)) H Try.sizeOf3 rfl rfl rfl (.app _ (.there .here)) (by simp; omega)) ?_; clear H; intro w128 H)
              refine WL_nil ?_
              refine W_seq ?_
              refine W_region_l ?_
              refine WL_stepM rfl (R_mv) ?_
              refine WL_stepM rfl (R_mv) ?_
              refine WL_stepM rfl (R_mv) ?_
              (rw [tab_set (g := fun i => I (upd c j (c j + 1) i)) (show j < 8 by omega) (by simp [upd]) (fun i _ hi => by simp [upd, hi])] at H; refine WL_call rfl (R_call rfl Try.call17 rfl) (leave_to _ _ (b := true) (decide_eq_true ⟨rfl, rfl, rfl⟩) (tu_out _ _ _ _) H) ?_; clear H; rintro _ w135 ⟨rfl, H⟩)
              refine WL_step rfl (R_not_t rfl) ?_
              refine WL_nil ?_
              refine W_cond_f rfl ?_
              refine W_skip ?_
              refine W_region_l ?_
              refine WL_stepM rfl (R_mv) ?_
              refine WL_step rfl (R_add rfl rfl (w_i64 (by omega))) ?_
              refine WL_stepM rfl (R_as) ?_
              refine WL_nil ?_
              exact ⟨(by repeat' first | with_reducible exact Same.refl | refine same_updo rfl ?_ | refine same_mov rfl ?_ | refine same_upd rfl ?_ | refine same_updn ?_ | refine same_know rfl ?_ | exact same_ovr | refine same_in rfl ?_ | exact Same.refl), i + 1, by omega, _, _, _, _, _, _, _, by omega, rfl, hT2, by omega, by omega, hQ, H⟩
            · refine WL_stepM rfl (R_mv) ?_
              refine WL_stepM rfl (R_mv) ?_
              (refine WL_call rfl (R_call rfl Try.call15 rfl) (enter_to (R := [(q, _)]) (T := 10) _ _ (tu_no hL1 (by omega) (by omega) hh) hQ H (tu_bd hL1 hs0 (by omega) (by omega)) (by omega) (by omega)) ?_; clear H hQ; rintro _ w148 ⟨q1, M1, rfl, hQ, H⟩)
              refine WL_stepM rfl (R_mv) ?_
              refine WL_step rfl (R_extract rfl rfl) ?_
              refine WL_step rfl (R_extract rfl rfl) ?_
              refine WL_stepM rfl (R_as) ?_
              refine WL_stepM rfl (R_as) ?_
              refine WL_nil ?_
              refine W_seq ?_
              refine W_region_l ?_
              refine WL_stepM rfl (R_mv) ?_
              refine WL_nil ?_
              refine W_cond_f rfl ?_
              refine W_skip ?_
              refine W_region_l ?_
              refine WL_stepM rfl (R_mv) ?_
              refine WL_step rfl (R_add rfl rfl (w_i64 (by omega))) ?_
              refine WL_stepM rfl (R_as) ?_
              refine WL_nil ?_
              exact ⟨(by repeat' first | with_reducible exact Same.refl | refine same_updo rfl ?_ | refine same_mov rfl ?_ | refine same_upd rfl ?_ | refine same_updn ?_ | refine same_know rfl ?_ | exact same_ovr | refine same_in rfl ?_ | exact Same.refl), i + 1, by omega, _, _, _, _, _, _, _, by omega, rfl, hT.no (by omega) hj hjn hh, by omega, by omega, hQ, H⟩
          · refine W_exit ?_
            refine (if_pos rfl).mpr ?_
            refine W_region_l ?_
            refine WL_stepM rfl (R_mv) ?_
            refine WL_step rfl (R_add rfl rfl (w_i64 (by omega))) ?_
            refine WL_stepM rfl (R_as) ?_
            refine WL_nil ?_
            exact ⟨(by repeat' first | with_reducible exact Same.refl | refine same_updo rfl ?_ | refine same_mov rfl ?_ | refine same_upd rfl ?_ | refine same_updn ?_ | refine same_know rfl ?_ | exact same_ovr | refine same_in rfl ?_ | exact Same.refl), r + 1, by omega, _, _, _, _, _, _, _, by omega, rfl, (by obtain rfl : i = n := (by omega); exact hT.round hn2), by omega, by omega, hQ, H⟩
    · refine W_exit ?_
      refine (if_pos rfl).mpr ?_
      refine W_seq ?_
      ((obtain rfl : r = 20 := (by omega); have hc00 := (hT 0).done (x := 0) (by omega); have hc01 := (hT 0).c1 0)) <;> (refine W_drawH (fun _ => false) (by kernel_rfl) H ?_; clear H; intro w178 H)
      refine WA_take 0 rfl rfl rfl (by kernel_rfl) (by kernel_rfl) H (fun _ hC => R_indexAddrA (off' := 0) Try.underlying33 Try.sizeOf3 rfl rfl (by omega) (by omega) rfl) ?_
      refine WA_take 1 rfl rfl rfl (by kernel_rfl) (by kernel_rfl) H (fun _ hC => R_load Try.isAgg3 rfl (hC.get (.app _ (.there .here))) (tab_get _ (show 0 < 8 by omega))) ?_
      refine WA_take 2 rfl rfl rfl (by kernel_rfl) (by kernel_rfl) H (fun _ hC => R_indexAddrA (off' := 0) Try.underlying33 Try.sizeOf3 rfl rfl (by omega) (by omega) rfl) ?_
      refine WA_take 3 rfl rfl rfl (by kernel_rfl) (by kernel_rfl) H (fun _ hC => R_load Try.isAgg3 rfl (hC.get (.app _ (.there .here))) (tab_get _ (show 0 < 8 by omega))) ?_
      refine WA_takeM 4 rfl rfl rfl (by kernel_rfl) (by kernel_rfl) H (fun _ hC => R_as) ?_
      refine WA_takeM 5 rfl rfl rfl (by kernel_rfl) (by kernel_rfl) H (fun _ hC => R_as) ?_
      refine WA_done (by kernel_rfl) ?_
      refine W_seq ?_
      refine W_seq ?_
      refine W_region_l ?_
      refine WL_stepM rfl (R_as) ?_
      refine WL_nil ?_
      refine W_block ?_
      refine W_loopS [(15, 17), (73, 87)] (fun (i : Nat) E w' => ∃ (lo hi : Int), 1 ≤ i ∧ i ≤ n ∧ E 15 = I lo ∧ E 16 = I hi ∧ E 17 = I i ∧ 0 < lo ∧ lo ≤ 1000 ∧ 0 ≤ hi ∧ hi ≤ 1000 ∧ Hp w (M ++ ((p, blk (sxC (tuSx L wh stp u st) qv) 64) :: (q, blk (tab 8 fun i => I (c i)) 33) :: [])) w') (fun i => n - i) 1 ?e4 ?r4
      · exact ⟨_, _, by omega, by omega, rfl, rfl, rfl, hc00, by omega, by omega, by omega, H⟩
      · (clear H; rintro i E w1 ⟨lo, hi, hi1, hi2, h2, h3, h4, hl0, hl1, hh0, hh1, H⟩; refine W_kn3 h2 h3 h4 ?_)
        refine W_seq ?_
        refine W_seq ?_
        refine W_region_l ?_
        refine WL_stepM rfl (R_mv) ?_
        refine WL_stepM rfl (R_mv) ?_
        refine WL_step rfl (R_lt rfl rfl) ?_
        refine WL_nil ?_
        refine W_if rfl (fun h201 => ?_) (fun h201 => ?_)
        · refine W_skip ?_
          refine W_seq ?_
          refine W_block ?_
          ((have hci := (hT 0).done (x := i) (by omega); have hci1 := (hT 0).c1 i; obtain ⟨mn, hmn, hmn0, hmn1⟩ : ∃ mn, min lo (c i) = mn ∧ 0 < mn ∧ mn ≤ 1000 := ⟨_, rfl, by omega, by omega⟩; obtain ⟨mx, hmx, hmx0, hmx1⟩ : ∃ mx, max hi (c i) = mx ∧ 0 ≤ mx ∧ mx ≤ 1000 := ⟨_, rfl, by omega, by omega⟩)) <;> (refine W_drawH (fun _ => false) (by kernel_rfl) H ?_; clear H; intro w205 H)
          refine WA_takeM 0 rfl rfl rfl (by kernel_rfl) (by kernel_rfl) H (fun _ hC => R_mv) ?_
          refine WA_takeM 1 rfl rfl rfl (by kernel_rfl) (by kernel_rfl) H (fun _ hC => R_mv) ?_
          refine WA_take 2 rfl rfl rfl (by kernel_rfl) (by kernel_rfl) H (fun _ hC => R_indexAddrA Try.underlying33 Try.sizeOf3 rfl rfl (by omega) (by omega) idx0_cast) ?_
          refine WA_take 3 rfl rfl rfl (by kernel_rfl) (by kernel_rfl) H (fun _ hC => R_load Try.isAgg3 rfl (hC.get (.app _ (.there .here))) (tab_get _ (show i < 8 by omega))) ?_
          refine WA_take 4 rfl rfl rfl (by kernel_rfl) (by kernel_rfl) H (fun _ hC => R_min rfl rfl hmn) ?_
          refine WA_takeM 5 rfl rfl rfl (by kernel_rfl) (by kernel_rfl) H (fun _ hC => R_mv) ?_
          refine WA_takeM 6 rfl rfl rfl (by kernel_rfl) (by kernel_rfl) H (fun _ hC => R_mv) ?_
          refine WA_take 7 rfl rfl rfl (by kernel_rfl) (by kernel_rfl) H (fun _ hC => R_indexAddrA Try.underlying33 Try.sizeOf3 rfl rfl (by omega) (by omega) idx0_cast) ?_
          refine WA_take 8 rfl rfl rfl (by kernel_rfl) (by kernel_rfl) H (fun _ hC => R_load Try.isAgg3 rfl (hC.get (.app _ (.there .here))) (tab_get _ (show i < 8 by omega))) ?_
          refine WA_take 9 rfl rfl rfl (by kernel_rfl) (by kernel_rfl) H (fun _ hC => R_max rfl rfl hmx) ?_
          refine WA_takeM 10 rfl rfl rfl (by kernel_rfl) (by kernel_rfl) H (fun _ hC => R_as) ?_
          refine WA_takeM 11 rfl rfl rfl (by kernel_rfl) (by kernel_rfl) H (fun _ hC => R_as) ?_
          refine WA_done (by kernel_rfl) ?_
          refine W_region_l ?_
          refine WL_stepM rfl (R_mv) ?_
          refine WL_step rfl (R_add rfl rfl (w_i64 (by omega))) ?_
          refine WL_stepM rfl (R_as) ?_
          refine WL_nil ?_
          exact ⟨(by repeat' first | with_reducible exact Same.refl | refine same_updo rfl ?_ | refine same_mov rfl ?_ | refine same_upd rfl ?_ | refine same_updn ?_ | refine same_know rfl ?_ | exact same_ovr | refine same_in rfl ?_ | exact Same.refl), i + 1, by omega, _, _, by omega, by omega, rfl, rfl, rfl, hmn0, hmn1, hmx0, hmx1, H⟩
        · refine W_exit ?_
          refine (if_pos rfl).mpr ?_
          refine W_seq ?_
          refine W_region_l ?_
          refine WL_stepM rfl (R_mv) ?_
          refine WL_step rfl (R_gt_t rfl rfl (by omega)) ?_
          refine WL_stepM rfl (R_mv) ?_
          refine WL_guard_t rfl rfl ?_
          (refine WL_call rfl (R_call rfl Try.call18 rfl) (awake_ret _) ?_; rintro _ w233 ⟨rfl, H1⟩; replace H := H.seq0 H1; clear H1)
          refine WL_stepM rfl (R_pk_t rfl) ?_
          refine WL_stepM rfl (R_as) ?_
          refine WL_nil ?_
          refine W_ret ?_
          exact ⟨_, rfl, rfl, H.none (kApp hQ.keys (kCons hp (kCons hq kNil)))⟩
end
end Go.Proofs.Ytaclingiedmpbaa.Sect

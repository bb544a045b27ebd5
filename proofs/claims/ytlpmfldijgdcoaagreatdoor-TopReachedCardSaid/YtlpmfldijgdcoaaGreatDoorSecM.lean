/-
  What a Sect holds in memory; the lesser calls.
-/
import Derived.Test.YtlpmfldijgdcoaaGreatDoorFxU
import Derived.Test.YtlpmfldijgdcoaaGreatDoorProg
namespace Go.Proofs.YtlpmfldijgdcoaaGreatDoor.Sect
open Go Go.Proofs Go.Proofs.YtlpmfldijgdcoaaGreatDoor.Fx
set_option maxRecDepth 100000
set_option linter.unusedVariables false
set_option linter.unusedSimpArgs false
set_option maxHeartbeats 1000000

/-- a Sect -/
structure Sx where
  lease : Int
  held : Bool
  who : Int
  stamp : Int
  since : Int
  q : List Int
  first : Int
  last : Int
  stamps : Int

def sxC (s : Sx) (qv : Value) : List Value := [I s.lease, .bool s.held, I s.who, I s.stamp, I s.since, qv, I s.first, I s.last, I s.stamps]

def newSx (n : Int) : Sx := ⟨min (max n 1) 1000, false, 0, 0, 0, [], 0, 0, 0⟩

section
variable {w0 w : World} {p : Nat} {s : Sx} {qv : Value} {Mq R : List (Nat × Obj)}

theorem new_ret (n : Int) (w : World) : Ret Tryz.prog 48 #[I n] w fun v w' => ∃ p, v = ptr p 0 ∧ w.heap.size ≤ p ∧ Hp w [(p, blk (sxC (newSx n) nilS) 170)] w' := by
  refine Ret_of_W (args := [_]) Tryz.func48 rfl Tryz.ntmps48 Tryz.results48 (by simp) ?_
  have H := Hp.refl w
  refine W_seq ?_
  refine W_region_l ?_
  refine WL_stepM rfl (R_as) ?_
  refine WL_nil ?_
  refine W_seq ?_
  refine W_region_l ?_
  refine WL_stepM rfl (R_mv) ?_
  refine WL_step rfl (R_max rfl rfl rfl) ?_
  refine WL_step rfl (R_min rfl rfl rfl) ?_
  refine WL_step rfl (R_build (vs := [(.int _ _), (.bool _), (.int _ _), (.int _ _), (.int _ _), (.slice _ _ _), (.int _ _), (.int _ _), (.int _ _)]) rfl rfl) ?_
  (refine WL_effn rfl (E_box (vs := sxC (newSx n) nilS) H rfl rfl) ?_; clear H; intro p w11 hp H)
  refine WL_stepM rfl (R_as) ?_
  refine WL_nil ?_
  refine W_ret ?_
  exact ⟨_, rfl, p, rfl, hp, H⟩

theorem holds_ret (who stamp : Int) (H : Hp w0 (Mq ++ ((p, blk (sxC s qv) 170) :: R)) w) :
    Ret Tryz.prog 132 #[ptr p 0, I who, I stamp] w fun v w' => v = .bool (decide (s.held = true ∧ s.who = who ∧ s.stamp = stamp)) ∧ Hp w0 (Mq ++ ((p, blk (sxC s qv) 170) :: R)) w' := by
  refine Ret_of_W (args := [_, _, _]) Tryz.func132 rfl Tryz.ntmps132 Tryz.results132 (by simp) ?_
  unfold sxC at H
  refine W_seq ?_
  refine W_region_l ?_
  refine WL_stepM rfl (R_as) ?_
  refine WL_nil ?_
  refine W_seq ?_
  refine W_region_l ?_
  refine WL_stepM rfl (R_mv) ?_
  refine WL_step rfl (R_nilCheck rfl) ?_
  refine WL_step rfl (R_fieldAddr (off' := 1) Tryz.underlying170 rfl Tryz.sizeOf4 (by decide) rfl rfl) ?_
  refine WL_step rfl (R_load Tryz.isAgg4 rfl (H.get (.app _ .here)) rfl) ?_
  refine WL_stepM rfl (R_mv) ?_
  apply WL_andK 7 11 18 [(12, 18)] H
  case hc => exact decV rfl
  case h1 =>
    intro h12
    refine WL_guard_t rfl rfl ?_
    refine WL_stepM rfl (R_mv) ?_
    refine WL_guard_t rfl rfl ?_
    refine WL_step rfl (R_nilCheck rfl) ?_
    refine WL_guard_t rfl rfl ?_
    refine WL_step rfl (R_fieldAddr (off' := 2) Tryz.underlying170 rfl Tryz.sizeOf3 (by decide) rfl rfl) ?_
    refine WL_guard_t rfl rfl ?_
    refine WL_step rfl (R_load Tryz.isAgg3 rfl (H.get (.app _ .here)) rfl) ?_
    refine WL_guard_t rfl rfl ?_
    refine WL_stepM rfl (R_mv) ?_
    refine WL_guard_t rfl rfl ?_
    refine WL_step rfl (R_eq rfl rfl) ?_
    refine WL_stepM rfl (R_pk_t rfl) ?_
    refine WL_nil ?_
    exact ⟨(same_mov rfl (same_updo rfl (same_mov rfl (same_updo rfl (same_updo rfl (same_updo rfl (same_mov rfl Same.refl))))))), rfl, H⟩
  case h0 =>
    intro h12
    refine WL_guard_f rfl rfl (by decide) ?_
    refine WL_guard_f rfl rfl (by decide) ?_
    refine WL_guard_f rfl rfl (by decide) ?_
    refine WL_guard_f rfl rfl (by decide) ?_
    refine WL_guard_f rfl rfl (by decide) ?_
    refine WL_guard_f rfl rfl (by decide) ?_
    refine WL_stepM rfl (R_pk_f rfl) ?_
    refine WL_nil ?_
    exact ⟨(same_mov rfl (same_updo rfl (same_updo rfl (same_updo rfl (same_updo rfl (same_updo rfl (same_updo rfl Same.refl))))))), rfl, H⟩
  case h2 =>
    (clear H; intro E12 w12 H)
    refine WL_stepM rfl (R_mv) ?_
    apply WL_andK 7 19 26 [(20, 26)] H
    case hc => rfl
    case h1 =>
      intro h38
      refine WL_guard_t rfl rfl ?_
      refine WL_stepM rfl (R_mv) ?_
      refine WL_guard_t rfl rfl ?_
      refine WL_step rfl (R_nilCheck rfl) ?_
      refine WL_guard_t rfl rfl ?_
      refine WL_step rfl (R_fieldAddr (off' := 3) Tryz.underlying170 rfl Tryz.sizeOf3 (by decide) rfl rfl) ?_
      refine WL_guard_t rfl rfl ?_
      refine WL_step rfl (R_load Tryz.isAgg3 rfl (H.get (.app _ .here)) rfl) ?_
      refine WL_guard_t rfl rfl ?_
      refine WL_stepM rfl (R_mv) ?_
      refine WL_guard_t rfl rfl ?_
      refine WL_step rfl (R_eq rfl rfl) ?_
      refine WL_stepM rfl (R_pk_t rfl) ?_
      refine WL_nil ?_
      exact ⟨(same_mov rfl (same_updo rfl (same_mov rfl (same_updo rfl (same_updo rfl (same_updo rfl (same_mov rfl Same.refl))))))), rfl, H⟩
    case h0 =>
      intro h38
      refine WL_guard_f rfl rfl (by decide) ?_
      refine WL_guard_f rfl rfl (by decide) ?_
      refine WL_guard_f rfl rfl (by decide) ?_
      refine WL_guard_f rfl rfl (by decide) ?_
      refine WL_guard_f rfl rfl (by decide) ?_
      refine WL_guard_f rfl rfl (by decide) ?_
      refine WL_stepM rfl (R_pk_f rfl) ?_
      refine WL_nil ?_
      exact ⟨(same_mov rfl (same_updo rfl (same_updo rfl (same_updo rfl (same_updo rfl (same_updo rfl (same_updo rfl Same.refl))))))), rfl, H⟩
    case h2 =>
      (clear H; intro E38 w38 H)
      refine WL_stepM rfl (R_as) ?_
      refine WL_nil ?_
      refine W_ret ?_
      exact ⟨_, rfl, congrArg Value.bool (decide_eq_decide.2 and_assoc), H⟩

def leaveSx (s : Sx) (who stamp : Int) : Sx := if s.held = true ∧ s.who = who ∧ s.stamp = stamp then { s with held := false, first := s.last } else s

theorem leave_ret (who stamp : Int) (H : Hp w0 (Mq ++ ((p, blk (sxC s qv) 170) :: R)) w) :
    Ret Tryz.prog 159 #[ptr p 0, I who, I stamp] w fun v w' => v = .bool (decide (s.held = true ∧ s.who = who ∧ s.stamp = stamp)) ∧ Hp w0 (Mq ++ ((p, blk (sxC (leaveSx s who stamp) qv) 170) :: R)) w' := by
  refine Ret_of_W (args := [_, _, _]) Tryz.func159 rfl Tryz.ntmps159 Tryz.results159 (by simp) ?_
  unfold sxC at H
  refine W_seq ?_
  refine W_region_l ?_
  refine WL_stepM rfl (R_as) ?_
  refine WL_nil ?_
  refine W_seq ?_
  refine W_seq ?_
  refine W_region_l ?_
  refine WL_stepM rfl (R_mv) ?_
  refine WL_stepM rfl (R_mv) ?_
  refine WL_stepM rfl (R_mv) ?_
  (refine WL_call rfl (R_call rfl Tryz.call132 rfl) (holds_ret who stamp H) ?_; clear H; rintro _ w11 ⟨rfl, H⟩; unfold sxC at H)
  refine WL_step rfl (R_not_d rfl) ?_
  refine WL_nil ?_
  refine W_if rfl (fun h14 => ?_) (fun h14 => ?_)
  · refine W_seq ?_
    refine W_region_l ?_
    refine WL_stepM rfl (R_as) ?_
    refine WL_nil ?_
    refine W_ret ?_
    (have hx : ¬ (s.held = true ∧ s.who = who ∧ s.stamp = stamp) := (by assumption); exact ⟨_, rfl, congrArg Value.bool (decide_eq_false hx).symm, (by unfold leaveSx; rw [if_neg hx]; exact H)⟩)
  · refine W_skip ?_
    refine W_seq ?_
    refine W_region_l ?_
    refine WL_stepM rfl (R_mv) ?_
    refine WL_step rfl (R_nilCheck rfl) ?_
    refine WL_step rfl (R_fieldAddr (off' := 1) Tryz.underlying170 rfl Tryz.sizeOf4 (by decide) rfl rfl) ?_
    (refine WL_effu rfl (E_store (v := (.bool _)) H Tryz.sizeOf4 rfl rfl rfl (.app _ .here) (by simp)) ?_; clear H; intro w27 H)
    refine WL_nil ?_
    refine W_seq ?_
    refine W_region_l ?_
    refine WL_stepM rfl (R_mv) ?_
    refine WL_stepM rfl (R_mv) ?_
    refine WL_step rfl (R_nilCheck rfl) ?_
    refine WL_step rfl (R_fieldAddr (off' := 7) Tryz.underlying170 rfl Tryz.sizeOf3 (by decide) rfl rfl) ?_
    refine WL_step rfl (R_load Tryz.isAgg3 rfl (H.get (.app _ .here)) rfl) ?_
    refine WL_step rfl (R_nilCheck rfl) ?_
    refine WL_step rfl (R_fieldAddr (off' := 6) Tryz.underlying170 rfl Tryz.sizeOf3 (by decide) rfl rfl) ?_
    (refine WL_effu rfl (E_store (v := (.int _ _)) H Tryz.sizeOf3 rfl rfl rfl (.app _ .here) (by simp)) ?_; clear H; intro w38 H)
    refine WL_nil ?_
    refine W_seq ?_
    refine W_region_l ?_
    refine WL_stepM rfl (R_as) ?_
    refine WL_nil ?_
    refine W_ret ?_
    (have hx : s.held = true ∧ s.who = who ∧ s.stamp = stamp := Decidable.of_not_not (by assumption); exact ⟨_, rfl, congrArg Value.bool (decide_eq_true hx).symm, (by unfold leaveSx; rw [if_pos hx]; exact H)⟩)

/-- where a number stands in a row; below 0: nowhere -/
def idx (xs : List Int) (x : Int) : Int := match xs with
  | [] => -1
  | y :: ys => if x = y then 0 else if idx ys x < 0 then -1 else idx ys x + 1

theorem idx_ge (xs : List Int) (x : Int) : -1 ≤ idx xs x := by
  induction xs with
  | nil => simp [idx]
  | cons y ys ih => unfold idx; split <;> (try split) <;> omega
theorem idx_mem {xs : List Int} {x : Int} : 0 ≤ idx xs x ↔ x ∈ xs := by
  induction xs with
  | nil => simp [idx]
  | cons y ys ih =>
    unfold idx
    rw [List.mem_cons, ← ih]
    split
    · simp_all
    · split <;> omega
/-- the first of the numbers behind place k, if none ahead of it is it -/
theorem idx_drop {xs : List Int} {x : Int} {k : Nat} (hk : k < xs.length) (h : ∀ j (hj : j < k), xs[j]'(by omega) ≠ x) (hx : x = xs[k]) : idx xs x = k := by
  induction xs generalizing k with
  | nil => simp at hk
  | cons y ys ih =>
    unfold idx
    cases k with
    | zero => rw [if_pos (by simpa using hx)]; rfl
    | succ k =>
      have h0 := h 0 (by omega)
      rw [if_neg (fun e => h0 e.symm)]
      simp only [List.length_cons] at hk
      have := ih (k := k) (by omega) (fun j hj => by have := h (j + 1) (by omega); simpa using this) (by simpa using hx)
      rw [this]
      rw [if_neg (by omega)]
      omega
theorem idx_none {xs : List Int} {x : Int} (h : ∀ j (hj : j < xs.length), xs[j] ≠ x) : idx xs x = -1 := by
  have h1 := idx_ge xs x
  have h2 : ¬ 0 ≤ idx xs x := fun h3 => by
    obtain ⟨j, hj, he⟩ := List.getElem_of_mem (idx_mem.1 h3)
    exact h j hj he
  omega

theorem index_ret {xs : List Int} {w : World} {v : Value} (x : Int) (hv : RdS w v (xs.map I)) (hb : xs.length ≤ 9223372036854775807) :
    Ret Tryz.prog 79 #[v, I x] w fun r w' => r = I (idx xs x) ∧ Hp w [] w' := by
  refine Ret_of_W (args := [_, _]) Tryz.func79 rfl Tryz.ntmps79 Tryz.results79 (by simp) ?_
  obtain ⟨ao, ca, rfl⟩ := hv.form
  simp only [List.length_map] at hv ⊢
  have H := Hp.refl w
  refine W_seq ?_
  refine W_region_l ?_
  refine WL_stepM rfl (R_as) ?_
  refine WL_nil ?_
  refine W_seq ?_
  refine W_seq ?_
  refine W_region_l ?_
  refine WL_stepM rfl (R_mv) ?_
  refine WL_step rfl (R_len_slice Tryz.underlying22 rfl) ?_
  refine WL_stepM rfl (R_mv) ?_
  refine WL_nil ?_
  refine W_block ?_
  refine W_loopS [(4, 5), (8, 18)] (fun (k : Nat) E w' => k ≤ xs.length ∧ E 8 = I k ∧ (∀ j (hj : j < k) (hl : j < xs.length), xs[j] ≠ x) ∧ Hp w [] w') (fun k => xs.length - k) 0 ?e0 ?r0
  · exact ⟨by omega, rfl, fun j hj => by omega, H⟩
  · (clear H; rintro k E w1 ⟨hk, h0, hn, H⟩; refine W_kn h0 ?_)
    refine W_seq ?_
    refine W_region_l ?_
    refine WL_step rfl (R_lt rfl rfl) ?_
    refine WL_nil ?_
    refine W_seq ?_
    refine W_if rfl (fun h20 => ?_) (fun h20 => ?_)
    · refine W_skip ?_
      refine W_seq ?_
      refine W_block ?_
      refine W_seq ?_
      refine W_region_l ?_
      refine WL_stepM rfl (R_mv) ?_
      refine WL_stepM rfl (R_as) ?_
      refine WL_nil ?_
      refine W_seq ?_
      (obtain ⟨b1, o1, rfl, hc1⟩ := hv.cell (i := k) (u := I xs[k]) (by rw [List.getElem?_map, List.getElem?_eq_getElem (by omega)]; rfl)) <;> refine W_region_l ?_
      refine WL_stepM rfl (R_mv) ?_
      refine WL_stepM rfl (R_mv) ?_
      refine WL_stepM rfl (R_mv) ?_
      refine WL_step rfl (R_indexAddr Tryz.underlying22 Tryz.sizeOf3 rfl rfl (by omega) (by omega) idx_cast1) ?_
      refine WL_step rfl (R_load_cell Tryz.isAgg3 rfl (H.cellN hc1 kYs)) ?_
      refine WL_step rfl (R_eq rfl rfl) ?_
      refine WL_nil ?_
      refine W_if rfl (fun h38 => ?_) (fun h38 => ?_)
      · refine W_seq ?_
        refine W_region_l ?_
        refine WL_stepM rfl (R_mv) ?_
        refine WL_stepM rfl (R_as) ?_
        refine WL_nil ?_
        refine W_ret ?_
        exact ⟨_, rfl, congrArg I (idx_drop (by omega) (fun j hj => hn j hj (by omega)) (by assumption)).symm, H⟩
      · refine W_skip ?_
        refine W_region_l ?_
        refine WL_step rfl (R_add rfl rfl (w_i64 (by omega))) ?_
        refine WL_stepM rfl (R_mv) ?_
        refine WL_nil ?_
        exact ⟨(same_mov rfl (same_updo rfl (same_know rfl (same_updo rfl (same_updo rfl (same_updo rfl (same_mov rfl (same_mov rfl (same_mov rfl (same_mov rfl (same_mov rfl (same_know rfl (same_updo rfl same_ovr))))))))))))), k + 1, by omega, by omega, rfl, (fun j hj hl => by rcases Nat.lt_or_ge j k with h' | h'; exact hn j h' hl; obtain rfl : j = k := (by omega); exact fun e => absurd e.symm (by assumption)), H⟩
    · refine W_exit ?_
      refine (if_pos rfl).mpr ?_
      refine W_seq ?_
      refine W_region_l ?_
      refine WL_stepM rfl (R_as) ?_
      refine WL_nil ?_
      refine W_ret ?_
      exact ⟨_, rfl, congrArg I (idx_none (fun j hj => hn j (by omega) hj)).symm, H⟩

theorem contains_ret {xs : List Int} {w : World} {v : Value} (x : Int) (hv : RdS w v (xs.map I)) (hb : xs.length ≤ 9223372036854775807) :
    Ret Tryz.prog 51 #[v, I x] w fun r w' => r = .bool (decide (x ∈ xs)) ∧ Hp w [] w' := by
  refine Ret_of_W (args := [_, _]) Tryz.func51 rfl Tryz.ntmps51 Tryz.results51 (by simp) ?_
  have H := Hp.refl w
  refine W_seq ?_
  refine W_region_l ?_
  refine WL_stepM rfl (R_as) ?_
  refine WL_nil ?_
  refine W_seq ?_
  refine W_region_l ?_
  refine WL_stepM rfl (R_mv) ?_
  refine WL_stepM rfl (R_mv) ?_
  (refine WL_call rfl (R_call rfl Tryz.call79 rfl) (index_ret x hv hb) ?_; rintro _ w9 ⟨rfl, H1⟩; replace H := H.seq0 H1; clear H1)
  refine WL_step rfl (R_ge rfl rfl) ?_
  refine WL_stepM rfl (R_as) ?_
  refine WL_nil ?_
  refine W_ret ?_
  exact ⟨_, rfl, congrArg Value.bool (decide_eq_decide.2 idx_mem), H⟩

theorem cloneI_ret {xs : List Int} {w : World} {l : Value} (hl : RdS w l (xs.map I)) (hb : xs.length ≤ 1000000) :
    Ret Tryz.prog 43 #[l] w fun v w' => ∃ M, OwnS w.heap.size 3 1 v xs.length (xs.map I) M ∧ Hp w M w' := by
  refine Ret_of_W (args := [_]) Tryz.func43 rfl Tryz.ntmps43 Tryz.results43 (by simp) ?_
  have H := Hp.refl w
  obtain ⟨ao, ca, rfl, hca, hra⟩ := id hl
  simp only [List.length_map] at hl ⊢
  cases ao with
  | none =>
    obtain rfl : xs = [] := by
      rcases hra with h | ⟨_, _, h, _⟩
      · simpa using h
      · cases h
    refine W_seq ?_
    refine W_region_l ?_
    refine WL_stepM rfl (R_as) ?_
    refine WL_nil ?_
    refine W_seq ?_
    refine W_seq ?_
    refine W_region_l ?_
    refine WL_stepM rfl (R_mv) ?_
    refine WL_step rfl (R_eq_nils Tryz.underlying22 rfl rfl) ?_
    refine WL_nil ?_
    refine W_cond_t rfl ?_
    refine W_seq ?_
    refine W_region_l ?_
    refine WL_stepM rfl (R_as) ?_
    refine WL_nil ?_
    refine W_ret ?_
    exact ⟨_, rfl, [], OwnS.nil _ _ _, H⟩
  | some a =>
    refine W_seq ?_
    refine W_region_l ?_
    refine WL_stepM rfl (R_as) ?_
    refine WL_nil ?_
    refine W_seq ?_
    refine W_seq ?_
    refine W_region_l ?_
    refine WL_stepM rfl (R_mv) ?_
    refine WL_step rfl (R_eq_sl Tryz.underlying22 rfl rfl) ?_
    refine WL_nil ?_
    refine W_cond_f rfl ?_
    refine W_skip ?_
    refine W_seq ?_
    refine W_region_l ?_
    (refine WL_effn rfl (E_buildSlice (vs := []) H Tryz.underlying22 Tryz.sizeOf3 Tryz.zeroValue3 rfl rfl (by decide) rfl rfl) ?_; clear H; intro b15 w15 hb15 H)
    refine WL_stepM rfl (R_mv) ?_
    (refine WL_effm rfl (E_append H .one (OwnS.new (xs := []) (sp := []) (by assumption) rfl rfl (by omega)) Tryz.underlying22 Tryz.typeInfo3 rfl rfl rfl rfl rfl rfl ((hl.monoN H (kCons (by assumption) kNil)).src Tryz.underlying22 (by simp [Value.oneCell'])) (by simp; omega) (by simp [Tryz.t3]; omega)) ?_; clear H; intro vN MN w17 hO H; rw [List.length_map, Nat.zero_add, List.nil_append] at hO; rw [List.append_nil] at H)
    refine WL_stepM rfl (R_as) ?_
    refine WL_nil ?_
    refine W_ret ?_
    exact ⟨_, rfl, MN, hO, H⟩
end
end Go.Proofs.YtlpmfldijgdcoaaGreatDoor.Sect

/-
  Who asks to come in.
-/
namespace Go.Proofs.YtlpmfldijgdcoaaGreatDoor.Sect
open Go Go.Proofs Go.Proofs.YtlpmfldijgdcoaaGreatDoor.Fx
set_option maxRecDepth 100000
set_option linter.unusedVariables false
set_option linter.unusedSimpArgs false
set_option maxHeartbeats 1000000

/-- who asks is in the queue -/
def en2 (s : Sx) (who n : Int) : Sx := if who ∈ s.q then s else if s.q = [] then { s with q := s.q ++ [who], first := n } else { s with q := s.q ++ [who] }
/-- who held too long holds no more -/
def en3 (s : Sx) (n : Int) : Sx := if s.held = true ∧ s.lease ≤ n - s.since then { s with held := false, first := n } else s
/-- who was first too long is passed by -/
def en4 (s : Sx) (who n : Int) : Sx := if s.q.head? ≠ some who ∧ s.lease ≤ n - s.first then { s with q := s.q.tail, first := n } else s
/-- the first one comes in -/
def en5 (s : Sx) (who n : Int) : Sx := { s with q := s.q.tail, first := n, stamps := s.stamps + 1, held := true, who := who, stamp := s.stamps + 1, since := n }

def enterB (s : Sx) (who n : Int) : Sx × Int × Bool :=
  if s.held = true then ((if s.q.head? = some who then { s with first := n } else s), 0, false)
  else if (en4 s who n).q.head? = some who then (en5 (en4 s who n) who n, (en4 s who n).stamps + 1, true) else (en4 s who n, 0, false)
/-- Enter, of a number that may be -/
def enterA (s : Sx) (who n : Int) : Sx × Int × Bool :=
  if s.held = true ∧ s.who = who then (s, s.stamp, true) else enterB (en3 (en2 s who n) n) who n
def enter (s : Sx) (who now : Int) : Sx × Int × Bool :=
  if who < 0 ∨ 99 < who then (s, 0, false) else enterA { s with last := max now s.last } who (max now s.last)

structure Bd (s : Sx) (T : Int) : Prop where
  l0 : 1 ≤ s.lease
  since0 : 0 ≤ s.since
  since1 : s.since ≤ T
  first0 : 0 ≤ s.first
  first1 : s.first ≤ T
  last0 : 0 ≤ s.last
  last1 : s.last ≤ T
  st0 : 0 ≤ s.stamps
  st1 : s.stamps ≤ 1000000
  q1 : s.q.length ≤ 1000000

theorem en2_facts (s : Sx) (who n : Int) : who ∈ (en2 s who n).q ∧ (en2 s who n).lease = s.lease ∧ (en2 s who n).since = s.since ∧ ((en2 s who n).first = s.first ∨ (en2 s who n).first = n) ∧ (en2 s who n).stamps = s.stamps := by
  unfold en2
  split
  · rename_i h; exact ⟨h, rfl, rfl, .inl rfl, rfl⟩
  · split
    · exact ⟨by simp, rfl, rfl, .inr rfl, rfl⟩
    · exact ⟨by simp, rfl, rfl, .inl rfl, rfl⟩
theorem en3_facts (s : Sx) (n : Int) : (en3 s n).q = s.q ∧ (en3 s n).lease = s.lease ∧ (en3 s n).since = s.since ∧ ((en3 s n).first = s.first ∨ (en3 s n).first = n) ∧ (en3 s n).stamps = s.stamps := by
  unfold en3
  split
  · exact ⟨rfl, rfl, rfl, .inr rfl, rfl⟩
  · exact ⟨rfl, rfl, rfl, .inl rfl, rfl⟩
theorem en4_facts {s : Sx} {who n : Int} (h : who ∈ s.q) : who ∈ (en4 s who n).q ∧ (en4 s who n).stamps = s.stamps ∧ (en4 s who n).held = s.held := by
  unfold en4
  split
  · rename_i h1
    refine ⟨?_, rfl, rfl⟩
    cases hq : s.q with
    | nil => rw [hq] at h; simp at h
    | cons x xs =>
      rw [hq] at h h1
      simp only [List.head?_cons, ne_eq, Option.some.injEq] at h1
      rcases List.mem_cons.1 h with rfl | h
      · exact absurd rfl h1.1
      · exact h
  · exact ⟨h, rfl, rfl⟩

theorem enter_own {s : Sx} {who now n : Int} (h : ¬ (who < 0 ∨ 99 < who)) (hn : max now s.last = n) (hh : s.held = true ∧ s.who = who) : enter s who now = ({ s with last := n }, s.stamp, true) := by
  unfold enter enterA; rw [if_neg h, hn, if_pos hh]
section
variable {s s2 s3 s4 : Sx} {who now n y : Int} {ys : List Int} (h : ¬ (who < 0 ∨ 99 < who)) (hn : max now s.last = n) (hh : ¬ (s.held = true ∧ s.who = who)) (h2 : en2 { s with last := n } who n = s2) (h3 : en3 s2 n = s3)
include h hn hh h2 h3
theorem enter_w1 (hd : s3.held = true) (hq : s3.q = y :: ys) (hy : y = who) : enter s who now = ({ s3 with first := n }, 0, false) := by
  subst hy
  unfold enter enterA enterB; rw [if_neg h, hn, if_neg hh, h2, h3, if_pos hd, if_pos (by rw [hq]; rfl)]
theorem enter_w2 (hd : s3.held = true) (hq : s3.q = y :: ys) (hy : ¬ y = who) : enter s who now = (s3, 0, false) := by
  unfold enter enterA enterB; rw [if_neg h, hn, if_neg hh, h2, h3, if_pos hd, if_neg (by rw [hq]; exact fun e => hy (Option.some.inj e))]
theorem enter_no (hd : s3.held = false) (h4 : en4 s3 who n = s4) (hq : s4.q = y :: ys) (hy : ¬ y = who) : enter s who now = (s4, 0, false) := by
  unfold enter enterA enterB; rw [if_neg h, hn, if_neg hh, h2, h3, if_neg (by rw [hd]; decide), h4, if_neg (by rw [hq]; exact fun e => hy (Option.some.inj e))]
theorem enter_in (hd : s3.held = false) (h4 : en4 s3 who n = s4) (hq : s4.q = y :: ys) (hy : y = who) : enter s who now = (en5 s4 who n, s4.stamps + 1, true) := by
  subst hy
  unfold enter enterA enterB; rw [if_neg h, hn, if_neg hh, h2, h3, if_neg (by rw [hd]; decide), h4, if_pos (by rw [hq]; rfl)]
end
theorem en4_same {s : Sx} {who n y : Int} {ys : List Int} (hq : s.q = y :: ys) (h : y = who ∨ ¬ s.lease ≤ n - s.first) : en4 s who n = s := by
  unfold en4
  rw [if_neg]
  rintro ⟨h1, h2⟩
  rcases h with rfl | h
  · exact h1 (by rw [hq]; rfl)
  · exact h h2
theorem en4_pop {s : Sx} {who n y : Int} {ys : List Int} (hq : s.q = y :: ys) (hy : ¬ y = who) (hl : s.lease ≤ n - s.first) : en4 s who n = { s with q := ys, first := n } := by
  unfold en4
  rw [if_pos ⟨by rw [hq]; exact fun e => hy (Option.some.inj e), hl⟩, hq]
  rfl

section
variable {w0 w : World} {p : Nat} {s : Sx} {qv : Value} {Mq R : List (Nat × Obj)}

theorem get_q {w0 w : World} {p : Nat} {o : Obj} {qv : Value} {xs : List Value} {Mq R : List (Nat × Obj)} (hQ : OwnQ w0.heap.size 3 qv xs Mq) (H : Hp w0 (Mq ++ ((p, o) :: R)) w) : RdS w qv xs :=
  hQ.rds fun q hq => H.held q (by simp [hq])

theorem q_head {w0 w : World} {p : Nat} {o : Obj} {b of m c : Nat} {x : Value} {xs : List Value} {Mq R : List (Nat × Obj)} (hQ : OwnQ w0.heap.size 3 (.slice (some ⟨b, of, none⟩) m c) (x :: xs) Mq) (H : Hp w0 (Mq ++ ((p, o) :: R)) w) : w.cell? ⟨b, of + 0, none⟩ = some x := by
  obtain ⟨b1, o1, e, h⟩ := (get_q hQ H).cell (i := 0) (u := x) rfl
  cases e
  exact h
theorem q_some {w0 w : World} {p : Nat} {o : Obj} {a : Option Addr} {m c : Nat} {x : Value} {xs : List Value} {Mq R : List (Nat × Obj)} (hQ : OwnQ w0.heap.size 3 (.slice a m c) (x :: xs) Mq) (H : Hp w0 (Mq ++ ((p, o) :: R)) w) : ∃ b of, a = some ⟨b, of, none⟩ := by
  obtain ⟨b1, o1, e, h⟩ := (get_q hQ H).cell (i := 0) (u := x) rfl
  exact ⟨b1, o1, e⟩
theorem q_cons {xs : List Int} {x : Int} (h : x ∈ xs) : ∃ y ys, xs = y :: ys := List.exists_cons_of_ne_nil (by rintro rfl; simp at h)

theorem enter_ret (who now : Int) {T : Int} (hQ : OwnQ w0.heap.size 3 qv (s.q.map I) Mq) (H : Hp w0 (Mq ++ ((p, blk (sxC s qv) 170) :: R)) w) (hB : Bd s T) (hT : T ≤ 1000000) (hn : 0 ≤ now ∧ now ≤ T) :
    Ret Tryz.prog 158 #[ptr p 0, I who, I now] w fun v w' => ∃ qv' Mq', v = .tuple #[I (enter s who now).2.1, .bool (enter s who now).2.2] ∧ OwnQ w0.heap.size 3 qv' ((enter s who now).1.q.map I) Mq' ∧
      Hp w0 (Mq' ++ ((p, blk (sxC (enter s who now).1 qv') 170) :: R)) w' := by
  refine Ret_of_W (args := [_, _, _]) Tryz.func158 rfl Tryz.ntmps158 Tryz.results158 (by simp) ?_
  obtain ⟨lease, held, who', stamp, since, q, first, last, stamps⟩ := s
  obtain ⟨l0, s0, s1, f0, f1, la0, la1, st0, st1, q1⟩ := hB
  simp only at *
  unfold sxC at H
  simp only at H
  obtain ⟨n, hnm⟩ : ∃ n, max now last = n := ⟨_, rfl⟩
  obtain ⟨qa, qc, rfl⟩ := hQ.form
  rw [List.length_map] at *
  refine W_seq ?_
  refine W_region_l ?_
  refine WL_stepM rfl (R_as) ?_
  refine WL_stepM rfl (R_as) ?_
  refine WL_nil ?_
  refine W_seq ?_
  refine W_region_l ?_
  refine WL_stepM rfl (R_mv) ?_
  refine WL_stepM rfl (R_mv) ?_
  refine WL_step rfl (R_nilCheck rfl) ?_
  refine WL_step rfl (R_fieldAddr (off' := 7) Tryz.underlying170 rfl Tryz.sizeOf3 (by decide) rfl rfl) ?_
  refine WL_step rfl (R_load Tryz.isAgg3 rfl (H.get (.app _ .here)) rfl) ?_
  refine WL_step rfl (R_max rfl rfl hnm) ?_
  refine WL_stepM rfl (R_as) ?_
  refine WL_nil ?_
  refine W_seq ?_
  refine W_seq ?_
  refine W_region_l ?_
  refine WL_stepM rfl (R_mv) ?_
  refine WL_step rfl (R_lt rfl rfl) ?_
  refine WL_stepM rfl (R_mv) ?_
  apply WL_orK 3 16 19 [(17, 19)] H
  case hc => rfl
  case h1 =>
    intro h22
    refine WL_guard_t rfl rfl ?_
    refine WL_stepM rfl (R_mv) ?_
    refine WL_guard_t rfl rfl ?_
    refine WL_step rfl (R_gt rfl rfl) ?_
    refine WL_stepM rfl (R_pk_f rfl) ?_
    refine WL_nil ?_
    exact ⟨(same_mov rfl (same_updo rfl (same_mov rfl Same.refl))), rfl, H⟩
  case h0 =>
    intro h22
    refine WL_guard_f rfl rfl (by decide) ?_
    refine WL_guard_f rfl rfl (by decide) ?_
    refine WL_stepM rfl (R_pk_t rfl) ?_
    refine WL_nil ?_
    exact ⟨(same_mov rfl (same_updo rfl (same_updo rfl Same.refl))), rfl, H⟩
  case h2 =>
    (clear H; intro E22 w22 H)
    refine WL_nil ?_
    refine W_if rfl (fun h36 => ?_) (fun h36 => ?_)
    · refine W_seq ?_
      refine W_region_l ?_
      refine WL_stepM rfl (R_as) ?_
      refine WL_stepM rfl (R_as) ?_
      refine WL_nil ?_
      refine W_ret ?_
      exact ⟨_, rfl, _, Mq, by unfold enter; rw [if_pos (by assumption)]; rfl, by unfold enter; rw [if_pos (by assumption)]; exact hQ, by unfold enter; rw [if_pos (by assumption)]; exact H⟩
    · refine W_skip ?_
      refine W_seq ?_
      refine W_region_l ?_
      refine WL_stepM rfl (R_mv) ?_
      refine WL_stepM rfl (R_mv) ?_
      refine WL_step rfl (R_nilCheck rfl) ?_
      refine WL_step rfl (R_fieldAddr (off' := 7) Tryz.underlying170 rfl Tryz.sizeOf3 (by decide) rfl rfl) ?_
      (refine WL_effu rfl (E_store (v := (.int _ _)) H Tryz.sizeOf3 rfl rfl rfl (.app _ .here) (by simp)) ?_; clear H; intro w51 H)
      refine WL_nil ?_
      refine W_seq ?_
      refine W_seq ?_
      refine W_region_l ?_
      refine WL_stepM rfl (R_mv) ?_
      refine WL_step rfl (R_nilCheck rfl) ?_
      refine WL_step rfl (R_fieldAddr (off' := 1) Tryz.underlying170 rfl Tryz.sizeOf4 (by decide) rfl rfl) ?_
      refine WL_step rfl (R_load Tryz.isAgg4 rfl (H.get (.app _ .here)) rfl) ?_
      refine WL_stepM rfl (R_mv) ?_
      apply WL_andK 7 28 35 [(29, 35)] H
      case hc => exact decV rfl
      case h1 =>
        intro h61
        refine WL_guard_t rfl rfl ?_
        refine WL_stepM rfl (R_mv) ?_
        refine WL_guard_t rfl rfl ?_
        refine WL_step rfl (R_nilCheck rfl) ?_
        refine WL_guard_t rfl rfl ?_
        refine WL_step rfl (R_fieldAddr (off' := 2) Tryz.underlying170 rfl Tryz.sizeOf3 (by decide) rfl rfl) ?_
        refine WL_guard_t rfl rfl ?_
        refine WL_step rfl (R_load Tryz.isAgg3 rfl (H.get (.app _ .here)) rfl) ?_
        refine WL_guard_t rfl rfl ?_
        refine WL_stepM rfl (R_mv) ?_
        refine WL_guard_t rfl rfl ?_
        refine WL_step rfl (R_eq rfl rfl) ?_
        refine WL_stepM rfl (R_pk_t rfl) ?_
        refine WL_nil ?_
        exact ⟨(same_mov rfl (same_updo rfl (same_mov rfl (same_updo rfl (same_updo rfl (same_updo rfl (same_mov rfl Same.refl))))))), rfl, H⟩
      case h0 =>
        intro h61
        refine WL_guard_f rfl rfl (by decide) ?_
        refine WL_guard_f rfl rfl (by decide) ?_
        refine WL_guard_f rfl rfl (by decide) ?_
        refine WL_guard_f rfl rfl (by decide) ?_
        refine WL_guard_f rfl rfl (by decide) ?_
        refine WL_guard_f rfl rfl (by decide) ?_
        refine WL_stepM rfl (R_pk_f rfl) ?_
        refine WL_nil ?_
        exact ⟨(same_mov rfl (same_updo rfl (same_updo rfl (same_updo rfl (same_updo rfl (same_updo rfl (same_updo rfl Same.refl))))))), rfl, H⟩
      case h2 =>
        (clear H; intro E61 w61 H)
        refine WL_nil ?_
        refine W_if rfl (fun h87 => ?_) (fun h87 => ?_)
        · refine W_seq ?_
          refine W_region_l ?_
          refine WL_stepM rfl (R_mv) ?_
          refine WL_step rfl (R_nilCheck rfl) ?_
          refine WL_step rfl (R_fieldAddr (off' := 3) Tryz.underlying170 rfl Tryz.sizeOf3 (by decide) rfl rfl) ?_
          refine WL_step rfl (R_load Tryz.isAgg3 rfl (H.get (.app _ .here)) rfl) ?_
          refine WL_stepM rfl (R_as) ?_
          refine WL_stepM rfl (R_as) ?_
          refine WL_nil ?_
          refine W_ret ?_
          exact ⟨_, rfl, _, Mq, by rw [enter_own (by assumption) hnm (by assumption)]; rfl, by rw [enter_own (by assumption) hnm (by assumption)]; exact hQ, by rw [enter_own (by assumption) hnm (by assumption)]; exact H⟩
        · refine W_skip ?_
          refine W_seqS [(40, 66)] (fun E w' => ∃ qv2 M2, OwnQ w0.heap.size 3 qv2 ((en2 ⟨lease, held, who', stamp, since, q, first, n, stamps⟩ who n).q.map I) M2 ∧ Hp w0 (M2 ++ ((p, blk (sxC (en2 ⟨lease, held, who', stamp, since, q, first, n, stamps⟩ who n) qv2) 170) :: R)) w') ?c7 ?k7
          · refine W_seq ?_
            refine W_region_l ?_
            refine WL_stepM rfl (R_mv) ?_
            refine WL_step rfl (R_nilCheck rfl) ?_
            refine WL_step rfl (R_fieldAddr (off' := 5) Tryz.underlying170 rfl Tryz.sizeOf22 (by decide) rfl rfl) ?_
            refine WL_step rfl (R_load Tryz.isAgg22 rfl (H.get (.app _ .here)) rfl) ?_
            refine WL_stepM rfl (R_mv) ?_
            (refine WL_call rfl (R_call rfl Tryz.call51 rfl) (contains_ret who (get_q hQ H) (by omega)) ?_; rintro _ w108 ⟨rfl, H1⟩; replace H := H.seq0 H1; clear H1)
            refine WL_step rfl (R_not_d rfl) ?_
            refine WL_nil ?_
            refine W_if rfl (fun h111 => ?_) (fun h111 => ?_)
            · refine W_seq ?_
              refine W_seq ?_
              refine W_region_l ?_
              refine WL_stepM rfl (R_mv) ?_
              refine WL_step rfl (R_nilCheck rfl) ?_
              refine WL_step rfl (R_fieldAddr (off' := 5) Tryz.underlying170 rfl Tryz.sizeOf22 (by decide) rfl rfl) ?_
              refine WL_step rfl (R_load Tryz.isAgg22 rfl (H.get (.app _ .here)) rfl) ?_
              refine WL_step rfl (R_len_slice Tryz.underlying22 rfl) ?_
              refine WL_step rfl (R_eq rfl rfl) ?_
              refine WL_nil ?_
              refine W_if rfl (fun h122 => ?_) (fun h122 => ?_)
              · refine W_region_l ?_
                refine WL_stepM rfl (R_mv) ?_
                refine WL_stepM rfl (R_mv) ?_
                refine WL_step rfl (R_nilCheck rfl) ?_
                refine WL_step rfl (R_fieldAddr (off' := 6) Tryz.underlying170 rfl Tryz.sizeOf3 (by decide) rfl rfl) ?_
                (refine WL_effu rfl (E_store (v := (.int _ _)) H Tryz.sizeOf3 rfl rfl rfl (.app _ .here) (by simp)) ?_; clear H; intro w128 H)
                refine WL_nil ?_
                refine W_region_l ?_
                refine WL_stepM rfl (R_mv) ?_
                refine WL_stepM rfl (R_mv) ?_
                refine WL_step rfl (R_nilCheck rfl) ?_
                refine WL_step rfl (R_fieldAddr (off' := 5) Tryz.underlying170 rfl Tryz.sizeOf22 (by decide) rfl rfl) ?_
                refine WL_step rfl (R_load Tryz.isAgg22 rfl (H.get (.app _ .here)) rfl) ?_
                refine WL_stepM rfl (R_mv) ?_
                (refine WL_effn rfl (E_buildOnes (vs := [(.int _ _)]) H Tryz.underlying22 Tryz.sizeOf3 Tryz.zeroValue3 rfl rfl (by decide) rfl rfl (by simp [Value.oneCell'])) ?_; clear H; intro b137 w137 hb137 H)
                (refine WL_effm rfl (E_appendQ (news := [I who]) (m := 1) H (.there .here) hQ Tryz.underlying22 Tryz.typeInfo3 rfl rfl rfl rfl rfl rfl (src_one Tryz.underlying22 (H.get .here) rfl) (by simp; omega) (by simp [Tryz.t3]; omega)) ?_; clear H hQ; intro v5 M5 w138 hQ H; replace H := H.pop (by assumption); rw [show q.map I ++ [I who] = (q ++ [who]).map I from by simp] at hQ; obtain ⟨a5, c5, rfl⟩ := hQ.form)
                refine WL_step rfl (R_nilCheck rfl) ?_
                refine WL_step rfl (R_fieldAddr (off' := 5) Tryz.underlying170 rfl Tryz.sizeOf22 (by decide) rfl rfl) ?_
                (refine WL_effu rfl (E_store (v := (.slice _ _ _)) H Tryz.sizeOf22 rfl rfl rfl (.app _ .here) (by simp)) ?_; clear H; intro w141 H)
                refine WL_nil ?_
                exact ⟨(same_updn (same_updo rfl (same_updo rfl (same_updo rfl (same_updo rfl (same_mov rfl (same_updo rfl (same_updo rfl (same_updo rfl (same_mov rfl (same_mov rfl (same_updn (same_updo rfl (same_updo rfl (same_mov rfl (same_mov rfl (same_know rfl (same_updo rfl (same_updo rfl (same_updo rfl (same_updo rfl (same_updo rfl (same_mov rfl (same_know rfl (same_updo rfl (same_updo rfl (same_mov rfl (same_updo rfl (same_updo rfl (same_updo rfl (same_mov rfl Same.refl))))))))))))))))))))))))))))))), _, _, by unfold en2; rw [if_neg (by assumption), if_pos (show q = [] from List.length_eq_zero_iff.1 (by omega))]; exact hQ, by unfold en2; rw [if_neg (by assumption), if_pos (show q = [] from List.length_eq_zero_iff.1 (by omega))]; exact H⟩
              · refine W_skip ?_
                refine W_region_l ?_
                refine WL_stepM rfl (R_mv) ?_
                refine WL_stepM rfl (R_mv) ?_
                refine WL_step rfl (R_nilCheck rfl) ?_
                refine WL_step rfl (R_fieldAddr (off' := 5) Tryz.underlying170 rfl Tryz.sizeOf22 (by decide) rfl rfl) ?_
                refine WL_step rfl (R_load Tryz.isAgg22 rfl (H.get (.app _ .here)) rfl) ?_
                refine WL_stepM rfl (R_mv) ?_
                (refine WL_effn rfl (E_buildOnes (vs := [(.int _ _)]) H Tryz.underlying22 Tryz.sizeOf3 Tryz.zeroValue3 rfl rfl (by decide) rfl rfl (by simp [Value.oneCell'])) ?_; clear H; intro b152 w152 hb152 H)
                (refine WL_effm rfl (E_appendQ (news := [I who]) (m := 1) H (.there .here) hQ Tryz.underlying22 Tryz.typeInfo3 rfl rfl rfl rfl rfl rfl (src_one Tryz.underlying22 (H.get .here) rfl) (by simp; omega) (by simp [Tryz.t3]; omega)) ?_; clear H hQ; intro v5 M5 w153 hQ H; replace H := H.pop (by assumption); rw [show q.map I ++ [I who] = (q ++ [who]).map I from by simp] at hQ; obtain ⟨a5, c5, rfl⟩ := hQ.form)
                refine WL_step rfl (R_nilCheck rfl) ?_
                refine WL_step rfl (R_fieldAddr (off' := 5) Tryz.underlying170 rfl Tryz.sizeOf22 (by decide) rfl rfl) ?_
                (refine WL_effu rfl (E_store (v := (.slice _ _ _)) H Tryz.sizeOf22 rfl rfl rfl (.app _ .here) (by simp)) ?_; clear H; intro w156 H)
                refine WL_nil ?_
                exact ⟨(same_updn (same_updo rfl (same_updo rfl (same_updo rfl (same_updo rfl (same_mov rfl (same_updo rfl (same_updo rfl (same_updo rfl (same_mov rfl (same_mov rfl (same_know rfl (same_updo rfl (same_updo rfl (same_updo rfl (same_updo rfl (same_updo rfl (same_mov rfl (same_know rfl (same_updo rfl (same_updo rfl (same_mov rfl (same_updo rfl (same_updo rfl (same_updo rfl (same_mov rfl Same.refl)))))))))))))))))))))))))), _, _, by unfold en2; rw [if_neg (by assumption), if_neg (show ¬ q = [] from fun e => by subst e; simp at *)]; exact hQ, by unfold en2; rw [if_neg (by assumption), if_neg (show ¬ q = [] from fun e => by subst e; simp at *)]; exact H⟩
            · refine W_skip ?_
              exact ⟨(same_know rfl (same_updo rfl (same_updo rfl (same_mov rfl (same_updo rfl (same_updo rfl (same_updo rfl (same_mov rfl Same.refl)))))))), _, _, by unfold en2; rw [if_pos (Decidable.of_not_not (by assumption))]; exact hQ, by unfold en2; rw [if_pos (Decidable.of_not_not (by assumption))]; exact H⟩
          · (clear H hQ; rintro E w1 ⟨qv2, M2, hQ, H⟩; obtain ⟨i1, i2, i3, i4, i5⟩ := en2_facts ⟨lease, held, who', stamp, since, q, first, n, stamps⟩ who n; obtain ⟨s2, hs2⟩ : ∃ x, en2 ⟨lease, held, who', stamp, since, q, first, n, stamps⟩ who n = x := ⟨_, rfl⟩; rw [hs2] at hQ H i1 i2 i3 i4 i5; simp only at i2 i3 i4 i5; unfold sxC at H; obtain ⟨a2, c2, rfl⟩ := hQ.form)
            refine W_seqS [(67, 90)] (fun E w' => Hp w0 (M2 ++ ((p, blk (sxC (en3 s2 n) (.slice a2 (s2.q.map I).length c2)) 170) :: R)) w') ?c11 ?k11
            · refine W_seq ?_
              (refine W_drawH (fun _ => false) (by kernel_rfl) H ?_; clear H; intro w164 H)
              refine WA_takeM 0 rfl rfl rfl (by kernel_rfl) (by kernel_rfl) H (fun _ hC => R_mv) ?_
              refine WA_take 1 rfl rfl rfl (by kernel_rfl) (by kernel_rfl) H (fun _ hC => R_nilCheck rfl) ?_
              refine WA_take 2 rfl rfl rfl (by kernel_rfl) (by kernel_rfl) H (fun _ hC => R_fieldAddr (off' := 1) Tryz.underlying170 rfl Tryz.sizeOf4 (by decide) rfl rfl) ?_
              refine WA_take 3 rfl rfl rfl (by kernel_rfl) (by kernel_rfl) H (fun _ hC => R_load Tryz.isAgg4 rfl (hC.get (.app _ .here)) rfl) ?_
              refine WA_takeM 4 rfl rfl rfl (by kernel_rfl) (by kernel_rfl) H (fun _ hC => R_mv) ?_
              refine WA_ifB 71 rfl (fun h170 => ?_) (fun h170 => ?_)
              · refine WA_takeGM 5 rfl rfl rfl rfl (by kernel_rfl) (by kernel_rfl) H (fun _ hC => R_mv) ?_
                refine WA_takeGM 6 rfl rfl rfl rfl (by kernel_rfl) (by kernel_rfl) H (fun _ hC => R_mv) ?_
                refine WA_takeG 7 rfl rfl rfl rfl (by kernel_rfl) (by kernel_rfl) H (fun _ hC => R_nilCheck rfl) ?_
                refine WA_takeG 8 rfl rfl rfl rfl (by kernel_rfl) (by kernel_rfl) H (fun _ hC => R_fieldAddr (off' := 4) Tryz.underlying170 rfl Tryz.sizeOf3 (by decide) rfl rfl) ?_
                refine WA_takeG 9 rfl rfl rfl rfl (by kernel_rfl) (by kernel_rfl) H (fun _ hC => R_load Tryz.isAgg3 rfl (hC.get (.app _ .here)) rfl) ?_
                refine WA_takeG 10 rfl rfl rfl rfl (by kernel_rfl) (by kernel_rfl) H (fun _ hC => R_sub rfl rfl (w_i64 (by omega))) ?_
                refine WA_takeGM 11 rfl rfl rfl rfl (by kernel_rfl) (by kernel_rfl) H (fun _ hC => R_mv) ?_
                refine WA_takeG 12 rfl rfl rfl rfl (by kernel_rfl) (by kernel_rfl) H (fun _ hC => R_nilCheck rfl) ?_
                refine WA_takeG 13 rfl rfl rfl rfl (by kernel_rfl) (by kernel_rfl) H (fun _ hC => R_fieldAddr (off' := 0) Tryz.underlying170 rfl Tryz.sizeOf3 (by decide) rfl rfl) ?_
                refine WA_takeG 14 rfl rfl rfl rfl (by kernel_rfl) (by kernel_rfl) H (fun _ hC => R_load Tryz.isAgg3 rfl (hC.get (.app _ .here)) rfl) ?_
                refine WA_takeG 15 rfl rfl rfl rfl (by kernel_rfl) (by kernel_rfl) H (fun _ hC => R_ge rfl rfl) ?_
                refine WA_takeM 16 rfl rfl rfl (by kernel_rfl) (by kernel_rfl) H (fun _ hC => R_pk_t rfl) ?_
                refine WA_done (by kernel_rfl) ?_
                refine W_if rfl (fun h184 => ?_) (fun h184 => ?_)
                · refine W_seq ?_
                  refine W_region_l ?_
                  refine WL_stepM rfl (R_mv) ?_
                  refine WL_step rfl (R_nilCheck rfl) ?_
                  refine WL_step rfl (R_fieldAddr (off' := 1) Tryz.underlying170 rfl Tryz.sizeOf4 (by decide) rfl rfl) ?_
                  (refine WL_effu rfl (E_store (v := (.bool _)) H Tryz.sizeOf4 rfl rfl rfl (.app _ .here) (by simp)) ?_; clear H; intro w190 H)
                  refine WL_nil ?_
                  refine W_region_l ?_
                  refine WL_stepM rfl (R_mv) ?_
                  refine WL_stepM rfl (R_mv) ?_
                  refine WL_step rfl (R_nilCheck rfl) ?_
                  refine WL_step rfl (R_fieldAddr (off' := 6) Tryz.underlying170 rfl Tryz.sizeOf3 (by decide) rfl rfl) ?_
                  (refine WL_effu rfl (E_store (v := (.int _ _)) H Tryz.sizeOf3 rfl rfl rfl (.app _ .here) (by simp)) ?_; clear H; intro w197 H)
                  refine WL_nil ?_
                  exact ⟨(same_updn (same_updo rfl (same_updo rfl (same_mov rfl (same_mov rfl (same_updn (same_updo rfl (same_updo rfl (same_mov rfl (same_know rfl (same_mov rfl (same_updo rfl (same_updo rfl (same_updo rfl (same_updo rfl (same_mov rfl (same_updo rfl (same_updo rfl (same_updo rfl (same_updo rfl (same_mov rfl (same_mov rfl (same_know rfl (same_mov rfl (same_updo rfl (same_updo rfl (same_updo rfl (same_mov rfl Same.refl)))))))))))))))))))))))))))), by unfold en3; rw [if_pos ⟨by assumption, by omega⟩]; exact H⟩
                · refine W_skip ?_
                  exact ⟨(same_know rfl (same_mov rfl (same_updo rfl (same_updo rfl (same_updo rfl (same_updo rfl (same_mov rfl (same_updo rfl (same_updo rfl (same_updo rfl (same_updo rfl (same_mov rfl (same_mov rfl (same_know rfl (same_mov rfl (same_updo rfl (same_updo rfl (same_updo rfl (same_mov rfl Same.refl))))))))))))))))))), by unfold en3; rw [if_neg (fun h => by have := h.2; omega)]; exact H⟩
              · refine WA_pass 5 rfl rfl rfl (fun h => nomatch h) (by kernel_rfl) (by kernel_rfl) H ?_
                refine WA_pass 6 rfl rfl rfl (fun h => nomatch h) (by kernel_rfl) (by kernel_rfl) H ?_
                refine WA_pass 7 rfl rfl rfl (fun h => nomatch h) (by kernel_rfl) (by kernel_rfl) H ?_
                refine WA_pass 8 rfl rfl rfl (fun h => nomatch h) (by kernel_rfl) (by kernel_rfl) H ?_
                refine WA_pass 9 rfl rfl rfl (fun h => nomatch h) (by kernel_rfl) (by kernel_rfl) H ?_
                refine WA_pass 10 rfl rfl rfl (fun h => nomatch h) (by kernel_rfl) (by kernel_rfl) H ?_
                refine WA_pass 11 rfl rfl rfl (fun h => nomatch h) (by kernel_rfl) (by kernel_rfl) H ?_
                refine WA_pass 12 rfl rfl rfl (fun h => nomatch h) (by kernel_rfl) (by kernel_rfl) H ?_
                refine WA_pass 13 rfl rfl rfl (fun h => nomatch h) (by kernel_rfl) (by kernel_rfl) H ?_
                refine WA_pass 14 rfl rfl rfl (fun h => nomatch h) (by kernel_rfl) (by kernel_rfl) H ?_
                refine WA_pass 15 rfl rfl rfl (fun h => nomatch h) (by kernel_rfl) (by kernel_rfl) H ?_
                refine WA_takeM 16 rfl rfl rfl (by kernel_rfl) (by kernel_rfl) H (fun _ hC => R_pk_f rfl) ?_
                refine WA_done (by kernel_rfl) ?_
                refine W_cond_f rfl ?_
                refine W_skip ?_
                exact ⟨(same_mov rfl (same_updo rfl (same_updo rfl (same_updo rfl (same_updo rfl (same_updo rfl (same_updo rfl (same_updo rfl (same_updo rfl (same_updo rfl (same_updo rfl (same_updo rfl (same_know rfl (same_mov rfl (same_updo rfl (same_updo rfl (same_updo rfl (same_mov rfl Same.refl)))))))))))))))))), by unfold en3; rw [if_neg (fun h => Bool.noConfusion (h.1.symm.trans (by assumption)))]; exact H⟩
            · (clear H; intro E w1 H; obtain ⟨j1, j2, j3, j4, j5⟩ := en3_facts s2 n; obtain ⟨s3, hs3⟩ : ∃ x, en3 s2 n = x := ⟨_, rfl⟩; rw [hs3] at H j1 j2 j3 j4 j5; rw [← j1] at hQ H i1; obtain ⟨y, ys, hys⟩ := q_cons i1; rw [hys] at hQ H i1; unfold sxC at H; obtain ⟨b6, o6, rfl⟩ := q_some hQ H; have hly : (List.map I (y :: ys)).length = ys.length + 1 := (by simp))
              refine W_seq ?_
              refine W_seq ?_
              refine W_region_l ?_
              refine WL_stepM rfl (R_mv) ?_
              refine WL_step rfl (R_nilCheck rfl) ?_
              refine WL_step rfl (R_fieldAddr (off' := 1) Tryz.underlying170 rfl Tryz.sizeOf4 (by decide) rfl rfl) ?_
              refine WL_step rfl (R_load Tryz.isAgg4 rfl (H.get (.app _ .here)) rfl) ?_
              refine WL_nil ?_
              refine W_ifB rfl (fun h227 => ?_) (fun h227 => ?_)
              · refine W_seq ?_
                refine W_seq ?_
                refine W_region_l ?_
                refine WL_stepM rfl (R_mv) ?_
                refine WL_step rfl (R_nilCheck rfl) ?_
                refine WL_step rfl (R_fieldAddr (off' := 5) Tryz.underlying170 rfl Tryz.sizeOf22 (by decide) rfl rfl) ?_
                refine WL_step rfl (R_load Tryz.isAgg22 rfl (H.get (.app _ .here)) rfl) ?_
                refine WL_step rfl (R_indexAddr Tryz.underlying22 Tryz.sizeOf3 rfl rfl (by omega) (by omega) idx_cast1) ?_
                refine WL_step rfl (R_load_cell Tryz.isAgg3 rfl (q_head hQ H)) ?_
                refine WL_stepM rfl (R_mv) ?_
                refine WL_step rfl (R_eq rfl rfl) ?_
                refine WL_nil ?_
                refine W_if rfl (fun h240 => ?_) (fun h240 => ?_)
                · refine W_region_l ?_
                  refine WL_stepM rfl (R_mv) ?_
                  refine WL_stepM rfl (R_mv) ?_
                  refine WL_step rfl (R_nilCheck rfl) ?_
                  refine WL_step rfl (R_fieldAddr (off' := 6) Tryz.underlying170 rfl Tryz.sizeOf3 (by decide) rfl rfl) ?_
                  (refine WL_effu rfl (E_store (v := (.int _ _)) H Tryz.sizeOf3 rfl rfl rfl (.app _ .here) (by simp)) ?_; clear H; intro w246 H)
                  refine WL_nil ?_
                  refine W_seq ?_
                  refine W_region_l ?_
                  refine WL_stepM rfl (R_as) ?_
                  refine WL_stepM rfl (R_as) ?_
                  refine WL_nil ?_
                  refine W_ret ?_
                  (have e := enter_w1 (s := ⟨lease, held, who', stamp, since, q, first, last, stamps⟩) (by assumption) hnm (by assumption) hs2 hs3 (by assumption) hys (by assumption); exact ⟨_, rfl, _, _, by rw [e]; rfl, by rw [e]; show OwnQ _ _ _ (s3.q.map I) _; rw [hys]; exact hQ, by rw [e]; exact H⟩)
                · refine W_skip ?_
                  refine W_seq ?_
                  refine W_region_l ?_
                  refine WL_stepM rfl (R_as) ?_
                  refine WL_stepM rfl (R_as) ?_
                  refine WL_nil ?_
                  refine W_ret ?_
                  (have e := enter_w2 (s := ⟨lease, held, who', stamp, since, q, first, last, stamps⟩) (by assumption) hnm (by assumption) hs2 hs3 (by assumption) hys (by assumption); exact ⟨_, rfl, _, _, by rw [e]; rfl, by rw [e]; show OwnQ _ _ _ (s3.q.map I) _; rw [hys]; exact hQ, by rw [e]; exact H⟩)
              · refine W_skip ?_
                refine W_seq ?_
                refine W_blockS [(107, 139)] (fun E w' => ∃ qv4, OwnQ w0.heap.size 3 qv4 ((en4 s3 who n).q.map I) M2 ∧ Hp w0 (M2 ++ ((p, blk (sxC (en4 s3 who n) qv4) 170) :: R)) w') ?b0 ?k0
                · refine W_rounds 1 ?_
                  refine W_seq ?_
                  refine W_seq ?_
                  (refine W_drawH (fun _ => false) (by kernel_rfl) H ?_; clear H; intro w269 H)
                  refine WA_takeM 0 rfl rfl rfl (by kernel_rfl) (by kernel_rfl) H (fun _ hC => R_mv) ?_
                  refine WA_take 1 rfl rfl rfl (by kernel_rfl) (by kernel_rfl) H (fun _ hC => R_nilCheck rfl) ?_
                  refine WA_take 2 rfl rfl rfl (by kernel_rfl) (by kernel_rfl) H (fun _ hC => R_fieldAddr (off' := 5) Tryz.underlying170 rfl Tryz.sizeOf22 (by decide) rfl rfl) ?_
                  refine WA_take 3 rfl rfl rfl (by kernel_rfl) (by kernel_rfl) H (fun _ hC => R_load Tryz.isAgg22 rfl (hC.get (.app _ .here)) rfl) ?_
                  refine WA_take 4 rfl rfl rfl (by kernel_rfl) (by kernel_rfl) H (fun _ hC => R_indexAddr Tryz.underlying22 Tryz.sizeOf3 rfl rfl (by omega) (by omega) idx_cast1) ?_
                  refine WA_take 5 rfl rfl rfl (by kernel_rfl) (by kernel_rfl) H (fun _ hC => R_load_cell Tryz.isAgg3 rfl (q_head hQ hC)) ?_
                  refine WA_takeM 6 rfl rfl rfl (by kernel_rfl) (by kernel_rfl) H (fun _ hC => R_mv) ?_
                  refine WA_take 7 rfl rfl rfl (by kernel_rfl) (by kernel_rfl) H (fun _ hC => R_ne rfl rfl) ?_
                  refine WA_takeM 8 rfl rfl rfl (by kernel_rfl) (by kernel_rfl) H (fun _ hC => R_mv) ?_
                  refine WA_if 115 rfl (fun h279 => ?_) (fun h279 => ?_)
                  · refine WA_takeGM 9 rfl rfl rfl rfl (by kernel_rfl) (by kernel_rfl) H (fun _ hC => R_mv) ?_
                    refine WA_takeGM 10 rfl rfl rfl rfl (by kernel_rfl) (by kernel_rfl) H (fun _ hC => R_mv) ?_
                    refine WA_takeG 11 rfl rfl rfl rfl (by kernel_rfl) (by kernel_rfl) H (fun _ hC => R_nilCheck rfl) ?_
                    refine WA_takeG 12 rfl rfl rfl rfl (by kernel_rfl) (by kernel_rfl) H (fun _ hC => R_fieldAddr (off' := 6) Tryz.underlying170 rfl Tryz.sizeOf3 (by decide) rfl rfl) ?_
                    refine WA_takeG 13 rfl rfl rfl rfl (by kernel_rfl) (by kernel_rfl) H (fun _ hC => R_load Tryz.isAgg3 rfl (hC.get (.app _ .here)) rfl) ?_
                    refine WA_takeG 14 rfl rfl rfl rfl (by kernel_rfl) (by kernel_rfl) H (fun _ hC => R_sub rfl rfl (w_i64 (by omega))) ?_
                    refine WA_takeGM 15 rfl rfl rfl rfl (by kernel_rfl) (by kernel_rfl) H (fun _ hC => R_mv) ?_
                    refine WA_takeG 16 rfl rfl rfl rfl (by kernel_rfl) (by kernel_rfl) H (fun _ hC => R_nilCheck rfl) ?_
                    refine WA_takeG 17 rfl rfl rfl rfl (by kernel_rfl) (by kernel_rfl) H (fun _ hC => R_fieldAddr (off' := 0) Tryz.underlying170 rfl Tryz.sizeOf3 (by decide) rfl rfl) ?_
                    refine WA_takeG 18 rfl rfl rfl rfl (by kernel_rfl) (by kernel_rfl) H (fun _ hC => R_load Tryz.isAgg3 rfl (hC.get (.app _ .here)) rfl) ?_
                    refine WA_takeG 19 rfl rfl rfl rfl (by kernel_rfl) (by kernel_rfl) H (fun _ hC => R_ge rfl rfl) ?_
                    refine WA_takeM 20 rfl rfl rfl (by kernel_rfl) (by kernel_rfl) H (fun _ hC => R_pk_t rfl) ?_
                    refine WA_done (by kernel_rfl) ?_
                    refine W_if rfl (fun h293 => ?_) (fun h293 => ?_)
                    · refine W_skip ?_
                      refine W_block ?_
                      refine W_region_l ?_
                      refine WL_stepM rfl (R_mv) ?_
                      refine WL_stepM rfl (R_mv) ?_
                      refine WL_stepM rfl (R_mv) ?_
                      refine WL_step rfl (R_nilCheck rfl) ?_
                      refine WL_step rfl (R_fieldAddr (off' := 5) Tryz.underlying170 rfl Tryz.sizeOf22 (by decide) rfl rfl) ?_
                      refine WL_step rfl (R_load Tryz.isAgg22 rfl (H.get (.app _ .here)) rfl) ?_
                      (refine WL_tailQ hQ Tryz.underlying22 Tryz.sizeOf3 rfl rfl ?_; clear hQ; intro v5 hQ; obtain ⟨z, zs, hzs⟩ := q_cons ((List.mem_cons.1 i1).resolve_left (fun e => absurd e.symm (by assumption))); rw [hzs] at hQ; obtain ⟨a7, c7, rfl⟩ := hQ.form; obtain ⟨b7, o7, rfl⟩ := q_some hQ H; have hlz : (List.map I (z :: zs)).length = zs.length + 1 := (by simp))
                      refine WL_stepM rfl (R_mv) ?_
                      refine WL_step rfl (R_nilCheck rfl) ?_
                      refine WL_step rfl (R_fieldAddr (off' := 5) Tryz.underlying170 rfl Tryz.sizeOf22 (by decide) rfl rfl) ?_
                      (refine WL_effu rfl (E_store (v := (.slice _ _ _)) H Tryz.sizeOf22 rfl rfl rfl (.app _ .here) (by simp)) ?_; clear H; intro w307 H)
                      refine WL_step rfl (R_nilCheck rfl) ?_
                      refine WL_step rfl (R_fieldAddr (off' := 6) Tryz.underlying170 rfl Tryz.sizeOf3 (by decide) rfl rfl) ?_
                      (refine WL_effu rfl (E_store (v := (.int _ _)) H Tryz.sizeOf3 rfl rfl rfl (.app _ .here) (by simp)) ?_; clear H; intro w310 H)
                      refine WL_nil ?_
                      refine Rn_succ ?_
                      refine W_seq ?_
                      refine W_seq ?_
                      (refine W_drawH (fun _ => false) (by kernel_rfl) H ?_; clear H; intro w315 H)
                      refine WA_takeM 0 rfl rfl rfl (by kernel_rfl) (by kernel_rfl) H (fun _ hC => R_mv) ?_
                      refine WA_take 1 rfl rfl rfl (by kernel_rfl) (by kernel_rfl) H (fun _ hC => R_nilCheck rfl) ?_
                      refine WA_take 2 rfl rfl rfl (by kernel_rfl) (by kernel_rfl) H (fun _ hC => R_fieldAddr (off' := 5) Tryz.underlying170 rfl Tryz.sizeOf22 (by decide) rfl rfl) ?_
                      refine WA_take 3 rfl rfl rfl (by kernel_rfl) (by kernel_rfl) H (fun _ hC => R_load Tryz.isAgg22 rfl (hC.get (.app _ .here)) rfl) ?_
                      refine WA_take 4 rfl rfl rfl (by kernel_rfl) (by kernel_rfl) H (fun _ hC => R_indexAddr Tryz.underlying22 Tryz.sizeOf3 rfl rfl (by omega) (by omega) idx_cast1) ?_
                      refine WA_take 5 rfl rfl rfl (by kernel_rfl) (by kernel_rfl) H (fun _ hC => R_load_cell Tryz.isAgg3 rfl (q_head hQ hC)) ?_
                      refine WA_takeM 6 rfl rfl rfl (by kernel_rfl) (by kernel_rfl) H (fun _ hC => R_mv) ?_
                      refine WA_take 7 rfl rfl rfl (by kernel_rfl) (by kernel_rfl) H (fun _ hC => R_ne rfl rfl) ?_
                      refine WA_takeM 8 rfl rfl rfl (by kernel_rfl) (by kernel_rfl) H (fun _ hC => R_mv) ?_
                      refine WA_if 115 rfl (fun h325 => ?_) (fun h325 => ?_)
                      · refine WA_takeGM 9 rfl rfl rfl rfl (by kernel_rfl) (by kernel_rfl) H (fun _ hC => R_mv) ?_
                        refine WA_takeGM 10 rfl rfl rfl rfl (by kernel_rfl) (by kernel_rfl) H (fun _ hC => R_mv) ?_
                        refine WA_takeG 11 rfl rfl rfl rfl (by kernel_rfl) (by kernel_rfl) H (fun _ hC => R_nilCheck rfl) ?_
                        refine WA_takeG 12 rfl rfl rfl rfl (by kernel_rfl) (by kernel_rfl) H (fun _ hC => R_fieldAddr (off' := 6) Tryz.underlying170 rfl Tryz.sizeOf3 (by decide) rfl rfl) ?_
                        refine WA_takeG 13 rfl rfl rfl rfl (by kernel_rfl) (by kernel_rfl) H (fun _ hC => R_load Tryz.isAgg3 rfl (hC.get (.app _ .here)) rfl) ?_
                        refine WA_takeG 14 rfl rfl rfl rfl (by kernel_rfl) (by kernel_rfl) H (fun _ hC => R_sub rfl rfl (w_i64 (by omega))) ?_
                        refine WA_takeGM 15 rfl rfl rfl rfl (by kernel_rfl) (by kernel_rfl) H (fun _ hC => R_mv) ?_
                        refine WA_takeG 16 rfl rfl rfl rfl (by kernel_rfl) (by kernel_rfl) H (fun _ hC => R_nilCheck rfl) ?_
                        refine WA_takeG 17 rfl rfl rfl rfl (by kernel_rfl) (by kernel_rfl) H (fun _ hC => R_fieldAddr (off' := 0) Tryz.underlying170 rfl Tryz.sizeOf3 (by decide) rfl rfl) ?_
                        refine WA_takeG 18 rfl rfl rfl rfl (by kernel_rfl) (by kernel_rfl) H (fun _ hC => R_load Tryz.isAgg3 rfl (hC.get (.app _ .here)) rfl) ?_
                        refine WA_takeG 19 rfl rfl rfl rfl (by kernel_rfl) (by kernel_rfl) H (fun _ hC => R_ge_f rfl rfl (by omega)) ?_
                        refine WA_takeM 20 rfl rfl rfl (by kernel_rfl) (by kernel_rfl) H (fun _ hC => R_pk_t rfl) ?_
                        refine WA_done (by kernel_rfl) ?_
                        refine W_cond_f rfl ?_
                        refine W_exit ?_
                        refine (if_pos rfl).mpr ?_
                        exact ⟨(same_mov rfl (same_updo rfl (same_updo rfl (same_updo rfl (same_updo rfl (same_mov rfl (same_updo rfl (same_updo rfl (same_updo rfl (same_updo rfl (same_mov rfl (same_mov rfl (same_know rfl (same_mov rfl (same_updo rfl (same_mov rfl (same_updo rfl (same_updo rfl (same_updo rfl (same_updo rfl (same_updo rfl (same_mov rfl (same_updn (same_updo rfl (same_updo rfl (same_updn (same_updo rfl (same_updo rfl (same_mov rfl (same_updo rfl (same_updo rfl (same_updo rfl (same_updo rfl (same_mov rfl (same_mov rfl (same_mov rfl (same_know rfl (same_mov rfl (same_updo rfl (same_updo rfl (same_updo rfl (same_updo rfl (same_mov rfl (same_updo rfl (same_updo rfl (same_updo rfl (same_updo rfl (same_mov rfl (same_mov rfl (same_know rfl (same_mov rfl (same_updo rfl (same_mov rfl (same_updo rfl (same_updo rfl (same_updo rfl (same_updo rfl (same_updo rfl (same_mov rfl Same.refl))))))))))))))))))))))))))))))))))))))))))))))))))))))))))), _, by rw [en4_pop hys (by assumption) (by assumption)]; show OwnQ _ _ _ (ys.map I) _; rw [hzs]; exact hQ, by rw [en4_pop hys (by assumption) (by assumption)]; exact H⟩
                      · refine WA_pass 9 rfl rfl rfl (fun h => nomatch h) (by kernel_rfl) (by kernel_rfl) H ?_
                        refine WA_pass 10 rfl rfl rfl (fun h => nomatch h) (by kernel_rfl) (by kernel_rfl) H ?_
                        refine WA_pass 11 rfl rfl rfl (fun h => nomatch h) (by kernel_rfl) (by kernel_rfl) H ?_
                        refine WA_pass 12 rfl rfl rfl (fun h => nomatch h) (by kernel_rfl) (by kernel_rfl) H ?_
                        refine WA_pass 13 rfl rfl rfl (fun h => nomatch h) (by kernel_rfl) (by kernel_rfl) H ?_
                        refine WA_pass 14 rfl rfl rfl (fun h => nomatch h) (by kernel_rfl) (by kernel_rfl) H ?_
                        refine WA_pass 15 rfl rfl rfl (fun h => nomatch h) (by kernel_rfl) (by kernel_rfl) H ?_
                        refine WA_pass 16 rfl rfl rfl (fun h => nomatch h) (by kernel_rfl) (by kernel_rfl) H ?_
                        refine WA_pass 17 rfl rfl rfl (fun h => nomatch h) (by kernel_rfl) (by kernel_rfl) H ?_
                        refine WA_pass 18 rfl rfl rfl (fun h => nomatch h) (by kernel_rfl) (by kernel_rfl) H ?_
                        refine WA_pass 19 rfl rfl rfl (fun h => nomatch h) (by kernel_rfl) (by kernel_rfl) H ?_
                        refine WA_takeM 20 rfl rfl rfl (by kernel_rfl) (by kernel_rfl) H (fun _ hC => R_pk_f rfl) ?_
                        refine WA_done (by kernel_rfl) ?_
                        refine W_cond_f rfl ?_
                        refine W_exit ?_
                        refine (if_pos rfl).mpr ?_
                        exact ⟨(same_mov rfl (same_updo rfl (same_updo rfl (same_updo rfl (same_updo rfl (same_updo rfl (same_updo rfl (same_updo rfl (same_updo rfl (same_updo rfl (same_updo rfl (same_updo rfl (same_know rfl (same_mov rfl (same_updo rfl (same_mov rfl (same_updo rfl (same_updo rfl (same_updo rfl (same_updo rfl (same_updo rfl (same_mov rfl (same_updn (same_updo rfl (same_updo rfl (same_updn (same_updo rfl (same_updo rfl (same_mov rfl (same_updo rfl (same_updo rfl (same_updo rfl (same_updo rfl (same_mov rfl (same_mov rfl (same_mov rfl (same_know rfl (same_mov rfl (same_updo rfl (same_updo rfl (same_updo rfl (same_updo rfl (same_mov rfl (same_updo rfl (same_updo rfl (same_updo rfl (same_updo rfl (same_mov rfl (same_mov rfl (same_know rfl (same_mov rfl (same_updo rfl (same_mov rfl (same_updo rfl (same_updo rfl (same_updo rfl (same_updo rfl (same_updo rfl (same_mov rfl Same.refl))))))))))))))))))))))))))))))))))))))))))))))))))))))))))), _, by rw [en4_pop hys (by assumption) (by assumption)]; show OwnQ _ _ _ (ys.map I) _; rw [hzs]; exact hQ, by rw [en4_pop hys (by assumption) (by assumption)]; exact H⟩
                    · refine W_exit ?_
                      refine (if_pos rfl).mpr ?_
                      exact ⟨(same_know rfl (same_mov rfl (same_updo rfl (same_updo rfl (same_updo rfl (same_updo rfl (same_mov rfl (same_updo rfl (same_updo rfl (same_updo rfl (same_updo rfl (same_mov rfl (same_mov rfl (same_know rfl (same_mov rfl (same_updo rfl (same_mov rfl (same_updo rfl (same_updo rfl (same_updo rfl (same_updo rfl (same_updo rfl (same_mov rfl Same.refl))))))))))))))))))))))), _, by rw [en4_same hys (.inr (by assumption)), hys]; exact hQ, by rw [en4_same hys (.inr (by assumption))]; exact H⟩
                  · refine WA_pass 9 rfl rfl rfl (fun h => nomatch h) (by kernel_rfl) (by kernel_rfl) H ?_
                    refine WA_pass 10 rfl rfl rfl (fun h => nomatch h) (by kernel_rfl) (by kernel_rfl) H ?_
                    refine WA_pass 11 rfl rfl rfl (fun h => nomatch h) (by kernel_rfl) (by kernel_rfl) H ?_
                    refine WA_pass 12 rfl rfl rfl (fun h => nomatch h) (by kernel_rfl) (by kernel_rfl) H ?_
                    refine WA_pass 13 rfl rfl rfl (fun h => nomatch h) (by kernel_rfl) (by kernel_rfl) H ?_
                    refine WA_pass 14 rfl rfl rfl (fun h => nomatch h) (by kernel_rfl) (by kernel_rfl) H ?_
                    refine WA_pass 15 rfl rfl rfl (fun h => nomatch h) (by kernel_rfl) (by kernel_rfl) H ?_
                    refine WA_pass 16 rfl rfl rfl (fun h => nomatch h) (by kernel_rfl) (by kernel_rfl) H ?_
                    refine WA_pass 17 rfl rfl rfl (fun h => nomatch h) (by kernel_rfl) (by kernel_rfl) H ?_
                    refine WA_pass 18 rfl rfl rfl (fun h => nomatch h) (by kernel_rfl) (by kernel_rfl) H ?_
                    refine WA_pass 19 rfl rfl rfl (fun h => nomatch h) (by kernel_rfl) (by kernel_rfl) H ?_
                    refine WA_takeM 20 rfl rfl rfl (by kernel_rfl) (by kernel_rfl) H (fun _ hC => R_pk_f rfl) ?_
                    refine WA_done (by kernel_rfl) ?_
                    refine W_cond_f rfl ?_
                    refine W_exit ?_
                    refine (if_pos rfl).mpr ?_
                    exact ⟨(same_mov rfl (same_updo rfl (same_updo rfl (same_updo rfl (same_updo rfl (same_updo rfl (same_updo rfl (same_updo rfl (same_updo rfl (same_updo rfl (same_updo rfl (same_updo rfl (same_know rfl (same_mov rfl (same_updo rfl (same_mov rfl (same_updo rfl (same_updo rfl (same_updo rfl (same_updo rfl (same_updo rfl (same_mov rfl Same.refl)))))))))))))))))))))), _, by rw [en4_same hys (.inl (Decidable.of_not_not (by assumption))), hys]; exact hQ, by rw [en4_same hys (.inl (Decidable.of_not_not (by assumption)))]; exact H⟩
                · (clear H hQ; rintro E w1 ⟨qv4, hQ, H⟩; rw [← hys] at i1; obtain ⟨f1', f2', f3'⟩ := en4_facts (who := who) (n := n) i1; obtain ⟨s4, hs4⟩ : ∃ x, en4 s3 who n = x := ⟨_, rfl⟩; rw [hs4] at H hQ f1' f2' f3'; obtain ⟨z, zs, hzs⟩ := q_cons f1'; rw [hzs] at hQ; obtain ⟨a7, c7, rfl⟩ := hQ.form; obtain ⟨b7, o7, rfl⟩ := q_some hQ H; unfold sxC at H; have hlz : (List.map I (z :: zs)).length = zs.length + 1 := (by simp))
                  refine W_seq ?_
                  refine W_seq ?_
                  refine W_region_l ?_
                  refine WL_stepM rfl (R_mv) ?_
                  refine WL_step rfl (R_nilCheck rfl) ?_
                  refine WL_step rfl (R_fieldAddr (off' := 5) Tryz.underlying170 rfl Tryz.sizeOf22 (by decide) rfl rfl) ?_
                  refine WL_step rfl (R_load Tryz.isAgg22 rfl (H.get (.app _ .here)) rfl) ?_
                  refine WL_step rfl (R_indexAddr Tryz.underlying22 Tryz.sizeOf3 rfl rfl (by omega) (by omega) idx_cast1) ?_
                  refine WL_step rfl (R_load_cell Tryz.isAgg3 rfl (q_head hQ H)) ?_
                  refine WL_stepM rfl (R_mv) ?_
                  refine WL_step rfl (R_ne rfl rfl) ?_
                  refine WL_nil ?_
                  refine W_if rfl (fun h393 => ?_) (fun h393 => ?_)
                  · refine W_seq ?_
                    refine W_region_l ?_
                    refine WL_stepM rfl (R_as) ?_
                    refine WL_stepM rfl (R_as) ?_
                    refine WL_nil ?_
                    refine W_ret ?_
                    (have e := enter_no (s := ⟨lease, held, who', stamp, since, q, first, last, stamps⟩) (by assumption) hnm (by assumption) hs2 hs3 (by assumption) hs4 hzs (by assumption); exact ⟨_, rfl, _, _, by rw [e]; rfl, by rw [e]; show OwnQ _ _ _ (s4.q.map I) _; rw [hzs]; exact hQ, by rw [e]; exact H⟩)
                  · refine W_skip ?_
                    refine W_seq ?_
                    refine W_region_l ?_
                    refine WL_stepM rfl (R_mv) ?_
                    refine WL_stepM rfl (R_mv) ?_
                    refine WL_stepM rfl (R_mv) ?_
                    refine WL_step rfl (R_nilCheck rfl) ?_
                    refine WL_step rfl (R_fieldAddr (off' := 5) Tryz.underlying170 rfl Tryz.sizeOf22 (by decide) rfl rfl) ?_
                    refine WL_step rfl (R_load Tryz.isAgg22 rfl (H.get (.app _ .here)) rfl) ?_
                    (refine WL_tailQ hQ Tryz.underlying22 Tryz.sizeOf3 rfl rfl ?_; clear hQ; intro v5 hQ; obtain ⟨a8, c8, rfl⟩ := hQ.form)
                    refine WL_stepM rfl (R_mv) ?_
                    refine WL_step rfl (R_nilCheck rfl) ?_
                    refine WL_step rfl (R_fieldAddr (off' := 5) Tryz.underlying170 rfl Tryz.sizeOf22 (by decide) rfl rfl) ?_
                    (refine WL_effu rfl (E_store (v := (.slice _ _ _)) H Tryz.sizeOf22 rfl rfl rfl (.app _ .here) (by simp)) ?_; clear H; intro w414 H)
                    refine WL_step rfl (R_nilCheck rfl) ?_
                    refine WL_step rfl (R_fieldAddr (off' := 6) Tryz.underlying170 rfl Tryz.sizeOf3 (by decide) rfl rfl) ?_
                    (refine WL_effu rfl (E_store (v := (.int _ _)) H Tryz.sizeOf3 rfl rfl rfl (.app _ .here) (by simp)) ?_; clear H; intro w417 H)
                    refine WL_nil ?_
                    refine W_seq ?_
                    refine W_region_l ?_
                    refine WL_stepM rfl (R_mv) ?_
                    refine WL_step rfl (R_nilCheck rfl) ?_
                    refine WL_step rfl (R_fieldAddr (off' := 8) Tryz.underlying170 rfl Tryz.sizeOf3 (by decide) rfl rfl) ?_
                    refine WL_step rfl (R_load Tryz.isAgg3 rfl (H.get (.app _ .here)) rfl) ?_
                    refine WL_step rfl (R_add rfl rfl (w_i64 (by omega))) ?_
                    refine WL_step rfl (R_nilCheck rfl) ?_
                    refine WL_step rfl (R_fieldAddr (off' := 8) Tryz.underlying170 rfl Tryz.sizeOf3 (by decide) rfl rfl) ?_
                    (refine WL_effu rfl (E_store (v := (.int _ _)) H Tryz.sizeOf3 rfl rfl rfl (.app _ .here) (by simp)) ?_; clear H; intro w428 H)
                    refine WL_nil ?_
                    refine W_seq ?_
                    refine W_region_l ?_
                    refine WL_stepM rfl (R_mv) ?_
                    refine WL_stepM rfl (R_mv) ?_
                    refine WL_stepM rfl (R_mv) ?_
                    refine WL_stepM rfl (R_mv) ?_
                    refine WL_stepM rfl (R_mv) ?_
                    refine WL_stepM rfl (R_mv) ?_
                    refine WL_step rfl (R_nilCheck rfl) ?_
                    refine WL_step rfl (R_fieldAddr (off' := 8) Tryz.underlying170 rfl Tryz.sizeOf3 (by decide) rfl rfl) ?_
                    refine WL_step rfl (R_load Tryz.isAgg3 rfl (H.get (.app _ .here)) rfl) ?_
                    refine WL_stepM rfl (R_mv) ?_
                    refine WL_step rfl (R_nilCheck rfl) ?_
                    refine WL_step rfl (R_fieldAddr (off' := 1) Tryz.underlying170 rfl Tryz.sizeOf4 (by decide) rfl rfl) ?_
                    (refine WL_effu rfl (E_store (v := (.bool _)) H Tryz.sizeOf4 rfl rfl rfl (.app _ .here) (by simp)) ?_; clear H; intro w444 H)
                    refine WL_step rfl (R_nilCheck rfl) ?_
                    refine WL_step rfl (R_fieldAddr (off' := 2) Tryz.underlying170 rfl Tryz.sizeOf3 (by decide) rfl rfl) ?_
                    (refine WL_effu rfl (E_store (v := (.int _ _)) H Tryz.sizeOf3 rfl rfl rfl (.app _ .here) (by simp)) ?_; clear H; intro w447 H)
                    refine WL_step rfl (R_nilCheck rfl) ?_
                    refine WL_step rfl (R_fieldAddr (off' := 3) Tryz.underlying170 rfl Tryz.sizeOf3 (by decide) rfl rfl) ?_
                    (refine WL_effu rfl (E_store (v := (.int _ _)) H Tryz.sizeOf3 rfl rfl rfl (.app _ .here) (by simp)) ?_; clear H; intro w450 H)
                    refine WL_step rfl (R_nilCheck rfl) ?_
                    refine WL_step rfl (R_fieldAddr (off' := 4) Tryz.underlying170 rfl Tryz.sizeOf3 (by decide) rfl rfl) ?_
                    (refine WL_effu rfl (E_store (v := (.int _ _)) H Tryz.sizeOf3 rfl rfl rfl (.app _ .here) (by simp)) ?_; clear H; intro w453 H)
                    refine WL_nil ?_
                    refine W_seq ?_
                    refine W_region_l ?_
                    refine WL_stepM rfl (R_mv) ?_
                    refine WL_step rfl (R_nilCheck rfl) ?_
                    refine WL_step rfl (R_fieldAddr (off' := 3) Tryz.underlying170 rfl Tryz.sizeOf3 (by decide) rfl rfl) ?_
                    refine WL_step rfl (R_load Tryz.isAgg3 rfl (H.get (.app _ .here)) rfl) ?_
                    refine WL_stepM rfl (R_as) ?_
                    refine WL_stepM rfl (R_as) ?_
                    refine WL_nil ?_
                    refine W_ret ?_
                    (have e := enter_in (s := ⟨lease, held, who', stamp, since, q, first, last, stamps⟩) (by assumption) hnm (by assumption) hs2 hs3 (by assumption) hs4 hzs (Decidable.of_not_not (by assumption)); exact ⟨_, rfl, _, _, by rw [e]; rfl, by rw [e]; show OwnQ _ _ _ (s4.q.tail.map I) _; rw [hzs]; exact hQ, by rw [e]; exact H⟩)
end
end Go.Proofs.YtlpmfldijgdcoaaGreatDoor.Sect

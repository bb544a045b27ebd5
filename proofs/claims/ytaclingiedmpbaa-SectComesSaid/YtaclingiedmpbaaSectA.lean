/-
  What a Sect holds in memory; the lesser calls.
-/
import Derived.Test.YtaclingiedmpbaaFxU
import Derived.Test.YtaclingiedmpbaaProg
namespace Go.Proofs.Ytaclingiedmpbaa.Sect
open Go Go.Proofs Go.Proofs.Ytaclingiedmpbaa.Fx
set_option maxRecDepth 100000
set_option linter.unusedVariables false
set_option linter.unusedSimpArgs false
set_option maxHeartbeats 1000000

/-- a Sect -/
structure Sx where
  lease : Int
  held : Bool
  who : Int
  stamp : Int
  since : Int
  q : List Int
  first : Int
  last : Int
  stamps : Int

def sxC (s : Sx) (qv : Value) : List Value := [I s.lease, .bool s.held, I s.who, I s.stamp, I s.since, qv, I s.first, I s.last, I s.stamps]

def newSx (n : Int) : Sx := ⟨min (max n 1) 1000, false, 0, 0, 0, [], 0, 0, 0⟩

section
variable {w0 w : World} {p : Nat} {s : Sx} {qv : Value} {Mq R : List (Nat × Obj)}

theorem new_ret (n : Int) (w : World) : Ret Try.prog 14 #[I n] w fun v w' => ∃ p, v = ptr p 0 ∧ w.heap.size ≤ p ∧ Hp w [(p, blk (sxC (newSx n) nilS) 64)] w' := by
  refine Ret_of_W (args := [_]) Try.func14 rfl Try.ntmps14 Try.results14 (by simp) ?_
  have H := Hp.refl w
  refine W_seq ?_
  refine W_region_l ?_
  refine WL_stepM rfl (R_as) ?_
  refine WL_nil ?_
  refine W_seq ?_
  refine W_region_l ?_
  refine WL_stepM rfl (R_mv) ?_
  refine WL_step rfl (R_max rfl rfl rfl) ?_
  refine WL_step rfl (R_min rfl rfl rfl) ?_
  refine WL_step rfl (R_build (vs := [(.int _ _), (.bool _), (.int _ _), (.int _ _), (.int _ _), (.slice _ _ _), (.int _ _), (.int _ _), (.int _ _)]) rfl rfl) ?_
  (refine WL_effn rfl (E_box (vs := sxC (newSx n) nilS) H rfl rfl) ?_; clear H; intro p w11 hp H)
  refine WL_stepM rfl (R_as) ?_
  refine WL_nil ?_
  refine W_ret ?_
  exact ⟨_, rfl, p, rfl, hp, H⟩

theorem holds_ret (who stamp : Int) (H : Hp w0 (Mq ++ ((p, blk (sxC s qv) 64) :: R)) w) :
    Ret Try.prog 16 #[ptr p 0, I who, I stamp] w fun v w' => v = .bool (decide (s.held = true ∧ s.who = who ∧ s.stamp = stamp)) ∧ Hp w0 (Mq ++ ((p, blk (sxC s qv) 64) :: R)) w' := by
  refine Ret_of_W (args := [_, _, _]) Try.func16 rfl Try.ntmps16 Try.results16 (by simp) ?_
  unfold sxC at H
  refine W_seq ?_
  refine W_region_l ?_
  refine WL_stepM rfl (R_as) ?_
  refine WL_nil ?_
  refine W_seq ?_
  refine W_region_l ?_
  refine WL_stepM rfl (R_mv) ?_
  refine WL_step rfl (R_nilCheck rfl) ?_
  refine WL_step rfl (R_fieldAddr (off' := 1) Try.underlying64 rfl Try.sizeOf4 (by decide) rfl rfl) ?_
  refine WL_step rfl (R_load Try.isAgg4 rfl (H.get (.app _ .here)) rfl) ?_
  refine WL_stepM rfl (R_mv) ?_
  apply WL_andK 7 11 18 [(12, 18)] H
  case hc => exact decV rfl
  case h1 =>
    intro h12
    refine WL_guard_t rfl rfl ?_
    refine WL_stepM rfl (R_mv) ?_
    refine WL_guard_t rfl rfl ?_
    refine WL_step rfl (R_nilCheck rfl) ?_
    refine WL_guard_t rfl rfl ?_
    refine WL_step rfl (R_fieldAddr (off' := 2) Try.underlying64 rfl Try.sizeOf3 (by decide) rfl rfl) ?_
    refine WL_guard_t rfl rfl ?_
    refine WL_step rfl (R_load Try.isAgg3 rfl (H.get (.app _ .here)) rfl) ?_
    refine WL_guard_t rfl rfl ?_
    refine WL_stepM rfl (R_mv) ?_
    refine WL_guard_t rfl rfl ?_
    refine WL_step rfl (R_eq rfl rfl) ?_
    refine WL_stepM rfl (R_pk_t rfl) ?_
    refine WL_nil ?_
    exact ⟨(by repeat' first | refine same_updo rfl ?_ | refine same_mov rfl ?_ | refine same_upd rfl ?_ | refine same_updn ?_ | refine same_know rfl ?_ | exact same_ovr | refine same_in rfl ?_ | exact Same.refl), rfl, H⟩
  case h0 =>
    intro h12
    refine WL_guard_f rfl rfl (by decide) ?_
    refine WL_guard_f rfl rfl (by decide) ?_
    refine WL_guard_f rfl rfl (by decide) ?_
    refine WL_guard_f rfl rfl (by decide) ?_
    refine WL_guard_f rfl rfl (by decide) ?_
    refine WL_guard_f rfl rfl (by decide) ?_
    refine WL_stepM rfl (R_pk_f rfl) ?_
    refine WL_nil ?_
    exact ⟨(by repeat' first | refine same_updo rfl ?_ | refine same_mov rfl ?_ | refine same_upd rfl ?_ | refine same_updn ?_ | refine same_know rfl ?_ | exact same_ovr | refine same_in rfl ?_ | exact Same.refl), rfl, H⟩
  case h2 =>
    (clear H; intro E12 w12 H)
    refine WL_stepM rfl (R_mv) ?_
    apply WL_andK 7 19 26 [(20, 26)] H
    case hc => rfl
    case h1 =>
      intro h38
      refine WL_guard_t rfl rfl ?_
      refine WL_stepM rfl (R_mv) ?_
      refine WL_guard_t rfl rfl ?_
      refine WL_step rfl (R_nilCheck rfl) ?_
      refine WL_guard_t rfl rfl ?_
      refine WL_step rfl (R_fieldAddr (off' := 3) Try.underlying64 rfl Try.sizeOf3 (by decide) rfl rfl) ?_
      refine WL_guard_t rfl rfl ?_
      refine WL_step rfl (R_load Try.isAgg3 rfl (H.get (.app _ .here)) rfl) ?_
      refine WL_guard_t rfl rfl ?_
      refine WL_stepM rfl (R_mv) ?_
      refine WL_guard_t rfl rfl ?_
      refine WL_step rfl (R_eq rfl rfl) ?_
      refine WL_stepM rfl (R_pk_t rfl) ?_
      refine WL_nil ?_
      exact ⟨(by repeat' first | refine same_updo rfl ?_ | refine same_mov rfl ?_ | refine same_upd rfl ?_ | refine same_updn ?_ | refine same_know rfl ?_ | exact same_ovr | refine same_in rfl ?_ | exact Same.refl), rfl, H⟩
    case h0 =>
      intro h38
      refine WL_guard_f rfl rfl (by decide) ?_
      refine WL_guard_f rfl rfl (by decide) ?_
      refine WL_guard_f rfl rfl (by decide) ?_
      refine WL_guard_f rfl rfl (by decide) ?_
      refine WL_guard_f rfl rfl (by decide) ?_
      refine WL_guard_f rfl rfl (by decide) ?_
      refine WL_stepM rfl (R_pk_f rfl) ?_
      refine WL_nil ?_
      exact ⟨(by repeat' first | refine same_updo rfl ?_ | refine same_mov rfl ?_ | refine same_upd rfl ?_ | refine same_updn ?_ | refine same_know rfl ?_ | exact same_ovr | refine same_in rfl ?_ | exact Same.refl), rfl, H⟩
    case h2 =>
      (clear H; intro E38 w38 H)
      refine WL_stepM rfl (R_as) ?_
      refine WL_nil ?_
      refine W_ret ?_
      exact ⟨_, rfl, congrArg Value.bool (decide_eq_decide.2 and_assoc), H⟩

def leaveSx (s : Sx) (who stamp : Int) : Sx := if s.held = true ∧ s.who = who ∧ s.stamp = stamp then { s with held := false, first := s.last } else s

theorem leave_ret (who stamp : Int) (H : Hp w0 (Mq ++ ((p, blk (sxC s qv) 64) :: R)) w) :
    Ret Try.prog 17 #[ptr p 0, I who, I stamp] w fun v w' => v = .bool (decide (s.held = true ∧ s.who = who ∧ s.stamp = stamp)) ∧ Hp w0 (Mq ++ ((p, blk (sxC (leaveSx s who stamp) qv) 64) :: R)) w' := by
  refine Ret_of_W (args := [_, _, _]) Try.func17 rfl Try.ntmps17 Try.results17 (by simp) ?_
  unfold sxC at H
  refine W_seq ?_
  refine W_region_l ?_
  refine WL_stepM rfl (R_as) ?_
  refine WL_nil ?_
  refine W_seq ?_
  refine W_seq ?_
  refine W_region_l ?_
  refine WL_stepM rfl (R_mv) ?_
  refine WL_stepM rfl (R_mv) ?_
  refine WL_stepM rfl (R_mv) ?_
  (refine WL_call rfl (R_call rfl Try.call16 rfl) (holds_ret who stamp H) ?_; clear H; rintro _ w11 ⟨rfl, H⟩; unfold sxC at H)
  refine WL_step rfl (R_not_d rfl) ?_
  refine WL_nil ?_
  refine W_if rfl (fun h14 => ?_) (fun h14 => ?_)
  · refine W_seq ?_
    refine W_region_l ?_
    refine WL_stepM rfl (R_as) ?_
    refine WL_nil ?_
    refine W_ret ?_
    (have hx : ¬ (s.held = true ∧ s.who = who ∧ s.stamp = stamp) := (by assumption); exact ⟨_, rfl, congrArg Value.bool (decide_eq_false hx).symm, (by unfold leaveSx; rw [if_neg hx]; exact H)⟩)
  · refine W_skip ?_
    refine W_seq ?_
    refine W_region_l ?_
    refine WL_stepM rfl (R_mv) ?_
    refine WL_step rfl (R_nilCheck rfl) ?_
    refine WL_step rfl (R_fieldAddr (off' := 1) Try.underlying64 rfl Try.sizeOf4 (by decide) rfl rfl) ?_
    (refine WL_effu rfl (E_store (v := (.bool _)) H Try.sizeOf4 rfl rfl rfl (.app _ .here) (by simp)) ?_; clear H; intro w27 H)
    refine WL_nil ?_
    refine W_seq ?_
    refine W_region_l ?_
    refine WL_stepM rfl (R_mv) ?_
    refine WL_stepM rfl (R_mv) ?_
    refine WL_step rfl (R_nilCheck rfl) ?_
    refine WL_step rfl (R_fieldAddr (off' := 7) Try.underlying64 rfl Try.sizeOf3 (by decide) rfl rfl) ?_
    refine WL_step rfl (R_load Try.isAgg3 rfl (H.get (.app _ .here)) rfl) ?_
    refine WL_step rfl (R_nilCheck rfl) ?_
    refine WL_step rfl (R_fieldAddr (off' := 6) Try.underlying64 rfl Try.sizeOf3 (by decide) rfl rfl) ?_
    (refine WL_effu rfl (E_store (v := (.int _ _)) H Try.sizeOf3 rfl rfl rfl (.app _ .here) (by simp)) ?_; clear H; intro w38 H)
    refine WL_nil ?_
    refine W_seq ?_
    refine W_region_l ?_
    refine WL_stepM rfl (R_as) ?_
    refine WL_nil ?_
    refine W_ret ?_
    (have hx : s.held = true ∧ s.who = who ∧ s.stamp = stamp := Decidable.of_not_not (by assumption); exact ⟨_, rfl, congrArg Value.bool (decide_eq_true hx).symm, (by unfold leaveSx; rw [if_pos hx]; exact H)⟩)

/-- where a number stands in a row; below 0: nowhere -/
def idx (xs : List Int) (x : Int) : Int := match xs with
  | [] => -1
  | y :: ys => if x = y then 0 else if idx ys x < 0 then -1 else idx ys x + 1

theorem idx_ge (xs : List Int) (x : Int) : -1 ≤ idx xs x := by
  induction xs with
  | nil => simp [idx]
  | cons y ys ih => unfold idx; split <;> (try split) <;> omega
theorem idx_mem {xs : List Int} {x : Int} : 0 ≤ idx xs x ↔ x ∈ xs := by
  induction xs with
  | nil => simp [idx]
  | cons y ys ih =>
    unfold idx
    rw [List.mem_cons, ← ih]
    split
    · simp_all
    · split <;> omega
/-- the first of the numbers behind place k, if none ahead of it is it -/
theorem idx_drop {xs : List Int} {x : Int} {k : Nat} (hk : k < xs.length) (h : ∀ j (hj : j < k), xs[j]'(by omega) ≠ x) (hx : x = xs[k]) : idx xs x = k := by
  induction xs generalizing k with
  | nil => simp at hk
  | cons y ys ih =>
    unfold idx
    cases k with
    | zero => rw [if_pos (by simpa using hx)]; rfl
    | succ k =>
      have h0 := h 0 (by omega)
      rw [if_neg (fun e => h0 e.symm)]
      simp only [List.length_cons] at hk
      have := ih (k := k) (by omega) (fun j hj => by have := h (j + 1) (by omega); simpa using this) (by simpa using hx)
      rw [this]
      rw [if_neg (by omega)]
      omega
theorem idx_none {xs : List Int} {x : Int} (h : ∀ j (hj : j < xs.length), xs[j] ≠ x) : idx xs x = -1 := by
  have h1 := idx_ge xs x
  have h2 : ¬ 0 ≤ idx xs x := fun h3 => by
    obtain ⟨j, hj, he⟩ := List.getElem_of_mem (idx_mem.1 h3)
    exact h j hj he
  omega

theorem index_ret {xs : List Int} {w : World} {v : Value} (x : Int) (hv : RdS w v (xs.map I)) (hb : xs.length ≤ 9223372036854775807) :
    Ret Try.prog 36 #[v, I x] w fun r w' => r = I (idx xs x) ∧ Hp w [] w' := by
  refine Ret_of_W (args := [_, _]) Try.func36 rfl Try.ntmps36 Try.results36 (by simp) ?_
  obtain ⟨ao, ca, rfl⟩ := hv.form
  simp only [List.length_map] at hv ⊢
  have H := Hp.refl w
  refine W_seq ?_
  refine W_region_l ?_
  refine WL_stepM rfl (R_as) ?_
  refine WL_nil ?_
  refine W_seq ?_
  refine W_seq ?_
  refine W_region_l ?_
  refine WL_stepM rfl (R_mv) ?_
  refine WL_step rfl (R_len_slice Try.underlying22 rfl) ?_
  refine WL_stepM rfl (R_mv) ?_
  refine WL_nil ?_
  refine W_block ?_
  refine W_loopS [(4, 5), (8, 18)] (fun (k : Nat) E w' => k ≤ xs.length ∧ E 8 = I k ∧ (∀ j (hj : j < k) (hl : j < xs.length), xs[j] ≠ x) ∧ Hp w [] w') (fun k => xs.length - k) 0 ?e0 ?r0
  · exact ⟨by omega, rfl, fun j hj => by omega, H⟩
  · (clear H; rintro k E w1 ⟨hk, h0, hn, H⟩; refine W_kn h0 ?_)
    refine W_seq ?_
    refine W_region_l ?_
    refine WL_step rfl (R_lt rfl rfl) ?_
    refine WL_nil ?_
    refine W_seq ?_
    refine W_if rfl (fun h20 => ?_) (fun h20 => ?_)
    · refine W_skip ?_
      refine W_seq ?_
      refine W_block ?_
      refine W_seq ?_
      refine W_region_l ?_
      refine WL_stepM rfl (R_mv) ?_
      refine WL_stepM rfl (R_as) ?_
      refine WL_nil ?_
      refine W_seq ?_
      (obtain ⟨b1, o1, rfl, hc1⟩ := hv.cell (i := k) (u := I xs[k]) (by rw [List.getElem?_map, List.getElem?_eq_getElem (by omega)]; rfl)) <;> refine W_region_l ?_
      refine WL_stepM rfl (R_mv) ?_
      refine WL_stepM rfl (R_mv) ?_
      refine WL_stepM rfl (R_mv) ?_
      refine WL_step rfl (R_indexAddr Try.underlying22 Try.sizeOf3 rfl rfl (by omega) (by omega) idx_cast1) ?_
      refine WL_step rfl (R_load_cell Try.isAgg3 rfl (H.cellN hc1 (by repeat' first | exact kNil | apply kCons | apply kApp | assumption | exact OwnS.keys (by assumption)))) ?_
      refine WL_step rfl (R_eq rfl rfl) ?_
      refine WL_nil ?_
      refine W_if rfl (fun h38 => ?_) (fun h38 => ?_)
      · refine W_seq ?_
        refine W_region_l ?_
        refine WL_stepM rfl (R_mv) ?_
        refine WL_stepM rfl (R_as) ?_
        refine WL_nil ?_
        refine W_ret ?_
        exact ⟨_, rfl, congrArg I (idx_drop (by omega) (fun j hj => hn j hj (by omega)) (by assumption)).symm, H⟩
      · refine W_skip ?_
        refine W_region_l ?_
        refine WL_step rfl (R_add rfl rfl (w_i64 (by omega))) ?_
        refine WL_stepM rfl (R_mv) ?_
        refine WL_nil ?_
        exact ⟨(by repeat' first | refine same_updo rfl ?_ | refine same_mov rfl ?_ | refine same_upd rfl ?_ | refine same_updn ?_ | refine same_know rfl ?_ | exact same_ovr | refine same_in rfl ?_ | exact Same.refl), k + 1, by omega, by omega, rfl, (fun j hj hl => by rcases Nat.lt_or_ge j k with h' | h'; exact hn j h' hl; obtain rfl : j = k := (by omega); exact fun e => absurd e.symm (by assumption)), H⟩
    · refine W_exit ?_
      refine (if_pos rfl).mpr ?_
      refine W_seq ?_
      refine W_region_l ?_
      refine WL_stepM rfl (R_as) ?_
      refine WL_nil ?_
      refine W_ret ?_
      exact ⟨_, rfl, congrArg I (idx_none (fun j hj => hn j (by omega) hj)).symm, H⟩

theorem contains_ret {xs : List Int} {w : World} {v : Value} (x : Int) (hv : RdS w v (xs.map I)) (hb : xs.length ≤ 9223372036854775807) :
    Ret Try.prog 34 #[v, I x] w fun r w' => r = .bool (decide (x ∈ xs)) ∧ Hp w [] w' := by
  refine Ret_of_W (args := [_, _]) Try.func34 rfl Try.ntmps34 Try.results34 (by simp) ?_
  have H := Hp.refl w
  refine W_seq ?_
  refine W_region_l ?_
  refine WL_stepM rfl (R_as) ?_
  refine WL_nil ?_
  refine W_seq ?_
  refine W_region_l ?_
  refine WL_stepM rfl (R_mv) ?_
  refine WL_stepM rfl (R_mv) ?_
  (refine WL_call rfl (R_call rfl Try.call36 rfl) (index_ret x hv hb) ?_; rintro _ w9 ⟨rfl, H1⟩; replace H := H.seq0 H1; clear H1)
  refine WL_step rfl (R_ge rfl rfl) ?_
  refine WL_stepM rfl (R_as) ?_
  refine WL_nil ?_
  refine W_ret ?_
  exact ⟨_, rfl, congrArg Value.bool (decide_eq_decide.2 idx_mem), H⟩

theorem cloneI_ret {xs : List Int} {w : World} {l : Value} (hl : RdS w l (xs.map I)) (hb : xs.length ≤ 1000000) :
    Ret Try.prog 35 #[l] w fun v w' => ∃ M, OwnS w.heap.size 3 1 v xs.length (xs.map I) M ∧ Hp w M w' := by
  refine Ret_of_W (args := [_]) Try.func35 rfl Try.ntmps35 Try.results35 (by simp) ?_
  have H := Hp.refl w
  obtain ⟨ao, ca, rfl, hca, hra⟩ := id hl
  simp only [List.length_map] at hl ⊢
  cases ao with
  | none =>
    obtain rfl : xs = [] := by
      rcases hra with h | ⟨_, _, h, _⟩
      · simpa using h
      · cases h
    refine W_seq ?_
    refine W_region_l ?_
    refine WL_stepM rfl (R_as) ?_
    refine WL_nil ?_
    refine W_seq ?_
    refine W_seq ?_
    refine W_region_l ?_
    refine WL_stepM rfl (R_mv) ?_
    refine WL_step rfl (R_eq_nils Try.underlying22 rfl rfl) ?_
    refine WL_nil ?_
    refine W_cond_t rfl ?_
    refine W_seq ?_
    refine W_region_l ?_
    refine WL_stepM rfl (R_as) ?_
    refine WL_nil ?_
    refine W_ret ?_
    exact ⟨_, rfl, [], OwnS.nil _ _ _, H⟩
  | some a =>
    refine W_seq ?_
    refine W_region_l ?_
    refine WL_stepM rfl (R_as) ?_
    refine WL_nil ?_
    refine W_seq ?_
    refine W_seq ?_
    refine W_region_l ?_
    refine WL_stepM rfl (R_mv) ?_
    refine WL_step rfl (R_eq_sl Try.underlying22 rfl rfl) ?_
    refine WL_nil ?_
    refine W_cond_f rfl ?_
    refine W_skip ?_
    refine W_seq ?_
    refine W_region_l ?_
    (refine WL_effn rfl (E_buildSlice (vs := []) H Try.underlying22 Try.sizeOf3 Try.zeroValue3 rfl rfl (by decide) rfl rfl) ?_; clear H; intro b15 w15 hb15 H)
    refine WL_stepM rfl (R_mv) ?_
    (refine WL_effm rfl (E_append H .one (OwnS.new (xs := []) (sp := []) (by assumption) rfl rfl (by omega)) Try.underlying22 Try.typeInfo3 rfl rfl rfl rfl rfl rfl ((hl.monoN H (kCons (by assumption) kNil)).src Try.underlying22 (by simp [Value.oneCell'])) (by simp; omega) (by simp [Try.t3]; omega)) ?_; clear H; intro vN MN w17 hO H; rw [List.length_map, Nat.zero_add, List.nil_append] at hO; rw [List.append_nil] at H)
    refine WL_stepM rfl (R_as) ?_
    refine WL_nil ?_
    refine W_ret ?_
    exact ⟨_, rfl, MN, hO, H⟩
end
end Go.Proofs.Ytaclingiedmpbaa.Sect

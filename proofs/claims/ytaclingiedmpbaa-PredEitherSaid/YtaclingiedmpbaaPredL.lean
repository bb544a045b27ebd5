/-
  Either of two programs; the law PredMakes.
-/
import Derived.Test.YtaclingiedmpbaaPredK
namespace Go.Proofs.Ytaclingiedmpbaa.Pred
open Go Go.Proofs Go.Proofs.Ytaclingiedmpbaa.Fx
set_option maxRecDepth 100000
set_option linter.unusedVariables false
set_option linter.unusedSimpArgs false
set_option maxHeartbeats 1000000

theorem clip_ret {l : List In} {B : Nat} {w : World} {v : Value} {M : List (Nat × Obj)} (hO : OwnS B 44 3 v l.length (rows insC l) M) :
    Ret Try.prog 43 #[v] w fun r w' => (∀ w2, Kp M w2 → RdR insC w2 r l) ∧ Hp w [] w' := by
  refine Ret_of_W (args := [_]) Try.func43 rfl Try.ntmps43 Try.results43 (by simp) ?_
  have H := Hp.refl w
  rcases hO.2 with ⟨rfl, h0, rfl⟩ | ⟨b, cap, sp, rfl, hb, rfl, hs, hc⟩
  · obtain rfl : l = [] := List.length_eq_zero_iff.1 h0
    refine W_seq ?_
    refine W_region_l ?_
    refine WL_stepM rfl (R_as) ?_
    refine WL_nil ?_
    refine W_seq ?_
    refine W_region_l ?_
    refine WL_stepM rfl (R_mv) ?_
    refine WL_stepM rfl (R_mv) ?_
    refine WL_step rfl (R_len_slice Try.underlying45 rfl) ?_
    refine WL_stepM rfl (R_mv) ?_
    refine WL_step rfl (R_len_slice Try.underlying45 rfl) ?_
    refine WL_step rfl (R_slice3n Try.underlying45 Try.sizeOf44 rfl rfl rfl) ?_
    refine WL_stepM rfl (R_as) ?_
    refine WL_nil ?_
    refine W_ret ?_
    exact ⟨_, rfl, fun w2 _ => RdR.nil, H⟩
  · refine W_seq ?_
    refine W_region_l ?_
    refine WL_stepM rfl (R_as) ?_
    refine WL_nil ?_
    refine W_seq ?_
    refine W_region_l ?_
    refine WL_stepM rfl (R_mv) ?_
    refine WL_stepM rfl (R_mv) ?_
    refine WL_step rfl (R_len_slice Try.underlying45 rfl) ?_
    refine WL_stepM rfl (R_mv) ?_
    refine WL_step rfl (R_len_slice Try.underlying45 rfl) ?_
    refine WL_step rfl (R_slice3 Try.underlying45 Try.sizeOf44 rfl rfl rfl (by omega)) ?_
    refine WL_stepM rfl (R_as) ?_
    refine WL_nil ?_
    refine W_ret ?_
    exact ⟨_, rfl, fun w2 hk => RdR.blk (c := rows insC l ++ sp) (off := 0) (hk _ (.head _)) (by simp) (Nat.le_refl _), H⟩

def eitherP (l1 l2 : List In) : Prop := chk l1 = 0 ∧ chk l2 = 0 ∧ chk (l1 ++ l2) = 0
instance (l1 l2 : List In) : Decidable (eitherP l1 l2) := by unfold eitherP; infer_instance

theorem either_ret {l1 l2 : List In} {w : World} {v1 v2 : Value} (h1 : RdR insC w v1 l1) (h2 : RdR insC w v2 l2) (hl1 : l1.length ≤ 400000) (hl2 : l2.length ≤ 400000) :
    Ret Try.prog 28 #[v1, v2] w fun r w' => ∃ rv M, r = .tuple #[rv, .bool (decide (eitherP l1 l2))] ∧ (∀ p ∈ M, w.heap.size ≤ p.1) ∧ Hp w M w' ∧ ∀ w2, Kp M w2 → RdR insC w2 rv (if eitherP l1 l2 then l1 ++ l2 else []) := by
  refine Ret_of_W (args := [_, _]) Try.func28 rfl Try.ntmps28 Try.results28 (by simp) ?_
  obtain ⟨a1, c1, rfl⟩ := h1.form
  obtain ⟨a2, c2, rfl⟩ := h2.form
  have H := Hp.refl w
  refine W_seq ?_
  refine W_region_l ?_
  refine WL_stepM rfl (R_as) ?_
  refine WL_stepM rfl (R_as) ?_
  refine WL_nil ?_
  refine W_seq ?_
  refine W_region_l ?_
  refine WL_stepM rfl (R_mv) ?_
  refine WL_stepM rfl (R_mv) ?_
  (refine WL_effn rfl (E_buildOnes (vs := [(.slice _ _ _), (.slice _ _ _)]) H Try.underlying78 Try.sizeOf45 Try.zeroValue45 rfl rfl (by decide) rfl rfl (by simp [Value.oneCell'])) ?_; clear H; intro b10 w10 hb10 H)
  (refine WL_call rfl (R_call rfl Try.call42 rfl) (concat_ret (H.get .here) (h1.monoN H (by repeat' first | exact kNil | apply kCons | apply kApp | assumption | exact OwnS.keys (by assumption))) (h2.monoN H (by repeat' first | exact kNil | apply kCons | apply kApp | assumption | exact OwnS.keys (by assumption))) hl1 hl2) ?_; rintro v5 w11 ⟨M, hO, H1⟩; obtain ⟨hO, H⟩ := H.seqO hO H1; replace H := H.cut (by repeat' first | exact kNil | apply kCons | apply kApp | assumption | exact OwnS.keys (by assumption)); clear H1; rw [← List.length_append] at hO; obtain ⟨a5, c5, rfl⟩ := hO.form)
  refine WL_stepM rfl (R_as) ?_
  refine WL_nil ?_
  refine W_seq ?_
  refine W_seq ?_
  refine W_region_l ?_
  refine WL_stepM rfl (R_mv) ?_
  (refine WL_call rfl (R_call rfl Try.call24 rfl) (check_ret (h1.monoN H hO.keys) (by omega)) ?_; rintro _ w18 ⟨rfl, H1⟩; replace H := H.seq0 H1; clear H1)
  refine WL_step rfl (R_ne rfl rfl) ?_
  refine WL_stepM rfl (R_mv) ?_
  apply WL_orK 4 14 18 [(15, 18)] H
  case hc => rfl
  case h1 =>
    intro h21
    refine WL_guard_t rfl rfl ?_
    refine WL_stepM rfl (R_mv) ?_
    refine WL_guard_t rfl rfl ?_
    (refine WL_call rfl (R_call rfl Try.call24 rfl) (check_ret (h2.monoN H hO.keys) (by omega)) ?_; rintro _ w25 ⟨rfl, H1⟩; replace H := H.seq0 H1; clear H1)
    refine WL_guard_t rfl rfl ?_
    refine WL_step rfl (R_ne rfl rfl) ?_
    refine WL_stepM rfl (R_pk_f rfl) ?_
    refine WL_nil ?_
    exact ⟨(by repeat' first | refine same_updo rfl ?_ | refine same_mov rfl ?_ | refine same_upd rfl ?_ | refine same_updn ?_ | refine same_know rfl ?_ | exact same_ovr | refine same_in rfl ?_ | exact Same.refl), rfl, H⟩
  case h0 =>
    intro h21
    refine WL_guard_f rfl rfl (by decide) ?_
    refine WL_guard_f rfl rfl (by decide) ?_
    refine WL_guard_f rfl rfl (by decide) ?_
    refine WL_stepM rfl (R_pk_t rfl) ?_
    refine WL_nil ?_
    exact ⟨(by repeat' first | refine same_updo rfl ?_ | refine same_mov rfl ?_ | refine same_upd rfl ?_ | refine same_updn ?_ | refine same_know rfl ?_ | exact same_ovr | refine same_in rfl ?_ | exact Same.refl), rfl, H⟩
  case h2 =>
    (clear H; intro E21 w21 H)
    refine WL_stepM rfl (R_mv) ?_
    apply WL_orK 4 19 23 [(20, 23)] H
    case hc => rfl
    case h1 =>
      intro h38
      refine WL_guard_t rfl rfl ?_
      refine WL_stepM rfl (R_mv) ?_
      refine WL_guard_t rfl rfl ?_
      (refine WL_call rfl (R_call rfl Try.call24 rfl) (check_ret (RdR.own insC_len hO rfl H.held) (by rw [List.length_append]; omega)) ?_; rintro _ w42 ⟨rfl, H1⟩; replace H := H.seq0 H1; clear H1)
      refine WL_guard_t rfl rfl ?_
      refine WL_step rfl (R_ne rfl rfl) ?_
      refine WL_stepM rfl (R_pk_f rfl) ?_
      refine WL_nil ?_
      exact ⟨(by repeat' first | refine same_updo rfl ?_ | refine same_mov rfl ?_ | refine same_upd rfl ?_ | refine same_updn ?_ | refine same_know rfl ?_ | exact same_ovr | refine same_in rfl ?_ | exact Same.refl), rfl, H⟩
    case h0 =>
      intro h38
      refine WL_guard_f rfl rfl (by decide) ?_
      refine WL_guard_f rfl rfl (by decide) ?_
      refine WL_guard_f rfl rfl (by decide) ?_
      refine WL_stepM rfl (R_pk_t rfl) ?_
      refine WL_nil ?_
      exact ⟨(by repeat' first | refine same_updo rfl ?_ | refine same_mov rfl ?_ | refine same_upd rfl ?_ | refine same_updn ?_ | refine same_know rfl ?_ | exact same_ovr | refine same_in rfl ?_ | exact Same.refl), rfl, H⟩
    case h2 =>
      (clear H; intro E38 w38 H)
      refine WL_nil ?_
      refine W_if rfl (fun h55 => ?_) (fun h55 => ?_)
      · refine W_seq ?_
        refine W_region_l ?_
        refine WL_stepM rfl (R_as) ?_
        refine WL_stepM rfl (R_as) ?_
        refine WL_nil ?_
        refine W_ret ?_
        (have hE : ¬ eitherP l1 l2 := (by unfold eitherP; omega); exact ⟨_, rfl, nilS, [], (by rw [decide_eq_false hE]; rfl), kNil, H.none hO.keys, fun w2 _ => (by rw [if_neg hE]; exact RdR.nil)⟩)
      · refine W_skip ?_
        refine W_seq ?_
        refine W_region_l ?_
        refine WL_stepM rfl (R_mv) ?_
        (refine WL_call rfl (R_call rfl Try.call43 rfl) (clip_ret hO) ?_; rintro v6 w67 ⟨hR, H1⟩; replace H := H.seq0 H1; clear H1)
        refine WL_stepM rfl (R_as) ?_
        refine WL_stepM rfl (R_as) ?_
        refine WL_nil ?_
        refine W_ret ?_
        (have hE : eitherP l1 l2 := (by unfold eitherP; omega); exact ⟨_, rfl, v6, M, (by rw [decide_eq_true hE]; rfl), hO.keys, H, fun w2 hk => (by rw [if_pos hE]; exact hR w2 hk)⟩)

theorem okQ {op a b bh : Int} (h1 : 1 ≤ op) (h2 : op ≤ 7) (h3 : 0 ≤ a) (h4 : a ≤ 65535) (h5 : op = 1 ∨ op = 3 ∨ op = 4 ∨ op = 5 ∨ a = 0) (h6 : b = 0) (h7 : op ≠ 5 ∨ a ≤ bh) : decide (okP ⟨op, a, b⟩ bh) = true := decide_eq_true ⟨⟨h1, h2, h3, h4, h5, h6⟩, h7⟩

theorem anyL_ok {a m : Int} {R : List In} (ha : 0 ≤ a ∧ a ≤ 65535) (hm : 0 ≤ m ∧ m ≤ 65535) : allOk (anyL a m ++ R) = allOk R := by
  unfold anyL
  simp only [List.cons_append, List.nil_append, allOk]
  rw [okQ (by omega) (by omega) (by omega) (by omega) (by omega) rfl (by omega), okQ (by omega) (by omega) (by omega) (by omega) (by omega) rfl (by omega), okQ (by omega) (by omega) (by omega) (by omega) (by omega) rfl (by omega),
    okQ (by omega) (by omega) (by omega) (by omega) (by omega) rfl (by simp only [List.length_cons]; omega), okQ (by omega) (by omega) (by omega) (by omega) (by omega) rfl (by omega)]
  rfl
theorem afterL_ok {t : Int} {R : List In} (ht : 0 ≤ t ∧ t ≤ 65535) : allOk (afterL t ++ R) = allOk R := by
  unfold afterL
  simp only [List.cons_append, List.nil_append, allOk]
  rw [okQ (by omega) (by omega) (by omega) (by omega) (by omega) rfl (by omega), okQ (by omega) (by omega) (by omega) (by omega) (by omega) rfl (by omega),
    okQ (by omega) (by omega) (by omega) (by omega) (by omega) rfl (by simp only [List.length_cons]; omega), okQ (by omega) (by omega) (by omega) (by omega) (by omega) rfl (by omega)]
  rfl
theorem anyP_ok {a m : Int} {R : List In} : allOk (anyP a m ++ R) = allOk R := by
  unfold anyP; split
  · rename_i h; exact anyL_ok h.1 h.2
  · rfl
theorem afterP_ok {t : Int} {R : List In} : allOk (afterP t ++ R) = allOk R := by
  unfold afterP; split
  · rename_i h; exact afterL_ok h
  · rfl
theorem anyP_len {a m : Int} : (anyP a m).length ≤ 5 := by unfold anyP; split <;> simp [anyL]
theorem afterP_len {t : Int} : (afterP t).length ≤ 4 := by unfold afterP; split <;> simp [afterL]
theorem chk_of {l : List In} (h : l.length ≤ 32) (h2 : allOk l = true) : chk l = 0 := by unfold chk; rw [if_neg (by omega), if_pos h2]

/-- some of the bits -/
def someP (view : List UInt8) (a m : Int) : Prop := (0 ≤ a ∧ a < view.length ∧ a ≤ 65535 ∧ 0 ≤ m ∧ m ≤ 65535) ∧ bitsOf .and .i64 ((view.getD a.toNat 0).toNat : Int) m ≠ 0
instance (view : List UInt8) (a m : Int) : Decidable (someP view a m) := by unfold someP; infer_instance
def lateP (now t : Int) : Prop := (0 ≤ t ∧ t ≤ 65535) ∧ t ≤ now
instance (now t : Int) : Decidable (lateP now t) := by unfold lateP; infer_instance

theorem bits_zero {m : Int} : bitsOf .and .i64 0 m = 0 := by
  unfold bitsOf
  simp
  rfl

theorem anyL_ev {view : List UInt8} {now a m n : Int} {R : List In} {f : Nat} (ha : 0 ≤ a ∧ a ≤ 65535) (hm : 0 ≤ m ∧ m ≤ 65535) :
    (evS view now (f + 5) (anyL a m ++ R) n).1 = if someP view a m then true else (evS view now (f + 1) R 1).1 := by
  obtain ⟨x0, hx0⟩ : ∃ x, doN view now n ⟨1, a, 0⟩ = x := ⟨_, rfl⟩
  have e0 : x0 = if a < view.length then ((view.getD a.toNat 0).toNat : Int) else 0 := by
    rw [← hx0]
    unfold doN
    simp only [if_true]
    by_cases h : a < view.length
    · rw [if_pos h, List.getD_eq_getElem?_getD, List.getElem?_eq_getElem (by omega)]; rfl
    · rw [if_neg h, List.getElem?_eq_none (by omega)]; rfl
  have hs : someP view a m ↔ bitsOf .and .i64 x0 m ≠ 0 := by
    unfold someP
    rw [e0]
    by_cases h : a < view.length
    · rw [if_pos h]; constructor
      · exact fun h => h.2
      · exact fun h2 => ⟨⟨ha.1, h, ha.2, hm.1, hm.2⟩, h2⟩
    · rw [if_neg h, bits_zero]; constructor
      · exact fun h2 => absurd h2.1.2.1 h
      · exact fun h2 => absurd rfl h2
  unfold anyL
  simp only [List.cons_append, List.nil_append]
  show (evS view now (f + 4 + 1) _ n).1 = _
  rw [evS, if_neg (by show ¬ ((1 : Int) = 6); decide), hx0]
  simp only [show doS n ⟨1, a, 0⟩ = 0 from rfl, Int.toNat_zero, List.drop_zero]
  rw [evS, if_neg (by show ¬ ((3 : Int) = 6); decide)]
  simp only [show doS x0 ⟨3, m, 0⟩ = 0 from rfl, show doN view now x0 ⟨3, m, 0⟩ = bitsOf .and .i64 x0 m from rfl, Int.toNat_zero, List.drop_zero]
  rw [evS, if_neg (by show ¬ ((7 : Int) = 6); decide)]
  simp only [show ∀ y, doS y ⟨7, 0, 0⟩ = 0 from fun _ => rfl, show ∀ y, doN view now y ⟨7, 0, 0⟩ = if y = 0 then 1 else 0 from fun _ => rfl, Int.toNat_zero, List.drop_zero]
  rw [evS, if_neg (by show ¬ ((5 : Int) = 6); decide)]
  simp only [show ∀ y, doN view now y ⟨5, 1, 0⟩ = y from fun _ => rfl]
  by_cases hb : bitsOf .and .i64 x0 m = 0
  · rw [if_pos hb, if_neg (fun h => hs.1 h hb)]
    rfl
  · rw [if_neg hb, if_pos (hs.2 hb)]
    rfl

theorem afterL_ev {view : List UInt8} {now t n : Int} {R : List In} {f : Nat} :
    (evS view now (f + 4) (afterL t ++ R) n).1 = if t ≤ now then true else (evS view now (f + 1) R 1).1 := by
  unfold afterL
  simp only [List.cons_append, List.nil_append]
  show (evS view now (f + 3 + 1) _ n).1 = _
  rw [evS, if_neg (by show ¬ ((2 : Int) = 6); decide)]
  simp only [show doS n ⟨2, 0, 0⟩ = 0 from rfl, show doN view now n ⟨2, 0, 0⟩ = now from rfl, Int.toNat_zero, List.drop_zero]
  rw [evS, if_neg (by show ¬ ((4 : Int) = 6); decide)]
  simp only [show doS now ⟨4, t, 0⟩ = 0 from rfl, show doN view now now ⟨4, t, 0⟩ = (if now < t then 1 else 0) from rfl, Int.toNat_zero, List.drop_zero]
  rw [evS, if_neg (by show ¬ ((5 : Int) = 6); decide)]
  simp only [show ∀ y, doN view now y ⟨5, 1, 0⟩ = y from fun _ => rfl]
  by_cases hb : now < t
  · rw [if_pos hb, if_neg (by omega)]
    rfl
  · rw [if_neg hb, if_pos (by omega)]
    rfl

theorem any_ev {view : List UInt8} {now a m : Int} : (evP view now (anyP a m)).1 = decide (someP view a m) := by
  have hc : chk (anyP a m) = 0 := chk_of (by have := anyP_len (a := a) (m := m); omega) (by have := anyP_ok (a := a) (m := m) (R := []); rw [List.append_nil] at this; rw [this]; rfl)
  unfold evP
  rw [if_pos hc]
  by_cases h : (0 ≤ a ∧ a ≤ 65535) ∧ 0 ≤ m ∧ m ≤ 65535
  · have e : anyP a m = anyL a m := by unfold anyP; rw [if_pos h]
    rw [e]
    have := anyL_ev (view := view) (now := now) (n := 0) (R := []) (f := 0) h.1 h.2
    rw [List.append_nil] at this
    show (evS view now (0 + 5) (anyL a m) 0).1 = _
    rw [this]
    split
    · rename_i hs; rw [decide_eq_true hs]
    · rename_i hs; rw [decide_eq_false hs, evS_nil]
  · have e : anyP a m = [] := by unfold anyP; rw [if_neg h]
    rw [e]
    exact (decide_eq_false (fun hs => h ⟨⟨hs.1.1, hs.1.2.2.1⟩, hs.1.2.2.2⟩)).symm
theorem after_ev {view : List UInt8} {now t : Int} : (evP view now (afterP t)).1 = decide (lateP now t) := by
  have hc : chk (afterP t) = 0 := chk_of (by have := afterP_len (t := t); omega) (by have := afterP_ok (t := t) (R := []); rw [List.append_nil] at this; rw [this]; rfl)
  unfold evP
  rw [if_pos hc]
  by_cases h : 0 ≤ t ∧ t ≤ 65535
  · have e : afterP t = afterL t := by unfold afterP; rw [if_pos h]
    rw [e]
    have := afterL_ev (view := view) (now := now) (t := t) (n := 0) (R := []) (f := 0)
    rw [List.append_nil] at this
    show (evS view now (0 + 4) (afterL t) 0).1 = _
    rw [this]
    split
    · rename_i hs; exact (decide_eq_true ⟨h, hs⟩).symm
    · rename_i hs; rw [evS_nil]; exact (decide_eq_false (fun h => hs h.2)).symm
  · have e : afterP t = [] := by unfold afterP; rw [if_neg h]
    rw [e]
    exact (decide_eq_false (fun hs => h hs.1)).symm
theorem both_chk {a m t : Int} : chk (anyP a m ++ afterP t) = 0 := by
  refine chk_of (by have := anyP_len (a := a) (m := m); have := afterP_len (t := t); rw [List.length_append]; omega) ?_
  rw [anyP_ok]
  have := afterP_ok (t := t) (R := [])
  rw [List.append_nil] at this; rw [this]; rfl
theorem both_either {a m t : Int} : eitherP (anyP a m) (afterP t) := by
  have h1 : chk (anyP a m) = 0 := chk_of (by have := anyP_len (a := a) (m := m); omega) (by have := anyP_ok (a := a) (m := m) (R := []); rw [List.append_nil] at this; rw [this]; rfl)
  have h2 : chk (afterP t) = 0 := chk_of (by have := afterP_len (t := t); omega) (by have := afterP_ok (t := t) (R := []); rw [List.append_nil] at this; rw [this]; rfl)
  exact ⟨h1, h2, both_chk⟩
theorem both_ev {view : List UInt8} {now a m t : Int} : (evP view now (anyP a m ++ afterP t)).1 = decide (someP view a m ∨ lateP now t) := by
  by_cases h : (0 ≤ a ∧ a ≤ 65535) ∧ 0 ≤ m ∧ m ≤ 65535
  · have hc := both_chk (a := a) (m := m) (t := t)
    have e : anyP a m = anyL a m := by unfold anyP; rw [if_pos h]
    rw [e] at hc ⊢
    unfold evP
    rw [if_pos hc]
    have hl : (anyL a m ++ afterP t).length = (afterP t).length + 5 := by rw [List.length_append, Nat.add_comm]; rfl
    rw [hl, anyL_ev h.1 h.2]
    by_cases hs : someP view a m
    · rw [if_pos hs]; exact (decide_eq_true (.inl hs)).symm
    · rw [if_neg hs]
      by_cases ht : 0 ≤ t ∧ t ≤ 65535
      · have e2 : afterP t = afterL t := by unfold afterP; rw [if_pos ht]
        rw [e2]
        have h4 := afterL_ev (view := view) (now := now) (t := t) (n := 1) (R := []) (f := 1)
        rw [List.append_nil] at h4
        show (evS view now (1 + 4) (afterL t) 1).1 = _
        rw [h4]
        split
        · rename_i hl; exact (decide_eq_true (.inr ⟨ht, hl⟩)).symm
        · rename_i hl; rw [evS_nil]; exact (decide_eq_false (fun h => h.elim hs (fun h => hl h.2))).symm
      · have e2 : afterP t = [] := by unfold afterP; rw [if_neg ht]
        rw [e2, evS_nil]
        exact (decide_eq_false (fun h => h.elim hs (fun h => ht h.1))).symm
  · have e : anyP a m = [] := by unfold anyP; rw [if_neg h]
    rw [e, List.nil_append, after_ev]
    refine decide_eq_decide.2 ⟨.inr, fun h2 => h2.elim (fun hs => absurd ⟨⟨hs.1.1, hs.1.2.2.1⟩, hs.1.2.2.2⟩ h) id⟩
end Go.Proofs.Ytaclingiedmpbaa.Pred

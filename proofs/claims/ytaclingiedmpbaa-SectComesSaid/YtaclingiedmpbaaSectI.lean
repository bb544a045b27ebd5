/-
  Who quits; the law SectQuits.
-/
import Derived.Test.YtaclingiedmpbaaSectH
namespace Go.Proofs.Ytaclingiedmpbaa.Sect
open Go Go.Proofs Go.Proofs.Ytaclingiedmpbaa.Fx
set_option maxRecDepth 100000
set_option linter.unusedVariables false
set_option linter.unusedSimpArgs false
set_option maxHeartbeats 1000000

/-- a row without the first one that is so -/
def rm (xs : List Int) (x : Int) : List Int := match xs with
  | [] => []
  | y :: ys => if x = y then ys else y :: rm ys x
theorem rm_cases (xs : List Int) (x : Int) : (¬ x ∈ xs ∧ idx xs x = -1 ∧ rm xs x = xs) ∨ (∃ A B, xs = A ++ x :: B ∧ idx xs x = (A.length : Int) ∧ rm xs x = A ++ B ∧ (A = [] ↔ xs.head? = some x)) := by
  induction xs with
  | nil => exact .inl ⟨by simp, rfl, rfl⟩
  | cons y ys ih =>
    unfold idx rm
    by_cases h : x = y
    · subst h
      exact .inr ⟨[], ys, rfl, by simp, by simp, by simp⟩
    · rw [if_neg h, if_neg h]
      rcases ih with ⟨h1, h2, h3⟩ | ⟨A, B, h1, h2, h3, h4⟩
      · exact .inl ⟨by simp [h, h1], by rw [h2]; rfl, by rw [h3]⟩
      · refine .inr ⟨y :: A, B, by rw [h1]; rfl, ?_, by rw [h3]; rfl, by simp; exact fun e => h e.symm⟩
        rw [h2, if_neg (by omega)]; simp

def quitA (s : Sx) (who : Int) : Sx := if s.held = true ∧ s.who = who then { s with held := false, first := s.last } else s
def quitB (s : Sx) (who : Int) : Sx := if s.q.head? = some who then { s with q := rm s.q who, first := s.last } else { s with q := rm s.q who }
def quitSx (s : Sx) (who : Int) : Sx := quitB (quitA s who) who
theorem mem_head {xs : List Int} {x : Int} (h : xs.head? = some x) : x ∈ xs := by
  cases xs with
  | nil => cases h
  | cons a t => cases h; simp
theorem quitA_q (s : Sx) (who : Int) : (quitA s who).q = s.q := by unfold quitA; split <;> rfl
theorem quitB_q (s : Sx) (who : Int) : (quitB s who).q = rm s.q who := by unfold quitB; split <;> rfl

section
variable {w0 w : World} {p : Nat} {s : Sx} {qv : Value} {Mq R : List (Nat × Obj)}

theorem drop_mid {A M B : List (Nat × Obj)} (H : Hp w0 (A ++ (M ++ B)) w) (hM : ∀ p ∈ M, w0.heap.size ≤ p.1) : Hp w0 (A ++ B) w :=
  Hp.dropN (M := M) (H.perm (List.perm_append_comm_assoc A M B)) hM

theorem quit_ret (who : Int) (hQ : OwnQ w0.heap.size 3 qv (s.q.map I) Mq) (H : Hp w0 (Mq ++ ((p, blk (sxC s qv) 64) :: R)) w) (hb : s.q.length ≤ 1000000) :
    Ret Try.prog 20 #[ptr p 0, I who] w fun v w' => ∃ qv' Mq', OwnQ w0.heap.size 3 qv' ((quitSx s who).q.map I) Mq' ∧ Hp w0 (Mq' ++ ((p, blk (sxC (quitSx s who) qv') 64) :: R)) w' := by
  refine Ret_of_W (args := [_, _]) Try.func20 rfl Try.ntmps20 Try.results20 (by simp) ?_
  obtain ⟨qa, qc, rfl⟩ := hQ.form
  have hr := get_q hQ H
  unfold sxC at H
  have hB : (quitA s who).q.length ≤ 1000000 := by rw [quitA_q]; exact hb
  rcases rm_cases s.q who with ⟨hm, hi, hrm⟩ | ⟨A, B, hq, hi, hrm, hh⟩
  · refine W_seqS [(5, 26)] (fun E w' => Hp w0 (Mq ++ ((p, blk (sxC (quitA s who) (.slice qa (s.q.map I).length qc)) 64) :: R)) w') ?c0 ?k0
    · refine W_seq ?_
      refine W_region_l ?_
      refine WL_stepM rfl (R_mv) ?_
      refine WL_step rfl (R_nilCheck rfl) ?_
      refine WL_step rfl (R_fieldAddr (off' := 1) Try.underlying64 rfl Try.sizeOf4 (by decide) rfl rfl) ?_
      refine WL_step rfl (R_load Try.isAgg4 rfl (H.get (.app _ .here)) rfl) ?_
      refine WL_stepM rfl (R_mv) ?_
      apply WL_andK 7 9 16 [(10, 16)] H
      case hc => exact decV rfl
      case h1 =>
        intro h9
        refine WL_guard_t rfl rfl ?_
        refine WL_stepM rfl (R_mv) ?_
        refine WL_guard_t rfl rfl ?_
        refine WL_step rfl (R_nilCheck rfl) ?_
        refine WL_guard_t rfl rfl ?_
        refine WL_step rfl (R_fieldAddr (off' := 2) Try.underlying64 rfl Try.sizeOf3 (by decide) rfl rfl) ?_
        refine WL_guard_t rfl rfl ?_
        refine WL_step rfl (R_load Try.isAgg3 rfl (H.get (.app _ .here)) rfl) ?_
        refine WL_guard_t rfl rfl ?_
        refine WL_stepM rfl (R_mv) ?_
        refine WL_guard_t rfl rfl ?_
        refine WL_step rfl (R_eq rfl rfl) ?_
        refine WL_stepM rfl (R_pk_t rfl) ?_
        refine WL_nil ?_
        exact ⟨(by repeat' first | with_reducible exact Same.refl | refine same_updo rfl ?_ | refine same_mov rfl ?_ | refine same_upd rfl ?_ | refine same_updn ?_ | refine same_know rfl ?_ | exact same_ovr | refine same_in rfl ?_ | exact Same.refl), rfl, H⟩
      case h0 =>
        intro h9
        refine WL_guard_f rfl rfl (by decide) ?_
        refine WL_guard_f rfl rfl (by decide) ?_
        refine WL_guard_f rfl rfl (by decide) ?_
        refine WL_guard_f rfl rfl (by decide) ?_
        refine WL_guard_f rfl rfl (by decide) ?_
        refine WL_guard_f rfl rfl (by decide) ?_
        refine WL_stepM rfl (R_pk_f rfl) ?_
        refine WL_nil ?_
        exact ⟨(by repeat' first | with_reducible exact Same.refl | refine same_updo rfl ?_ | refine same_mov rfl ?_ | refine same_upd rfl ?_ | refine same_updn ?_ | refine same_know rfl ?_ | exact same_ovr | refine same_in rfl ?_ | exact Same.refl), rfl, H⟩
      case h2 =>
        (clear H; intro E9 w9 H)
        refine WL_nil ?_
        refine W_if rfl (fun h35 => ?_) (fun h35 => ?_)
        · refine W_seq ?_
          refine W_region_l ?_
          refine WL_stepM rfl (R_mv) ?_
          refine WL_step rfl (R_nilCheck rfl) ?_
          refine WL_step rfl (R_fieldAddr (off' := 1) Try.underlying64 rfl Try.sizeOf4 (by decide) rfl rfl) ?_
          (refine WL_effu rfl (E_store (v := (.bool _)) H Try.sizeOf4 rfl rfl rfl (.app _ .here) (by simp)) ?_; clear H; intro w41 H)
          refine WL_nil ?_
          refine W_region_l ?_
          refine WL_stepM rfl (R_mv) ?_
          refine WL_stepM rfl (R_mv) ?_
          refine WL_step rfl (R_nilCheck rfl) ?_
          refine WL_step rfl (R_fieldAddr (off' := 7) Try.underlying64 rfl Try.sizeOf3 (by decide) rfl rfl) ?_
          refine WL_step rfl (R_load Try.isAgg3 rfl (H.get (.app _ .here)) rfl) ?_
          refine WL_step rfl (R_nilCheck rfl) ?_
          refine WL_step rfl (R_fieldAddr (off' := 6) Try.underlying64 rfl Try.sizeOf3 (by decide) rfl rfl) ?_
          (refine WL_effu rfl (E_store (v := (.int _ _)) H Try.sizeOf3 rfl rfl rfl (.app _ .here) (by simp)) ?_; clear H; intro w51 H)
          refine WL_nil ?_
          exact ⟨(by repeat' first | with_reducible exact Same.refl | refine same_updo rfl ?_ | refine same_mov rfl ?_ | refine same_upd rfl ?_ | refine same_updn ?_ | refine same_know rfl ?_ | exact same_ovr | refine same_in rfl ?_ | exact Same.refl), by unfold quitA; rw [if_pos (by assumption)]; exact H⟩
        · refine W_skip ?_
          exact ⟨(by repeat' first | with_reducible exact Same.refl | refine same_updo rfl ?_ | refine same_mov rfl ?_ | refine same_upd rfl ?_ | refine same_updn ?_ | refine same_know rfl ?_ | exact same_ovr | refine same_in rfl ?_ | exact Same.refl), by unfold quitA; rw [if_neg (by assumption)]; exact H⟩
    · (clear H; intro E w1 H; have hr2 := get_q hQ H; unfold sxC at H)
      refine W_seq ?_
      refine W_region_l ?_
      refine WL_stepM rfl (R_mv) ?_
      refine WL_step rfl (R_nilCheck rfl) ?_
      refine WL_step rfl (R_fieldAddr (off' := 5) Try.underlying64 rfl Try.sizeOf22 (by decide) rfl rfl) ?_
      refine WL_step rfl (R_load Try.isAgg22 rfl (H.get (.app _ .here)) rfl) ?_
      refine WL_stepM rfl (R_mv) ?_
      (refine WL_call rfl (R_call rfl Try.call36 rfl) (index_ret who hr2 (by omega)) ?_; rintro _ w64 ⟨rfl, H1⟩; rw [hi]; replace H := H.seq0 H1; clear H1)
      refine WL_stepM rfl (R_as) ?_
      refine WL_nil ?_
      refine W_seq ?_
      refine W_seq ?_
      refine W_region_l ?_
      refine WL_stepM rfl (R_mv) ?_
      refine WL_step rfl (R_lt_t rfl rfl (by omega)) ?_
      refine WL_nil ?_
      refine W_cond_t rfl ?_
      refine W_ret ?_
      (have hs : quitSx s who = quitA s who := (by unfold quitSx quitB; rw [quitA_q, hrm, if_neg (fun e => hm (mem_head e))]; rw [← quitA_q s who]); exact ⟨_, rfl, _, _, by rw [hs, quitA_q]; exact hQ, by rw [hs]; exact H⟩)
  · have hl : s.q.length = A.length + 1 + B.length := by rw [hq]; simp; omega
    refine W_seqS [(5, 26)] (fun E w' => Hp w0 (Mq ++ ((p, blk (sxC (quitA s who) (.slice qa (s.q.map I).length qc)) 64) :: R)) w') ?c1 ?k1
    · refine W_seq ?_
      refine W_region_l ?_
      refine WL_stepM rfl (R_mv) ?_
      refine WL_step rfl (R_nilCheck rfl) ?_
      refine WL_step rfl (R_fieldAddr (off' := 1) Try.underlying64 rfl Try.sizeOf4 (by decide) rfl rfl) ?_
      refine WL_step rfl (R_load Try.isAgg4 rfl (H.get (.app _ .here)) rfl) ?_
      refine WL_stepM rfl (R_mv) ?_
      apply WL_andK 7 9 16 [(10, 16)] H
      case hc => exact decV rfl
      case h1 =>
        intro h9
        refine WL_guard_t rfl rfl ?_
        refine WL_stepM rfl (R_mv) ?_
        refine WL_guard_t rfl rfl ?_
        refine WL_step rfl (R_nilCheck rfl) ?_
        refine WL_guard_t rfl rfl ?_
        refine WL_step rfl (R_fieldAddr (off' := 2) Try.underlying64 rfl Try.sizeOf3 (by decide) rfl rfl) ?_
        refine WL_guard_t rfl rfl ?_
        refine WL_step rfl (R_load Try.isAgg3 rfl (H.get (.app _ .here)) rfl) ?_
        refine WL_guard_t rfl rfl ?_
        refine WL_stepM rfl (R_mv) ?_
        refine WL_guard_t rfl rfl ?_
        refine WL_step rfl (R_eq rfl rfl) ?_
        refine WL_stepM rfl (R_pk_t rfl) ?_
        refine WL_nil ?_
        exact ⟨(by repeat' first | with_reducible exact Same.refl | refine same_updo rfl ?_ | refine same_mov rfl ?_ | refine same_upd rfl ?_ | refine same_updn ?_ | refine same_know rfl ?_ | exact same_ovr | refine same_in rfl ?_ | exact Same.refl), rfl, H⟩
      case h0 =>
        intro h9
        refine WL_guard_f rfl rfl (by decide) ?_
        refine WL_guard_f rfl rfl (by decide) ?_
        refine WL_guard_f rfl rfl (by decide) ?_
        refine WL_guard_f rfl rfl (by decide) ?_
        refine WL_guard_f rfl rfl (by decide) ?_
        refine WL_guard_f rfl rfl (by decide) ?_
        refine WL_stepM rfl (R_pk_f rfl) ?_
        refine WL_nil ?_
        exact ⟨(by repeat' first | with_reducible exact Same.refl | refine same_updo rfl ?_ | refine same_mov rfl ?_ | refine same_upd rfl ?_ | refine same_updn ?_ | refine same_know rfl ?_ | exact same_ovr | refine same_in rfl ?_ | exact Same.refl), rfl, H⟩
      case h2 =>
        (clear H; intro E9 w9 H)
        refine WL_nil ?_
        refine W_if rfl (fun h35 => ?_) (fun h35 => ?_)
        · refine W_seq ?_
          refine W_region_l ?_
          refine WL_stepM rfl (R_mv) ?_
          refine WL_step rfl (R_nilCheck rfl) ?_
          refine WL_step rfl (R_fieldAddr (off' := 1) Try.underlying64 rfl Try.sizeOf4 (by decide) rfl rfl) ?_
          (refine WL_effu rfl (E_store (v := (.bool _)) H Try.sizeOf4 rfl rfl rfl (.app _ .here) (by simp)) ?_; clear H; intro w41 H)
          refine WL_nil ?_
          refine W_region_l ?_
          refine WL_stepM rfl (R_mv) ?_
          refine WL_stepM rfl (R_mv) ?_
          refine WL_step rfl (R_nilCheck rfl) ?_
          refine WL_step rfl (R_fieldAddr (off' := 7) Try.underlying64 rfl Try.sizeOf3 (by decide) rfl rfl) ?_
          refine WL_step rfl (R_load Try.isAgg3 rfl (H.get (.app _ .here)) rfl) ?_
          refine WL_step rfl (R_nilCheck rfl) ?_
          refine WL_step rfl (R_fieldAddr (off' := 6) Try.underlying64 rfl Try.sizeOf3 (by decide) rfl rfl) ?_
          (refine WL_effu rfl (E_store (v := (.int _ _)) H Try.sizeOf3 rfl rfl rfl (.app _ .here) (by simp)) ?_; clear H; intro w51 H)
          refine WL_nil ?_
          exact ⟨(by repeat' first | with_reducible exact Same.refl | refine same_updo rfl ?_ | refine same_mov rfl ?_ | refine same_upd rfl ?_ | refine same_updn ?_ | refine same_know rfl ?_ | exact same_ovr | refine same_in rfl ?_ | exact Same.refl), by unfold quitA; rw [if_pos (by assumption)]; exact H⟩
        · refine W_skip ?_
          exact ⟨(by repeat' first | with_reducible exact Same.refl | refine same_updo rfl ?_ | refine same_mov rfl ?_ | refine same_upd rfl ?_ | refine same_updn ?_ | refine same_know rfl ?_ | exact same_ovr | refine same_in rfl ?_ | exact Same.refl), by unfold quitA; rw [if_neg (by assumption)]; exact H⟩
    · (clear H; intro E w1 H; have hr2 := get_q hQ H; unfold sxC at H)
      refine W_seq ?_
      refine W_region_l ?_
      refine WL_stepM rfl (R_mv) ?_
      refine WL_step rfl (R_nilCheck rfl) ?_
      refine WL_step rfl (R_fieldAddr (off' := 5) Try.underlying64 rfl Try.sizeOf22 (by decide) rfl rfl) ?_
      refine WL_step rfl (R_load Try.isAgg22 rfl (H.get (.app _ .here)) rfl) ?_
      refine WL_stepM rfl (R_mv) ?_
      (refine WL_call rfl (R_call rfl Try.call36 rfl) (index_ret who hr2 (by omega)) ?_; rintro _ w64 ⟨rfl, H1⟩; rw [hi]; replace H := H.seq0 H1; clear H1)
      refine WL_stepM rfl (R_as) ?_
      refine WL_nil ?_
      refine W_seq ?_
      refine W_seq ?_
      refine W_region_l ?_
      refine WL_stepM rfl (R_mv) ?_
      refine WL_step rfl (R_lt_f rfl rfl (by omega)) ?_
      refine WL_nil ?_
      refine W_cond_f rfl ?_
      refine W_skip ?_
      refine W_seq ?_
      refine W_region_l ?_
      refine WL_stepM rfl (R_mv) ?_
      refine WL_stepM rfl (R_mv) ?_
      refine WL_step rfl (R_nilCheck rfl) ?_
      refine WL_step rfl (R_fieldAddr (off' := 5) Try.underlying64 rfl Try.sizeOf22 (by decide) rfl rfl) ?_
      refine WL_step rfl (R_load Try.isAgg22 rfl (H.get (.app _ .here)) rfl) ?_
      (refine WL_call rfl (R_call rfl Try.call35 rfl) (cloneI_ret (get_q hQ H) (by omega)) ?_; rintro v5 w82 ⟨M5, hO, H1⟩; obtain ⟨hO, H⟩ := H.seqO hO H1; clear H1; have hQ5 := OwnQ.ofS hO; rw [hq] at hQ5)
      refine WL_stepM rfl (R_mv) ?_
      refine WL_stepM rfl (R_mv) ?_
      refine WL_step rfl (R_add rfl rfl (w_i64 (by omega))) ?_
      (refine WL_call rfl (R_call rfl Try.call37 rfl) (delete_ret hQ5 H (by rw [← hq]; exact hb)) ?_; clear H hQ5; rintro v6 w86 ⟨M6, hQ6, H⟩; replace H := drop_mid H hQ.keys; rw [← hrm] at hQ6; obtain ⟨a6, c6, rfl⟩ := hQ6.form)
      refine WL_step rfl (R_nilCheck rfl) ?_
      refine WL_step rfl (R_fieldAddr (off' := 5) Try.underlying64 rfl Try.sizeOf22 (by decide) rfl rfl) ?_
      (refine WL_effu rfl (E_store (v := (.slice _ _ _)) H Try.sizeOf22 rfl rfl rfl (.app _ .here) (by simp)) ?_; clear H; intro w89 H)
      refine WL_nil ?_
      refine W_seq ?_
      refine W_region_l ?_
      refine WL_stepM rfl (R_mv) ?_
      refine WL_step rfl (R_eq rfl rfl) ?_
      refine WL_nil ?_
      refine W_if rfl (fun h96 => ?_) (fun h96 => ?_)
      · refine W_region_l ?_
        refine WL_stepM rfl (R_mv) ?_
        refine WL_stepM rfl (R_mv) ?_
        refine WL_step rfl (R_nilCheck rfl) ?_
        refine WL_step rfl (R_fieldAddr (off' := 7) Try.underlying64 rfl Try.sizeOf3 (by decide) rfl rfl) ?_
        refine WL_step rfl (R_load Try.isAgg3 rfl (H.get (.app _ .here)) rfl) ?_
        refine WL_step rfl (R_nilCheck rfl) ?_
        refine WL_step rfl (R_fieldAddr (off' := 6) Try.underlying64 rfl Try.sizeOf3 (by decide) rfl rfl) ?_
        (refine WL_effu rfl (E_store (v := (.int _ _)) H Try.sizeOf3 rfl rfl rfl (.app _ .here) (by simp)) ?_; clear H; intro w105 H)
        refine WL_nil ?_
        (have hA : A = [] := (by apply List.length_eq_zero_iff.1; omega); have hs : quitSx s who = { quitA s who with q := rm s.q who, first := (quitA s who).last } := (by unfold quitSx quitB; rw [quitA_q, if_pos (hh.1 hA)]); exact ⟨_, rfl, _, _, by rw [hs]; exact hQ6, by rw [hs]; exact H⟩)
      · refine W_skip ?_
        (have hA : ¬ A = [] := (by intro e; subst e; simp at *); have hs : quitSx s who = { quitA s who with q := rm s.q who } := (by unfold quitSx quitB; rw [quitA_q, if_neg (fun e => hA (hh.2 e))]); exact ⟨_, rfl, _, _, by rw [hs]; exact hQ6, by rw [hs]; exact H⟩)
end
end Go.Proofs.Ytaclingiedmpbaa.Sect

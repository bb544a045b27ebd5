/-
  What a program answers, and behind how many steps.
-/
import Derived.Test.YtaclingiedmpbaaPredB
namespace Go.Proofs.Ytaclingiedmpbaa.Pred
open Go Go.Proofs Go.Proofs.Ytaclingiedmpbaa.Fx
set_option maxRecDepth 100000
set_option linter.unusedVariables false
set_option linter.unusedSimpArgs false
set_option maxHeartbeats 1000000

/-- the answer and the steps, from some instructions on, with a number -/
def evS (view : List UInt8) (now : Int) : Nat → List In → Int → Bool × Nat
  | 0, _, _ => (false, 0)
  | _ + 1, [], _ => (false, 0)
  | f + 1, i :: l, n =>
    if i.op = 6 then (true, 1)
    else ((evS view now f (l.drop (doS n i).toNat) (doN view now n i)).1, (evS view now f (l.drop (doS n i).toNat) (doN view now n i)).2 + 1)
def evP (view : List UInt8) (now : Int) (l : List In) : Bool × Nat := if chk l = 0 then evS view now l.length l 0 else (false, 0)

theorem allOk_get : ∀ {l : List In} {k : Nat} {i : In}, allOk l = true → l[k]? = some i → okP i ((l.length : Int) - 1 - k)
  | [], _, _, _, h => by simp at h
  | a :: l, 0, i, h, hi => by
    simp only [List.getElem?_cons_zero, Option.some.injEq] at hi
    subst hi
    simp only [allOk, Bool.and_eq_true, decide_eq_true_eq] at h
    have h1 := h.1
    rw [List.length_cons]
    have e : (((l.length + 1 : Nat) : Int) - 1 - ((0 : Nat) : Int)) = (l.length : Int) := by omega
    rw [e]; exact h1
  | a :: l, k + 1, i, h, hi => by
    simp only [List.getElem?_cons_succ] at hi
    simp only [allOk, Bool.and_eq_true] at h
    have := allOk_get h.2 hi
    rw [List.length_cons]
    have e : (((l.length + 1 : Nat) : Int) - 1 - ((k + 1 : Nat) : Int)) = (l.length : Int) - 1 - k := by omega
    rw [e]; exact this

theorem chk_zero {l : List In} (h : chk l = 0) : l.length ≤ 32 ∧ allOk l = true := by
  unfold chk at h
  split at h
  · omega
  · split at h
    · rename_i h1 h2; exact ⟨by omega, h2⟩
    · omega

theorem evS_step {view now} {f : Nat} {l : List In} {n : Int} {k : Nat} {i : In} (h : l[k]? = some i) :
    evS view now (f + 1) (l.drop k) n = if i.op = 6 then (true, 1)
      else ((evS view now f (l.drop (k + 1 + (doS n i).toNat)) (doN view now n i)).1, (evS view now f (l.drop (k + 1 + (doS n i).toNat)) (doN view now n i)).2 + 1) := by
  obtain ⟨hk, rfl⟩ := List.getElem?_eq_some_iff.1 h
  rw [List.drop_eq_getElem_cons hk]
  simp only [evS, List.drop_drop]
theorem evS_nil {view now} (f : Nat) (n : Int) : evS view now f [] n = (false, 0) := by cases f <;> rfl

theorem doS_bd {n : Int} {i : In} {bh : Int} (h : okP i bh) (h0 : 0 ≤ bh) : 0 ≤ doS n i ∧ doS n i ≤ bh := by
  unfold okP at h
  unfold doS
  split <;> omega

section
variable {w : World} {l : List In} {v lv : Value}

theorem eval_ret {view : List UInt8} (now : Int) (hv : RdS w v (view.map U)) (hl : RdR insC w lv l) (hb : view.length ≤ 9223372036854775807) (hb2 : l.length ≤ 9223372036854775807) :
    Ret Try.prog 23 #[v, I now, lv] w fun r w' => r = .tuple #[.bool (evP view now l).1, I (evP view now l).2] ∧ Hp w [] w' := by
  refine Ret_of_W (args := [_, _, _]) Try.func23 rfl Try.ntmps23 Try.results23 (by simp) ?_
  obtain ⟨ao, ca, rfl⟩ := hl.form
  obtain ⟨av, cv, rfl⟩ := hv.form
  simp only [List.length_map] at hv ⊢
  have H := Hp.refl w
  refine W_seq ?_
  refine W_region_l ?_
  refine WL_stepM rfl (R_as) ?_
  refine WL_stepM rfl (R_as) ?_
  refine WL_nil ?_
  refine W_seq ?_
  refine W_seq ?_
  refine W_region_l ?_
  refine WL_stepM rfl (R_mv) ?_
  (refine WL_call rfl (R_call rfl Try.call24 rfl) (check_ret hl hb2) ?_; rintro _ w10 ⟨rfl, H1⟩; replace H := H.seq0 H1; clear H1)
  refine WL_step rfl (R_ne rfl rfl) ?_
  refine WL_nil ?_
  refine W_if rfl (fun h13 => ?_) (fun h13 => ?_)
  · refine W_seq ?_
    refine W_region_l ?_
    refine WL_stepM rfl (R_as) ?_
    refine WL_stepM rfl (R_as) ?_
    refine WL_nil ?_
    refine W_ret ?_
    exact ⟨_, rfl, (by unfold evP; rw [if_neg (by assumption)]; rfl), H⟩
  · refine W_skip ?_
    refine W_seq ?_
    (obtain ⟨hl32, hall⟩ := chk_zero (l := l) (by omega)) <;> refine W_region_l ?_
    refine WL_stepM rfl (R_mv) ?_
    refine WL_stepM rfl (R_mv) ?_
    refine WL_step rfl (R_build (vs := [(.int _ _), (.slice _ _ _), (.int _ _)]) rfl rfl) ?_
    (refine WL_effn rfl (E_box (vs := [I 0, .slice av view.length cv, I now]) H rfl rfl) ?_; clear H; intro p w27 hp H)
    refine WL_stepM rfl (R_as) ?_
    refine WL_nil ?_
    refine W_seq ?_
    refine W_region_l ?_
    refine WL_stepM rfl (R_as) ?_
    refine WL_nil ?_
    refine W_seq ?_
    refine W_seq ?_
    refine W_region_l ?_
    refine WL_stepM rfl (R_as) ?_
    refine WL_nil ?_
    refine W_block ?_
    refine W_loopS [(6, 7), (9, 10), (18, 40)] (fun (k : Nat) E w' => ∃ (n : Int) (st f : Nat), k ≤ l.length ∧ E 9 = I st ∧ E 10 = I k ∧ l.length - k ≤ f ∧ st ≤ k ∧ (evS view now f (l.drop k) n).1 = (evP view now l).1 ∧ st + (evS view now f (l.drop k) n).2 = (evP view now l).2 ∧ Hp w [(p, blk [I n, .slice av view.length cv, I now] 71)] w') (fun k => l.length - k) 0 ?e0 ?r0
    · exact ⟨0, 0, l.length, by omega, rfl, rfl, by omega, by omega, by unfold evP; rw [if_pos (by omega)]; rfl, by unfold evP; rw [if_pos (by omega)]; exact Nat.zero_add _, H⟩
    · (clear H; rintro k E w1 ⟨n, st, f, hk, h0, h1, hf, hst, hev1, hev2, H⟩; refine W_kn2 h0 h1 ?_)
      refine W_seq ?_
      refine W_seq ?_
      refine W_region_l ?_
      refine WL_stepM rfl (R_mv) ?_
      refine WL_stepM rfl (R_mv) ?_
      refine WL_step rfl (R_len_slice Try.underlying45 rfl) ?_
      refine WL_step rfl (R_lt rfl rfl) ?_
      refine WL_nil ?_
      refine W_if rfl (fun h50 => ?_) (fun h50 => ?_)
      · refine W_skip ?_
        refine W_seq ?_
        refine W_block ?_
        refine W_seq ?_
        refine W_region_l ?_
        refine WL_stepM rfl (R_mv) ?_
        refine WL_step rfl (R_add (r := ((st + 1 : Nat) : Int)) rfl rfl (by rw [w_i64 (by omega)]; omega)) ?_
        refine WL_stepM rfl (R_as) ?_
        refine WL_nil ?_
        refine W_seq ?_
        refine W_seq ?_
        (obtain ⟨i, hi⟩ : ∃ i, l[k]? = some i := ⟨_, List.getElem?_eq_getElem (by omega)⟩; obtain ⟨b, off, rfl, hc⟩ := hl.cell insC_len hi; have hok := allOk_get hall hi; obtain ⟨f, rfl⟩ : ∃ g, f = g + 1 := ⟨f - 1, by omega⟩; rw [evS_step hi] at hev1 hev2) <;> refine W_region_l ?_
        refine WL_stepM rfl (R_mv) ?_
        refine WL_stepM rfl (R_mv) ?_
        refine WL_step rfl (R_indexAddr Try.underlying45 Try.sizeOf44 rfl rfl (by omega) (by omega) idx_castn) ?_
        refine WL_step rfl (R_fieldAddr Try.underlying44 rfl Try.sizeOf3 (by decide) rfl rfl) ?_
        refine WL_step rfl (R_load_cell Try.isAgg3 rfl (H.cellN (hc 0 (I i.op) rfl) (by repeat' first | exact kNil | apply kCons | apply kApp | assumption | exact OwnS.keys (by assumption)))) ?_
        refine WL_step rfl (R_eq rfl rfl) ?_
        refine WL_nil ?_
        refine W_if rfl (fun h70 => ?_) (fun h70 => ?_)
        · refine W_seq ?_
          refine W_region_l ?_
          refine WL_stepM rfl (R_mv) ?_
          refine WL_stepM rfl (R_as) ?_
          refine WL_stepM rfl (R_as) ?_
          refine WL_nil ?_
          refine W_ret ?_
          (rw [if_pos (by assumption)] at hev1 hev2; exact ⟨_, rfl, (by rw [← hev1, ← hev2]; rfl), H.none (by repeat' first | exact kNil | apply kCons | apply kApp | assumption | exact OwnS.keys (by assumption))⟩)
        · refine W_skip ?_
          (rw [if_neg (by assumption)] at hev1 hev2; have hds := doS_bd (n := n) hok (by omega); obtain ⟨s, hs⟩ : ∃ s : Nat, doS n i = (s : Int) := ⟨(doS n i).toNat, by omega⟩; rw [hs, Int.toNat_natCast] at hev1 hev2; rw [hs] at hds) <;> refine W_region_l ?_
          refine WL_stepM rfl (R_mv) ?_
          refine WL_stepM rfl (R_mv) ?_
          refine WL_stepM rfl (R_mv) ?_
          refine WL_stepM rfl (R_mv) ?_
          refine WL_step rfl (R_indexAddr Try.underlying45 Try.sizeOf44 rfl rfl (by omega) (by omega) idx_castn) ?_
          refine WL_step rfl (R_loadA_cell (vs := insC i) Try.isAgg44 Try.sizeOf44 rfl (fun j v hj => H.cellN (hc j v hj) (by repeat' first | exact kNil | apply kCons | apply kApp | assumption | exact OwnS.keys (by assumption))) rfl) ?_
          (refine WL_call rfl (R_call rfl Try.call38 rfl) (do_ret (H.get .here) (hv.monoN H (by repeat' first | exact kNil | apply kCons | apply kApp | assumption | exact OwnS.keys (by assumption))) (fun a m c he hne => by have h5 := hv.lt (by simpa using hne) a m c he; omega) (by unfold okP at hok; omega) hb) ?_; rintro _ w87 ⟨rfl, H1⟩; rw [hs]; replace H := H.seq H1 (okSeq_set .here okSeq_nil); clear H1)
          refine WL_step rfl (R_add (r := ((k + s : Nat) : Int)) rfl rfl (by rw [w_i64 (by omega)]; omega)) ?_
          refine WL_stepM rfl (R_as) ?_
          refine WL_nil ?_
          refine W_region_l ?_
          refine WL_stepM rfl (R_mv) ?_
          refine WL_step rfl (R_add (r := ((k + 1 + s : Nat) : Int)) rfl rfl (by rw [w_i64 (by omega)]; omega)) ?_
          refine WL_stepM rfl (R_as) ?_
          refine WL_nil ?_
          exact ⟨(by repeat' first | refine same_updo rfl ?_ | refine same_mov rfl ?_ | refine same_upd rfl ?_ | refine same_updn ?_ | refine same_know rfl ?_ | exact same_ovr | refine same_in rfl ?_ | exact Same.refl), k + 1 + s, by omega, _, st + 1, f, by omega, rfl, rfl, by omega, by omega, hev1, by omega, H⟩
      · refine W_exit ?_
        refine (if_pos rfl).mpr ?_
        refine W_seq ?_
        refine W_region_l ?_
        refine WL_stepM rfl (R_mv) ?_
        refine WL_stepM rfl (R_as) ?_
        refine WL_stepM rfl (R_as) ?_
        refine WL_nil ?_
        refine W_ret ?_
        (rw [List.drop_of_length_le (by omega), evS_nil] at hev1 hev2; exact ⟨_, rfl, (by rw [← hev1, ← hev2]; rfl), H.none (by repeat' first | exact kNil | apply kCons | apply kApp | assumption | exact OwnS.keys (by assumption))⟩)
end
end Go.Proofs.Ytaclingiedmpbaa.Pred

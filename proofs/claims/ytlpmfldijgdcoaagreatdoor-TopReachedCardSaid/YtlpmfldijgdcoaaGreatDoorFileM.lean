/-
  What files are, as bytes; which may be.
-/
import Derived.Test.YtlpmfldijgdcoaaGreatDoorBytM
import Derived.Test.YtlpmfldijgdcoaaGreatDoorRefM
import Derived.Test.YtlpmfldijgdcoaaGreatDoorClone
import Derived.Test.YtlpmfldijgdcoaaGreatDoorFxY
import Derived.Test.YtlpmfldijgdcoaaGreatDoorFxX
import Derived.Test.YtlpmfldijgdcoaaGreatDoorFxT
namespace Go.Proofs.YtlpmfldijgdcoaaGreatDoor.File
open Go Go.Proofs Go.Proofs.YtlpmfldijgdcoaaGreatDoor.Fx Go.Proofs.YtlpmfldijgdcoaaGreatDoor.Codec
set_option maxRecDepth 100000
set_option linter.unusedVariables false
set_option linter.unusedSimpArgs false
set_option maxHeartbeats 1000000

/-- a file -/
structure Fl where
  k : Int
  p : Int
  r : Int
  g : Int
def flC (f : Fl) : List Value := [I f.k, I f.p, I f.r, I f.g]
def fileOk (f : Fl) : Prop := (1 ≤ f.k ∧ f.k ≤ 3) ∧ (0 ≤ f.p ∧ f.p ≤ 7) ∧ (f.k ≠ 3 ∨ f.p = 0) ∧ (1 ≤ f.r ∧ f.r ≤ 64) ∧ (f.g = 0 ∨ f.g = 1)
instance (f : Fl) : Decidable (fileOk f) := by unfold fileOk; infer_instance
def b8 (n : Int) : UInt8 := UInt8.ofNat n.toNat
theorem u8_b8 {n : Int} (h : 0 ≤ n) : IntKind.u8.wrap n = ((b8 n).toNat : Int) := by
  obtain ⟨m, rfl⟩ : ∃ m : Nat, n = (m : Int) := ⟨n.toNat, by omega⟩
  exact u8_ofNat
def fb5 (f : Fl) : List UInt8 := [b8 f.k, b8 f.p, b8 f.r, b8 f.g, 179]
/-- a file's bytes -/
def fileBytes (f : Fl) : List UInt8 := fb5 f ++ [sumB (fb5 f), 0, 0]

theorem in_ret (n lo hi : Int) (w : World) : Ret Tryz.prog 70 #[I n, I lo, I hi] w fun v w' => v = .bool (decide (lo ≤ n ∧ n ≤ hi)) ∧ Hp w [] w' := by
  refine Ret_of_W (args := [_, _, _]) Tryz.func70 rfl Tryz.ntmps70 Tryz.results70 (by simp) ?_
  have H := Hp.refl w
  refine W_seq ?_
  refine W_region_l ?_
  refine WL_stepM rfl (R_as) ?_
  refine WL_nil ?_
  refine W_seq ?_
  refine W_region_l ?_
  refine WL_stepM rfl (R_mv) ?_
  refine WL_stepM rfl (R_mv) ?_
  refine WL_step rfl (R_ge rfl rfl) ?_
  refine WL_stepM rfl (R_mv) ?_
  apply WL_andK 4 10 14 [(11, 14)] H
  case hc => rfl
  case h1 =>
    intro h11
    refine WL_guard_t rfl rfl ?_
    refine WL_stepM rfl (R_mv) ?_
    refine WL_guard_t rfl rfl ?_
    refine WL_stepM rfl (R_mv) ?_
    refine WL_guard_t rfl rfl ?_
    refine WL_step rfl (R_le rfl rfl) ?_
    refine WL_stepM rfl (R_pk_t rfl) ?_
    refine WL_nil ?_
    exact ⟨(same_mov rfl (same_updo rfl (same_mov rfl (same_mov rfl Same.refl)))), rfl, H⟩
  case h0 =>
    intro h11
    refine WL_guard_f rfl rfl (by decide) ?_
    refine WL_guard_f rfl rfl (by decide) ?_
    refine WL_guard_f rfl rfl (by decide) ?_
    refine WL_stepM rfl (R_pk_f rfl) ?_
    refine WL_nil ?_
    exact ⟨(same_mov rfl (same_updo rfl (same_updo rfl (same_updo rfl Same.refl)))), rfl, H⟩
  case h2 =>
    (clear H; intro E11 w11 H)
    refine WL_stepM rfl (R_as) ?_
    refine WL_nil ?_
    refine W_ret ?_
    exact ⟨_, rfl, congrArg Value.bool (decide_eq_decide.2 (by omega)), H⟩

theorem ok_ret (f : Fl) (w : World) : Ret Tryz.prog 198 #[.agg (flC f).toArray] w fun v w' => v = .bool (decide (fileOk f)) ∧ Hp w [] w' := by
  obtain ⟨k, p, r, g⟩ := f
  rw [show flC ⟨k, p, r, g⟩ = [I k, I p, I r, I g] from rfl]
  refine Ret_of_W (args := [_]) Tryz.func198 rfl Tryz.ntmps198 Tryz.results198 (by simp) ?_
  have H := Hp.refl w
  refine W_seq ?_
  refine W_region_l ?_
  (refine WL_effn rfl (E_box (v := (.agg (List.toArray [(.int _ _), (.int _ _), (.int _ _), (.int _ _)]))) H rfl rfl) ?_; clear H; intro b3 w3 hb3 H)
  refine WL_stepM rfl (R_as) ?_
  refine WL_nil ?_
  refine W_seq ?_
  refine W_region_l ?_
  refine WL_step rfl (R_fieldAddr (off' := 0) Tryz.underlying135 rfl Tryz.sizeOf3 (by decide) rfl rfl) ?_
  refine WL_step rfl (R_load Tryz.isAgg3 rfl (H.get .here) rfl) ?_
  refine WL_step rfl (R_ge rfl rfl) ?_
  refine WL_stepM rfl (R_mv) ?_
  apply WL_andK 4 6 10 [(7, 10)] H
  case hc => rfl
  case h1 =>
    intro h12
    refine WL_guard_t rfl rfl ?_
    refine WL_step rfl (R_fieldAddr (off' := 0) Tryz.underlying135 rfl Tryz.sizeOf3 (by decide) rfl rfl) ?_
    refine WL_guard_t rfl rfl ?_
    refine WL_step rfl (R_load Tryz.isAgg3 rfl (H.get .here) rfl) ?_
    refine WL_guard_t rfl rfl ?_
    refine WL_step rfl (R_le rfl rfl) ?_
    refine WL_stepM rfl (R_pk_t rfl) ?_
    refine WL_nil ?_
    exact ⟨(same_mov rfl (same_updo rfl (same_updo rfl (same_updo rfl Same.refl)))), rfl, H⟩
  case h0 =>
    intro h12
    refine WL_guard_f rfl rfl (by decide) ?_
    refine WL_guard_f rfl rfl (by decide) ?_
    refine WL_guard_f rfl rfl (by decide) ?_
    refine WL_stepM rfl (R_pk_f rfl) ?_
    refine WL_nil ?_
    exact ⟨(same_mov rfl (same_updo rfl (same_updo rfl (same_updo rfl Same.refl)))), rfl, H⟩
  case h2 =>
    (clear H; intro E12 w12 H)
    refine WL_stepM rfl (R_mv) ?_
    apply WL_andK 4 11 15 [(12, 15)] H
    case hc => rfl
    case h1 =>
      intro h29
      refine WL_guard_t rfl rfl ?_
      refine WL_step rfl (R_fieldAddr (off' := 1) Tryz.underlying135 rfl Tryz.sizeOf3 (by decide) rfl rfl) ?_
      refine WL_guard_t rfl rfl ?_
      refine WL_step rfl (R_load Tryz.isAgg3 rfl (H.get .here) rfl) ?_
      refine WL_guard_t rfl rfl ?_
      refine WL_step rfl (R_ge rfl rfl) ?_
      refine WL_stepM rfl (R_pk_t rfl) ?_
      refine WL_nil ?_
      exact ⟨(same_mov rfl (same_updo rfl (same_updo rfl (same_updo rfl Same.refl)))), rfl, H⟩
    case h0 =>
      intro h29
      refine WL_guard_f rfl rfl (by decide) ?_
      refine WL_guard_f rfl rfl (by decide) ?_
      refine WL_guard_f rfl rfl (by decide) ?_
      refine WL_stepM rfl (R_pk_f rfl) ?_
      refine WL_nil ?_
      exact ⟨(same_mov rfl (same_updo rfl (same_updo rfl (same_updo rfl Same.refl)))), rfl, H⟩
    case h2 =>
      (clear H; intro E29 w29 H)
      refine WL_stepM rfl (R_mv) ?_
      apply WL_andK 4 16 20 [(17, 20)] H
      case hc => rfl
      case h1 =>
        intro h46
        refine WL_guard_t rfl rfl ?_
        refine WL_step rfl (R_fieldAddr (off' := 1) Tryz.underlying135 rfl Tryz.sizeOf3 (by decide) rfl rfl) ?_
        refine WL_guard_t rfl rfl ?_
        refine WL_step rfl (R_load Tryz.isAgg3 rfl (H.get .here) rfl) ?_
        refine WL_guard_t rfl rfl ?_
        refine WL_step rfl (R_le rfl rfl) ?_
        refine WL_stepM rfl (R_pk_t rfl) ?_
        refine WL_nil ?_
        exact ⟨(same_mov rfl (same_updo rfl (same_updo rfl (same_updo rfl Same.refl)))), rfl, H⟩
      case h0 =>
        intro h46
        refine WL_guard_f rfl rfl (by decide) ?_
        refine WL_guard_f rfl rfl (by decide) ?_
        refine WL_guard_f rfl rfl (by decide) ?_
        refine WL_stepM rfl (R_pk_f rfl) ?_
        refine WL_nil ?_
        exact ⟨(same_mov rfl (same_updo rfl (same_updo rfl (same_updo rfl Same.refl)))), rfl, H⟩
      case h2 =>
        (clear H; intro E46 w46 H)
        refine WL_stepM rfl (R_mv) ?_
        apply WL_andK 9 21 30 [(22, 30)] H
        case hc => rfl
        case h1 =>
          intro h63
          refine WL_guard_t rfl rfl ?_
          refine WL_step rfl (R_fieldAddr (off' := 0) Tryz.underlying135 rfl Tryz.sizeOf3 (by decide) rfl rfl) ?_
          refine WL_guard_t rfl rfl ?_
          refine WL_step rfl (R_load Tryz.isAgg3 rfl (H.get .here) rfl) ?_
          refine WL_guard_t rfl rfl ?_
          refine WL_step rfl (R_ne rfl rfl) ?_
          refine WL_guard_t rfl rfl ?_
          refine WL_stepM rfl (R_mv) ?_
          apply WL_orK 4 25 29 [(26, 29)] H
          case hc => rfl
          case h1 =>
            intro h72
            refine WL_guard_t rfl rfl ?_
            refine WL_step rfl (R_fieldAddr (off' := 1) Tryz.underlying135 rfl Tryz.sizeOf3 (by decide) rfl rfl) ?_
            refine WL_guard_t rfl rfl ?_
            refine WL_step rfl (R_load Tryz.isAgg3 rfl (H.get .here) rfl) ?_
            refine WL_guard_t rfl rfl ?_
            refine WL_step rfl (R_eq rfl rfl) ?_
            refine WL_guard_t rfl rfl ?_
            refine WL_stepM rfl (R_pk_f rfl) ?_
            refine WL_nil ?_
            exact ⟨(same_mov rfl (same_updo rfl (same_updo rfl (same_updo rfl Same.refl)))), rfl, H⟩
          case h0 =>
            intro h72
            refine WL_guard_f rfl rfl (by decide) ?_
            refine WL_guard_f rfl rfl (by decide) ?_
            refine WL_guard_f rfl rfl (by decide) ?_
            refine WL_guard_t rfl rfl ?_
            refine WL_stepM rfl (R_pk_t rfl) ?_
            refine WL_nil ?_
            exact ⟨(same_mov rfl (same_updo rfl (same_updo rfl (same_updo rfl Same.refl)))), rfl, H⟩
          case h2 =>
            intro E72 w72 H
            refine WL_stepM rfl (R_pk_t rfl) ?_
            refine WL_nil ?_
            exact ⟨(same_mov rfl (same_in rfl (same_mov rfl (same_updo rfl (same_updo rfl (same_updo rfl Same.refl)))))), rfl, H⟩
        case h0 =>
          intro h63
          refine WL_guard_f rfl rfl (by decide) ?_
          refine WL_guard_f rfl rfl (by decide) ?_
          refine WL_guard_f rfl rfl (by decide) ?_
          refine WL_guard_f rfl rfl (by decide) ?_
          refine WL_guard_n rfl rfl ?_
          refine WL_guard_n rfl rfl ?_
          refine WL_guard_n rfl rfl ?_
          refine WL_guard_f rfl rfl (by decide) ?_
          refine WL_stepM rfl (R_pk_f rfl) ?_
          refine WL_nil ?_
          exact ⟨(same_mov rfl (same_updo rfl (same_updo rfl (same_updo rfl (same_updo rfl (same_updo rfl (same_updo rfl (same_updo rfl (same_updo rfl Same.refl))))))))), rfl, H⟩
        case h2 =>
          (clear H; intro E63 w63 H)
          refine WL_stepM rfl (R_mv) ?_
          apply WL_andK 4 31 35 [(32, 35)] H
          case hc => rfl
          case h1 =>
            intro h105
            refine WL_guard_t rfl rfl ?_
            refine WL_step rfl (R_fieldAddr (off' := 2) Tryz.underlying135 rfl Tryz.sizeOf3 (by decide) rfl rfl) ?_
            refine WL_guard_t rfl rfl ?_
            refine WL_step rfl (R_load Tryz.isAgg3 rfl (H.get .here) rfl) ?_
            refine WL_guard_t rfl rfl ?_
            refine WL_step rfl (R_ge rfl rfl) ?_
            refine WL_stepM rfl (R_pk_t rfl) ?_
            refine WL_nil ?_
            exact ⟨(same_mov rfl (same_updo rfl (same_updo rfl (same_updo rfl Same.refl)))), rfl, H⟩
          case h0 =>
            intro h105
            refine WL_guard_f rfl rfl (by decide) ?_
            refine WL_guard_f rfl rfl (by decide) ?_
            refine WL_guard_f rfl rfl (by decide) ?_
            refine WL_stepM rfl (R_pk_f rfl) ?_
            refine WL_nil ?_
            exact ⟨(same_mov rfl (same_updo rfl (same_updo rfl (same_updo rfl Same.refl)))), rfl, H⟩
          case h2 =>
            (clear H; intro E105 w105 H)
            refine WL_stepM rfl (R_mv) ?_
            apply WL_andK 4 36 40 [(37, 40)] H
            case hc => rfl
            case h1 =>
              intro h122
              refine WL_guard_t rfl rfl ?_
              refine WL_step rfl (R_fieldAddr (off' := 2) Tryz.underlying135 rfl Tryz.sizeOf3 (by decide) rfl rfl) ?_
              refine WL_guard_t rfl rfl ?_
              refine WL_step rfl (R_load Tryz.isAgg3 rfl (H.get .here) rfl) ?_
              refine WL_guard_t rfl rfl ?_
              refine WL_step rfl (R_le rfl rfl) ?_
              refine WL_stepM rfl (R_pk_t rfl) ?_
              refine WL_nil ?_
              exact ⟨(same_mov rfl (same_updo rfl (same_updo rfl (same_updo rfl Same.refl)))), rfl, H⟩
            case h0 =>
              intro h122
              refine WL_guard_f rfl rfl (by decide) ?_
              refine WL_guard_f rfl rfl (by decide) ?_
              refine WL_guard_f rfl rfl (by decide) ?_
              refine WL_stepM rfl (R_pk_f rfl) ?_
              refine WL_nil ?_
              exact ⟨(same_mov rfl (same_updo rfl (same_updo rfl (same_updo rfl Same.refl)))), rfl, H⟩
            case h2 =>
              (clear H; intro E122 w122 H)
              refine WL_stepM rfl (R_mv) ?_
              apply WL_andK 9 41 50 [(42, 50)] H
              case hc => rfl
              case h1 =>
                intro h139
                refine WL_guard_t rfl rfl ?_
                refine WL_step rfl (R_fieldAddr (off' := 3) Tryz.underlying135 rfl Tryz.sizeOf3 (by decide) rfl rfl) ?_
                refine WL_guard_t rfl rfl ?_
                refine WL_step rfl (R_load Tryz.isAgg3 rfl (H.get .here) rfl) ?_
                refine WL_guard_t rfl rfl ?_
                refine WL_step rfl (R_eq rfl rfl) ?_
                refine WL_guard_t rfl rfl ?_
                refine WL_stepM rfl (R_mv) ?_
                apply WL_orK 4 45 49 [(46, 49)] H
                case hc => rfl
                case h1 =>
                  intro h148
                  refine WL_guard_t rfl rfl ?_
                  refine WL_step rfl (R_fieldAddr (off' := 3) Tryz.underlying135 rfl Tryz.sizeOf3 (by decide) rfl rfl) ?_
                  refine WL_guard_t rfl rfl ?_
                  refine WL_step rfl (R_load Tryz.isAgg3 rfl (H.get .here) rfl) ?_
                  refine WL_guard_t rfl rfl ?_
                  refine WL_step rfl (R_eq rfl rfl) ?_
                  refine WL_guard_t rfl rfl ?_
                  refine WL_stepM rfl (R_pk_f rfl) ?_
                  refine WL_nil ?_
                  exact ⟨(same_mov rfl (same_updo rfl (same_updo rfl (same_updo rfl Same.refl)))), rfl, H⟩
                case h0 =>
                  intro h148
                  refine WL_guard_f rfl rfl (by decide) ?_
                  refine WL_guard_f rfl rfl (by decide) ?_
                  refine WL_guard_f rfl rfl (by decide) ?_
                  refine WL_guard_t rfl rfl ?_
                  refine WL_stepM rfl (R_pk_t rfl) ?_
                  refine WL_nil ?_
                  exact ⟨(same_mov rfl (same_updo rfl (same_updo rfl (same_updo rfl Same.refl)))), rfl, H⟩
                case h2 =>
                  intro E148 w148 H
                  refine WL_stepM rfl (R_pk_t rfl) ?_
                  refine WL_nil ?_
                  exact ⟨(same_mov rfl (same_in rfl (same_mov rfl (same_updo rfl (same_updo rfl (same_updo rfl Same.refl)))))), rfl, H⟩
              case h0 =>
                intro h139
                refine WL_guard_f rfl rfl (by decide) ?_
                refine WL_guard_f rfl rfl (by decide) ?_
                refine WL_guard_f rfl rfl (by decide) ?_
                refine WL_guard_f rfl rfl (by decide) ?_
                refine WL_guard_n rfl rfl ?_
                refine WL_guard_n rfl rfl ?_
                refine WL_guard_n rfl rfl ?_
                refine WL_guard_f rfl rfl (by decide) ?_
                refine WL_stepM rfl (R_pk_f rfl) ?_
                refine WL_nil ?_
                exact ⟨(same_mov rfl (same_updo rfl (same_updo rfl (same_updo rfl (same_updo rfl (same_updo rfl (same_updo rfl (same_updo rfl (same_updo rfl Same.refl))))))))), rfl, H⟩
              case h2 =>
                (clear H; intro E139 w139 H)
                refine WL_stepM rfl (R_as) ?_
                refine WL_nil ?_
                refine W_ret ?_
                exact ⟨_, rfl, congrArg Value.bool (decide_eq_decide.2 (by simp only [fileOk]; omega)), H.pop (by assumption)⟩

theorem put_no {l : Value} (f : Fl) (hok : ¬ fileOk f) (w : World) : Ret Tryz.prog 165 #[.agg (flC f).toArray, l] w fun v w' => v = .bool false ∧ Hp w [] w' := by
  refine Ret_of_W (args := [_, _]) Tryz.func165 rfl Tryz.ntmps165 Tryz.results165 (by simp) ?_
  have H := Hp.refl w
  refine W_seq ?_
  refine W_region_l ?_
  (refine WL_effn rfl (E_box (v := (.agg (List.toArray [(.int _ _), (.int _ _), (.int _ _), (.int _ _)]))) H rfl rfl) ?_; clear H; intro b3 w3 hb3 H)
  refine WL_stepM rfl (R_as) ?_
  refine WL_nil ?_
  refine W_seq ?_
  refine W_seq ?_
  refine W_region_l ?_
  refine WL_step rfl (R_loadA Tryz.isAgg135 Tryz.sizeOf135 rfl (H.get .here) rfl (by simp)) ?_
  (refine WL_call rfl (R_call rfl Tryz.call198 rfl) (ok_ret f _) ?_; rintro v w10 ⟨hv, H1⟩; rw [decide_eq_false hok] at hv; subst hv; replace H := H.seq0 H1; clear H1)
  refine WL_step rfl (R_not_f rfl) ?_
  refine WL_nil ?_
  refine W_cond_t rfl ?_
  refine W_seq ?_
  refine W_region_l ?_
  refine WL_stepM rfl (R_as) ?_
  refine WL_nil ?_
  refine W_ret ?_
  exact ⟨_, rfl, rfl, H.none kYs⟩

theorem put_yes {b : Nat} {w : World} (f : Fl) (hok : fileOk f) (hb : w.heap[b]? = some (blk ((List.replicate 8 0).map U) 5)) :
    Ret Tryz.prog 165 #[.agg (flC f).toArray, sl b 0 8 8] w fun v w' => v = .bool true ∧ Hp w [(b, blk ((fileBytes f).map U) 5)] w' := by
  have hok0 := hok
  obtain ⟨k, p, r, g⟩ := f
  rw [show flC ⟨k, p, r, g⟩ = [I k, I p, I r, I g] from rfl]
  simp only [fileOk] at hok
  refine Ret_of_W (args := [_, _]) Tryz.func165 rfl Tryz.ntmps165 Tryz.results165 (by simp) ?_
  have H := Hp.focus0 hb
  refine W_seq ?_
  refine W_region_l ?_
  (refine WL_effn rfl (E_box (v := (.agg (List.toArray [(.int _ _), (.int _ _), (.int _ _), (.int _ _)]))) H rfl rfl) ?_; clear H; intro b3 w3 hb3 H)
  refine WL_stepM rfl (R_as) ?_
  refine WL_nil ?_
  refine W_seq ?_
  refine W_seq ?_
  refine W_region_l ?_
  refine WL_step rfl (R_loadA Tryz.isAgg135 Tryz.sizeOf135 rfl (H.get .here) rfl (by simp)) ?_
  (refine WL_call rfl (R_call rfl Tryz.call198 rfl) (ok_ret ⟨k, p, r, g⟩ _) ?_; rintro v w10 ⟨hv, H1⟩; rw [decide_eq_true hok0] at hv; subst hv; replace H := H.seq0 H1; clear H1)
  refine WL_step rfl (R_not_t rfl) ?_
  refine WL_nil ?_
  refine W_cond_f rfl ?_
  refine W_skip ?_
  refine W_seq ?_
  refine W_region_l ?_
  refine WL_stepM rfl (R_mv) ?_
  refine WL_step rfl (R_fieldAddr (off' := 0) Tryz.underlying135 rfl Tryz.sizeOf3 (by decide) rfl rfl) ?_
  refine WL_step rfl (R_load Tryz.isAgg3 rfl (H.get .here) rfl) ?_
  refine WL_step rfl (R_conv_int Tryz.underlying3 Tryz.underlying5 rfl (u8_b8 (by omega))) ?_
  refine WL_step rfl (R_fieldAddr (off' := 1) Tryz.underlying135 rfl Tryz.sizeOf3 (by decide) rfl rfl) ?_
  refine WL_step rfl (R_load Tryz.isAgg3 rfl (H.get .here) rfl) ?_
  refine WL_step rfl (R_conv_int Tryz.underlying3 Tryz.underlying5 rfl (u8_b8 (by omega))) ?_
  refine WL_step rfl (R_fieldAddr (off' := 2) Tryz.underlying135 rfl Tryz.sizeOf3 (by decide) rfl rfl) ?_
  refine WL_step rfl (R_load Tryz.isAgg3 rfl (H.get .here) rfl) ?_
  refine WL_step rfl (R_conv_int Tryz.underlying3 Tryz.underlying5 rfl (u8_b8 (by omega))) ?_
  refine WL_step rfl (R_fieldAddr (off' := 3) Tryz.underlying135 rfl Tryz.sizeOf3 (by decide) rfl rfl) ?_
  refine WL_step rfl (R_load Tryz.isAgg3 rfl (H.get .here) rfl) ?_
  refine WL_step rfl (R_conv_int Tryz.underlying3 Tryz.underlying5 rfl (u8_b8 (by omega))) ?_
  (refine WL_effn rfl (E_buildOnes (vs := [(.int _ _), (.int _ _), (.int _ _), (.int _ _), (.int _ _)]) H Tryz.underlying36 Tryz.sizeOf5 Tryz.zeroValue5 rfl rfl (by decide) rfl rfl (by simp [Value.oneCell'])) ?_; clear H; intro b30 w30 hb30 H)
  (refine WL_effm rfl (E_copy (xs := (fb5 ⟨k, p, r, g⟩).map U) H (.there (.there .here)) Tryz.underlying36 Tryz.sizeOf5 rfl rfl (RdS.blk (H.get .here) rfl (by simp) (by simp)).csrc (by simp) (by simp [Value.oneCell'])) ?_; clear H; rintro _ _ w31 rfl H; replace H := (H.pop (by assumption)).pop (by assumption); replace H : Hp w [(b, blk ((fb5 ⟨k, p, r, g⟩ ++ [0, 0, 0]).map U) 5)] _ := H)
  refine WL_nil ?_
  refine W_seq ?_
  refine W_region_l ?_
  refine WL_stepM rfl (R_mv) ?_
  refine WL_stepM rfl (R_mv) ?_
  refine WL_step rfl (R_slice Tryz.underlying36 Tryz.sizeOf5 rfl .none (.some rfl) (by omega) (by omega) (by omega) (by omega) (by omega) rfl) ?_
  (refine WL_call rfl (R_call rfl Tryz.call125 rfl) (sum_ret (xs := fb5 ⟨k, p, r, g⟩) (RdS.blk (H.get .here) rfl (by simp [fb5]) (by simp)) (by simp [fb5])) ?_; rintro _ w38 ⟨rfl, H1⟩; replace H := H.seq0 H1; clear H1)
  refine WL_step rfl (R_indexAddr (off' := 5) Tryz.underlying36 Tryz.sizeOf5 rfl rfl (by omega) (by omega) rfl) ?_
  (refine WL_effu rfl (E_store (v := U (sumB (fb5 ⟨k, p, r, g⟩))) H Tryz.sizeOf5 rfl rfl rfl .here (by simp [fb5])) ?_; clear H; intro w40 H)
  refine WL_nil ?_
  refine W_seq ?_
  refine W_region_l ?_
  refine WL_stepM rfl (R_as) ?_
  refine WL_nil ?_
  refine W_ret ?_
  exact ⟨_, rfl, rfl, H⟩
end Go.Proofs.YtlpmfldijgdcoaaGreatDoor.File

/-
  Files put into bytes, and got of them.
-/
namespace Go.Proofs.YtlpmfldijgdcoaaGreatDoor.File
open Go Go.Proofs Go.Proofs.YtlpmfldijgdcoaaGreatDoor.Fx Go.Proofs.YtlpmfldijgdcoaaGreatDoor.Codec
set_option maxRecDepth 100000
set_option linter.unusedVariables false
set_option linter.unusedSimpArgs false
set_option maxHeartbeats 1000000

/-- the codec of files -/
abbrev cod : Obj := blk [I 8, .func (.func 165) #[] #[], .func (.func 166) #[] #[]] 266
abbrev vF (f : Fl) : Value := .agg (flC f).toArray

theorem codec_ret (w : World) : Ret Tryz.prog 126 #[] w fun v w' => ∃ q, v = ptr q 0 ∧ w.heap.size ≤ q ∧ Hp w [(q, cod)] w' := by
  refine Ret_of_W (args := []) Tryz.func126 rfl Tryz.ntmps126 Tryz.results126 (by simp) ?_
  have H := Hp.refl w
  have hnew : Ret Tryz.prog 164 #[I 8, .func (.func 165) #[] #[], .func (.func 166) #[] #[]] w fun v w' => ∃ q, v = ptr q 0 ∧ w.heap.size ≤ q ∧ Hp w [(q, cod)] w' := by
    refine Ret_of_W (args := [_, _, _]) Tryz.func164 rfl Tryz.ntmps164 Tryz.results164 (by simp) ?_
    refine W_seq ?_
    refine W_region_l ?_
    refine WL_stepM rfl (R_as) ?_
    refine WL_nil ?_
    refine W_seq ?_
    refine W_region_l ?_
    refine WL_stepM rfl (R_mv) ?_
    refine WL_step rfl (R_max (r := 8) rfl rfl (by decide)) ?_
    refine WL_step rfl (R_min (r := 8) rfl rfl (by decide)) ?_
    refine WL_stepM rfl (R_mv) ?_
    refine WL_stepM rfl (R_mv) ?_
    refine WL_step rfl (R_buildL (places := [(0, 1), (1, 1), (2, 1)]) (vs := [(.int _ _), (.func _ _ _), (.func _ _ _)]) Tryz.underlying266 Tryz.typeInfo266 rfl rfl (by kernel_rfl) rfl rfl rfl) ?_
    (refine WL_effn rfl (E_box (v := (.agg (List.toArray [(.int _ _), (.func _ _ _), (.func _ _ _)]))) H rfl rfl) ?_; clear H; intro b13 w13 hb13 H)
    refine WL_stepM rfl (R_as) ?_
    refine WL_nil ?_
    refine W_ret ?_
    exact ⟨_, rfl, _, rfl, by assumption, H⟩
  refine W_seq ?_
  refine W_region_l ?_
  refine WL_stepM rfl (R_as) ?_
  refine WL_nil ?_
  refine W_seq ?_
  refine W_region_l ?_
  (refine WL_call rfl (R_call rfl Tryz.call164 rfl) hnew ?_; rintro _ w7 ⟨q, rfl, hq, H1⟩; replace H := H.seqN H1 (kCons hq kNil); clear H1)
  refine WL_stepM rfl (R_as) ?_
  refine WL_nil ?_
  refine W_ret ?_
  exact ⟨_, rfl, _, rfl, hq, H⟩

theorem encM_ret {q : Nat} {w : World} (f : Fl) (hq : w.heap[q]? = some cod) :
    Ret Tryz.prog 127 #[ptr q 0, vF f] w fun v w' => (fileOk f ∧ ∃ b, v = .tuple #[sl b 0 8 8, .bool true] ∧ w.heap.size ≤ b ∧ Hp w [(b, blk ((fileBytes f).map U) 5)] w') ∨ (¬ fileOk f ∧ v = .tuple #[nilS, .bool false] ∧ Hp w [] w') := by
  refine Ret_of_W (args := [_, _]) Tryz.func127 rfl Tryz.ntmps127 Tryz.results127 (by simp) ?_
  have H := Hp.focus0 hq
  by_cases hok : fileOk f
  · refine W_seq ?_
    refine W_region_l ?_
    (refine WL_effn rfl (E_box (v := vF f) (vs := flC f) H rfl rfl) ?_; clear H; intro bx w3 hbx H)
    refine WL_stepM rfl (R_as) ?_
    refine WL_stepM rfl (R_as) ?_
    refine WL_nil ?_
    refine W_seq ?_
    refine W_region_l ?_
    refine WL_stepM rfl (R_mv) ?_
    refine WL_step rfl (R_nilCheck rfl) ?_
    refine WL_step rfl (R_fieldAddr (off' := 0) Tryz.underlying266 rfl Tryz.sizeOf3 (by decide) rfl rfl) ?_
    refine WL_step rfl (R_load Tryz.isAgg3 rfl (H.get (.there .here)) rfl) ?_
    (refine WL_effn rfl (E_makeSlice H Tryz.underlying36 Tryz.sizeOf5 Tryz.typeInfo5 Tryz.zeroValue5 rfl rfl rfl (by decide) (by decide) (by decide) (by decide)) ?_; clear H; intro b w13 hb H; replace H : Hp w [(b, blk ((List.replicate 8 0).map U) 5), (bx, blk (flC f) 135), (q, cod)] _ := H)
    refine WL_stepM rfl (R_as) ?_
    refine WL_nil ?_
    refine W_seq ?_
    refine W_seq ?_
    (refine W_draw (Kp [(bx, blk (flC f) 135), (q, cod)]) (fun _ => false) (by kernel_rfl) H ?_; clear H; intro w18 H)
    refine WA_takeM 0 rfl rfl rfl (by kernel_rfl) (by kernel_rfl) (H.kp.sub (by simp)) (fun _ hC => R_mv) ?_
    refine WA_take 1 rfl rfl rfl (by kernel_rfl) (by kernel_rfl) (H.kp.sub (by simp)) (fun _ hC => R_nilCheck rfl) ?_
    refine WA_take 2 rfl rfl rfl (by kernel_rfl) (by kernel_rfl) (H.kp.sub (by simp)) (fun _ hC => R_fieldAddr (off' := 1) Tryz.underlying266 rfl Tryz.sizeOf263 (by decide) rfl rfl) ?_
    refine WA_take 3 rfl rfl rfl (by kernel_rfl) (by kernel_rfl) (H.kp.sub (by simp)) (fun _ hC => R_load Tryz.isAgg263 rfl (hC.get (.there .here)) rfl) ?_
    refine WA_take 4 rfl rfl rfl (by kernel_rfl) (by kernel_rfl) (H.kp.sub (by simp)) (fun _ hC => R_eq_fn Tryz.underlying263 rfl rfl) ?_
    refine WA_takeM 5 rfl rfl rfl (by kernel_rfl) (by kernel_rfl) (H.kp.sub (by simp)) (fun _ hC => R_mv) ?_
    refine WA_takeGM 6 rfl rfl rfl rfl (by kernel_rfl) (by kernel_rfl) (H.kp.sub (by simp)) (fun _ hC => R_mv) ?_
    refine WA_takeG 7 rfl rfl rfl rfl (by kernel_rfl) (by kernel_rfl) (H.kp.sub (by simp)) (fun _ hC => R_nilCheck rfl) ?_
    refine WA_takeG 8 rfl rfl rfl rfl (by kernel_rfl) (by kernel_rfl) (H.kp.sub (by simp)) (fun _ hC => R_fieldAddr (off' := 1) Tryz.underlying266 rfl Tryz.sizeOf263 (by decide) rfl rfl) ?_
    refine WA_takeG 9 rfl rfl rfl rfl (by kernel_rfl) (by kernel_rfl) (H.kp.sub (by simp)) (fun _ hC => R_load Tryz.isAgg263 rfl (hC.get (.there .here)) rfl) ?_
    refine WA_takeG 10 rfl rfl rfl rfl (by kernel_rfl) (by kernel_rfl) (H.kp.sub (by simp)) (fun _ hC => R_loadA (vs := flC f) Tryz.isAgg135 Tryz.sizeOf135 rfl (hC.get .here) rfl (by simp [flC])) ?_
    refine WA_takeGM 11 rfl rfl rfl rfl (by kernel_rfl) (by kernel_rfl) (H.kp.sub (by simp)) (fun _ hC => R_mv) ?_
    refine WA_one (i := 12) (by kernel_rfl) ?_
    (refine WI_call rfl (.inr ⟨_, _, rfl, rfl⟩) (R_call rfl Tryz.call165 rfl) (put_yes f hok (H.get .here)) (fun _ _ hR _ => (H.seq hR.2 (okSeq_set .here okSeq_nil)).kp.sub (by simp)) ?_; rintro _ w32 ⟨rfl, H1⟩; replace H := H.seq H1 (okSeq_set .here okSeq_nil); clear H1)
    refine WA_takeG 13 rfl rfl rfl rfl (by kernel_rfl) (by kernel_rfl) (H.kp.sub (by simp)) (fun _ hC => R_not_t rfl) ?_
    refine WA_takeM 14 rfl rfl rfl (by kernel_rfl) (by kernel_rfl) (H.kp.sub (by simp)) (fun _ hC => R_pk_f rfl) ?_
    refine WA_done (by kernel_rfl) ?_
    refine W_cond_f rfl ?_
    refine W_skip ?_
    refine W_seq ?_
    refine W_region_l ?_
    refine WL_stepM rfl (R_mv) ?_
    refine WL_stepM rfl (R_as) ?_
    refine WL_stepM rfl (R_as) ?_
    refine WL_nil ?_
    refine W_ret ?_
    exact ⟨_, rfl, .inl ⟨hok, b, rfl, hb, (H.pop2 hbx).swap2.back hq⟩⟩
  · refine W_seq ?_
    refine W_region_l ?_
    (refine WL_effn rfl (E_box (v := vF f) (vs := flC f) H rfl rfl) ?_; clear H; intro bx w3 hbx H)
    refine WL_stepM rfl (R_as) ?_
    refine WL_stepM rfl (R_as) ?_
    refine WL_nil ?_
    refine W_seq ?_
    refine W_region_l ?_
    refine WL_stepM rfl (R_mv) ?_
    refine WL_step rfl (R_nilCheck rfl) ?_
    refine WL_step rfl (R_fieldAddr (off' := 0) Tryz.underlying266 rfl Tryz.sizeOf3 (by decide) rfl rfl) ?_
    refine WL_step rfl (R_load Tryz.isAgg3 rfl (H.get (.there .here)) rfl) ?_
    (refine WL_effn rfl (E_makeSlice H Tryz.underlying36 Tryz.sizeOf5 Tryz.typeInfo5 Tryz.zeroValue5 rfl rfl rfl (by decide) (by decide) (by decide) (by decide)) ?_; clear H; intro b w13 hb H; replace H : Hp w [(b, blk ((List.replicate 8 0).map U) 5), (bx, blk (flC f) 135), (q, cod)] _ := H)
    refine WL_stepM rfl (R_as) ?_
    refine WL_nil ?_
    refine W_seq ?_
    refine W_seq ?_
    (refine W_draw (Kp [(bx, blk (flC f) 135), (q, cod)]) (fun _ => false) (by kernel_rfl) H ?_; clear H; intro w18 H)
    refine WA_takeM 0 rfl rfl rfl (by kernel_rfl) (by kernel_rfl) (H.kp.sub (by simp)) (fun _ hC => R_mv) ?_
    refine WA_take 1 rfl rfl rfl (by kernel_rfl) (by kernel_rfl) (H.kp.sub (by simp)) (fun _ hC => R_nilCheck rfl) ?_
    refine WA_take 2 rfl rfl rfl (by kernel_rfl) (by kernel_rfl) (H.kp.sub (by simp)) (fun _ hC => R_fieldAddr (off' := 1) Tryz.underlying266 rfl Tryz.sizeOf263 (by decide) rfl rfl) ?_
    refine WA_take 3 rfl rfl rfl (by kernel_rfl) (by kernel_rfl) (H.kp.sub (by simp)) (fun _ hC => R_load Tryz.isAgg263 rfl (hC.get (.there .here)) rfl) ?_
    refine WA_take 4 rfl rfl rfl (by kernel_rfl) (by kernel_rfl) (H.kp.sub (by simp)) (fun _ hC => R_eq_fn Tryz.underlying263 rfl rfl) ?_
    refine WA_takeM 5 rfl rfl rfl (by kernel_rfl) (by kernel_rfl) (H.kp.sub (by simp)) (fun _ hC => R_mv) ?_
    refine WA_takeGM 6 rfl rfl rfl rfl (by kernel_rfl) (by kernel_rfl) (H.kp.sub (by simp)) (fun _ hC => R_mv) ?_
    refine WA_takeG 7 rfl rfl rfl rfl (by kernel_rfl) (by kernel_rfl) (H.kp.sub (by simp)) (fun _ hC => R_nilCheck rfl) ?_
    refine WA_takeG 8 rfl rfl rfl rfl (by kernel_rfl) (by kernel_rfl) (H.kp.sub (by simp)) (fun _ hC => R_fieldAddr (off' := 1) Tryz.underlying266 rfl Tryz.sizeOf263 (by decide) rfl rfl) ?_
    refine WA_takeG 9 rfl rfl rfl rfl (by kernel_rfl) (by kernel_rfl) (H.kp.sub (by simp)) (fun _ hC => R_load Tryz.isAgg263 rfl (hC.get (.there .here)) rfl) ?_
    refine WA_takeG 10 rfl rfl rfl rfl (by kernel_rfl) (by kernel_rfl) (H.kp.sub (by simp)) (fun _ hC => R_loadA (vs := flC f) Tryz.isAgg135 Tryz.sizeOf135 rfl (hC.get .here) rfl (by simp [flC])) ?_
    refine WA_takeGM 11 rfl rfl rfl rfl (by kernel_rfl) (by kernel_rfl) (H.kp.sub (by simp)) (fun _ hC => R_mv) ?_
    refine WA_one (i := 12) (by kernel_rfl) ?_
    (refine WI_call rfl (.inr ⟨_, _, rfl, rfl⟩) (R_call rfl Tryz.call165 rfl) (put_no f hok _) (fun _ _ hR _ => (H.seq0 hR.2).kp.sub (by simp)) ?_; rintro _ w32 ⟨rfl, H1⟩; replace H := H.seq0 H1; clear H1)
    refine WA_takeG 13 rfl rfl rfl rfl (by kernel_rfl) (by kernel_rfl) (H.kp.sub (by simp)) (fun _ hC => R_not_f rfl) ?_
    refine WA_takeM 14 rfl rfl rfl (by kernel_rfl) (by kernel_rfl) (H.kp.sub (by simp)) (fun _ hC => R_pk_f rfl) ?_
    refine WA_done (by kernel_rfl) ?_
    refine W_cond_t rfl ?_
    refine W_seq ?_
    refine W_region_l ?_
    refine WL_stepM rfl (R_as) ?_
    refine WL_stepM rfl (R_as) ?_
    refine WL_nil ?_
    refine W_ret ?_
    exact ⟨_, rfl, .inr ⟨hok, rfl, ((H.pop hb).pop hbx).back hq⟩⟩

theorem enc_ret (f : Fl) (w : World) :
    Ret Tryz.prog 88 #[vF f] w fun v w' => (fileOk f ∧ ∃ b, v = .tuple #[sl b 0 8 8, .bool true] ∧ w.heap.size ≤ b ∧ Hp w [(b, blk ((fileBytes f).map U) 5)] w') ∨ (¬ fileOk f ∧ v = .tuple #[nilS, .bool false] ∧ Hp w [] w') := by
  refine Ret_of_W (args := [_]) Tryz.func88 rfl Tryz.ntmps88 Tryz.results88 (by simp) ?_
  have H := Hp.refl w
  refine W_seq ?_
  refine W_region_l ?_
  (refine WL_effn rfl (E_box (v := vF f) (vs := flC f) H rfl rfl) ?_; clear H; intro bx w3 hbx H)
  refine WL_stepM rfl (R_as) ?_
  refine WL_stepM rfl (R_as) ?_
  refine WL_nil ?_
  refine W_seq ?_
  (refine W_draw (Kp [(bx, blk (flC f) 135)]) (fun _ => false) (by kernel_rfl) H ?_; clear H; intro w8 H)
  refine WA_take 1 rfl rfl rfl (by kernel_rfl) (by kernel_rfl) H.kp (fun _ hC => R_loadA (vs := flC f) Tryz.isAgg135 Tryz.sizeOf135 rfl (hC.get .here) rfl (by simp [flC])) ?_
  refine WA_one (i := 0) (by kernel_rfl) ?_
  (refine WI_call rfl (.inl rfl) (R_call rfl Tryz.call126 rfl) (codec_ret _) (fun _ _ ⟨q, _, hq, H1⟩ _ => (H.seqN H1 (kCons hq kNil)).kp.sub (by simp)) ?_; rintro _ w11 ⟨q, rfl, hq, H1⟩; have hsz := H.size; replace H := H.seqN H1 (kCons hq kNil); replace hq := Nat.le_trans hsz hq; clear H1 hsz)
  refine WA_one (i := 2) (by kernel_rfl) ?_
  (refine WI_call rfl (.inl rfl) (R_call rfl Tryz.call127 rfl) (encM_ret f (H.get .here)) (fun _ _ hR _ => by rcases hR with ⟨_, b, _, hb, H1⟩ | ⟨_, _, H1⟩; exact (H.seqN H1 (kCons hb kNil)).kp.sub (by simp); exact (H.seq0 H1).kp.sub (by simp)) ?_; rintro _ w13 (⟨hok, b, rfl, hb, H1⟩ | ⟨hok, rfl, H1⟩); (have hsz := H.size; replace H := H.seqN H1 (kCons hb kNil); replace hb := Nat.le_trans hsz hb; clear H1 hsz); rotate_left; (replace H := H.seq0 H1; clear H1))
  · refine WA_take 3 rfl rfl rfl (by kernel_rfl) (by kernel_rfl) (H.kp.sub (by simp)) (fun _ hC => R_extract rfl rfl) ?_
    refine WA_take 4 rfl rfl rfl (by kernel_rfl) (by kernel_rfl) (H.kp.sub (by simp)) (fun _ hC => R_extract rfl rfl) ?_
    refine WA_takeM 5 rfl rfl rfl (by kernel_rfl) (by kernel_rfl) (H.kp.sub (by simp)) (fun _ hC => R_as) ?_
    refine WA_takeM 6 rfl rfl rfl (by kernel_rfl) (by kernel_rfl) (H.kp.sub (by simp)) (fun _ hC => R_as) ?_
    refine WA_done (by kernel_rfl) ?_
    refine W_ret ?_
    exact ⟨_, rfl, .inr ⟨hok, rfl, H.none kYs⟩⟩
  · refine WA_take 3 rfl rfl rfl (by kernel_rfl) (by kernel_rfl) (H.kp.sub (by simp)) (fun _ hC => R_extract rfl rfl) ?_
    refine WA_take 4 rfl rfl rfl (by kernel_rfl) (by kernel_rfl) (H.kp.sub (by simp)) (fun _ hC => R_extract rfl rfl) ?_
    refine WA_takeM 5 rfl rfl rfl (by kernel_rfl) (by kernel_rfl) (H.kp.sub (by simp)) (fun _ hC => R_as) ?_
    refine WA_takeM 6 rfl rfl rfl (by kernel_rfl) (by kernel_rfl) (H.kp.sub (by simp)) (fun _ hC => R_as) ?_
    refine WA_done (by kernel_rfl) ?_
    refine W_ret ?_
    exact ⟨_, rfl, .inl ⟨hok, b, rfl, hb, Hp.cut (L := [_]) H kYs⟩⟩
end Go.Proofs.YtlpmfldijgdcoaaGreatDoor.File

/-
  What bytes are: a file, free, or bad.
-/
namespace Go.Proofs.YtlpmfldijgdcoaaGreatDoor.File
open Go Go.Proofs Go.Proofs.YtlpmfldijgdcoaaGreatDoor.Fx Go.Proofs.YtlpmfldijgdcoaaGreatDoor.Codec
set_option maxRecDepth 100000
set_option linter.unusedVariables false
set_option linter.unusedSimpArgs false
set_option maxHeartbeats 8000000

def zeroF : Fl := ⟨0, 0, 0, 0⟩
/-- the file that bytes would be -/
def ofB (xs : List UInt8) : Fl := ⟨(xs[0]?.getD 0).toNat, (xs[1]?.getD 0).toNat, (xs[2]?.getD 0).toNat, (xs[3]?.getD 0).toNat⟩
def good (xs : List UInt8) : Prop := xs.length = 8 ∧ fileOk (ofB xs) ∧ fileBytes (ofB xs) = xs
instance (xs : List UInt8) : Decidable (good xs) := by unfold good; infer_instance
/-- what bytes are -/
def decP (xs : List UInt8) : Fl × Int := if xs.length = 8 ∧ ∀ x ∈ xs, x = 0 then (zeroF, 0) else if good xs then (ofB xs, 1) else (zeroF, 2)

theorem len8 {xs : List UInt8} (h : xs.length = 8) : ∃ a b c d e f g i, xs = [a, b, c, d, e, f, g, i] := by
  match xs, h with
  | [a, b, c, d, e, f, g, i], _ => exact ⟨a, b, c, d, e, f, g, i, rfl⟩

theorem get_ret {xs : List UInt8} {w : World} {l : Value} (hl : RdS w l (xs.map U)) (h8 : xs.length = 8) :
    Ret Tryz.prog 166 #[l] w fun v w' => v = .tuple #[vF (ofB xs), .bool (decide (fileOk (ofB xs) ∧ fileBytes (ofB xs) = xs))] ∧ Hp w [] w' := by
  refine Ret_of_WC (args := [_]) Tryz.func166 rfl Tryz.ntmps166 Tryz.results166 (by simp) ?_
  have H := Hp.refl w
  have hl0 := hl
  obtain ⟨a, b, c, d, e, f, g, i, rfl⟩ := len8 h8
  obtain ⟨ao, ca, rfl⟩ := hl.form
  obtain ⟨bz, oz, rfl, h0⟩ := hl.cell (i := 0) (u := U a) rfl
  obtain ⟨_, _, e1, h1⟩ := hl.cell (i := 1) (u := U b) rfl
  cases e1
  obtain ⟨_, _, e1, h2⟩ := hl.cell (i := 2) (u := U c) rfl
  cases e1
  obtain ⟨_, _, e1, h3⟩ := hl.cell (i := 3) (u := U d) rfl
  cases e1
  have ha := a.toNat_lt
  have hb := b.toNat_lt
  have hc := c.toNat_lt
  have hd := d.toNat_lt
  simp only [List.length_map] at hl hl0 ⊢
  obtain ⟨ff, hff⟩ : ∃ ff : Fl, ff = ofB [a, b, c, d, e, f, g, i] := ⟨_, rfl⟩
  rw [← hff]
  refine W_seq ?_
  refine W_region_l ?_
  (refine WL_effn rfl (E_alloc (vs := flC zeroF) H Tryz.zeroValue135 rfl) ?_; clear H; intro b2 w3 hb2 H)
  refine WL_stepM rfl (R_as) ?_
  refine WL_nil ?_
  refine W_seq ?_
  (refine W_draw (KH w [(b2, blk (flC zeroF) 135)]) (fun _ => false) (by kernel_rfl) H ?_; clear H; intro w7 H)
  refine WA_takeM 0 rfl rfl rfl (by kernel_rfl) (by kernel_rfl) (H.kh (by simp) kYs) (fun _ hC => R_mv) ?_
  refine WA_take 1 rfl rfl rfl (by kernel_rfl) (by kernel_rfl) (H.kh (by simp) kYs) (fun _ hC => R_indexAddr Tryz.underlying36 Tryz.sizeOf5 rfl rfl (by omega) (by omega) idx_cast1) ?_
  refine WA_take 2 rfl rfl rfl (by kernel_rfl) (by kernel_rfl) (H.kh (by simp) kYs) (fun _ hC => R_load_cell Tryz.isAgg5 rfl (hC.old.cell h0 (by simp))) ?_
  refine WA_take 3 rfl rfl rfl (by kernel_rfl) (by kernel_rfl) (H.kh (by simp) kYs) (fun _ hC => R_conv_int Tryz.underlying5 Tryz.underlying3 rfl u8_in_i64) ?_
  refine WA_takeM 4 rfl rfl rfl (by kernel_rfl) (by kernel_rfl) (H.kh (by simp) kYs) (fun _ hC => R_mv) ?_
  refine WA_take 5 rfl rfl rfl (by kernel_rfl) (by kernel_rfl) (H.kh (by simp) kYs) (fun _ hC => R_indexAddr Tryz.underlying36 Tryz.sizeOf5 rfl rfl (by omega) (by omega) idx_cast1) ?_
  refine WA_take 6 rfl rfl rfl (by kernel_rfl) (by kernel_rfl) (H.kh (by simp) kYs) (fun _ hC => R_load_cell Tryz.isAgg5 rfl (hC.old.cell h1 (by simp))) ?_
  refine WA_take 7 rfl rfl rfl (by kernel_rfl) (by kernel_rfl) (H.kh (by simp) kYs) (fun _ hC => R_conv_int Tryz.underlying5 Tryz.underlying3 rfl u8_in_i64) ?_
  refine WA_takeM 8 rfl rfl rfl (by kernel_rfl) (by kernel_rfl) (H.kh (by simp) kYs) (fun _ hC => R_mv) ?_
  refine WA_take 9 rfl rfl rfl (by kernel_rfl) (by kernel_rfl) (H.kh (by simp) kYs) (fun _ hC => R_indexAddr Tryz.underlying36 Tryz.sizeOf5 rfl rfl (by omega) (by omega) idx_cast1) ?_
  refine WA_take 10 rfl rfl rfl (by kernel_rfl) (by kernel_rfl) (H.kh (by simp) kYs) (fun _ hC => R_load_cell Tryz.isAgg5 rfl (hC.old.cell h2 (by simp))) ?_
  refine WA_take 11 rfl rfl rfl (by kernel_rfl) (by kernel_rfl) (H.kh (by simp) kYs) (fun _ hC => R_conv_int Tryz.underlying5 Tryz.underlying3 rfl u8_in_i64) ?_
  refine WA_takeM 12 rfl rfl rfl (by kernel_rfl) (by kernel_rfl) (H.kh (by simp) kYs) (fun _ hC => R_mv) ?_
  refine WA_take 13 rfl rfl rfl (by kernel_rfl) (by kernel_rfl) (H.kh (by simp) kYs) (fun _ hC => R_indexAddr Tryz.underlying36 Tryz.sizeOf5 rfl rfl (by omega) (by omega) idx_cast1) ?_
  refine WA_take 14 rfl rfl rfl (by kernel_rfl) (by kernel_rfl) (H.kh (by simp) kYs) (fun _ hC => R_load_cell Tryz.isAgg5 rfl (hC.old.cell h3 (by simp))) ?_
  refine WA_take 15 rfl rfl rfl (by kernel_rfl) (by kernel_rfl) (H.kh (by simp) kYs) (fun _ hC => R_conv_int Tryz.underlying5 Tryz.underlying3 rfl u8_in_i64) ?_
  refine WA_take 16 rfl rfl rfl (by kernel_rfl) (by kernel_rfl) (H.kh (by simp) kYs) (fun _ hC => R_buildL (places := [(0, 1), (1, 1), (2, 1), (3, 1)]) (vs := [(.int _ _), (.int _ _), (.int _ _), (.int _ _)]) Tryz.underlying135 Tryz.typeInfo135 rfl rfl (by kernel_rfl) rfl rfl rfl) ?_
  refine WA_one (i := 17) (by kernel_rfl) ?_
  (refine WI_effnA rfl (.inl rfl) (E_alloc (vs := flC zeroF) H Tryz.zeroValue135 rfl) (fun _ _ _ H => (by first | exact fun h => absurd h (by decide) | exact fun _ => H | exact fun _ => H.none kYs | exact fun _ => H.dropN kYs | exact fun _ => H.pop (by assumption) | exact fun _ => (H.pop (by assumption)).pop (by assumption) | exact fun _ => H.kp | exact fun _ => H.kp.tail | exact fun _ => H.kp.tail.tail | exact fun _ => H.kp.tail.tail.tail | exact fun _ => H.kp.sub (by simp) | exact fun _ => Kp.nil | exact fun _ => H.kh (by simp) kYs)) ?_; clear H; intro b4 w26 hb4 H)
  refine WA_one (i := 18) (by kernel_rfl) ?_
  (refine WI_effu rfl (.inl rfl) (E_storeA (vs := flC (ofB [a, b, c, d, e, f, g, i])) H Tryz.sizeOf135 rfl rfl (by simp [flC, Value.oneCell']) .here (by simp [flC])) (fun _ H => (by first | exact fun h => absurd h (by decide) | exact fun _ => H | exact fun _ => H.none kYs | exact fun _ => H.dropN kYs | exact fun _ => H.pop (by assumption) | exact fun _ => (H.pop (by assumption)).pop (by assumption) | exact fun _ => H.kp | exact fun _ => H.kp.tail | exact fun _ => H.kp.tail.tail | exact fun _ => H.kp.tail.tail.tail | exact fun _ => H.kp.sub (by simp) | exact fun _ => Kp.nil | exact fun _ => H.kh (by simp) kYs)) ?_; clear H; intro w28 H; rw [← hff] at H; replace H : Hp w [(b4, blk (flC ff) 135), (b2, blk (flC zeroF) 135)] w28 := H)
  refine WA_done (by kernel_rfl) ?_
  refine W_seq ?_
  refine W_region_l ?_
  refine WL_step rfl (R_loadA (vs := flC ff) Tryz.isAgg135 Tryz.sizeOf135 rfl (H.get .here) rfl (by simp [flC])) ?_
  (refine WL_call rfl (R_call rfl Tryz.call88 rfl) (enc_ret ff _) ?_; rintro _ w33 (⟨hok, b9, rfl, hb9, H1⟩ | ⟨hok, rfl, H1⟩); (have hsz := H.size; replace H := H.seqN H1 (kCons hb9 kNil); replace hb9 := Nat.le_trans hsz hb9; clear H1 hsz); rotate_left; (replace H := H.seq0 H1; clear H1))
  · refine WL_stepM rfl (R_mv) ?_
    refine WL_step rfl (R_extract rfl rfl) ?_
    refine WL_step rfl (R_extract rfl rfl) ?_
    refine WL_stepM rfl (R_as) ?_
    refine WL_stepM rfl (R_as) ?_
    refine WL_nil ?_
    refine W_seq ?_
    (refine W_draw (KH w [(b4, blk (flC ff) 135)]) (fun _ => false) (by kernel_rfl) H ?_; clear H; intro w41 H)
    refine WA_take 0 rfl rfl rfl (by kernel_rfl) (by kernel_rfl) (H.kh (by simp) kYs) (fun _ hC => R_loadA (vs := flC ff) Tryz.isAgg135 Tryz.sizeOf135 rfl (hC.get .here) rfl (by simp [flC])) ?_
    refine WA_takeM 1 rfl rfl rfl (by kernel_rfl) (by kernel_rfl) (H.kh (by simp) kYs) (fun _ hC => R_mv) ?_
    refine WA_takeM 2 rfl rfl rfl (by kernel_rfl) (by kernel_rfl) (H.kh (by simp) kYs) (fun _ hC => R_mv) ?_
    refine WA_pass 3 rfl rfl rfl (fun h => nomatch h) (by kernel_rfl) (by kernel_rfl) (H.kh (by simp) kYs) ?_
    refine WA_pass 4 rfl rfl rfl (fun h => nomatch h) (by kernel_rfl) (by kernel_rfl) (H.kh (by simp) kYs) ?_
    refine WA_pass 5 rfl rfl rfl (fun h => nomatch h) (by kernel_rfl) (by kernel_rfl) (H.kh (by simp) kYs) ?_
    refine WA_takeM 6 rfl rfl rfl (by kernel_rfl) (by kernel_rfl) (H.kh (by simp) kYs) (fun _ hC => R_pk_f rfl) ?_
    refine WA_one (i := 7) (by kernel_rfl) ?_
    (refine WI_effu rfl (.inl rfl) (E_storeA (vs := flC ff) H Tryz.sizeOf135 rfl rfl (by simp [flC, Value.oneCell']) (.there .here) (by simp [flC])) (fun _ H => (by first | exact fun h => absurd h (by decide) | exact fun _ => H | exact fun _ => H.none kYs | exact fun _ => H.dropN kYs | exact fun _ => H.pop (by assumption) | exact fun _ => (H.pop (by assumption)).pop (by assumption) | exact fun _ => H.kp | exact fun _ => H.kp.tail | exact fun _ => H.kp.tail.tail | exact fun _ => H.kp.tail.tail.tail | exact fun _ => H.kp.sub (by simp) | exact fun _ => Kp.nil | exact fun _ => H.kh (by simp) kYs)) ?_; clear H; intro w50 H)
    refine WA_takeM 8 rfl rfl rfl (by kernel_rfl) (by kernel_rfl) (H.kh (by simp) kYs) (fun _ hC => R_as) ?_
    refine WA_done (by kernel_rfl) ?_
    refine W_ret ?_
    exact ⟨_, ⟨_, _, rfl, ldA (vs := flC ff) Tryz.isAgg135 Tryz.sizeOf135 (H.get (.there .here)) rfl (by simp [flC]), rfl⟩, congrArg (fun b => Value.tuple #[vF ff, .bool b]) (decide_eq_false (fun h => hok h.1)).symm, H.none kYs⟩
  · refine WL_stepM rfl (R_mv) ?_
    refine WL_step rfl (R_extract rfl rfl) ?_
    refine WL_step rfl (R_extract rfl rfl) ?_
    refine WL_stepM rfl (R_as) ?_
    refine WL_stepM rfl (R_as) ?_
    refine WL_nil ?_
    refine W_seq ?_
    (refine W_draw (KH w [(b9, blk ((fileBytes ff).map U) 5), (b4, blk (flC ff) 135)]) (fun _ => false) (by kernel_rfl) H ?_; clear H; intro w62 H)
    refine WA_take 0 rfl rfl rfl (by kernel_rfl) (by kernel_rfl) (H.kh (by simp) kYs) (fun _ hC => R_loadA (vs := flC ff) Tryz.isAgg135 Tryz.sizeOf135 rfl (hC.get (.there .here)) rfl (by simp [flC])) ?_
    refine WA_takeM 1 rfl rfl rfl (by kernel_rfl) (by kernel_rfl) (H.kh (by simp) kYs) (fun _ hC => R_mv) ?_
    refine WA_takeM 2 rfl rfl rfl (by kernel_rfl) (by kernel_rfl) (H.kh (by simp) kYs) (fun _ hC => R_mv) ?_
    refine WA_takeGM 3 rfl rfl rfl rfl (by kernel_rfl) (by kernel_rfl) (H.kh (by simp) kYs) (fun _ hC => R_mv) ?_
    refine WA_takeGM 4 rfl rfl rfl rfl (by kernel_rfl) (by kernel_rfl) (H.kh (by simp) kYs) (fun _ hC => R_mv) ?_
    refine WA_one (i := 5) (by kernel_rfl) ?_
    (refine WI_call rfl (.inr ⟨_, _, rfl, rfl⟩) (R_call rfl Tryz.call197 rfl) (equal_ret (xs := fileBytes ff) (ys := [a, b, c, d, e, f, g, i]) (RdS.blk (c := (fileBytes ff).map U) (off := 0) (H.get .here) rfl (by simp [fileBytes, fb5]) (by simp)) (hl0.monoN H kYs) (by simp [fileBytes, fb5]) (by simp)) (fun _ _ hR _ => (H.seq0 hR.2).kh (by simp) kYs) ?_; rintro _ w69 ⟨rfl, H1⟩; replace H := H.seq0 H1; clear H1)
    refine WA_takeM 6 rfl rfl rfl (by kernel_rfl) (by kernel_rfl) (H.kh (by simp) kYs) (fun _ hC => R_pk_t rfl) ?_
    refine WA_one (i := 7) (by kernel_rfl) ?_
    (refine WI_effu rfl (.inl rfl) (E_storeA (vs := flC ff) H Tryz.sizeOf135 rfl rfl (by simp [flC, Value.oneCell']) (.there (.there .here)) (by simp [flC])) (fun _ H => (by first | exact fun h => absurd h (by decide) | exact fun _ => H | exact fun _ => H.none kYs | exact fun _ => H.dropN kYs | exact fun _ => H.pop (by assumption) | exact fun _ => (H.pop (by assumption)).pop (by assumption) | exact fun _ => H.kp | exact fun _ => H.kp.tail | exact fun _ => H.kp.tail.tail | exact fun _ => H.kp.tail.tail.tail | exact fun _ => H.kp.sub (by simp) | exact fun _ => Kp.nil | exact fun _ => H.kh (by simp) kYs)) ?_; clear H; intro w72 H)
    refine WA_takeM 8 rfl rfl rfl (by kernel_rfl) (by kernel_rfl) (H.kh (by simp) kYs) (fun _ hC => R_as) ?_
    refine WA_done (by kernel_rfl) ?_
    refine W_ret ?_
    exact ⟨_, ⟨_, _, rfl, ldA (vs := flC ff) Tryz.isAgg135 Tryz.sizeOf135 (H.get (.there (.there .here))) rfl (by simp [flC]), rfl⟩, congrArg (fun b => Value.tuple #[vF ff, .bool b]) (decide_eq_decide.2 ⟨fun h => ⟨hok, h⟩, fun h => h.2⟩), H.none kYs⟩

/-- what a call yields, as two ways -/
theorem decM_ret {xs : List UInt8} {q : Nat} {w : World} {l : Value} (hq : w.heap[q]? = some cod) (hl : RdS w l (xs.map U)) (hb : xs.length ≤ 100000) :
    Ret Tryz.prog 190 #[ptr q 0, l] w fun v w' => ((good xs ∧ v = .tuple #[vF (ofB xs), .bool true]) ∨ (¬ good xs ∧ v = .tuple #[vF zeroF, .bool false])) ∧ Hp w [] w' := by
  refine Ret_of_WC (args := [_, _]) Tryz.func190 rfl Tryz.ntmps190 Tryz.results190 (by simp) ?_
  have H := Hp.refl w
  obtain ⟨ao, ca, rfl⟩ := hl.form
  simp only [List.length_map] at hl ⊢
  by_cases h8 : xs.length = 8
  · by_cases hg : good xs
    · refine W_seq ?_
      refine W_region_l ?_
      (refine WL_effn rfl (E_alloc (vs := flC zeroF) H Tryz.zeroValue135 rfl) ?_; clear H; intro b4 w3 hb4 H)
      refine WL_stepM rfl (R_as) ?_
      refine WL_nil ?_
      refine W_seq ?_
      refine W_region_l ?_
      (refine WL_effn rfl (E_alloc (vs := flC zeroF) H Tryz.zeroValue135 rfl) ?_; clear H; intro b6 w8 hb6 H)
      refine WL_nil ?_
      refine W_seq ?_
      refine W_seq ?_
      refine W_region_l ?_
      refine WL_stepM rfl (R_mv) ?_
      refine WL_step rfl (R_nilCheck rfl) ?_
      refine WL_step rfl (R_fieldAddr (off' := 2) Tryz.underlying266 rfl Tryz.sizeOf264 (by decide) rfl rfl) ?_
      refine WL_step rfl (R_load Tryz.isAgg264 rfl (H.blockN hq kYs) rfl) ?_
      refine WL_step rfl (R_eq_fn Tryz.underlying264 rfl rfl) ?_
      refine WL_stepM rfl (R_mv) ?_
      refine WL_guard_t rfl rfl ?_
      refine WL_stepM rfl (R_mv) ?_
      refine WL_guard_t rfl rfl ?_
      refine WL_step rfl (R_len_slice Tryz.underlying36 rfl) ?_
      refine WL_guard_t rfl rfl ?_
      refine WL_stepM rfl (R_mv) ?_
      refine WL_guard_t rfl rfl ?_
      refine WL_step rfl (R_nilCheck rfl) ?_
      refine WL_guard_t rfl rfl ?_
      refine WL_step rfl (R_fieldAddr (off' := 0) Tryz.underlying266 rfl Tryz.sizeOf3 (by decide) rfl rfl) ?_
      refine WL_guard_t rfl rfl ?_
      refine WL_step rfl (R_load Tryz.isAgg3 rfl (H.blockN hq kYs) rfl) ?_
      refine WL_guard_t rfl rfl ?_
      refine WL_step rfl (R_ne_f rfl rfl (by omega)) ?_
      refine WL_stepM rfl (R_pk_f rfl) ?_
      refine WL_nil ?_
      refine W_cond_f rfl ?_
      refine W_skip ?_
      refine W_seq ?_
      (refine W_draw (KH w []) (fun _ => false) (by kernel_rfl) H ?_; clear H; intro w38 H)
      refine WA_takeM 0 rfl rfl rfl (by kernel_rfl) (by kernel_rfl) (H.kh (by simp) kYs) (fun _ hC => R_mv) ?_
      refine WA_take 1 rfl rfl rfl (by kernel_rfl) (by kernel_rfl) (H.kh (by simp) kYs) (fun _ hC => R_nilCheck rfl) ?_
      refine WA_take 2 rfl rfl rfl (by kernel_rfl) (by kernel_rfl) (H.kh (by simp) kYs) (fun _ hC => R_fieldAddr (off' := 2) Tryz.underlying266 rfl Tryz.sizeOf264 (by decide) rfl rfl) ?_
      refine WA_take 3 rfl rfl rfl (by kernel_rfl) (by kernel_rfl) (H.kh (by simp) kYs) (fun _ hC => R_load Tryz.isAgg264 rfl (hC.old.block hq (by simp)) rfl) ?_
      refine WA_takeM 4 rfl rfl rfl (by kernel_rfl) (by kernel_rfl) (H.kh (by simp) kYs) (fun _ hC => R_mv) ?_
      refine WA_two (i := 5) (j := 10) (by kernel_rfl) ?_ ?_
      · (refine WI_call rfl (.inl rfl) (R_call rfl Tryz.call65 rfl) (clone_ret (xs := xs) (hl.monoN H kYs) (by omega)) (fun _ _ ⟨M, hO, H1⟩ _ => ((H.seqO hO H1).2).kh (by simp) (kApp (H.seqO hO H1).1.keys kYs)) ?_; rintro u w45 ⟨M, hO, H1⟩; have h45 := H.seqO hO H1; clear H H1 hO; obtain ⟨hO, H⟩ := h45; have hMk := hO.keys; obtain ⟨a5, c5, rfl⟩ := hO.form)
        refine WA_two (i := 6) (j := 10) (by kernel_rfl) ?_ ?_
        · (refine WI_call rfl (.inl rfl) (R_call rfl Tryz.call166 rfl) (get_ret (xs := xs) (RdS.own hO (fun p hp => H.held p (by simp [hp]))) h8) (fun _ _ hR _ => (H.seq0 hR.2).kh (by simp) kYs) ?_; rintro v w47 ⟨hv, H1⟩; rw [decide_eq_true hg.2] at hv; subst hv; replace H := H.seq0 H1; clear H1)
          refine WA_takeM 7 rfl rfl rfl (by kernel_rfl) (by kernel_rfl) (H.kh (by simp) kYs) (fun _ hC => R_mv) ?_
          refine WA_take 8 rfl rfl rfl (by kernel_rfl) (by kernel_rfl) (H.kh (by simp) kYs) (fun _ hC => R_extract rfl rfl) ?_
          refine WA_take 9 rfl rfl rfl (by kernel_rfl) (by kernel_rfl) (H.kh (by simp) kYs) (fun _ hC => R_extract rfl rfl) ?_
          refine WA_one (i := 10) (by kernel_rfl) ?_
          (refine WI_effnA rfl (.inl rfl) (E_alloc (vs := flC zeroF) H Tryz.zeroValue135 rfl) (fun _ _ _ H => (by first | exact fun h => absurd h (by decide) | exact fun _ => H | exact fun _ => H.none kYs | exact fun _ => H.dropN kYs | exact fun _ => H.pop (by assumption) | exact fun _ => (H.pop (by assumption)).pop (by assumption) | exact fun _ => H.kp | exact fun _ => H.kp.tail | exact fun _ => H.kp.tail.tail | exact fun _ => H.kp.tail.tail.tail | exact fun _ => H.kp.sub (by simp) | exact fun _ => Kp.nil | exact fun _ => H.kh (by simp) kYs)) ?_; clear H; intro b7 w52 hb7 H)
          refine WA_one (i := 11) (by kernel_rfl) ?_
          (refine WI_effu rfl (.inl rfl) (E_storeA (vs := flC (ofB xs)) H Tryz.sizeOf135 rfl rfl (by simp [flC, Value.oneCell']) .here (by simp [flC])) (fun _ H => (by first | exact fun h => absurd h (by decide) | exact fun _ => H | exact fun _ => H.none kYs | exact fun _ => H.dropN kYs | exact fun _ => H.pop (by assumption) | exact fun _ => (H.pop (by assumption)).pop (by assumption) | exact fun _ => H.kp | exact fun _ => H.kp.tail | exact fun _ => H.kp.tail.tail | exact fun _ => H.kp.tail.tail.tail | exact fun _ => H.kp.sub (by simp) | exact fun _ => Kp.nil | exact fun _ => H.kh (by simp) kYs)) ?_; clear H; intro w54 H; replace H := Hp.dropMid (A := [_]) H hMk)
          refine WA_takeM 12 rfl rfl rfl (by kernel_rfl) (by kernel_rfl) (H.kh (by simp) kYs) (fun _ hC => R_as) ?_
          refine WA_done (by kernel_rfl) ?_
          refine W_seq ?_
          refine W_seq ?_
          refine W_region_l ?_
          refine WL_stepM rfl (R_mv) ?_
          refine WL_step rfl (R_not_t rfl) ?_
          refine WL_nil ?_
          refine W_cond_f rfl ?_
          refine W_skip ?_
          refine W_seq ?_
          refine W_region_l ?_
          refine WL_step rfl (R_loadA (vs := flC (ofB xs)) Tryz.isAgg135 Tryz.sizeOf135 rfl (H.get .here) rfl (by simp [flC])) ?_
          (refine WL_effu rfl (E_storeA (vs := flC (ofB xs)) H Tryz.sizeOf135 rfl rfl (by simp [flC, Value.oneCell']) (.there (.there .here)) (by simp [flC])) ?_; clear H; intro w68 H)
          refine WL_stepM rfl (R_as) ?_
          refine WL_nil ?_
          refine W_ret ?_
          exact ⟨_, ⟨_, _, rfl, ldA (vs := flC (ofB xs)) Tryz.isAgg135 Tryz.sizeOf135 (H.get (.there (.there .here))) rfl (by simp [flC]), rfl⟩, .inl ⟨hg, rfl⟩, H.none kYs⟩
        · (refine WI_effnA rfl (.inl rfl) (E_alloc (vs := flC zeroF) H Tryz.zeroValue135 rfl) (fun _ _ _ H => (by first | exact fun h => absurd h (by decide) | exact fun _ => H | exact fun _ => H.none kYs | exact fun _ => H.dropN kYs | exact fun _ => H.pop (by assumption) | exact fun _ => (H.pop (by assumption)).pop (by assumption) | exact fun _ => H.kp | exact fun _ => H.kp.tail | exact fun _ => H.kp.tail.tail | exact fun _ => H.kp.tail.tail.tail | exact fun _ => H.kp.sub (by simp) | exact fun _ => Kp.nil | exact fun _ => H.kh (by simp) kYs)) ?_; clear H; intro b7 w73 hb7 H)
          refine WA_one (i := 6) (by kernel_rfl) ?_
          (refine WI_call rfl (.inl rfl) (R_call rfl Tryz.call166 rfl) (get_ret (xs := xs) (RdS.own hO (fun p hp => H.held p (by simp [hp]))) h8) (fun _ _ hR _ => (H.seq0 hR.2).kh (by simp) kYs) ?_; rintro v w75 ⟨hv, H1⟩; rw [decide_eq_true hg.2] at hv; subst hv; replace H := H.seq0 H1; clear H1)
          refine WA_takeM 7 rfl rfl rfl (by kernel_rfl) (by kernel_rfl) (H.kh (by simp) kYs) (fun _ hC => R_mv) ?_
          refine WA_take 8 rfl rfl rfl (by kernel_rfl) (by kernel_rfl) (H.kh (by simp) kYs) (fun _ hC => R_extract rfl rfl) ?_
          refine WA_take 9 rfl rfl rfl (by kernel_rfl) (by kernel_rfl) (H.kh (by simp) kYs) (fun _ hC => R_extract rfl rfl) ?_
          refine WA_one (i := 11) (by kernel_rfl) ?_
          (refine WI_effu rfl (.inl rfl) (E_storeA (vs := flC (ofB xs)) H Tryz.sizeOf135 rfl rfl (by simp [flC, Value.oneCell']) .here (by simp [flC])) (fun _ H => (by first | exact fun h => absurd h (by decide) | exact fun _ => H | exact fun _ => H.none kYs | exact fun _ => H.dropN kYs | exact fun _ => H.pop (by assumption) | exact fun _ => (H.pop (by assumption)).pop (by assumption) | exact fun _ => H.kp | exact fun _ => H.kp.tail | exact fun _ => H.kp.tail.tail | exact fun _ => H.kp.tail.tail.tail | exact fun _ => H.kp.sub (by simp) | exact fun _ => Kp.nil | exact fun _ => H.kh (by simp) kYs)) ?_; clear H; intro w80 H; replace H := Hp.dropMid (A := [_]) H hMk)
          refine WA_takeM 12 rfl rfl rfl (by kernel_rfl) (by kernel_rfl) (H.kh (by simp) kYs) (fun _ hC => R_as) ?_
          refine WA_done (by kernel_rfl) ?_
          refine W_seq ?_
          refine W_seq ?_
          refine W_region_l ?_
          refine WL_stepM rfl (R_mv) ?_
          refine WL_step rfl (R_not_t rfl) ?_
          refine WL_nil ?_
          refine W_cond_f rfl ?_
          refine W_skip ?_
          refine W_seq ?_
          refine W_region_l ?_
          refine WL_step rfl (R_loadA (vs := flC (ofB xs)) Tryz.isAgg135 Tryz.sizeOf135 rfl (H.get .here) rfl (by simp [flC])) ?_
          (refine WL_effu rfl (E_storeA (vs := flC (ofB xs)) H Tryz.sizeOf135 rfl rfl (by simp [flC, Value.oneCell']) (.there (.there .here)) (by simp [flC])) ?_; clear H; intro w94 H)
          refine WL_stepM rfl (R_as) ?_
          refine WL_nil ?_
          refine W_ret ?_
          exact ⟨_, ⟨_, _, rfl, ldA (vs := flC (ofB xs)) Tryz.isAgg135 Tryz.sizeOf135 (H.get (.there (.there .here))) rfl (by simp [flC]), rfl⟩, .inl ⟨hg, rfl⟩, H.none kYs⟩
      · (refine WI_effnA rfl (.inl rfl) (E_alloc (vs := flC zeroF) H Tryz.zeroValue135 rfl) (fun _ _ _ H => (by first | exact fun h => absurd h (by decide) | exact fun _ => H | exact fun _ => H.none kYs | exact fun _ => H.dropN kYs | exact fun _ => H.pop (by assumption) | exact fun _ => (H.pop (by assumption)).pop (by assumption) | exact fun _ => H.kp | exact fun _ => H.kp.tail | exact fun _ => H.kp.tail.tail | exact fun _ => H.kp.tail.tail.tail | exact fun _ => H.kp.sub (by simp) | exact fun _ => Kp.nil | exact fun _ => H.kh (by simp) kYs)) ?_; clear H; intro b7 w99 hb7 H)
        refine WA_one (i := 5) (by kernel_rfl) ?_
        (refine WI_call rfl (.inl rfl) (R_call rfl Tryz.call65 rfl) (clone_ret (xs := xs) (hl.monoN H kYs) (by omega)) (fun _ _ ⟨M, hO, H1⟩ _ => ((H.seqO hO H1).2).kh (by simp) (kApp (H.seqO hO H1).1.keys kYs)) ?_; rintro u w101 ⟨M, hO, H1⟩; have h101 := H.seqO hO H1; clear H H1 hO; obtain ⟨hO, H⟩ := h101; have hMk := hO.keys; obtain ⟨a5, c5, rfl⟩ := hO.form)
        refine WA_one (i := 6) (by kernel_rfl) ?_
        (refine WI_call rfl (.inl rfl) (R_call rfl Tryz.call166 rfl) (get_ret (xs := xs) (RdS.own hO (fun p hp => H.held p (by simp [hp]))) h8) (fun _ _ hR _ => (H.seq0 hR.2).kh (by simp) kYs) ?_; rintro v w103 ⟨hv, H1⟩; rw [decide_eq_true hg.2] at hv; subst hv; replace H := H.seq0 H1; clear H1)
        refine WA_takeM 7 rfl rfl rfl (by kernel_rfl) (by kernel_rfl) (H.kh (by simp) kYs) (fun _ hC => R_mv) ?_
        refine WA_take 8 rfl rfl rfl (by kernel_rfl) (by kernel_rfl) (H.kh (by simp) kYs) (fun _ hC => R_extract rfl rfl) ?_
        refine WA_take 9 rfl rfl rfl (by kernel_rfl) (by kernel_rfl) (H.kh (by simp) kYs) (fun _ hC => R_extract rfl rfl) ?_
        refine WA_one (i := 11) (by kernel_rfl) ?_
        (refine WI_effu rfl (.inl rfl) (E_storeA (vs := flC (ofB xs)) H Tryz.sizeOf135 rfl rfl (by simp [flC, Value.oneCell']) (.app _ .here) (by simp [flC])) (fun _ H => (by first | exact fun h => absurd h (by decide) | exact fun _ => H | exact fun _ => H.none kYs | exact fun _ => H.dropN kYs | exact fun _ => H.pop (by assumption) | exact fun _ => (H.pop (by assumption)).pop (by assumption) | exact fun _ => H.kp | exact fun _ => H.kp.tail | exact fun _ => H.kp.tail.tail | exact fun _ => H.kp.tail.tail.tail | exact fun _ => H.kp.sub (by simp) | exact fun _ => Kp.nil | exact fun _ => H.kh (by simp) kYs)) ?_; clear H; intro w108 H; replace H := Hp.dropN H hMk)
        refine WA_takeM 12 rfl rfl rfl (by kernel_rfl) (by kernel_rfl) (H.kh (by simp) kYs) (fun _ hC => R_as) ?_
        refine WA_done (by kernel_rfl) ?_
        refine W_seq ?_
        refine W_seq ?_
        refine W_region_l ?_
        refine WL_stepM rfl (R_mv) ?_
        refine WL_step rfl (R_not_t rfl) ?_
        refine WL_nil ?_
        refine W_cond_f rfl ?_
        refine W_skip ?_
        refine W_seq ?_
        refine W_region_l ?_
        refine WL_step rfl (R_loadA (vs := flC (ofB xs)) Tryz.isAgg135 Tryz.sizeOf135 rfl (H.get .here) rfl (by simp [flC])) ?_
        (refine WL_effu rfl (E_storeA (vs := flC (ofB xs)) H Tryz.sizeOf135 rfl rfl (by simp [flC, Value.oneCell']) (.there (.there .here)) (by simp [flC])) ?_; clear H; intro w122 H)
        refine WL_stepM rfl (R_as) ?_
        refine WL_nil ?_
        refine W_ret ?_
        exact ⟨_, ⟨_, _, rfl, ldA (vs := flC (ofB xs)) Tryz.isAgg135 Tryz.sizeOf135 (H.get (.there (.there .here))) rfl (by simp [flC]), rfl⟩, .inl ⟨hg, rfl⟩, H.none kYs⟩
    · refine W_seq ?_
      refine W_region_l ?_
      (refine WL_effn rfl (E_alloc (vs := flC zeroF) H Tryz.zeroValue135 rfl) ?_; clear H; intro b4 w3 hb4 H)
      refine WL_stepM rfl (R_as) ?_
      refine WL_nil ?_
      refine W_seq ?_
      refine W_region_l ?_
      (refine WL_effn rfl (E_alloc (vs := flC zeroF) H Tryz.zeroValue135 rfl) ?_; clear H; intro b6 w8 hb6 H)
      refine WL_nil ?_
      refine W_seq ?_
      refine W_seq ?_
      refine W_region_l ?_
      refine WL_stepM rfl (R_mv) ?_
      refine WL_step rfl (R_nilCheck rfl) ?_
      refine WL_step rfl (R_fieldAddr (off' := 2) Tryz.underlying266 rfl Tryz.sizeOf264 (by decide) rfl rfl) ?_
      refine WL_step rfl (R_load Tryz.isAgg264 rfl (H.blockN hq kYs) rfl) ?_
      refine WL_step rfl (R_eq_fn Tryz.underlying264 rfl rfl) ?_
      refine WL_stepM rfl (R_mv) ?_
      refine WL_guard_t rfl rfl ?_
      refine WL_stepM rfl (R_mv) ?_
      refine WL_guard_t rfl rfl ?_
      refine WL_step rfl (R_len_slice Tryz.underlying36 rfl) ?_
      refine WL_guard_t rfl rfl ?_
      refine WL_stepM rfl (R_mv) ?_
      refine WL_guard_t rfl rfl ?_
      refine WL_step rfl (R_nilCheck rfl) ?_
      refine WL_guard_t rfl rfl ?_
      refine WL_step rfl (R_fieldAddr (off' := 0) Tryz.underlying266 rfl Tryz.sizeOf3 (by decide) rfl rfl) ?_
      refine WL_guard_t rfl rfl ?_
      refine WL_step rfl (R_load Tryz.isAgg3 rfl (H.blockN hq kYs) rfl) ?_
      refine WL_guard_t rfl rfl ?_
      refine WL_step rfl (R_ne_f rfl rfl (by omega)) ?_
      refine WL_stepM rfl (R_pk_f rfl) ?_
      refine WL_nil ?_
      refine W_cond_f rfl ?_
      refine W_skip ?_
      refine W_seq ?_
      (refine W_draw (KH w []) (fun _ => false) (by kernel_rfl) H ?_; clear H; intro w38 H)
      refine WA_takeM 0 rfl rfl rfl (by kernel_rfl) (by kernel_rfl) (H.kh (by simp) kYs) (fun _ hC => R_mv) ?_
      refine WA_take 1 rfl rfl rfl (by kernel_rfl) (by kernel_rfl) (H.kh (by simp) kYs) (fun _ hC => R_nilCheck rfl) ?_
      refine WA_take 2 rfl rfl rfl (by kernel_rfl) (by kernel_rfl) (H.kh (by simp) kYs) (fun _ hC => R_fieldAddr (off' := 2) Tryz.underlying266 rfl Tryz.sizeOf264 (by decide) rfl rfl) ?_
      refine WA_take 3 rfl rfl rfl (by kernel_rfl) (by kernel_rfl) (H.kh (by simp) kYs) (fun _ hC => R_load Tryz.isAgg264 rfl (hC.old.block hq (by simp)) rfl) ?_
      refine WA_takeM 4 rfl rfl rfl (by kernel_rfl) (by kernel_rfl) (H.kh (by simp) kYs) (fun _ hC => R_mv) ?_
      refine WA_two (i := 5) (j := 10) (by kernel_rfl) ?_ ?_
      · (refine WI_call rfl (.inl rfl) (R_call rfl Tryz.call65 rfl) (clone_ret (xs := xs) (hl.monoN H kYs) (by omega)) (fun _ _ ⟨M, hO, H1⟩ _ => ((H.seqO hO H1).2).kh (by simp) (kApp (H.seqO hO H1).1.keys kYs)) ?_; rintro u w45 ⟨M, hO, H1⟩; have h45 := H.seqO hO H1; clear H H1 hO; obtain ⟨hO, H⟩ := h45; have hMk := hO.keys; obtain ⟨a5, c5, rfl⟩ := hO.form)
        refine WA_two (i := 6) (j := 10) (by kernel_rfl) ?_ ?_
        · (refine WI_call rfl (.inl rfl) (R_call rfl Tryz.call166 rfl) (get_ret (xs := xs) (RdS.own hO (fun p hp => H.held p (by simp [hp]))) h8) (fun _ _ hR _ => (H.seq0 hR.2).kh (by simp) kYs) ?_; rintro v w47 ⟨hv, H1⟩; rw [decide_eq_false (fun h => hg ⟨h8, h⟩)] at hv; subst hv; replace H := H.seq0 H1; clear H1)
          refine WA_takeM 7 rfl rfl rfl (by kernel_rfl) (by kernel_rfl) (H.kh (by simp) kYs) (fun _ hC => R_mv) ?_
          refine WA_take 8 rfl rfl rfl (by kernel_rfl) (by kernel_rfl) (H.kh (by simp) kYs) (fun _ hC => R_extract rfl rfl) ?_
          refine WA_take 9 rfl rfl rfl (by kernel_rfl) (by kernel_rfl) (H.kh (by simp) kYs) (fun _ hC => R_extract rfl rfl) ?_
          refine WA_one (i := 10) (by kernel_rfl) ?_
          (refine WI_effnA rfl (.inl rfl) (E_alloc (vs := flC zeroF) H Tryz.zeroValue135 rfl) (fun _ _ _ H => (by first | exact fun h => absurd h (by decide) | exact fun _ => H | exact fun _ => H.none kYs | exact fun _ => H.dropN kYs | exact fun _ => H.pop (by assumption) | exact fun _ => (H.pop (by assumption)).pop (by assumption) | exact fun _ => H.kp | exact fun _ => H.kp.tail | exact fun _ => H.kp.tail.tail | exact fun _ => H.kp.tail.tail.tail | exact fun _ => H.kp.sub (by simp) | exact fun _ => Kp.nil | exact fun _ => H.kh (by simp) kYs)) ?_; clear H; intro b7 w52 hb7 H)
          refine WA_one (i := 11) (by kernel_rfl) ?_
          (refine WI_effu rfl (.inl rfl) (E_storeA (vs := flC (ofB xs)) H Tryz.sizeOf135 rfl rfl (by simp [flC, Value.oneCell']) .here (by simp [flC])) (fun _ H => (by first | exact fun h => absurd h (by decide) | exact fun _ => H | exact fun _ => H.none kYs | exact fun _ => H.dropN kYs | exact fun _ => H.pop (by assumption) | exact fun _ => (H.pop (by assumption)).pop (by assumption) | exact fun _ => H.kp | exact fun _ => H.kp.tail | exact fun _ => H.kp.tail.tail | exact fun _ => H.kp.tail.tail.tail | exact fun _ => H.kp.sub (by simp) | exact fun _ => Kp.nil | exact fun _ => H.kh (by simp) kYs)) ?_; clear H; intro w54 H; replace H := Hp.dropMid (A := [_]) H hMk)
          refine WA_takeM 12 rfl rfl rfl (by kernel_rfl) (by kernel_rfl) (H.kh (by simp) kYs) (fun _ hC => R_as) ?_
          refine WA_done (by kernel_rfl) ?_
          refine W_seq ?_
          refine W_seq ?_
          refine W_region_l ?_
          refine WL_stepM rfl (R_mv) ?_
          refine WL_step rfl (R_not_f rfl) ?_
          refine WL_nil ?_
          refine W_cond_t rfl ?_
          refine W_seq ?_
          refine W_region_l ?_
          refine WL_step rfl (R_loadA (vs := flC zeroF) Tryz.isAgg135 Tryz.sizeOf135 rfl (H.get (.there .here)) rfl (by simp [flC])) ?_
          (refine WL_effu rfl (E_storeA (vs := flC zeroF) H Tryz.sizeOf135 rfl rfl (by simp [flC, Value.oneCell']) (.there (.there .here)) (by simp [flC])) ?_; clear H; intro w67 H)
          refine WL_stepM rfl (R_as) ?_
          refine WL_nil ?_
          refine W_ret ?_
          exact ⟨_, ⟨_, _, rfl, ldA (vs := flC zeroF) Tryz.isAgg135 Tryz.sizeOf135 (H.get (.there (.there .here))) rfl (by simp [flC]), rfl⟩, .inr ⟨hg, rfl⟩, H.none kYs⟩
        · (refine WI_effnA rfl (.inl rfl) (E_alloc (vs := flC zeroF) H Tryz.zeroValue135 rfl) (fun _ _ _ H => (by first | exact fun h => absurd h (by decide) | exact fun _ => H | exact fun _ => H.none kYs | exact fun _ => H.dropN kYs | exact fun _ => H.pop (by assumption) | exact fun _ => (H.pop (by assumption)).pop (by assumption) | exact fun _ => H.kp | exact fun _ => H.kp.tail | exact fun _ => H.kp.tail.tail | exact fun _ => H.kp.tail.tail.tail | exact fun _ => H.kp.sub (by simp) | exact fun _ => Kp.nil | exact fun _ => H.kh (by simp) kYs)) ?_; clear H; intro b7 w72 hb7 H)
          refine WA_one (i := 6) (by kernel_rfl) ?_
          (refine WI_call rfl (.inl rfl) (R_call rfl Tryz.call166 rfl) (get_ret (xs := xs) (RdS.own hO (fun p hp => H.held p (by simp [hp]))) h8) (fun _ _ hR _ => (H.seq0 hR.2).kh (by simp) kYs) ?_; rintro v w74 ⟨hv, H1⟩; rw [decide_eq_false (fun h => hg ⟨h8, h⟩)] at hv; subst hv; replace H := H.seq0 H1; clear H1)
          refine WA_takeM 7 rfl rfl rfl (by kernel_rfl) (by kernel_rfl) (H.kh (by simp) kYs) (fun _ hC => R_mv) ?_
          refine WA_take 8 rfl rfl rfl (by kernel_rfl) (by kernel_rfl) (H.kh (by simp) kYs) (fun _ hC => R_extract rfl rfl) ?_
          refine WA_take 9 rfl rfl rfl (by kernel_rfl) (by kernel_rfl) (H.kh (by simp) kYs) (fun _ hC => R_extract rfl rfl) ?_
          refine WA_one (i := 11) (by kernel_rfl) ?_
          (refine WI_effu rfl (.inl rfl) (E_storeA (vs := flC (ofB xs)) H Tryz.sizeOf135 rfl rfl (by simp [flC, Value.oneCell']) .here (by simp [flC])) (fun _ H => (by first | exact fun h => absurd h (by decide) | exact fun _ => H | exact fun _ => H.none kYs | exact fun _ => H.dropN kYs | exact fun _ => H.pop (by assumption) | exact fun _ => (H.pop (by assumption)).pop (by assumption) | exact fun _ => H.kp | exact fun _ => H.kp.tail | exact fun _ => H.kp.tail.tail | exact fun _ => H.kp.tail.tail.tail | exact fun _ => H.kp.sub (by simp) | exact fun _ => Kp.nil | exact fun _ => H.kh (by simp) kYs)) ?_; clear H; intro w79 H; replace H := Hp.dropMid (A := [_]) H hMk)
          refine WA_takeM 12 rfl rfl rfl (by kernel_rfl) (by kernel_rfl) (H.kh (by simp) kYs) (fun _ hC => R_as) ?_
          refine WA_done (by kernel_rfl) ?_
          refine W_seq ?_
          refine W_seq ?_
          refine W_region_l ?_
          refine WL_stepM rfl (R_mv) ?_
          refine WL_step rfl (R_not_f rfl) ?_
          refine WL_nil ?_
          refine W_cond_t rfl ?_
          refine W_seq ?_
          refine W_region_l ?_
          refine WL_step rfl (R_loadA (vs := flC zeroF) Tryz.isAgg135 Tryz.sizeOf135 rfl (H.get (.there .here)) rfl (by simp [flC])) ?_
          (refine WL_effu rfl (E_storeA (vs := flC zeroF) H Tryz.sizeOf135 rfl rfl (by simp [flC, Value.oneCell']) (.there (.there .here)) (by simp [flC])) ?_; clear H; intro w92 H)
          refine WL_stepM rfl (R_as) ?_
          refine WL_nil ?_
          refine W_ret ?_
          exact ⟨_, ⟨_, _, rfl, ldA (vs := flC zeroF) Tryz.isAgg135 Tryz.sizeOf135 (H.get (.there (.there .here))) rfl (by simp [flC]), rfl⟩, .inr ⟨hg, rfl⟩, H.none kYs⟩
      · (refine WI_effnA rfl (.inl rfl) (E_alloc (vs := flC zeroF) H Tryz.zeroValue135 rfl) (fun _ _ _ H => (by first | exact fun h => absurd h (by decide) | exact fun _ => H | exact fun _ => H.none kYs | exact fun _ => H.dropN kYs | exact fun _ => H.pop (by assumption) | exact fun _ => (H.pop (by assumption)).pop (by assumption) | exact fun _ => H.kp | exact fun _ => H.kp.tail | exact fun _ => H.kp.tail.tail | exact fun _ => H.kp.tail.tail.tail | exact fun _ => H.kp.sub (by simp) | exact fun _ => Kp.nil | exact fun _ => H.kh (by simp) kYs)) ?_; clear H; intro b7 w97 hb7 H)
        refine WA_one (i := 5) (by kernel_rfl) ?_
        (refine WI_call rfl (.inl rfl) (R_call rfl Tryz.call65 rfl) (clone_ret (xs := xs) (hl.monoN H kYs) (by omega)) (fun _ _ ⟨M, hO, H1⟩ _ => ((H.seqO hO H1).2).kh (by simp) (kApp (H.seqO hO H1).1.keys kYs)) ?_; rintro u w99 ⟨M, hO, H1⟩; have h99 := H.seqO hO H1; clear H H1 hO; obtain ⟨hO, H⟩ := h99; have hMk := hO.keys; obtain ⟨a5, c5, rfl⟩ := hO.form)
        refine WA_one (i := 6) (by kernel_rfl) ?_
        (refine WI_call rfl (.inl rfl) (R_call rfl Tryz.call166 rfl) (get_ret (xs := xs) (RdS.own hO (fun p hp => H.held p (by simp [hp]))) h8) (fun _ _ hR _ => (H.seq0 hR.2).kh (by simp) kYs) ?_; rintro v w101 ⟨hv, H1⟩; rw [decide_eq_false (fun h => hg ⟨h8, h⟩)] at hv; subst hv; replace H := H.seq0 H1; clear H1)
        refine WA_takeM 7 rfl rfl rfl (by kernel_rfl) (by kernel_rfl) (H.kh (by simp) kYs) (fun _ hC => R_mv) ?_
        refine WA_take 8 rfl rfl rfl (by kernel_rfl) (by kernel_rfl) (H.kh (by simp) kYs) (fun _ hC => R_extract rfl rfl) ?_
        refine WA_take 9 rfl rfl rfl (by kernel_rfl) (by kernel_rfl) (H.kh (by simp) kYs) (fun _ hC => R_extract rfl rfl) ?_
        refine WA_one (i := 11) (by kernel_rfl) ?_
        (refine WI_effu rfl (.inl rfl) (E_storeA (vs := flC (ofB xs)) H Tryz.sizeOf135 rfl rfl (by simp [flC, Value.oneCell']) (.app _ .here) (by simp [flC])) (fun _ H => (by first | exact fun h => absurd h (by decide) | exact fun _ => H | exact fun _ => H.none kYs | exact fun _ => H.dropN kYs | exact fun _ => H.pop (by assumption) | exact fun _ => (H.pop (by assumption)).pop (by assumption) | exact fun _ => H.kp | exact fun _ => H.kp.tail | exact fun _ => H.kp.tail.tail | exact fun _ => H.kp.tail.tail.tail | exact fun _ => H.kp.sub (by simp) | exact fun _ => Kp.nil | exact fun _ => H.kh (by simp) kYs)) ?_; clear H; intro w106 H; replace H := Hp.dropN H hMk)
        refine WA_takeM 12 rfl rfl rfl (by kernel_rfl) (by kernel_rfl) (H.kh (by simp) kYs) (fun _ hC => R_as) ?_
        refine WA_done (by kernel_rfl) ?_
        refine W_seq ?_
        refine W_seq ?_
        refine W_region_l ?_
        refine WL_stepM rfl (R_mv) ?_
        refine WL_step rfl (R_not_f rfl) ?_
        refine WL_nil ?_
        refine W_cond_t rfl ?_
        refine W_seq ?_
        refine W_region_l ?_
        refine WL_step rfl (R_loadA (vs := flC zeroF) Tryz.isAgg135 Tryz.sizeOf135 rfl (H.get (.there .here)) rfl (by simp [flC])) ?_
        (refine WL_effu rfl (E_storeA (vs := flC zeroF) H Tryz.sizeOf135 rfl rfl (by simp [flC, Value.oneCell']) (.there (.there .here)) (by simp [flC])) ?_; clear H; intro w119 H)
        refine WL_stepM rfl (R_as) ?_
        refine WL_nil ?_
        refine W_ret ?_
        exact ⟨_, ⟨_, _, rfl, ldA (vs := flC zeroF) Tryz.isAgg135 Tryz.sizeOf135 (H.get (.there (.there .here))) rfl (by simp [flC]), rfl⟩, .inr ⟨hg, rfl⟩, H.none kYs⟩
  · refine W_seq ?_
    refine W_region_l ?_
    (refine WL_effn rfl (E_alloc (vs := flC zeroF) H Tryz.zeroValue135 rfl) ?_; clear H; intro b4 w3 hb4 H)
    refine WL_stepM rfl (R_as) ?_
    refine WL_nil ?_
    refine W_seq ?_
    refine W_region_l ?_
    (refine WL_effn rfl (E_alloc (vs := flC zeroF) H Tryz.zeroValue135 rfl) ?_; clear H; intro b6 w8 hb6 H)
    refine WL_nil ?_
    refine W_seq ?_
    refine W_seq ?_
    refine W_region_l ?_
    refine WL_stepM rfl (R_mv) ?_
    refine WL_step rfl (R_nilCheck rfl) ?_
    refine WL_step rfl (R_fieldAddr (off' := 2) Tryz.underlying266 rfl Tryz.sizeOf264 (by decide) rfl rfl) ?_
    refine WL_step rfl (R_load Tryz.isAgg264 rfl (H.blockN hq kYs) rfl) ?_
    refine WL_step rfl (R_eq_fn Tryz.underlying264 rfl rfl) ?_
    refine WL_stepM rfl (R_mv) ?_
    refine WL_guard_t rfl rfl ?_
    refine WL_stepM rfl (R_mv) ?_
    refine WL_guard_t rfl rfl ?_
    refine WL_step rfl (R_len_slice Tryz.underlying36 rfl) ?_
    refine WL_guard_t rfl rfl ?_
    refine WL_stepM rfl (R_mv) ?_
    refine WL_guard_t rfl rfl ?_
    refine WL_step rfl (R_nilCheck rfl) ?_
    refine WL_guard_t rfl rfl ?_
    refine WL_step rfl (R_fieldAddr (off' := 0) Tryz.underlying266 rfl Tryz.sizeOf3 (by decide) rfl rfl) ?_
    refine WL_guard_t rfl rfl ?_
    refine WL_step rfl (R_load Tryz.isAgg3 rfl (H.blockN hq kYs) rfl) ?_
    refine WL_guard_t rfl rfl ?_
    refine WL_step rfl (R_ne_t rfl rfl (by omega)) ?_
    refine WL_stepM rfl (R_pk_f rfl) ?_
    refine WL_nil ?_
    refine W_cond_t rfl ?_
    refine W_seq ?_
    refine W_region_l ?_
    refine WL_step rfl (R_loadA (vs := flC zeroF) Tryz.isAgg135 Tryz.sizeOf135 rfl (H.get .here) rfl (by simp [flC])) ?_
    (refine WL_effu rfl (E_storeA (vs := flC zeroF) H Tryz.sizeOf135 rfl rfl (by simp [flC, Value.oneCell']) (.there .here) (by simp [flC])) ?_; clear H; intro w39 H)
    refine WL_stepM rfl (R_as) ?_
    refine WL_nil ?_
    refine W_ret ?_
    exact ⟨_, ⟨_, _, rfl, ldA (vs := flC zeroF) Tryz.isAgg135 Tryz.sizeOf135 (H.get (.there .here)) rfl (by simp [flC]), rfl⟩, .inr ⟨fun hg => h8 hg.1, rfl⟩, H.none kYs⟩
end Go.Proofs.YtlpmfldijgdcoaaGreatDoor.File

/-
  What bytes are, of both; files made of numbers; package ofile's own try.
-/
namespace Go.Proofs.YtlpmfldijgdcoaaGreatDoor.File
open Go Go.Proofs Go.Proofs.YtlpmfldijgdcoaaGreatDoor.Fx Go.Proofs.YtlpmfldijgdcoaaGreatDoor.Codec
set_option maxRecDepth 100000
set_option linter.unusedVariables false
set_option linter.unusedSimpArgs false
set_option maxHeartbeats 2000000

theorem decP_free {xs : List UInt8} (h8 : xs.length = 8) (hz : ∀ x ∈ xs, x = 0) : decP xs = (zeroF, 0) := if_pos ⟨h8, hz⟩
theorem good_not_free {xs : List UInt8} (h : good xs) : ¬ (xs.length = 8 ∧ ∀ x ∈ xs, x = 0) := by
  rintro ⟨h8, hz⟩
  obtain ⟨a, b, c, d, e, f, g, i, rfl⟩ := len8 h8
  have ha := hz a (.head _)
  have hk := h.2.1.1.1
  subst ha
  simp [ofB] at hk
theorem decP_good {xs : List UInt8} (h : good xs) : decP xs = (ofB xs, 1) := by
  unfold decP; rw [if_neg (good_not_free h), if_pos h]
theorem decP_bad {xs : List UInt8} (h : ¬ good xs) (hf : ¬ (xs.length = 8 ∧ ∀ x ∈ xs, x = 0)) : decP xs = (zeroF, 2) := by
  unfold decP; rw [if_neg hf, if_neg h]
theorem bytes_len (f : Fl) : (fileBytes f).length = 8 := rfl
theorem dec_ret {xs : List UInt8} {w : World} {l : Value} (hl : RdS w l (xs.map U)) (hb : xs.length ≤ 100000) :
    Ret Tryz.prog 142 #[l] w fun v w' => v = .tuple #[vF (decP xs).1, I (decP xs).2] ∧ Hp w [] w' := by
  refine Ret_of_WC (args := [_]) Tryz.func142 rfl Tryz.ntmps142 Tryz.results142 (by simp) ?_
  have H := Hp.refl w
  obtain ⟨ao, ca, rfl⟩ := hl.form
  simp only [List.length_map] at hl ⊢
  by_cases hf : xs.length = 8 ∧ ∀ x ∈ xs, x = 0
  · have h8 := hf.1
    rw [decP_free hf.1 hf.2]
    refine W_seq ?_
    refine W_region_l ?_
    (refine WL_effn rfl (E_alloc (vs := flC zeroF) H Tryz.zeroValue135 rfl) ?_; clear H; intro b2 w3 hb2 H)
    refine WL_stepM rfl (R_as) ?_
    refine WL_nil ?_
    refine W_seq ?_
    refine W_seq ?_
    refine W_region_l ?_
    refine WL_stepM rfl (R_mv) ?_
    refine WL_step rfl (R_len_slice Tryz.underlying36 rfl) ?_
    refine WL_step rfl (R_eq_t rfl rfl (by omega)) ?_
    refine WL_stepM rfl (R_mv) ?_
    refine WL_guard_t rfl rfl ?_
    refine WL_stepM rfl (R_mv) ?_
    refine WL_guard_t rfl rfl ?_
    (refine WL_call rfl (R_call rfl Tryz.call146 rfl) (blank_ret (hl.monoN H kYs) (by omega)) ?_; rintro v w16 ⟨hv, H1⟩; rw [decide_eq_true hf.2] at hv; subst hv; replace H := H.seq0 H1; clear H1)
    refine WL_stepM rfl (R_pk_t rfl) ?_
    refine WL_nil ?_
    refine W_cond_t rfl ?_
    refine W_seq ?_
    refine W_region_l ?_
    refine WL_step rfl (R_buildL (places := [(0, 1), (1, 1), (2, 1), (3, 1)]) (vs := [(.int _ _), (.int _ _), (.int _ _), (.int _ _)]) Tryz.underlying135 Tryz.typeInfo135 rfl rfl (by kernel_rfl) rfl rfl rfl) ?_
    (refine WL_effu rfl (E_storeA (vs := [(.int _ _), (.int _ _), (.int _ _), (.int _ _)]) H Tryz.sizeOf135 rfl rfl (by simp [Value.oneCell']) .here (Nat.le_of_ble_eq_true rfl)) ?_; clear H; intro w23 H)
    refine WL_stepM rfl (R_as) ?_
    refine WL_nil ?_
    refine W_ret ?_
    exact ⟨_, ⟨_, _, rfl, ldA (vs := flC zeroF) Tryz.isAgg135 Tryz.sizeOf135 (H.get .here) rfl (by simp [flC]), rfl⟩, rfl, H.none kYs⟩
  · by_cases h8 : xs.length = 8
    · refine W_seq ?_
      refine W_region_l ?_
      (refine WL_effn rfl (E_alloc (vs := flC zeroF) H Tryz.zeroValue135 rfl) ?_; clear H; intro b2 w3 hb2 H)
      refine WL_stepM rfl (R_as) ?_
      refine WL_nil ?_
      refine W_seq ?_
      refine W_seq ?_
      refine W_region_l ?_
      refine WL_stepM rfl (R_mv) ?_
      refine WL_step rfl (R_len_slice Tryz.underlying36 rfl) ?_
      refine WL_step rfl (R_eq_t rfl rfl (by omega)) ?_
      refine WL_stepM rfl (R_mv) ?_
      refine WL_guard_t rfl rfl ?_
      refine WL_stepM rfl (R_mv) ?_
      refine WL_guard_t rfl rfl ?_
      (refine WL_call rfl (R_call rfl Tryz.call146 rfl) (blank_ret (hl.monoN H kYs) (by omega)) ?_; rintro v w16 ⟨hv, H1⟩; rw [decide_eq_false (fun h => hf ⟨h8, h⟩)] at hv; subst hv; replace H := H.seq0 H1; clear H1)
      refine WL_stepM rfl (R_pk_t rfl) ?_
      refine WL_nil ?_
      refine W_cond_f rfl ?_
      refine W_skip ?_
      refine W_seq ?_
      refine W_region_l ?_
      (refine WL_call rfl (R_call rfl Tryz.call126 rfl) (codec_ret _) ?_; rintro _ w23 ⟨q, rfl, hq, H1⟩; have hsz := H.size; replace H := H.seqN H1 (kCons hq kNil); replace hq := Nat.le_trans hsz hq; clear H1 hsz)
      refine WL_stepM rfl (R_mv) ?_
      (refine WL_call rfl (R_call rfl Tryz.call190 rfl) (decM_ret (xs := xs) (H.get .here) (hl.monoN H kYs) hb) ?_; rintro _ w25 ⟨(⟨hg, rfl⟩ | ⟨hg, rfl⟩), H1⟩ <;> (replace H := H.seq0 H1; clear H1))
      · refine WL_stepM rfl (R_mv) ?_
        refine WL_step rfl (R_extract rfl rfl) ?_
        refine WL_step rfl (R_extract rfl rfl) ?_
        (refine WL_effn rfl (E_alloc (vs := flC zeroF) H Tryz.zeroValue135 rfl) ?_; clear H; intro b4 w29 hb4 H)
        (have _g := hg.1; refine WL_effu rfl (E_storeA (vs := flC (ofB xs)) H Tryz.sizeOf135 rfl rfl (by simp [flC, Value.oneCell']) .here (by simp [flC])) ?_; clear H; intro w30 H; replace H : Hp w [(b4, blk (flC (ofB xs)) 135), (q, cod), (b2, blk (flC zeroF) 135)] _ := H)
        refine WL_stepM rfl (R_as) ?_
        refine WL_nil ?_
        refine W_seq ?_
        refine W_seq ?_
        refine W_region_l ?_
        refine WL_stepM rfl (R_mv) ?_
        refine WL_step rfl (R_not_t rfl) ?_
        refine WL_nil ?_
        refine W_cond_f rfl ?_
        refine W_skip ?_
        refine W_seq ?_
        refine W_region_l ?_
        refine WL_step rfl (R_loadA (vs := flC (ofB xs)) Tryz.isAgg135 Tryz.sizeOf135 rfl (H.get .here) rfl (by simp [flC])) ?_
        (have _g := hg.1; refine WL_effu rfl (E_storeA (vs := flC (ofB xs)) H Tryz.sizeOf135 rfl rfl (by simp [flC, Value.oneCell']) (.there (.there .here)) (by simp [flC])) ?_; clear H; intro w44 H)
        refine WL_stepM rfl (R_as) ?_
        refine WL_nil ?_
        refine W_ret ?_
        exact ⟨_, ⟨_, _, rfl, ldA (vs := flC (ofB xs)) Tryz.isAgg135 Tryz.sizeOf135 (H.get (.there (.there .here))) rfl (by simp [flC]), rfl⟩, (by rw [decP_good hg]; rfl), H.none kYs⟩
      · refine WL_stepM rfl (R_mv) ?_
        refine WL_step rfl (R_extract rfl rfl) ?_
        refine WL_step rfl (R_extract rfl rfl) ?_
        (refine WL_effn rfl (E_alloc (vs := flC zeroF) H Tryz.zeroValue135 rfl) ?_; clear H; intro b4 w52 hb4 H)
        (refine WL_effu rfl (E_storeA (vs := [(.int _ _), (.int _ _), (.int _ _), (.int _ _)]) H Tryz.sizeOf135 rfl rfl (by simp [Value.oneCell']) .here (Nat.le_of_ble_eq_true rfl)) ?_; clear H; intro w53 H)
        refine WL_stepM rfl (R_as) ?_
        refine WL_nil ?_
        refine W_seq ?_
        refine W_seq ?_
        refine W_region_l ?_
        refine WL_stepM rfl (R_mv) ?_
        refine WL_step rfl (R_not_f rfl) ?_
        refine WL_nil ?_
        refine W_cond_t rfl ?_
        refine W_seq ?_
        refine W_region_l ?_
        refine WL_step rfl (R_buildL (places := [(0, 1), (1, 1), (2, 1), (3, 1)]) (vs := [(.int _ _), (.int _ _), (.int _ _), (.int _ _)]) Tryz.underlying135 Tryz.typeInfo135 rfl rfl (by kernel_rfl) rfl rfl rfl) ?_
        (refine WL_effu rfl (E_storeA (vs := [(.int _ _), (.int _ _), (.int _ _), (.int _ _)]) H Tryz.sizeOf135 rfl rfl (by simp [Value.oneCell']) (.there (.there .here)) (Nat.le_of_ble_eq_true rfl)) ?_; clear H; intro w66 H)
        refine WL_stepM rfl (R_as) ?_
        refine WL_nil ?_
        refine W_ret ?_
        exact ⟨_, ⟨_, _, rfl, ldA (vs := flC zeroF) Tryz.isAgg135 Tryz.sizeOf135 (H.get (.there (.there .here))) rfl (by simp [flC]), rfl⟩, (by rw [decP_bad hg hf]; rfl), H.none kYs⟩
    · refine W_seq ?_
      refine W_region_l ?_
      (refine WL_effn rfl (E_alloc (vs := flC zeroF) H Tryz.zeroValue135 rfl) ?_; clear H; intro b2 w3 hb2 H)
      refine WL_stepM rfl (R_as) ?_
      refine WL_nil ?_
      refine W_seq ?_
      refine W_seq ?_
      refine W_region_l ?_
      refine WL_stepM rfl (R_mv) ?_
      refine WL_step rfl (R_len_slice Tryz.underlying36 rfl) ?_
      refine WL_step rfl (R_eq_f rfl rfl (by omega)) ?_
      refine WL_stepM rfl (R_mv) ?_
      refine WL_guard_f rfl rfl (by decide) ?_
      refine WL_guard_f rfl rfl (by decide) ?_
      refine WL_stepM rfl (R_pk_f rfl) ?_
      refine WL_nil ?_
      refine W_cond_f rfl ?_
      refine W_skip ?_
      refine W_seq ?_
      refine W_region_l ?_
      (refine WL_call rfl (R_call rfl Tryz.call126 rfl) (codec_ret _) ?_; rintro _ w21 ⟨q, rfl, hq, H1⟩; have hsz := H.size; replace H := H.seqN H1 (kCons hq kNil); replace hq := Nat.le_trans hsz hq; clear H1 hsz)
      refine WL_stepM rfl (R_mv) ?_
      (refine WL_call rfl (R_call rfl Tryz.call190 rfl) (decM_ret (xs := xs) (H.get .here) (hl.monoN H kYs) hb) ?_; rintro _ w23 ⟨(⟨hg, rfl⟩ | ⟨hg, rfl⟩), H1⟩ <;> (replace H := H.seq0 H1; clear H1))
      · refine WL_stepM rfl (R_mv) ?_
        refine WL_step rfl (R_extract rfl rfl) ?_
        refine WL_step rfl (R_extract rfl rfl) ?_
        (refine WL_effn rfl (E_alloc (vs := flC zeroF) H Tryz.zeroValue135 rfl) ?_; clear H; intro b4 w27 hb4 H)
        (have _g := hg.1; refine WL_effu rfl (E_storeA (vs := flC (ofB xs)) H Tryz.sizeOf135 rfl rfl (by simp [flC, Value.oneCell']) .here (by simp [flC])) ?_; clear H; intro w28 H; replace H : Hp w [(b4, blk (flC (ofB xs)) 135), (q, cod), (b2, blk (flC zeroF) 135)] _ := H)
        refine WL_stepM rfl (R_as) ?_
        refine WL_nil ?_
        refine W_seq ?_
        refine W_seq ?_
        refine W_region_l ?_
        refine WL_stepM rfl (R_mv) ?_
        refine WL_step rfl (R_not_t rfl) ?_
        refine WL_nil ?_
        refine W_cond_f rfl ?_
        refine W_skip ?_
        refine W_seq ?_
        refine W_region_l ?_
        refine WL_step rfl (R_loadA (vs := flC (ofB xs)) Tryz.isAgg135 Tryz.sizeOf135 rfl (H.get .here) rfl (by simp [flC])) ?_
        (have _g := hg.1; refine WL_effu rfl (E_storeA (vs := flC (ofB xs)) H Tryz.sizeOf135 rfl rfl (by simp [flC, Value.oneCell']) (.there (.there .here)) (by simp [flC])) ?_; clear H; intro w42 H)
        refine WL_stepM rfl (R_as) ?_
        refine WL_nil ?_
        refine W_ret ?_
        exact ⟨_, ⟨_, _, rfl, ldA (vs := flC (ofB xs)) Tryz.isAgg135 Tryz.sizeOf135 (H.get (.there (.there .here))) rfl (by simp [flC]), rfl⟩, (by rw [decP_good hg]; rfl), H.none kYs⟩
      · refine WL_stepM rfl (R_mv) ?_
        refine WL_step rfl (R_extract rfl rfl) ?_
        refine WL_step rfl (R_extract rfl rfl) ?_
        (refine WL_effn rfl (E_alloc (vs := flC zeroF) H Tryz.zeroValue135 rfl) ?_; clear H; intro b4 w50 hb4 H)
        (refine WL_effu rfl (E_storeA (vs := [(.int _ _), (.int _ _), (.int _ _), (.int _ _)]) H Tryz.sizeOf135 rfl rfl (by simp [Value.oneCell']) .here (Nat.le_of_ble_eq_true rfl)) ?_; clear H; intro w51 H)
        refine WL_stepM rfl (R_as) ?_
        refine WL_nil ?_
        refine W_seq ?_
        refine W_seq ?_
        refine W_region_l ?_
        refine WL_stepM rfl (R_mv) ?_
        refine WL_step rfl (R_not_f rfl) ?_
        refine WL_nil ?_
        refine W_cond_t rfl ?_
        refine W_seq ?_
        refine W_region_l ?_
        refine WL_step rfl (R_buildL (places := [(0, 1), (1, 1), (2, 1), (3, 1)]) (vs := [(.int _ _), (.int _ _), (.int _ _), (.int _ _)]) Tryz.underlying135 Tryz.typeInfo135 rfl rfl (by kernel_rfl) rfl rfl rfl) ?_
        (refine WL_effu rfl (E_storeA (vs := [(.int _ _), (.int _ _), (.int _ _), (.int _ _)]) H Tryz.sizeOf135 rfl rfl (by simp [Value.oneCell']) (.there (.there .here)) (Nat.le_of_ble_eq_true rfl)) ?_; clear H; intro w64 H)
        refine WL_stepM rfl (R_as) ?_
        refine WL_nil ?_
        refine W_ret ?_
        exact ⟨_, ⟨_, _, rfl, ldA (vs := flC zeroF) Tryz.isAgg135 Tryz.sizeOf135 (H.get (.there (.there .here))) rfl (by simp [flC]), rfl⟩, (by rw [decP_bad hg hf]; rfl), H.none kYs⟩

/-- a file made of a number -/
def fileN (a : Int) : Fl := ⟨a % 16777216 % 3 + 1, if a % 16777216 % 3 = 2 then 0 else a % 16777216 / 16 % 8, a % 16777216 / 256 % 64 + 1, a % 16777216 / 32768 % 2⟩
end Go.Proofs.YtlpmfldijgdcoaaGreatDoor.File

/-
  Open files as structs in memory.
-/
namespace Go.Proofs.YtlpmfldijgdcoaaGreatDoor.File
open Go Go.Proofs Go.Proofs.YtlpmfldijgdcoaaGreatDoor.Fx Go.Proofs.YtlpmfldijgdcoaaGreatDoor.Codec
set_option linter.unusedVariables false

theorem fl_len (f : Fl) : (flC f).length = 4 := rfl
theorem fl_one (f : Fl) : ∀ v ∈ flC f, v.oneCell' = true := by
  intro v hv
  simp only [flC, List.mem_cons, List.not_mem_nil, or_false] at hv
  rcases hv with rfl | rfl | rfl | rfl <;> rfl
section
variable {E : Env} {w0 w : World} {L : List (Nat × Obj)} {d : Option Nat} {ty e : TypeId} {pos : String} {after : Array Edge} {x y : Operand} {b : Nat} {p q : Fl} {f : Obj → List (Nat × Obj)}
theorem ldL (hb : w.heap[b]? = some (blk (flC p) e)) : (loadVar 135 ⟨b, 0, none⟩).run Tryz.prog w = .ok (vF p) w :=
  ldA Tryz.isAgg135 Tryz.sizeOf135 hb rfl (by rw [fl_len]; decide)
theorem R_loadL (hx : ev E x = ptr b 0) (hb : w.heap[b]? = some (blk (flC p) e)) : (execOp (ev E) (mk d (.load 135 x) ty pos after)).run Tryz.prog w = .ok (.value (vF p)) w :=
  R_loadA Tryz.isAgg135 Tryz.sizeOf135 hx hb rfl (by rw [fl_len]; decide)
theorem E_storeL (H : Hp w0 L w) (hx : ev E x = ptr b 0) (hy : ev E y = vF q) (hL : At L b (blk (flC p) e) f) :
    ∃ w', Hp w0 (f (blk (flC q) e)) w' ∧ (execOp (ev E) (mk d (.store 135 x y) ty pos after)).run Tryz.prog w = .ok .skip w' :=
  E_storeA (vs := flC q) H Tryz.sizeOf135 hx hy (fl_one q) hL (by rw [fl_len, fl_len]; decide)
theorem E_allocL (H : Hp w0 L w) : ∃ b w', w0.heap.size ≤ b ∧ Hp w0 ((b, blk (flC zeroF) 135) :: L) w' ∧ (execOp (ev E) (mk d (.alloc 135) ty pos after)).run Tryz.prog w = .ok (.value (ptr b 0)) w' :=
  E_alloc (vs := flC zeroF) H Tryz.zeroValue135 rfl
theorem E_boxL (H : Hp w0 L w) (hx : ev E x = vF q) : ∃ b w', w0.heap.size ≤ b ∧ Hp w0 ((b, blk (flC q) 135) :: L) w' ∧ (execOp (ev E) (mk d (.box 135 x) ty pos after)).run Tryz.prog w = .ok (.value (ptr b 0)) w' :=
  E_box (v := vF q) (vs := flC q) H hx rfl
end
end Go.Proofs.YtlpmfldijgdcoaaGreatDoor.File

/-
  What files are, as bytes; which may be.
-/
import Derived.Test.YtneeoicjipglkaaBytA
import Derived.Test.YtneeoicjipglkaaBytE
import Derived.Test.YtneeoicjipglkaaRefA
import Derived.Test.YtneeoicjipglkaaClone
import Derived.Test.YtneeoicjipglkaaFxY
import Derived.Test.YtneeoicjipglkaaFxX
import Derived.Test.YtneeoicjipglkaaFxT
namespace Go.Proofs.Ytneeoicjipglkaa.File
open Go Go.Proofs Go.Proofs.Ytneeoicjipglkaa.Fx Go.Proofs.Ytneeoicjipglkaa.Codec
set_option maxRecDepth 100000
set_option linter.unusedVariables false
set_option linter.unusedSimpArgs false
set_option maxHeartbeats 1000000

/-- a file -/
structure Fl where
  k : Int
  p : Int
  r : Int
  g : Int
def flC (f : Fl) : List Value := [I f.k, I f.p, I f.r, I f.g]
def fileOk (f : Fl) : Prop := (1 ≤ f.k ∧ f.k ≤ 3) ∧ (0 ≤ f.p ∧ f.p ≤ 7) ∧ (f.k ≠ 3 ∨ f.p = 0) ∧ (1 ≤ f.r ∧ f.r ≤ 64) ∧ (f.g = 0 ∨ f.g = 1)
instance (f : Fl) : Decidable (fileOk f) := by unfold fileOk; infer_instance
def b8 (n : Int) : UInt8 := UInt8.ofNat n.toNat
theorem u8_b8 {n : Int} (h : 0 ≤ n) : IntKind.u8.wrap n = ((b8 n).toNat : Int) := by
  obtain ⟨m, rfl⟩ : ∃ m : Nat, n = (m : Int) := ⟨n.toNat, by omega⟩
  exact u8_ofNat
def fb5 (f : Fl) : List UInt8 := [b8 f.k, b8 f.p, b8 f.r, b8 f.g, 179]
/-- a file's bytes -/
def fileBytes (f : Fl) : List UInt8 := fb5 f ++ [sumB (fb5 f), 0, 0]

theorem in_ret (n lo hi : Int) (w : World) : Ret Try.prog 19 #[I n, I lo, I hi] w fun v w' => v = .bool (decide (lo ≤ n ∧ n ≤ hi)) ∧ Hp w [] w' := by
  refine Ret_of_W (args := [_, _, _]) Try.func19 rfl Try.ntmps19 Try.results19 (by simp) ?_
  have H := Hp.refl w
  refine W_seq ?_
  refine W_region_l ?_
  refine WL_stepM rfl (R_as) ?_
  refine WL_nil ?_
  refine W_seq ?_
  refine W_region_l ?_
  refine WL_stepM rfl (R_mv) ?_
  refine WL_stepM rfl (R_mv) ?_
  refine WL_step rfl (R_ge rfl rfl) ?_
  refine WL_stepM rfl (R_mv) ?_
  apply WL_andK 4 10 14 [(11, 14)] H
  case hc => rfl
  case h1 =>
    intro h11
    refine WL_guard_t rfl rfl ?_
    refine WL_stepM rfl (R_mv) ?_
    refine WL_guard_t rfl rfl ?_
    refine WL_stepM rfl (R_mv) ?_
    refine WL_guard_t rfl rfl ?_
    refine WL_step rfl (R_le rfl rfl) ?_
    refine WL_stepM rfl (R_pk_t rfl) ?_
    refine WL_nil ?_
    exact ⟨(same_mov rfl (same_updo rfl (same_mov rfl (same_mov rfl Same.refl)))), rfl, H⟩
  case h0 =>
    intro h11
    refine WL_guard_f rfl rfl (by decide) ?_
    refine WL_guard_f rfl rfl (by decide) ?_
    refine WL_guard_f rfl rfl (by decide) ?_
    refine WL_stepM rfl (R_pk_f rfl) ?_
    refine WL_nil ?_
    exact ⟨(same_mov rfl (same_updo rfl (same_updo rfl (same_updo rfl Same.refl)))), rfl, H⟩
  case h2 =>
    (clear H; intro E11 w11 H)
    refine WL_stepM rfl (R_as) ?_
    refine WL_nil ?_
    refine W_ret ?_
    exact ⟨_, rfl, congrArg Value.bool (decide_eq_decide.2 (by omega)), H⟩

theorem ok_ret (f : Fl) (w : World) : Ret Try.prog 9 #[.agg (flC f).toArray] w fun v w' => v = .bool (decide (fileOk f)) ∧ Hp w [] w' := by
  obtain ⟨k, p, r, g⟩ := f
  rw [show flC ⟨k, p, r, g⟩ = [I k, I p, I r, I g] from rfl]
  refine Ret_of_W (args := [_]) Try.func9 rfl Try.ntmps9 Try.results9 (by simp) ?_
  have H := Hp.refl w
  refine W_seq ?_
  refine W_region_l ?_
  (refine WL_effn rfl (E_box (v := (.agg (List.toArray [(.int _ _), (.int _ _), (.int _ _), (.int _ _)]))) H rfl rfl) ?_; clear H; intro b3 w3 hb3 H)
  refine WL_stepM rfl (R_as) ?_
  refine WL_nil ?_
  refine W_seq ?_
  refine W_region_l ?_
  refine WL_step rfl (R_fieldAddr (off' := 0) Try.underlying23 rfl Try.sizeOf3 (by decide) rfl rfl) ?_
  refine WL_step rfl (R_load Try.isAgg3 rfl (H.get .here) rfl) ?_
  refine WL_step rfl (R_ge rfl rfl) ?_
  refine WL_stepM rfl (R_mv) ?_
  apply WL_andK 4 6 10 [(7, 10)] H
  case hc => rfl
  case h1 =>
    intro h12
    refine WL_guard_t rfl rfl ?_
    refine WL_step rfl (R_fieldAddr (off' := 0) Try.underlying23 rfl Try.sizeOf3 (by decide) rfl rfl) ?_
    refine WL_guard_t rfl rfl ?_
    refine WL_step rfl (R_load Try.isAgg3 rfl (H.get .here) rfl) ?_
    refine WL_guard_t rfl rfl ?_
    refine WL_step rfl (R_le rfl rfl) ?_
    refine WL_stepM rfl (R_pk_t rfl) ?_
    refine WL_nil ?_
    exact ⟨(same_mov rfl (same_updo rfl (same_updo rfl (same_updo rfl Same.refl)))), rfl, H⟩
  case h0 =>
    intro h12
    refine WL_guard_f rfl rfl (by decide) ?_
    refine WL_guard_f rfl rfl (by decide) ?_
    refine WL_guard_f rfl rfl (by decide) ?_
    refine WL_stepM rfl (R_pk_f rfl) ?_
    refine WL_nil ?_
    exact ⟨(same_mov rfl (same_updo rfl (same_updo rfl (same_updo rfl Same.refl)))), rfl, H⟩
  case h2 =>
    (clear H; intro E12 w12 H)
    refine WL_stepM rfl (R_mv) ?_
    apply WL_andK 4 11 15 [(12, 15)] H
    case hc => rfl
    case h1 =>
      intro h29
      refine WL_guard_t rfl rfl ?_
      refine WL_step rfl (R_fieldAddr (off' := 1) Try.underlying23 rfl Try.sizeOf3 (by decide) rfl rfl) ?_
      refine WL_guard_t rfl rfl ?_
      refine WL_step rfl (R_load Try.isAgg3 rfl (H.get .here) rfl) ?_
      refine WL_guard_t rfl rfl ?_
      refine WL_step rfl (R_ge rfl rfl) ?_
      refine WL_stepM rfl (R_pk_t rfl) ?_
      refine WL_nil ?_
      exact ⟨(same_mov rfl (same_updo rfl (same_updo rfl (same_updo rfl Same.refl)))), rfl, H⟩
    case h0 =>
      intro h29
      refine WL_guard_f rfl rfl (by decide) ?_
      refine WL_guard_f rfl rfl (by decide) ?_
      refine WL_guard_f rfl rfl (by decide) ?_
      refine WL_stepM rfl (R_pk_f rfl) ?_
      refine WL_nil ?_
      exact ⟨(same_mov rfl (same_updo rfl (same_updo rfl (same_updo rfl Same.refl)))), rfl, H⟩
    case h2 =>
      (clear H; intro E29 w29 H)
      refine WL_stepM rfl (R_mv) ?_
      apply WL_andK 4 16 20 [(17, 20)] H
      case hc => rfl
      case h1 =>
        intro h46
        refine WL_guard_t rfl rfl ?_
        refine WL_step rfl (R_fieldAddr (off' := 1) Try.underlying23 rfl Try.sizeOf3 (by decide) rfl rfl) ?_
        refine WL_guard_t rfl rfl ?_
        refine WL_step rfl (R_load Try.isAgg3 rfl (H.get .here) rfl) ?_
        refine WL_guard_t rfl rfl ?_
        refine WL_step rfl (R_le rfl rfl) ?_
        refine WL_stepM rfl (R_pk_t rfl) ?_
        refine WL_nil ?_
        exact ⟨(same_mov rfl (same_updo rfl (same_updo rfl (same_updo rfl Same.refl)))), rfl, H⟩
      case h0 =>
        intro h46
        refine WL_guard_f rfl rfl (by decide) ?_
        refine WL_guard_f rfl rfl (by decide) ?_
        refine WL_guard_f rfl rfl (by decide) ?_
        refine WL_stepM rfl (R_pk_f rfl) ?_
        refine WL_nil ?_
        exact ⟨(same_mov rfl (same_updo rfl (same_updo rfl (same_updo rfl Same.refl)))), rfl, H⟩
      case h2 =>
        (clear H; intro E46 w46 H)
        refine WL_stepM rfl (R_mv) ?_
        apply WL_andK 9 21 30 [(22, 30)] H
        case hc => rfl
        case h1 =>
          intro h63
          refine WL_guard_t rfl rfl ?_
          refine WL_step rfl (R_fieldAddr (off' := 0) Try.underlying23 rfl Try.sizeOf3 (by decide) rfl rfl) ?_
          refine WL_guard_t rfl rfl ?_
          refine WL_step rfl (R_load Try.isAgg3 rfl (H.get .here) rfl) ?_
          refine WL_guard_t rfl rfl ?_
          refine WL_step rfl (R_ne rfl rfl) ?_
          refine WL_guard_t rfl rfl ?_
          refine WL_stepM rfl (R_mv) ?_
          apply WL_orK 4 25 29 [(26, 29)] H
          case hc => rfl
          case h1 =>
            intro h72
            refine WL_guard_t rfl rfl ?_
            refine WL_step rfl (R_fieldAddr (off' := 1) Try.underlying23 rfl Try.sizeOf3 (by decide) rfl rfl) ?_
            refine WL_guard_t rfl rfl ?_
            refine WL_step rfl (R_load Try.isAgg3 rfl (H.get .here) rfl) ?_
            refine WL_guard_t rfl rfl ?_
            refine WL_step rfl (R_eq rfl rfl) ?_
            refine WL_guard_t rfl rfl ?_
            refine WL_stepM rfl (R_pk_f rfl) ?_
            refine WL_nil ?_
            exact ⟨(same_mov rfl (same_updo rfl (same_updo rfl (same_updo rfl Same.refl)))), rfl, H⟩
          case h0 =>
            intro h72
            refine WL_guard_f rfl rfl (by decide) ?_
            refine WL_guard_f rfl rfl (by decide) ?_
            refine WL_guard_f rfl rfl (by decide) ?_
            refine WL_guard_t rfl rfl ?_
            refine WL_stepM rfl (R_pk_t rfl) ?_
            refine WL_nil ?_
            exact ⟨(same_mov rfl (same_updo rfl (same_updo rfl (same_updo rfl Same.refl)))), rfl, H⟩
          case h2 =>
            intro E72 w72 H
            refine WL_stepM rfl (R_pk_t rfl) ?_
            refine WL_nil ?_
            exact ⟨(same_mov rfl (same_in rfl (same_mov rfl (same_updo rfl (same_updo rfl (same_updo rfl Same.refl)))))), rfl, H⟩
        case h0 =>
          intro h63
          refine WL_guard_f rfl rfl (by decide) ?_
          refine WL_guard_f rfl rfl (by decide) ?_
          refine WL_guard_f rfl rfl (by decide) ?_
          refine WL_guard_f rfl rfl (by decide) ?_
          refine WL_guard_n rfl rfl ?_
          refine WL_guard_n rfl rfl ?_
          refine WL_guard_n rfl rfl ?_
          refine WL_guard_f rfl rfl (by decide) ?_
          refine WL_stepM rfl (R_pk_f rfl) ?_
          refine WL_nil ?_
          exact ⟨(same_mov rfl (same_updo rfl (same_updo rfl (same_updo rfl (same_updo rfl (same_updo rfl (same_updo rfl (same_updo rfl (same_updo rfl Same.refl))))))))), rfl, H⟩
        case h2 =>
          (clear H; intro E63 w63 H)
          refine WL_stepM rfl (R_mv) ?_
          apply WL_andK 4 31 35 [(32, 35)] H
          case hc => rfl
          case h1 =>
            intro h105
            refine WL_guard_t rfl rfl ?_
            refine WL_step rfl (R_fieldAddr (off' := 2) Try.underlying23 rfl Try.sizeOf3 (by decide) rfl rfl) ?_
            refine WL_guard_t rfl rfl ?_
            refine WL_step rfl (R_load Try.isAgg3 rfl (H.get .here) rfl) ?_
            refine WL_guard_t rfl rfl ?_
            refine WL_step rfl (R_ge rfl rfl) ?_
            refine WL_stepM rfl (R_pk_t rfl) ?_
            refine WL_nil ?_
            exact ⟨(same_mov rfl (same_updo rfl (same_updo rfl (same_updo rfl Same.refl)))), rfl, H⟩
          case h0 =>
            intro h105
            refine WL_guard_f rfl rfl (by decide) ?_
            refine WL_guard_f rfl rfl (by decide) ?_
            refine WL_guard_f rfl rfl (by decide) ?_
            refine WL_stepM rfl (R_pk_f rfl) ?_
            refine WL_nil ?_
            exact ⟨(same_mov rfl (same_updo rfl (same_updo rfl (same_updo rfl Same.refl)))), rfl, H⟩
          case h2 =>
            (clear H; intro E105 w105 H)
            refine WL_stepM rfl (R_mv) ?_
            apply WL_andK 4 36 40 [(37, 40)] H
            case hc => rfl
            case h1 =>
              intro h122
              refine WL_guard_t rfl rfl ?_
              refine WL_step rfl (R_fieldAddr (off' := 2) Try.underlying23 rfl Try.sizeOf3 (by decide) rfl rfl) ?_
              refine WL_guard_t rfl rfl ?_
              refine WL_step rfl (R_load Try.isAgg3 rfl (H.get .here) rfl) ?_
              refine WL_guard_t rfl rfl ?_
              refine WL_step rfl (R_le rfl rfl) ?_
              refine WL_stepM rfl (R_pk_t rfl) ?_
              refine WL_nil ?_
              exact ⟨(same_mov rfl (same_updo rfl (same_updo rfl (same_updo rfl Same.refl)))), rfl, H⟩
            case h0 =>
              intro h122
              refine WL_guard_f rfl rfl (by decide) ?_
              refine WL_guard_f rfl rfl (by decide) ?_
              refine WL_guard_f rfl rfl (by decide) ?_
              refine WL_stepM rfl (R_pk_f rfl) ?_
              refine WL_nil ?_
              exact ⟨(same_mov rfl (same_updo rfl (same_updo rfl (same_updo rfl Same.refl)))), rfl, H⟩
            case h2 =>
              (clear H; intro E122 w122 H)
              refine WL_stepM rfl (R_mv) ?_
              apply WL_andK 9 41 50 [(42, 50)] H
              case hc => rfl
              case h1 =>
                intro h139
                refine WL_guard_t rfl rfl ?_
                refine WL_step rfl (R_fieldAddr (off' := 3) Try.underlying23 rfl Try.sizeOf3 (by decide) rfl rfl) ?_
                refine WL_guard_t rfl rfl ?_
                refine WL_step rfl (R_load Try.isAgg3 rfl (H.get .here) rfl) ?_
                refine WL_guard_t rfl rfl ?_
                refine WL_step rfl (R_eq rfl rfl) ?_
                refine WL_guard_t rfl rfl ?_
                refine WL_stepM rfl (R_mv) ?_
                apply WL_orK 4 45 49 [(46, 49)] H
                case hc => rfl
                case h1 =>
                  intro h148
                  refine WL_guard_t rfl rfl ?_
                  refine WL_step rfl (R_fieldAddr (off' := 3) Try.underlying23 rfl Try.sizeOf3 (by decide) rfl rfl) ?_
                  refine WL_guard_t rfl rfl ?_
                  refine WL_step rfl (R_load Try.isAgg3 rfl (H.get .here) rfl) ?_
                  refine WL_guard_t rfl rfl ?_
                  refine WL_step rfl (R_eq rfl rfl) ?_
                  refine WL_guard_t rfl rfl ?_
                  refine WL_stepM rfl (R_pk_f rfl) ?_
                  refine WL_nil ?_
                  exact ⟨(same_mov rfl (same_updo rfl (same_updo rfl (same_updo rfl Same.refl)))), rfl, H⟩
                case h0 =>
                  intro h148
                  refine WL_guard_f rfl rfl (by decide) ?_
                  refine WL_guard_f rfl rfl (by decide) ?_
                  refine WL_guard_f rfl rfl (by decide) ?_
                  refine WL_guard_t rfl rfl ?_
                  refine WL_stepM rfl (R_pk_t rfl) ?_
                  refine WL_nil ?_
                  exact ⟨(same_mov rfl (same_updo rfl (same_updo rfl (same_updo rfl Same.refl)))), rfl, H⟩
                case h2 =>
                  intro E148 w148 H
                  refine WL_stepM rfl (R_pk_t rfl) ?_
                  refine WL_nil ?_
                  exact ⟨(same_mov rfl (same_in rfl (same_mov rfl (same_updo rfl (same_updo rfl (same_updo rfl Same.refl)))))), rfl, H⟩
              case h0 =>
                intro h139
                refine WL_guard_f rfl rfl (by decide) ?_
                refine WL_guard_f rfl rfl (by decide) ?_
                refine WL_guard_f rfl rfl (by decide) ?_
                refine WL_guard_f rfl rfl (by decide) ?_
                refine WL_guard_n rfl rfl ?_
                refine WL_guard_n rfl rfl ?_
                refine WL_guard_n rfl rfl ?_
                refine WL_guard_f rfl rfl (by decide) ?_
                refine WL_stepM rfl (R_pk_f rfl) ?_
                refine WL_nil ?_
                exact ⟨(same_mov rfl (same_updo rfl (same_updo rfl (same_updo rfl (same_updo rfl (same_updo rfl (same_updo rfl (same_updo rfl (same_updo rfl Same.refl))))))))), rfl, H⟩
              case h2 =>
                (clear H; intro E139 w139 H)
                refine WL_stepM rfl (R_as) ?_
                refine WL_nil ?_
                refine W_ret ?_
                exact ⟨_, rfl, congrArg Value.bool (decide_eq_decide.2 (by simp only [fileOk]; omega)), H.pop (by assumption)⟩

theorem refOk_ret (f : Fl) (w : World) : Ret Try.prog 8 #[.agg (flC f).toArray] w fun v w' => v = .bool (decide (fileOk f)) ∧ Hp w [] w' := by
  obtain ⟨k, p, r, g⟩ := f
  rw [show flC ⟨k, p, r, g⟩ = [I k, I p, I r, I g] from rfl]
  refine Ret_of_W (args := [_]) Try.func8 rfl Try.ntmps8 Try.results8 (by simp) ?_
  have H := Hp.refl w
  refine W_seq ?_
  refine W_region_l ?_
  (refine WL_effn rfl (E_box (v := (.agg (List.toArray [(.int _ _), (.int _ _), (.int _ _), (.int _ _)]))) H rfl rfl) ?_; clear H; intro b3 w3 hb3 H)
  refine WL_stepM rfl (R_as) ?_
  refine WL_nil ?_
  refine W_seq ?_
  refine W_region_l ?_
  refine WL_step rfl (R_fieldAddr (off' := 0) Try.underlying23 rfl Try.sizeOf3 (by decide) rfl rfl) ?_
  refine WL_step rfl (R_load Try.isAgg3 rfl (H.get .here) rfl) ?_
  (refine WL_call rfl (R_call rfl Try.call19 rfl) (in_ret _ _ _ _) ?_; rintro _ w10 ⟨rfl, H1⟩; replace H := H.seq0 H1; clear H1)
  refine WL_stepM rfl (R_mv) ?_
  apply WL_andK 4 6 10 [(7, 10)] H
  case hc => rfl
  case h1 =>
    intro h12
    refine WL_guard_t rfl rfl ?_
    refine WL_step rfl (R_fieldAddr (off' := 1) Try.underlying23 rfl Try.sizeOf3 (by decide) rfl rfl) ?_
    refine WL_guard_t rfl rfl ?_
    refine WL_step rfl (R_load Try.isAgg3 rfl (H.get .here) rfl) ?_
    refine WL_guard_t rfl rfl ?_
    (refine WL_call rfl (R_call rfl Try.call19 rfl) (in_ret _ _ _ _) ?_; rintro _ w18 ⟨rfl, H1⟩; replace H := H.seq0 H1; clear H1)
    refine WL_stepM rfl (R_pk_t rfl) ?_
    refine WL_nil ?_
    exact ⟨(same_mov rfl (same_updo rfl (same_updo rfl (same_updo rfl Same.refl)))), rfl, H⟩
  case h0 =>
    intro h12
    refine WL_guard_f rfl rfl (by decide) ?_
    refine WL_guard_f rfl rfl (by decide) ?_
    refine WL_guard_f rfl rfl (by decide) ?_
    refine WL_stepM rfl (R_pk_f rfl) ?_
    refine WL_nil ?_
    exact ⟨(same_mov rfl (same_updo rfl (same_updo rfl (same_updo rfl Same.refl)))), rfl, H⟩
  case h2 =>
    (clear H; intro E12 w12 H)
    refine WL_stepM rfl (R_mv) ?_
    apply WL_andK 9 11 20 [(12, 20)] H
    case hc => rfl
    case h1 =>
      intro h29
      refine WL_guard_t rfl rfl ?_
      refine WL_step rfl (R_fieldAddr (off' := 0) Try.underlying23 rfl Try.sizeOf3 (by decide) rfl rfl) ?_
      refine WL_guard_t rfl rfl ?_
      refine WL_step rfl (R_load Try.isAgg3 rfl (H.get .here) rfl) ?_
      refine WL_guard_t rfl rfl ?_
      refine WL_step rfl (R_ne rfl rfl) ?_
      refine WL_guard_t rfl rfl ?_
      refine WL_stepM rfl (R_mv) ?_
      apply WL_orK 4 15 19 [(16, 19)] H
      case hc => rfl
      case h1 =>
        intro h38
        refine WL_guard_t rfl rfl ?_
        refine WL_step rfl (R_fieldAddr (off' := 1) Try.underlying23 rfl Try.sizeOf3 (by decide) rfl rfl) ?_
        refine WL_guard_t rfl rfl ?_
        refine WL_step rfl (R_load Try.isAgg3 rfl (H.get .here) rfl) ?_
        refine WL_guard_t rfl rfl ?_
        refine WL_step rfl (R_eq rfl rfl) ?_
        refine WL_guard_t rfl rfl ?_
        refine WL_stepM rfl (R_pk_f rfl) ?_
        refine WL_nil ?_
        exact ⟨(same_mov rfl (same_updo rfl (same_updo rfl (same_updo rfl Same.refl)))), rfl, H⟩
      case h0 =>
        intro h38
        refine WL_guard_f rfl rfl (by decide) ?_
        refine WL_guard_f rfl rfl (by decide) ?_
        refine WL_guard_f rfl rfl (by decide) ?_
        refine WL_guard_t rfl rfl ?_
        refine WL_stepM rfl (R_pk_t rfl) ?_
        refine WL_nil ?_
        exact ⟨(same_mov rfl (same_updo rfl (same_updo rfl (same_updo rfl Same.refl)))), rfl, H⟩
      case h2 =>
        intro E38 w38 H
        refine WL_stepM rfl (R_pk_t rfl) ?_
        refine WL_nil ?_
        exact ⟨(same_mov rfl (same_in rfl (same_mov rfl (same_updo rfl (same_updo rfl (same_updo rfl Same.refl)))))), rfl, H⟩
    case h0 =>
      intro h29
      refine WL_guard_f rfl rfl (by decide) ?_
      refine WL_guard_f rfl rfl (by decide) ?_
      refine WL_guard_f rfl rfl (by decide) ?_
      refine WL_guard_f rfl rfl (by decide) ?_
      refine WL_guard_n rfl rfl ?_
      refine WL_guard_n rfl rfl ?_
      refine WL_guard_n rfl rfl ?_
      refine WL_guard_f rfl rfl (by decide) ?_
      refine WL_stepM rfl (R_pk_f rfl) ?_
      refine WL_nil ?_
      exact ⟨(same_mov rfl (same_updo rfl (same_updo rfl (same_updo rfl (same_updo rfl (same_updo rfl (same_updo rfl (same_updo rfl (same_updo rfl Same.refl))))))))), rfl, H⟩
    case h2 =>
      (clear H; intro E29 w29 H)
      refine WL_stepM rfl (R_mv) ?_
      apply WL_andK 4 21 25 [(22, 25)] H
      case hc => rfl
      case h1 =>
        intro h71
        refine WL_guard_t rfl rfl ?_
        refine WL_step rfl (R_fieldAddr (off' := 2) Try.underlying23 rfl Try.sizeOf3 (by decide) rfl rfl) ?_
        refine WL_guard_t rfl rfl ?_
        refine WL_step rfl (R_load Try.isAgg3 rfl (H.get .here) rfl) ?_
        refine WL_guard_t rfl rfl ?_
        (refine WL_call rfl (R_call rfl Try.call19 rfl) (in_ret _ _ _ _) ?_; rintro _ w77 ⟨rfl, H1⟩; replace H := H.seq0 H1; clear H1)
        refine WL_stepM rfl (R_pk_t rfl) ?_
        refine WL_nil ?_
        exact ⟨(same_mov rfl (same_updo rfl (same_updo rfl (same_updo rfl Same.refl)))), rfl, H⟩
      case h0 =>
        intro h71
        refine WL_guard_f rfl rfl (by decide) ?_
        refine WL_guard_f rfl rfl (by decide) ?_
        refine WL_guard_f rfl rfl (by decide) ?_
        refine WL_stepM rfl (R_pk_f rfl) ?_
        refine WL_nil ?_
        exact ⟨(same_mov rfl (same_updo rfl (same_updo rfl (same_updo rfl Same.refl)))), rfl, H⟩
      case h2 =>
        (clear H; intro E71 w71 H)
        refine WL_stepM rfl (R_mv) ?_
        apply WL_andK 4 26 30 [(27, 30)] H
        case hc => rfl
        case h1 =>
          intro h88
          refine WL_guard_t rfl rfl ?_
          refine WL_step rfl (R_fieldAddr (off' := 3) Try.underlying23 rfl Try.sizeOf3 (by decide) rfl rfl) ?_
          refine WL_guard_t rfl rfl ?_
          refine WL_step rfl (R_load Try.isAgg3 rfl (H.get .here) rfl) ?_
          refine WL_guard_t rfl rfl ?_
          (refine WL_call rfl (R_call rfl Try.call19 rfl) (in_ret _ _ _ _) ?_; rintro _ w94 ⟨rfl, H1⟩; replace H := H.seq0 H1; clear H1)
          refine WL_stepM rfl (R_pk_t rfl) ?_
          refine WL_nil ?_
          exact ⟨(same_mov rfl (same_updo rfl (same_updo rfl (same_updo rfl Same.refl)))), rfl, H⟩
        case h0 =>
          intro h88
          refine WL_guard_f rfl rfl (by decide) ?_
          refine WL_guard_f rfl rfl (by decide) ?_
          refine WL_guard_f rfl rfl (by decide) ?_
          refine WL_stepM rfl (R_pk_f rfl) ?_
          refine WL_nil ?_
          exact ⟨(same_mov rfl (same_updo rfl (same_updo rfl (same_updo rfl Same.refl)))), rfl, H⟩
        case h2 =>
          (clear H; intro E88 w88 H)
          refine WL_stepM rfl (R_as) ?_
          refine WL_nil ?_
          refine W_ret ?_
          exact ⟨_, rfl, congrArg Value.bool (decide_eq_decide.2 (by simp only [fileOk]; omega)), H.pop (by assumption)⟩

theorem refBytes_ret (f : Fl) (hok : fileOk f) (w : World) : Ret Try.prog 10 #[.agg (flC f).toArray] w fun v w' => v = S (fileBytes f) ∧ Hp w [] w' := by
  obtain ⟨k, p, r, g⟩ := f
  rw [show flC ⟨k, p, r, g⟩ = [I k, I p, I r, I g] from rfl]
  simp only [fileOk] at hok
  refine Ret_of_W (args := [_]) Try.func10 rfl Try.ntmps10 Try.results10 (by simp) ?_
  have H := Hp.refl w
  refine W_seq ?_
  refine W_region_l ?_
  (refine WL_effn rfl (E_box (v := (.agg (List.toArray [(.int _ _), (.int _ _), (.int _ _), (.int _ _)]))) H rfl rfl) ?_; clear H; intro b3 w3 hb3 H)
  refine WL_stepM rfl (R_as) ?_
  refine WL_nil ?_
  refine W_seq ?_
  refine W_region_l ?_
  refine WL_step rfl (R_fieldAddr (off' := 0) Try.underlying23 rfl Try.sizeOf3 (by decide) rfl rfl) ?_
  refine WL_step rfl (R_load Try.isAgg3 rfl (H.get .here) rfl) ?_
  refine WL_step rfl (R_conv_int Try.underlying3 Try.underlying5 rfl (u8_b8 (by omega))) ?_
  refine WL_step rfl (R_fieldAddr (off' := 1) Try.underlying23 rfl Try.sizeOf3 (by decide) rfl rfl) ?_
  refine WL_step rfl (R_load Try.isAgg3 rfl (H.get .here) rfl) ?_
  refine WL_step rfl (R_conv_int Try.underlying3 Try.underlying5 rfl (u8_b8 (by omega))) ?_
  refine WL_step rfl (R_fieldAddr (off' := 2) Try.underlying23 rfl Try.sizeOf3 (by decide) rfl rfl) ?_
  refine WL_step rfl (R_load Try.isAgg3 rfl (H.get .here) rfl) ?_
  refine WL_step rfl (R_conv_int Try.underlying3 Try.underlying5 rfl (u8_b8 (by omega))) ?_
  refine WL_step rfl (R_fieldAddr (off' := 3) Try.underlying23 rfl Try.sizeOf3 (by decide) rfl rfl) ?_
  refine WL_step rfl (R_load Try.isAgg3 rfl (H.get .here) rfl) ?_
  refine WL_step rfl (R_conv_int Try.underlying3 Try.underlying5 rfl (u8_b8 (by omega))) ?_
  (refine WL_effn rfl (E_buildOnes (vs := [(.int _ _), (.int _ _), (.int _ _), (.int _ _), (.int _ _)]) H Try.underlying24 Try.sizeOf5 Try.zeroValue5 rfl rfl (by decide) rfl rfl (by simp [Value.oneCell'])) ?_; clear H; intro b20 w20 hb20 H)
  refine WL_step rfl (R_conv_bs (xs := fb5 ⟨k, p, r, g⟩) Try.underlying24 Try.underlying5 Try.underlying9 rfl (RdS.blk (H.get .here) rfl (by simp) (by simp))) ?_
  refine WL_stepM rfl (R_as) ?_
  refine WL_nil ?_
  refine W_seq ?_
  refine W_region_l ?_
  refine WL_stepM rfl (R_mv) ?_
  refine WL_stepM rfl (R_mv) ?_
  (refine WL_call rfl (R_call rfl Try.call20 rfl) (refSum_ret _ (by simp [fb5])) ?_; rintro _ w28 ⟨rfl, H1⟩; replace H := H.seq0 H1; clear H1)
  (refine WL_effn rfl (E_buildOnes (vs := [(.int _ _), (.int _ _), (.int _ _)]) H Try.underlying24 Try.sizeOf5 Try.zeroValue5 rfl rfl (by decide) rfl rfl (by simp [Value.oneCell'])) ?_; clear H; intro b29 w29 hb29 H)
  refine WL_step rfl (R_conv_bs (xs := [sumB (fb5 ⟨k, p, r, g⟩), 0, 0]) Try.underlying24 Try.underlying5 Try.underlying9 rfl (RdS.blk (H.get .here) rfl (by simp) (by simp))) ?_
  refine WL_step rfl (R_cat_S rfl rfl (by simp [fb5])) ?_
  refine WL_stepM rfl (R_as) ?_
  refine WL_nil ?_
  refine W_ret ?_
  exact ⟨_, rfl, rfl, H.none (by repeat' first | exact kNil | apply kCons | apply kApp | assumption | exact OwnS.keys (by assumption))⟩

theorem put_no {l : Value} (f : Fl) (hok : ¬ fileOk f) (w : World) : Ret Try.prog 24 #[.agg (flC f).toArray, l] w fun v w' => v = .bool false ∧ Hp w [] w' := by
  refine Ret_of_W (args := [_, _]) Try.func24 rfl Try.ntmps24 Try.results24 (by simp) ?_
  have H := Hp.refl w
  refine W_seq ?_
  refine W_region_l ?_
  (refine WL_effn rfl (E_box (v := (.agg (List.toArray [(.int _ _), (.int _ _), (.int _ _), (.int _ _)]))) H rfl rfl) ?_; clear H; intro b3 w3 hb3 H)
  refine WL_stepM rfl (R_as) ?_
  refine WL_nil ?_
  refine W_seq ?_
  refine W_seq ?_
  refine W_region_l ?_
  refine WL_step rfl (R_loadA Try.isAgg23 Try.sizeOf23 rfl (H.get .here) rfl (by simp)) ?_
  (refine WL_call rfl (R_call rfl Try.call9 rfl) (ok_ret f _) ?_; rintro v w10 ⟨hv, H1⟩; rw [decide_eq_false hok] at hv; subst hv; replace H := H.seq0 H1; clear H1)
  refine WL_step rfl (R_not_f rfl) ?_
  refine WL_nil ?_
  refine W_cond_t rfl ?_
  refine W_seq ?_
  refine W_region_l ?_
  refine WL_stepM rfl (R_as) ?_
  refine WL_nil ?_
  refine W_ret ?_
  exact ⟨_, rfl, rfl, H.none (by repeat' first | exact kNil | apply kCons | apply kApp | assumption | exact OwnS.keys (by assumption))⟩

theorem put_yes {b : Nat} {w : World} (f : Fl) (hok : fileOk f) (hb : w.heap[b]? = some (blk ((List.replicate 8 0).map U) 5)) :
    Ret Try.prog 24 #[.agg (flC f).toArray, sl b 0 8 8] w fun v w' => v = .bool true ∧ Hp w [(b, blk ((fileBytes f).map U) 5)] w' := by
  have hok0 := hok
  obtain ⟨k, p, r, g⟩ := f
  rw [show flC ⟨k, p, r, g⟩ = [I k, I p, I r, I g] from rfl]
  simp only [fileOk] at hok
  refine Ret_of_W (args := [_, _]) Try.func24 rfl Try.ntmps24 Try.results24 (by simp) ?_
  have H := Hp.focus0 hb
  refine W_seq ?_
  refine W_region_l ?_
  (refine WL_effn rfl (E_box (v := (.agg (List.toArray [(.int _ _), (.int _ _), (.int _ _), (.int _ _)]))) H rfl rfl) ?_; clear H; intro b3 w3 hb3 H)
  refine WL_stepM rfl (R_as) ?_
  refine WL_nil ?_
  refine W_seq ?_
  refine W_seq ?_
  refine W_region_l ?_
  refine WL_step rfl (R_loadA Try.isAgg23 Try.sizeOf23 rfl (H.get .here) rfl (by simp)) ?_
  (refine WL_call rfl (R_call rfl Try.call9 rfl) (ok_ret ⟨k, p, r, g⟩ _) ?_; rintro v w10 ⟨hv, H1⟩; rw [decide_eq_true hok0] at hv; subst hv; replace H := H.seq0 H1; clear H1)
  refine WL_step rfl (R_not_t rfl) ?_
  refine WL_nil ?_
  refine W_cond_f rfl ?_
  refine W_skip ?_
  refine W_seq ?_
  refine W_region_l ?_
  refine WL_stepM rfl (R_mv) ?_
  refine WL_step rfl (R_fieldAddr (off' := 0) Try.underlying23 rfl Try.sizeOf3 (by decide) rfl rfl) ?_
  refine WL_step rfl (R_load Try.isAgg3 rfl (H.get .here) rfl) ?_
  refine WL_step rfl (R_conv_int Try.underlying3 Try.underlying5 rfl (u8_b8 (by omega))) ?_
  refine WL_step rfl (R_fieldAddr (off' := 1) Try.underlying23 rfl Try.sizeOf3 (by decide) rfl rfl) ?_
  refine WL_step rfl (R_load Try.isAgg3 rfl (H.get .here) rfl) ?_
  refine WL_step rfl (R_conv_int Try.underlying3 Try.underlying5 rfl (u8_b8 (by omega))) ?_
  refine WL_step rfl (R_fieldAddr (off' := 2) Try.underlying23 rfl Try.sizeOf3 (by decide) rfl rfl) ?_
  refine WL_step rfl (R_load Try.isAgg3 rfl (H.get .here) rfl) ?_
  refine WL_step rfl (R_conv_int Try.underlying3 Try.underlying5 rfl (u8_b8 (by omega))) ?_
  refine WL_step rfl (R_fieldAddr (off' := 3) Try.underlying23 rfl Try.sizeOf3 (by decide) rfl rfl) ?_
  refine WL_step rfl (R_load Try.isAgg3 rfl (H.get .here) rfl) ?_
  refine WL_step rfl (R_conv_int Try.underlying3 Try.underlying5 rfl (u8_b8 (by omega))) ?_
  (refine WL_effn rfl (E_buildOnes (vs := [(.int _ _), (.int _ _), (.int _ _), (.int _ _), (.int _ _)]) H Try.underlying24 Try.sizeOf5 Try.zeroValue5 rfl rfl (by decide) rfl rfl (by simp [Value.oneCell'])) ?_; clear H; intro b30 w30 hb30 H)
  (refine WL_effm rfl (E_copy (xs := (fb5 ⟨k, p, r, g⟩).map U) H (.there (.there .here)) Try.underlying24 Try.sizeOf5 rfl rfl (RdS.blk (H.get .here) rfl (by simp) (by simp)).csrc (by simp) (by simp [Value.oneCell'])) ?_; clear H; rintro _ _ w31 rfl H; replace H := (H.pop (by assumption)).pop (by assumption); replace H : Hp w [(b, blk ((fb5 ⟨k, p, r, g⟩ ++ [0, 0, 0]).map U) 5)] _ := H)
  refine WL_nil ?_
  refine W_seq ?_
  refine W_region_l ?_
  refine WL_stepM rfl (R_mv) ?_
  refine WL_stepM rfl (R_mv) ?_
  refine WL_step rfl (R_slice Try.underlying24 Try.sizeOf5 rfl .none (.some rfl) (by omega) (by omega) (by omega) (by omega) (by omega) rfl) ?_
  (refine WL_call rfl (R_call rfl Try.call29 rfl) (sum_ret (xs := fb5 ⟨k, p, r, g⟩) (RdS.blk (H.get .here) rfl (by simp [fb5]) (by simp)) (by simp [fb5])) ?_; rintro _ w38 ⟨rfl, H1⟩; replace H := H.seq0 H1; clear H1)
  refine WL_step rfl (R_indexAddr (off' := 5) Try.underlying24 Try.sizeOf5 rfl rfl (by omega) (by omega) rfl) ?_
  (refine WL_effu rfl (E_store (v := U (sumB (fb5 ⟨k, p, r, g⟩))) H Try.sizeOf5 rfl rfl rfl .here (by simp [fb5])) ?_; clear H; intro w40 H)
  refine WL_nil ?_
  refine W_seq ?_
  refine W_region_l ?_
  refine WL_stepM rfl (R_as) ?_
  refine WL_nil ?_
  refine W_ret ?_
  exact ⟨_, rfl, rfl, H⟩
end Go.Proofs.Ytneeoicjipglkaa.File

/-
  Which instructions and which programs may be.
-/
import Derived.Test.YtaclingiedmpbaaFxN
import Derived.Test.YtaclingiedmpbaaProg
namespace Go.Proofs.Ytaclingiedmpbaa.Pred
open Go Go.Proofs Go.Proofs.Ytaclingiedmpbaa.Fx
set_option maxRecDepth 100000
set_option linter.unusedVariables false
set_option linter.unusedSimpArgs false
set_option maxHeartbeats 1000000

/-- an instruction -/
structure In where
  op : Int
  a : Int
  b : Int
deriving DecidableEq
def insC (i : In) : List Value := [I i.op, I i.a, I i.b]
theorem insC_len (i : In) : (insC i).length = 3 := rfl

def okP (i : In) (bh : Int) : Prop :=
  (1 ≤ i.op ∧ i.op ≤ 7 ∧ 0 ≤ i.a ∧ i.a ≤ 65535 ∧ (i.op = 1 ∨ i.op = 3 ∨ i.op = 4 ∨ i.op = 5 ∨ i.a = 0) ∧ i.b = 0) ∧ (i.op ≠ 5 ∨ i.a ≤ bh)
instance (i : In) (bh : Int) : Decidable (okP i bh) := by unfold okP; infer_instance

theorem ok_ret (i : In) (bh : Int) (w : World) :
    Ret Try.prog 39 #[.agg (insC i).toArray, I bh] w fun v w' => v = .bool (decide (okP i bh)) ∧ Hp w [] w' := by
  refine Ret_of_W (args := [_, _]) Try.func39 rfl Try.ntmps39 Try.results39 (by simp) ?_
  have H := Hp.refl w
  obtain ⟨op, a, b⟩ := i
  refine W_seq ?_
  refine W_region_l ?_
  (refine WL_effn rfl (E_box (vs := [I op, I a, I b]) H rfl rfl) ?_; clear H; intro b3 w3 hb3 H)
  refine WL_stepM rfl (R_as) ?_
  refine WL_nil ?_
  refine W_seq ?_
  refine W_region_l ?_
  refine WL_step rfl (R_fieldAddr (off' := 0) Try.underlying44 rfl Try.sizeOf3 (by decide) rfl rfl) ?_
  refine WL_step rfl (R_load Try.isAgg3 rfl (H.get .here) rfl) ?_
  refine WL_step rfl (R_eq rfl rfl) ?_
  refine WL_stepM rfl (R_mv) ?_
  apply WL_orK 4 9 13 [(10, 13)] H
  case hc => rfl
  case h1 =>
    intro h12
    refine WL_guard_t rfl rfl ?_
    refine WL_step rfl (R_fieldAddr (off' := 0) Try.underlying44 rfl Try.sizeOf3 (by decide) rfl rfl) ?_
    refine WL_guard_t rfl rfl ?_
    refine WL_step rfl (R_load Try.isAgg3 rfl (H.get .here) rfl) ?_
    refine WL_guard_t rfl rfl ?_
    refine WL_step rfl (R_eq rfl rfl) ?_
    refine WL_stepM rfl (R_pk_f rfl) ?_
    refine WL_nil ?_
    exact ⟨(by repeat' first | refine same_updo rfl ?_ | refine same_mov rfl ?_ | refine same_upd rfl ?_ | refine same_updn ?_ | refine same_know rfl ?_ | exact same_ovr | refine same_in rfl ?_ | exact Same.refl), rfl, H⟩
  case h0 =>
    intro h12
    refine WL_guard_f rfl rfl (by decide) ?_
    refine WL_guard_f rfl rfl (by decide) ?_
    refine WL_guard_f rfl rfl (by decide) ?_
    refine WL_stepM rfl (R_pk_t rfl) ?_
    refine WL_nil ?_
    exact ⟨(by repeat' first | refine same_updo rfl ?_ | refine same_mov rfl ?_ | refine same_upd rfl ?_ | refine same_updn ?_ | refine same_know rfl ?_ | exact same_ovr | refine same_in rfl ?_ | exact Same.refl), rfl, H⟩
  case h2 =>
    (clear H; intro E12 w12 H)
    refine WL_stepM rfl (R_mv) ?_
    apply WL_orK 4 14 18 [(15, 18)] H
    case hc => rfl
    case h1 =>
      intro h29
      refine WL_guard_t rfl rfl ?_
      refine WL_step rfl (R_fieldAddr (off' := 0) Try.underlying44 rfl Try.sizeOf3 (by decide) rfl rfl) ?_
      refine WL_guard_t rfl rfl ?_
      refine WL_step rfl (R_load Try.isAgg3 rfl (H.get .here) rfl) ?_
      refine WL_guard_t rfl rfl ?_
      refine WL_step rfl (R_eq rfl rfl) ?_
      refine WL_stepM rfl (R_pk_f rfl) ?_
      refine WL_nil ?_
      exact ⟨(by repeat' first | refine same_updo rfl ?_ | refine same_mov rfl ?_ | refine same_upd rfl ?_ | refine same_updn ?_ | refine same_know rfl ?_ | exact same_ovr | refine same_in rfl ?_ | exact Same.refl), rfl, H⟩
    case h0 =>
      intro h29
      refine WL_guard_f rfl rfl (by decide) ?_
      refine WL_guard_f rfl rfl (by decide) ?_
      refine WL_guard_f rfl rfl (by decide) ?_
      refine WL_stepM rfl (R_pk_t rfl) ?_
      refine WL_nil ?_
      exact ⟨(by repeat' first | refine same_updo rfl ?_ | refine same_mov rfl ?_ | refine same_upd rfl ?_ | refine same_updn ?_ | refine same_know rfl ?_ | exact same_ovr | refine same_in rfl ?_ | exact Same.refl), rfl, H⟩
    case h2 =>
      (clear H; intro E29 w29 H)
      refine WL_stepM rfl (R_mv) ?_
      apply WL_orK 4 19 23 [(20, 23)] H
      case hc => rfl
      case h1 =>
        intro h46
        refine WL_guard_t rfl rfl ?_
        refine WL_step rfl (R_fieldAddr (off' := 0) Try.underlying44 rfl Try.sizeOf3 (by decide) rfl rfl) ?_
        refine WL_guard_t rfl rfl ?_
        refine WL_step rfl (R_load Try.isAgg3 rfl (H.get .here) rfl) ?_
        refine WL_guard_t rfl rfl ?_
        refine WL_step rfl (R_eq rfl rfl) ?_
        refine WL_stepM rfl (R_pk_f rfl) ?_
        refine WL_nil ?_
        exact ⟨(by repeat' first | refine same_updo rfl ?_ | refine same_mov rfl ?_ | refine same_upd rfl ?_ | refine same_updn ?_ | refine same_know rfl ?_ | exact same_ovr | refine same_in rfl ?_ | exact Same.refl), rfl, H⟩
      case h0 =>
        intro h46
        refine WL_guard_f rfl rfl (by decide) ?_
        refine WL_guard_f rfl rfl (by decide) ?_
        refine WL_guard_f rfl rfl (by decide) ?_
        refine WL_stepM rfl (R_pk_t rfl) ?_
        refine WL_nil ?_
        exact ⟨(by repeat' first | refine same_updo rfl ?_ | refine same_mov rfl ?_ | refine same_upd rfl ?_ | refine same_updn ?_ | refine same_know rfl ?_ | exact same_ovr | refine same_in rfl ?_ | exact Same.refl), rfl, H⟩
      case h2 =>
        (clear H; intro E46 w46 H)
        refine WL_stepM rfl (R_as) ?_
        refine WL_nil ?_
        refine W_seq ?_
        refine W_seq ?_
        refine W_region_l ?_
        refine WL_step rfl (R_fieldAddr (off' := 0) Try.underlying44 rfl Try.sizeOf3 (by decide) rfl rfl) ?_
        refine WL_step rfl (R_load Try.isAgg3 rfl (H.get .here) rfl) ?_
        refine WL_step rfl (R_lt rfl rfl) ?_
        refine WL_stepM rfl (R_mv) ?_
        apply WL_orK 4 27 31 [(28, 31)] H
        case hc => rfl
        case h1 =>
          intro h71
          refine WL_guard_t rfl rfl ?_
          refine WL_step rfl (R_fieldAddr (off' := 0) Try.underlying44 rfl Try.sizeOf3 (by decide) rfl rfl) ?_
          refine WL_guard_t rfl rfl ?_
          refine WL_step rfl (R_load Try.isAgg3 rfl (H.get .here) rfl) ?_
          refine WL_guard_t rfl rfl ?_
          refine WL_step rfl (R_gt rfl rfl) ?_
          refine WL_stepM rfl (R_pk_f rfl) ?_
          refine WL_nil ?_
          exact ⟨(by repeat' first | refine same_updo rfl ?_ | refine same_mov rfl ?_ | refine same_upd rfl ?_ | refine same_updn ?_ | refine same_know rfl ?_ | exact same_ovr | refine same_in rfl ?_ | exact Same.refl), rfl, H⟩
        case h0 =>
          intro h71
          refine WL_guard_f rfl rfl (by decide) ?_
          refine WL_guard_f rfl rfl (by decide) ?_
          refine WL_guard_f rfl rfl (by decide) ?_
          refine WL_stepM rfl (R_pk_t rfl) ?_
          refine WL_nil ?_
          exact ⟨(by repeat' first | refine same_updo rfl ?_ | refine same_mov rfl ?_ | refine same_upd rfl ?_ | refine same_updn ?_ | refine same_know rfl ?_ | exact same_ovr | refine same_in rfl ?_ | exact Same.refl), rfl, H⟩
        case h2 =>
          (clear H; intro E71 w71 H)
          refine WL_stepM rfl (R_mv) ?_
          apply WL_orK 4 32 36 [(33, 36)] H
          case hc => rfl
          case h1 =>
            intro h88
            refine WL_guard_t rfl rfl ?_
            refine WL_step rfl (R_fieldAddr (off' := 1) Try.underlying44 rfl Try.sizeOf3 (by decide) rfl rfl) ?_
            refine WL_guard_t rfl rfl ?_
            refine WL_step rfl (R_load Try.isAgg3 rfl (H.get .here) rfl) ?_
            refine WL_guard_t rfl rfl ?_
            refine WL_step rfl (R_lt rfl rfl) ?_
            refine WL_stepM rfl (R_pk_f rfl) ?_
            refine WL_nil ?_
            exact ⟨(by repeat' first | refine same_updo rfl ?_ | refine same_mov rfl ?_ | refine same_upd rfl ?_ | refine same_updn ?_ | refine same_know rfl ?_ | exact same_ovr | refine same_in rfl ?_ | exact Same.refl), rfl, H⟩
          case h0 =>
            intro h88
            refine WL_guard_f rfl rfl (by decide) ?_
            refine WL_guard_f rfl rfl (by decide) ?_
            refine WL_guard_f rfl rfl (by decide) ?_
            refine WL_stepM rfl (R_pk_t rfl) ?_
            refine WL_nil ?_
            exact ⟨(by repeat' first | refine same_updo rfl ?_ | refine same_mov rfl ?_ | refine same_upd rfl ?_ | refine same_updn ?_ | refine same_know rfl ?_ | exact same_ovr | refine same_in rfl ?_ | exact Same.refl), rfl, H⟩
          case h2 =>
            (clear H; intro E88 w88 H)
            refine WL_stepM rfl (R_mv) ?_
            apply WL_orK 4 37 41 [(38, 41)] H
            case hc => rfl
            case h1 =>
              intro h105
              refine WL_guard_t rfl rfl ?_
              refine WL_step rfl (R_fieldAddr (off' := 1) Try.underlying44 rfl Try.sizeOf3 (by decide) rfl rfl) ?_
              refine WL_guard_t rfl rfl ?_
              refine WL_step rfl (R_load Try.isAgg3 rfl (H.get .here) rfl) ?_
              refine WL_guard_t rfl rfl ?_
              refine WL_step rfl (R_gt rfl rfl) ?_
              refine WL_stepM rfl (R_pk_f rfl) ?_
              refine WL_nil ?_
              exact ⟨(by repeat' first | refine same_updo rfl ?_ | refine same_mov rfl ?_ | refine same_upd rfl ?_ | refine same_updn ?_ | refine same_know rfl ?_ | exact same_ovr | refine same_in rfl ?_ | exact Same.refl), rfl, H⟩
            case h0 =>
              intro h105
              refine WL_guard_f rfl rfl (by decide) ?_
              refine WL_guard_f rfl rfl (by decide) ?_
              refine WL_guard_f rfl rfl (by decide) ?_
              refine WL_stepM rfl (R_pk_t rfl) ?_
              refine WL_nil ?_
              exact ⟨(by repeat' first | refine same_updo rfl ?_ | refine same_mov rfl ?_ | refine same_upd rfl ?_ | refine same_updn ?_ | refine same_know rfl ?_ | exact same_ovr | refine same_in rfl ?_ | exact Same.refl), rfl, H⟩
            case h2 =>
              (clear H; intro E105 w105 H)
              refine WL_stepM rfl (R_mv) ?_
              apply WL_orK 8 42 50 [(43, 50)] H
              case hc => rfl
              case h1 =>
                intro h122
                refine WL_guard_t rfl rfl ?_
                refine WL_stepM rfl (R_mv) ?_
                refine WL_guard_t rfl rfl ?_
                refine WL_step rfl (R_not_d rfl) ?_
                refine WL_guard_t rfl rfl ?_
                refine WL_stepM rfl (R_mv) ?_
                apply WL_andK 4 45 49 [(46, 49)] H
                case hc => rfl
                case h1 =>
                  intro h129
                  refine WL_guard_t rfl rfl ?_
                  refine WL_step rfl (R_fieldAddr (off' := 1) Try.underlying44 rfl Try.sizeOf3 (by decide) rfl rfl) ?_
                  refine WL_guard_t rfl rfl ?_
                  refine WL_step rfl (R_load Try.isAgg3 rfl (H.get .here) rfl) ?_
                  refine WL_guard_t rfl rfl ?_
                  refine WL_step rfl (R_ne rfl rfl) ?_
                  refine WL_guard_t rfl rfl ?_
                  refine WL_stepM rfl (R_pk_t rfl) ?_
                  refine WL_nil ?_
                  exact ⟨(by repeat' first | refine same_updo rfl ?_ | refine same_mov rfl ?_ | refine same_upd rfl ?_ | refine same_updn ?_ | refine same_know rfl ?_ | exact same_ovr | refine same_in rfl ?_ | exact Same.refl), rfl, H⟩
                case h0 =>
                  intro h129
                  refine WL_guard_f rfl rfl (by decide) ?_
                  refine WL_guard_f rfl rfl (by decide) ?_
                  refine WL_guard_f rfl rfl (by decide) ?_
                  refine WL_guard_t rfl rfl ?_
                  refine WL_stepM rfl (R_pk_f rfl) ?_
                  refine WL_nil ?_
                  exact ⟨(by repeat' first | refine same_updo rfl ?_ | refine same_mov rfl ?_ | refine same_upd rfl ?_ | refine same_updn ?_ | refine same_know rfl ?_ | exact same_ovr | refine same_in rfl ?_ | exact Same.refl), rfl, H⟩
                case h2 =>
                  intro E129 w129 H
                  refine WL_stepM rfl (R_pk_f rfl) ?_
                  refine WL_nil ?_
                  exact ⟨(by repeat' first | refine same_updo rfl ?_ | refine same_mov rfl ?_ | refine same_upd rfl ?_ | refine same_updn ?_ | refine same_know rfl ?_ | exact same_ovr | refine same_in rfl ?_ | exact Same.refl), rfl, H⟩
              case h0 =>
                intro h122
                refine WL_guard_f rfl rfl (by decide) ?_
                refine WL_guard_f rfl rfl (by decide) ?_
                refine WL_guard_f rfl rfl (by decide) ?_
                refine WL_guard_n rfl rfl ?_
                refine WL_guard_n rfl rfl ?_
                refine WL_guard_n rfl rfl ?_
                refine WL_guard_f rfl rfl (by decide) ?_
                refine WL_stepM rfl (R_pk_t rfl) ?_
                refine WL_nil ?_
                exact ⟨(by repeat' first | refine same_updo rfl ?_ | refine same_mov rfl ?_ | refine same_upd rfl ?_ | refine same_updn ?_ | refine same_know rfl ?_ | exact same_ovr | refine same_in rfl ?_ | exact Same.refl), rfl, H⟩
              case h2 =>
                (clear H; intro E122 w122 H)
                refine WL_stepM rfl (R_mv) ?_
                apply WL_orK 4 51 55 [(52, 55)] H
                case hc => rfl
                case h1 =>
                  intro h161
                  refine WL_guard_t rfl rfl ?_
                  refine WL_step rfl (R_fieldAddr (off' := 2) Try.underlying44 rfl Try.sizeOf3 (by decide) rfl rfl) ?_
                  refine WL_guard_t rfl rfl ?_
                  refine WL_step rfl (R_load Try.isAgg3 rfl (H.get .here) rfl) ?_
                  refine WL_guard_t rfl rfl ?_
                  refine WL_step rfl (R_ne rfl rfl) ?_
                  refine WL_stepM rfl (R_pk_f rfl) ?_
                  refine WL_nil ?_
                  exact ⟨(by repeat' first | refine same_updo rfl ?_ | refine same_mov rfl ?_ | refine same_upd rfl ?_ | refine same_updn ?_ | refine same_know rfl ?_ | exact same_ovr | refine same_in rfl ?_ | exact Same.refl), rfl, H⟩
                case h0 =>
                  intro h161
                  refine WL_guard_f rfl rfl (by decide) ?_
                  refine WL_guard_f rfl rfl (by decide) ?_
                  refine WL_guard_f rfl rfl (by decide) ?_
                  refine WL_stepM rfl (R_pk_t rfl) ?_
                  refine WL_nil ?_
                  exact ⟨(by repeat' first | refine same_updo rfl ?_ | refine same_mov rfl ?_ | refine same_upd rfl ?_ | refine same_updn ?_ | refine same_know rfl ?_ | exact same_ovr | refine same_in rfl ?_ | exact Same.refl), rfl, H⟩
                case h2 =>
                  (clear H; intro E161 w161 H)
                  refine WL_nil ?_
                  refine W_if rfl (fun h178 => ?_) (fun h178 => ?_)
                  · refine W_seq ?_
                    refine W_region_l ?_
                    refine WL_stepM rfl (R_as) ?_
                    refine WL_nil ?_
                    refine W_ret ?_
                    exact ⟨_, rfl, congrArg Value.bool (decide_eq_false (by unfold okP; simp only; omega)).symm, H.none (by repeat' first | exact kNil | apply kCons | apply kApp | assumption | exact OwnS.keys (by assumption))⟩
                  · refine W_skip ?_
                    refine W_seq ?_
                    refine W_region_l ?_
                    refine WL_step rfl (R_fieldAddr (off' := 0) Try.underlying44 rfl Try.sizeOf3 (by decide) rfl rfl) ?_
                    refine WL_step rfl (R_load Try.isAgg3 rfl (H.get .here) rfl) ?_
                    refine WL_step rfl (R_ne rfl rfl) ?_
                    refine WL_stepM rfl (R_mv) ?_
                    apply WL_orK 5 59 64 [(60, 64)] H
                    case hc => rfl
                    case h1 =>
                      intro h192
                      refine WL_guard_t rfl rfl ?_
                      refine WL_step rfl (R_fieldAddr (off' := 1) Try.underlying44 rfl Try.sizeOf3 (by decide) rfl rfl) ?_
                      refine WL_guard_t rfl rfl ?_
                      refine WL_step rfl (R_load Try.isAgg3 rfl (H.get .here) rfl) ?_
                      refine WL_guard_t rfl rfl ?_
                      refine WL_stepM rfl (R_mv) ?_
                      refine WL_guard_t rfl rfl ?_
                      refine WL_step rfl (R_le rfl rfl) ?_
                      refine WL_stepM rfl (R_pk_f rfl) ?_
                      refine WL_nil ?_
                      exact ⟨(by repeat' first | refine same_updo rfl ?_ | refine same_mov rfl ?_ | refine same_upd rfl ?_ | refine same_updn ?_ | refine same_know rfl ?_ | exact same_ovr | refine same_in rfl ?_ | exact Same.refl), rfl, H⟩
                    case h0 =>
                      intro h192
                      refine WL_guard_f rfl rfl (by decide) ?_
                      refine WL_guard_f rfl rfl (by decide) ?_
                      refine WL_guard_f rfl rfl (by decide) ?_
                      refine WL_guard_f rfl rfl (by decide) ?_
                      refine WL_stepM rfl (R_pk_t rfl) ?_
                      refine WL_nil ?_
                      exact ⟨(by repeat' first | refine same_updo rfl ?_ | refine same_mov rfl ?_ | refine same_upd rfl ?_ | refine same_updn ?_ | refine same_know rfl ?_ | exact same_ovr | refine same_in rfl ?_ | exact Same.refl), rfl, H⟩
                    case h2 =>
                      (clear H; intro E192 w192 H)
                      refine WL_stepM rfl (R_as) ?_
                      refine WL_nil ?_
                      refine W_ret ?_
                      exact ⟨_, rfl, congrArg Value.bool (decide_eq_decide.2 (by unfold okP; simp only; omega)), H.none (by repeat' first | exact kNil | apply kCons | apply kApp | assumption | exact OwnS.keys (by assumption))⟩

theorem in_ret (n : Int) (w : World) :
    Ret Try.prog 44 #[I n] w fun v w' => v = .bool (decide (0 ≤ n ∧ n ≤ 65535)) ∧ Hp w [] w' := by
  refine Ret_of_W (args := [_]) Try.func44 rfl Try.ntmps44 Try.results44 (by simp) ?_
  have H := Hp.refl w
  refine W_seq ?_
  refine W_region_l ?_
  refine WL_stepM rfl (R_as) ?_
  refine WL_nil ?_
  refine W_seq ?_
  refine W_region_l ?_
  refine WL_stepM rfl (R_mv) ?_
  refine WL_step rfl (R_ge rfl rfl) ?_
  refine WL_stepM rfl (R_mv) ?_
  apply WL_andK 3 5 8 [(6, 8)] H
  case hc => rfl
  case h1 =>
    intro h10
    refine WL_guard_t rfl rfl ?_
    refine WL_stepM rfl (R_mv) ?_
    refine WL_guard_t rfl rfl ?_
    refine WL_step rfl (R_le rfl rfl) ?_
    refine WL_stepM rfl (R_pk_t rfl) ?_
    refine WL_nil ?_
    exact ⟨(by repeat' first | refine same_updo rfl ?_ | refine same_mov rfl ?_ | refine same_upd rfl ?_ | refine same_updn ?_ | refine same_know rfl ?_ | exact same_ovr | refine same_in rfl ?_ | exact Same.refl), rfl, H⟩
  case h0 =>
    intro h10
    refine WL_guard_f rfl rfl (by decide) ?_
    refine WL_guard_f rfl rfl (by decide) ?_
    refine WL_stepM rfl (R_pk_f rfl) ?_
    refine WL_nil ?_
    exact ⟨(by repeat' first | refine same_updo rfl ?_ | refine same_mov rfl ?_ | refine same_upd rfl ?_ | refine same_updn ?_ | refine same_know rfl ?_ | exact same_ovr | refine same_in rfl ?_ | exact Same.refl), rfl, H⟩
  case h2 =>
    (clear H; intro E10 w10 H)
    refine WL_stepM rfl (R_as) ?_
    refine WL_nil ?_
    refine W_ret ?_
    exact ⟨_, rfl, congrArg Value.bool (decide_eq_decide.2 (by omega)), H⟩

theorem one_ret (p : Prop) [Decidable p] (w : World) :
    Ret Try.prog 45 #[.bool (decide p)] w fun v w' => v = I (if p then 1 else 0) ∧ Hp w [] w' := by
  refine Ret_of_W (args := [_]) Try.func45 rfl Try.ntmps45 Try.results45 (by simp) ?_
  have H := Hp.refl w
  refine W_seq ?_
  refine W_region_l ?_
  refine WL_stepM rfl (R_as) ?_
  refine WL_nil ?_
  refine W_seq ?_
  refine W_seq ?_
  refine W_region_l ?_
  refine WL_stepM rfl (R_mv) ?_
  refine WL_nil ?_
  refine W_if rfl (fun h10 => ?_) (fun h10 => ?_)
  · refine W_seq ?_
    refine W_region_l ?_
    refine WL_stepM rfl (R_as) ?_
    refine WL_nil ?_
    refine W_ret ?_
    exact ⟨_, rfl, congrArg I (by rw [if_pos (by assumption)]), H⟩
  · refine W_skip ?_
    refine W_seq ?_
    refine W_region_l ?_
    refine WL_stepM rfl (R_as) ?_
    refine WL_nil ?_
    refine W_ret ?_
    exact ⟨_, rfl, congrArg I (by rw [if_neg (by assumption)]), H⟩
end Go.Proofs.Ytaclingiedmpbaa.Pred

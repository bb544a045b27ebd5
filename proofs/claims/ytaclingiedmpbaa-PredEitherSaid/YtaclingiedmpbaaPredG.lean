/-
  The document's answer for programs.
-/
import Derived.Test.YtaclingiedmpbaaPredE
namespace Go.Proofs.Ytaclingiedmpbaa.Pred
open Go Go.Proofs Go.Proofs.Ytaclingiedmpbaa.Fx
set_option maxRecDepth 100000
set_option linter.unusedVariables false
set_option linter.unusedSimpArgs false
set_option maxHeartbeats 1000000

theorem named_ret (n : Int) (w : World) :
    Ret Try.prog 40 #[I n] w fun v w' => v = .bool (decide (n = 1 ∨ n = 3 ∨ n = 4 ∨ n = 5)) ∧ Hp w [] w' := by
  refine Ret_of_W (args := [_]) Try.func40 rfl Try.ntmps40 Try.results40 (by simp) ?_
  have H := Hp.refl w
  refine W_seq ?_
  refine W_region_l ?_
  refine WL_stepM rfl (R_as) ?_
  refine WL_nil ?_
  refine W_seq ?_
  refine W_region_l ?_
  refine WL_stepM rfl (R_mv) ?_
  refine WL_step rfl (R_eq rfl rfl) ?_
  refine WL_stepM rfl (R_mv) ?_
  apply WL_orK 3 5 8 [(6, 8)] H
  case hc => rfl
  case h1 =>
    intro h10
    refine WL_guard_t rfl rfl ?_
    refine WL_stepM rfl (R_mv) ?_
    refine WL_guard_t rfl rfl ?_
    refine WL_step rfl (R_eq rfl rfl) ?_
    refine WL_stepM rfl (R_pk_f rfl) ?_
    refine WL_nil ?_
    exact ⟨(by repeat' first | refine same_updo rfl ?_ | refine same_mov rfl ?_ | refine same_upd rfl ?_ | refine same_updn ?_ | refine same_know rfl ?_ | exact same_ovr | refine same_in rfl ?_ | exact Same.refl), rfl, H⟩
  case h0 =>
    intro h10
    refine WL_guard_f rfl rfl (by decide) ?_
    refine WL_guard_f rfl rfl (by decide) ?_
    refine WL_stepM rfl (R_pk_t rfl) ?_
    refine WL_nil ?_
    exact ⟨(by repeat' first | refine same_updo rfl ?_ | refine same_mov rfl ?_ | refine same_upd rfl ?_ | refine same_updn ?_ | refine same_know rfl ?_ | exact same_ovr | refine same_in rfl ?_ | exact Same.refl), rfl, H⟩
  case h2 =>
    (clear H; intro E10 w10 H)
    refine WL_stepM rfl (R_mv) ?_
    apply WL_orK 3 9 12 [(10, 12)] H
    case hc => rfl
    case h1 =>
      intro h24
      refine WL_guard_t rfl rfl ?_
      refine WL_stepM rfl (R_mv) ?_
      refine WL_guard_t rfl rfl ?_
      refine WL_step rfl (R_eq rfl rfl) ?_
      refine WL_stepM rfl (R_pk_f rfl) ?_
      refine WL_nil ?_
      exact ⟨(by repeat' first | refine same_updo rfl ?_ | refine same_mov rfl ?_ | refine same_upd rfl ?_ | refine same_updn ?_ | refine same_know rfl ?_ | exact same_ovr | refine same_in rfl ?_ | exact Same.refl), rfl, H⟩
    case h0 =>
      intro h24
      refine WL_guard_f rfl rfl (by decide) ?_
      refine WL_guard_f rfl rfl (by decide) ?_
      refine WL_stepM rfl (R_pk_t rfl) ?_
      refine WL_nil ?_
      exact ⟨(by repeat' first | refine same_updo rfl ?_ | refine same_mov rfl ?_ | refine same_upd rfl ?_ | refine same_updn ?_ | refine same_know rfl ?_ | exact same_ovr | refine same_in rfl ?_ | exact Same.refl), rfl, H⟩
    case h2 =>
      (clear H; intro E24 w24 H)
      refine WL_stepM rfl (R_mv) ?_
      apply WL_orK 3 13 16 [(14, 16)] H
      case hc => rfl
      case h1 =>
        intro h38
        refine WL_guard_t rfl rfl ?_
        refine WL_stepM rfl (R_mv) ?_
        refine WL_guard_t rfl rfl ?_
        refine WL_step rfl (R_eq rfl rfl) ?_
        refine WL_stepM rfl (R_pk_f rfl) ?_
        refine WL_nil ?_
        exact ⟨(by repeat' first | refine same_updo rfl ?_ | refine same_mov rfl ?_ | refine same_upd rfl ?_ | refine same_updn ?_ | refine same_know rfl ?_ | exact same_ovr | refine same_in rfl ?_ | exact Same.refl), rfl, H⟩
      case h0 =>
        intro h38
        refine WL_guard_f rfl rfl (by decide) ?_
        refine WL_guard_f rfl rfl (by decide) ?_
        refine WL_stepM rfl (R_pk_t rfl) ?_
        refine WL_nil ?_
        exact ⟨(by repeat' first | refine same_updo rfl ?_ | refine same_mov rfl ?_ | refine same_upd rfl ?_ | refine same_updn ?_ | refine same_know rfl ?_ | exact same_ovr | refine same_in rfl ?_ | exact Same.refl), rfl, H⟩
      case h2 =>
        (clear H; intro E38 w38 H)
        refine WL_stepM rfl (R_as) ?_
        refine WL_nil ?_
        refine W_ret ?_
        exact ⟨_, rfl, congrArg Value.bool (decide_eq_decide.2 (by omega)), H⟩

theorem bit_ret (p : Prop) [Decidable p] (w : World) :
    Ret Try.prog 41 #[.bool (decide p)] w fun v w' => v = I (if p then 1 else 0) ∧ Hp w [] w' := by
  refine Ret_of_W (args := [_]) Try.func41 rfl Try.ntmps41 Try.results41 (by simp) ?_
  have H := Hp.refl w
  refine W_seq ?_
  refine W_region_l ?_
  refine WL_stepM rfl (R_as) ?_
  refine WL_nil ?_
  refine W_seq ?_
  refine W_seq ?_
  refine W_region_l ?_
  refine WL_stepM rfl (R_mv) ?_
  refine WL_nil ?_
  refine W_if rfl (fun h10 => ?_) (fun h10 => ?_)
  · refine W_seq ?_
    refine W_region_l ?_
    refine WL_stepM rfl (R_as) ?_
    refine WL_nil ?_
    refine W_ret ?_
    exact ⟨_, rfl, congrArg I (by rw [if_pos (by assumption)]), H⟩
  · refine W_skip ?_
    refine W_seq ?_
    refine W_region_l ?_
    refine WL_stepM rfl (R_as) ?_
    refine WL_nil ?_
    refine W_ret ?_
    exact ⟨_, rfl, congrArg I (by rw [if_neg (by assumption)]), H⟩

section
variable {view : List UInt8} {now n op a b : Int}
theorem doN_1 {u : UInt8} (h : op = 1) (hu : view[a.toNat]? = some u) : doN view now n ⟨op, a, b⟩ = u.toNat := by
  subst h; unfold doN; simp only [hu, Option.elim, if_true]
theorem doN_1n (h : op = 1) (hu : view.length ≤ a.toNat) : doN view now n ⟨op, a, b⟩ = 0 := by
  subst h; unfold doN; simp only [List.getElem?_eq_none hu, Option.elim, if_true]
theorem doN_2 (h : op = 2) : doN view now n ⟨op, a, b⟩ = now := by subst h; rfl
theorem doN_3 (h : op = 3) : doN view now n ⟨op, a, b⟩ = bitsOf .and .i64 n a := by subst h; rfl
theorem doN_4 (h : op = 4) : doN view now n ⟨op, a, b⟩ = if n < a then 1 else 0 := by subst h; rfl
theorem doN_5 (h : op = 5) : doN view now n ⟨op, a, b⟩ = n := by subst h; rfl
theorem doN_7 (h : op = 7) : doN view now n ⟨op, a, b⟩ = if n = 0 then 1 else 0 := by subst h; rfl
end

section
variable {w : World} {l : List In} {lv : Value}

theorem rcheck_ret (hl : RdR insC w lv l) (hb : l.length ≤ 9223372036854775807) :
    Ret Try.prog 25 #[lv] w fun v w' => v = I (chk l) ∧ Hp w [] w' := by
  refine Ret_of_W (args := [_]) Try.func25 rfl Try.ntmps25 Try.results25 (by simp) ?_
  have H := Hp.refl w
  obtain ⟨ao, ca, rfl⟩ := hl.form
  refine W_seq ?_
  refine W_region_l ?_
  refine WL_stepM rfl (R_as) ?_
  refine WL_nil ?_
  refine W_seq ?_
  refine W_seq ?_
  refine W_region_l ?_
  refine WL_stepM rfl (R_mv) ?_
  refine WL_step rfl (R_len_slice Try.underlying45 rfl) ?_
  refine WL_step rfl (R_gt rfl rfl) ?_
  refine WL_nil ?_
  refine W_if rfl (fun h12 => ?_) (fun h12 => ?_)
  · refine W_seq ?_
    refine W_region_l ?_
    refine WL_stepM rfl (R_as) ?_
    refine WL_nil ?_
    refine W_ret ?_
    exact ⟨_, rfl, congrArg I (by unfold chk; rw [if_pos (by omega)]), H⟩
  · refine W_skip ?_
    refine W_seq ?_
    refine W_seq ?_
    refine W_region_l ?_
    refine WL_stepM rfl (R_as) ?_
    refine WL_nil ?_
    refine W_block ?_
    refine W_loopS [(2, 4), (8, 66)] (fun (k : Nat) E w' => k ≤ l.length ∧ E 3 = I k ∧ allOk (l.drop k) = allOk l ∧ Hp w [] w') (fun k => l.length - k) 0 ?e0 ?r0
    · exact ⟨by omega, rfl, rfl, H⟩
    · (clear H; rintro k E w1 ⟨hk, h0, ha, H⟩; refine W_kn h0 ?_)
      refine W_seq ?_
      refine W_seq ?_
      refine W_region_l ?_
      refine WL_stepM rfl (R_mv) ?_
      refine WL_stepM rfl (R_mv) ?_
      refine WL_step rfl (R_len_slice Try.underlying45 rfl) ?_
      refine WL_step rfl (R_lt rfl rfl) ?_
      refine WL_nil ?_
      refine W_if rfl (fun h36 => ?_) (fun h36 => ?_)
      · refine W_skip ?_
        refine W_seq ?_
        refine W_block ?_
        refine W_seq ?_
        (obtain ⟨⟨op, a, b⟩, hi⟩ : ∃ i, l[k]? = some i := ⟨_, List.getElem?_eq_getElem (by omega)⟩; obtain ⟨bb, off, rfl, hc⟩ := hl.cell insC_len hi; rw [allOk_drop hi] at ha) <;> refine W_region_l ?_
        refine WL_stepM rfl (R_mv) ?_
        refine WL_stepM rfl (R_mv) ?_
        refine WL_step rfl (R_indexAddr Try.underlying45 Try.sizeOf44 rfl rfl (by omega) (by omega) idx_castn) ?_
        refine WL_step rfl (R_loadA_cell (vs := [I op, I a, I b]) Try.isAgg44 Try.sizeOf44 rfl (fun j v hj => H.cellN (hc j v hj) (by repeat' first | exact kNil | apply kCons | apply kApp | assumption | exact OwnS.keys (by assumption))) rfl) ?_
        (refine WL_effn rfl (E_alloc H Try.zeroValue44 rfl) ?_; clear H; intro b46 w46 hb46 H)
        (refine WL_effu rfl (E_storeA (vs := [(.int _ _), (.int _ _), (.int _ _)]) H Try.sizeOf44 rfl rfl (by simp [Value.oneCell']) .here (by simp)) ?_; clear H; intro w47 H)
        refine WL_nil ?_
        refine W_seq ?_
        refine W_region_l ?_
        refine WL_step rfl (R_fieldAddr (off' := 0) Try.underlying44 rfl Try.sizeOf3 (by decide) rfl rfl) ?_
        refine WL_step rfl (R_load Try.isAgg3 rfl (H.get .here) rfl) ?_
        refine WL_step rfl (R_lt rfl rfl) ?_
        refine WL_stepM rfl (R_mv) ?_
        apply WL_orK 4 21 25 [(22, 25)] H
        case hc => rfl
        case h1 =>
          intro h55
          refine WL_guard_t rfl rfl ?_
          refine WL_step rfl (R_fieldAddr (off' := 0) Try.underlying44 rfl Try.sizeOf3 (by decide) rfl rfl) ?_
          refine WL_guard_t rfl rfl ?_
          refine WL_step rfl (R_load Try.isAgg3 rfl (H.get .here) rfl) ?_
          refine WL_guard_t rfl rfl ?_
          refine WL_step rfl (R_gt rfl rfl) ?_
          refine WL_stepM rfl (R_pk_f rfl) ?_
          refine WL_nil ?_
          exact ⟨(by repeat' first | refine same_updo rfl ?_ | refine same_mov rfl ?_ | refine same_upd rfl ?_ | refine same_updn ?_ | refine same_know rfl ?_ | exact same_ovr | refine same_in rfl ?_ | exact Same.refl), rfl, H⟩
        case h0 =>
          intro h55
          refine WL_guard_f rfl rfl (by decide) ?_
          refine WL_guard_f rfl rfl (by decide) ?_
          refine WL_guard_f rfl rfl (by decide) ?_
          refine WL_stepM rfl (R_pk_t rfl) ?_
          refine WL_nil ?_
          exact ⟨(by repeat' first | refine same_updo rfl ?_ | refine same_mov rfl ?_ | refine same_upd rfl ?_ | refine same_updn ?_ | refine same_know rfl ?_ | exact same_ovr | refine same_in rfl ?_ | exact Same.refl), rfl, H⟩
        case h2 =>
          (clear H; intro E55 w55 H)
          refine WL_stepM rfl (R_mv) ?_
          apply WL_orK 4 26 30 [(27, 30)] H
          case hc => rfl
          case h1 =>
            intro h72
            refine WL_guard_t rfl rfl ?_
            refine WL_step rfl (R_fieldAddr (off' := 1) Try.underlying44 rfl Try.sizeOf3 (by decide) rfl rfl) ?_
            refine WL_guard_t rfl rfl ?_
            refine WL_step rfl (R_load Try.isAgg3 rfl (H.get .here) rfl) ?_
            refine WL_guard_t rfl rfl ?_
            refine WL_step rfl (R_lt rfl rfl) ?_
            refine WL_stepM rfl (R_pk_f rfl) ?_
            refine WL_nil ?_
            exact ⟨(by repeat' first | refine same_updo rfl ?_ | refine same_mov rfl ?_ | refine same_upd rfl ?_ | refine same_updn ?_ | refine same_know rfl ?_ | exact same_ovr | refine same_in rfl ?_ | exact Same.refl), rfl, H⟩
          case h0 =>
            intro h72
            refine WL_guard_f rfl rfl (by decide) ?_
            refine WL_guard_f rfl rfl (by decide) ?_
            refine WL_guard_f rfl rfl (by decide) ?_
            refine WL_stepM rfl (R_pk_t rfl) ?_
            refine WL_nil ?_
            exact ⟨(by repeat' first | refine same_updo rfl ?_ | refine same_mov rfl ?_ | refine same_upd rfl ?_ | refine same_updn ?_ | refine same_know rfl ?_ | exact same_ovr | refine same_in rfl ?_ | exact Same.refl), rfl, H⟩
          case h2 =>
            (clear H; intro E72 w72 H)
            refine WL_stepM rfl (R_mv) ?_
            apply WL_orK 4 31 35 [(32, 35)] H
            case hc => rfl
            case h1 =>
              intro h89
              refine WL_guard_t rfl rfl ?_
              refine WL_step rfl (R_fieldAddr (off' := 1) Try.underlying44 rfl Try.sizeOf3 (by decide) rfl rfl) ?_
              refine WL_guard_t rfl rfl ?_
              refine WL_step rfl (R_load Try.isAgg3 rfl (H.get .here) rfl) ?_
              refine WL_guard_t rfl rfl ?_
              refine WL_step rfl (R_gt rfl rfl) ?_
              refine WL_stepM rfl (R_pk_f rfl) ?_
              refine WL_nil ?_
              exact ⟨(by repeat' first | refine same_updo rfl ?_ | refine same_mov rfl ?_ | refine same_upd rfl ?_ | refine same_updn ?_ | refine same_know rfl ?_ | exact same_ovr | refine same_in rfl ?_ | exact Same.refl), rfl, H⟩
            case h0 =>
              intro h89
              refine WL_guard_f rfl rfl (by decide) ?_
              refine WL_guard_f rfl rfl (by decide) ?_
              refine WL_guard_f rfl rfl (by decide) ?_
              refine WL_stepM rfl (R_pk_t rfl) ?_
              refine WL_nil ?_
              exact ⟨(by repeat' first | refine same_updo rfl ?_ | refine same_mov rfl ?_ | refine same_upd rfl ?_ | refine same_updn ?_ | refine same_know rfl ?_ | exact same_ovr | refine same_in rfl ?_ | exact Same.refl), rfl, H⟩
            case h2 =>
              (clear H; intro E89 w89 H)
              refine WL_stepM rfl (R_mv) ?_
              apply WL_orK 4 36 40 [(37, 40)] H
              case hc => rfl
              case h1 =>
                intro h106
                refine WL_guard_t rfl rfl ?_
                refine WL_step rfl (R_fieldAddr (off' := 2) Try.underlying44 rfl Try.sizeOf3 (by decide) rfl rfl) ?_
                refine WL_guard_t rfl rfl ?_
                refine WL_step rfl (R_load Try.isAgg3 rfl (H.get .here) rfl) ?_
                refine WL_guard_t rfl rfl ?_
                refine WL_step rfl (R_ne rfl rfl) ?_
                refine WL_stepM rfl (R_pk_f rfl) ?_
                refine WL_nil ?_
                exact ⟨(by repeat' first | refine same_updo rfl ?_ | refine same_mov rfl ?_ | refine same_upd rfl ?_ | refine same_updn ?_ | refine same_know rfl ?_ | exact same_ovr | refine same_in rfl ?_ | exact Same.refl), rfl, H⟩
              case h0 =>
                intro h106
                refine WL_guard_f rfl rfl (by decide) ?_
                refine WL_guard_f rfl rfl (by decide) ?_
                refine WL_guard_f rfl rfl (by decide) ?_
                refine WL_stepM rfl (R_pk_t rfl) ?_
                refine WL_nil ?_
                exact ⟨(by repeat' first | refine same_updo rfl ?_ | refine same_mov rfl ?_ | refine same_upd rfl ?_ | refine same_updn ?_ | refine same_know rfl ?_ | exact same_ovr | refine same_in rfl ?_ | exact Same.refl), rfl, H⟩
              case h2 =>
                (clear H; intro E106 w106 H)
                refine WL_stepM rfl (R_mv) ?_
                apply WL_orK 10 41 51 [(42, 51)] H
                case hc => rfl
                case h1 =>
                  intro h123
                  refine WL_guard_t rfl rfl ?_
                  refine WL_step rfl (R_fieldAddr (off' := 0) Try.underlying44 rfl Try.sizeOf3 (by decide) rfl rfl) ?_
                  refine WL_guard_t rfl rfl ?_
                  refine WL_step rfl (R_load Try.isAgg3 rfl (H.get .here) rfl) ?_
                  refine WL_guard_t rfl rfl ?_
                  (refine WL_call rfl (R_call rfl Try.call40 rfl) (named_ret _ _) ?_; rintro _ w129 ⟨rfl, H1⟩; replace H := H.seq0 H1; clear H1)
                  refine WL_guard_t rfl rfl ?_
                  refine WL_step rfl (R_not_d rfl) ?_
                  refine WL_guard_t rfl rfl ?_
                  refine WL_stepM rfl (R_mv) ?_
                  apply WL_andK 4 46 50 [(47, 50)] H
                  case hc => rfl
                  case h1 =>
                    intro h134
                    refine WL_guard_t rfl rfl ?_
                    refine WL_step rfl (R_fieldAddr (off' := 1) Try.underlying44 rfl Try.sizeOf3 (by decide) rfl rfl) ?_
                    refine WL_guard_t rfl rfl ?_
                    refine WL_step rfl (R_load Try.isAgg3 rfl (H.get .here) rfl) ?_
                    refine WL_guard_t rfl rfl ?_
                    refine WL_step rfl (R_ne rfl rfl) ?_
                    refine WL_guard_t rfl rfl ?_
                    refine WL_stepM rfl (R_pk_t rfl) ?_
                    refine WL_nil ?_
                    exact ⟨(by repeat' first | refine same_updo rfl ?_ | refine same_mov rfl ?_ | refine same_upd rfl ?_ | refine same_updn ?_ | refine same_know rfl ?_ | exact same_ovr | refine same_in rfl ?_ | exact Same.refl), rfl, H⟩
                  case h0 =>
                    intro h134
                    refine WL_guard_f rfl rfl (by decide) ?_
                    refine WL_guard_f rfl rfl (by decide) ?_
                    refine WL_guard_f rfl rfl (by decide) ?_
                    refine WL_guard_t rfl rfl ?_
                    refine WL_stepM rfl (R_pk_f rfl) ?_
                    refine WL_nil ?_
                    exact ⟨(by repeat' first | refine same_updo rfl ?_ | refine same_mov rfl ?_ | refine same_upd rfl ?_ | refine same_updn ?_ | refine same_know rfl ?_ | exact same_ovr | refine same_in rfl ?_ | exact Same.refl), rfl, H⟩
                  case h2 =>
                    (clear H; intro E134 w134 H)
                    refine WL_stepM rfl (R_pk_f rfl) ?_
                    refine WL_nil ?_
                    exact ⟨(by repeat' first | refine same_updo rfl ?_ | refine same_mov rfl ?_ | refine same_upd rfl ?_ | refine same_updn ?_ | refine same_know rfl ?_ | exact same_ovr | refine same_in rfl ?_ | exact Same.refl), rfl, H⟩
                case h0 =>
                  intro h123
                  refine WL_guard_f rfl rfl (by decide) ?_
                  refine WL_guard_f rfl rfl (by decide) ?_
                  refine WL_guard_f rfl rfl (by decide) ?_
                  refine WL_guard_f rfl rfl (by decide) ?_
                  refine WL_guard_f rfl rfl (by decide) ?_
                  refine WL_guard_n rfl rfl ?_
                  refine WL_guard_n rfl rfl ?_
                  refine WL_guard_n rfl rfl ?_
                  refine WL_guard_f rfl rfl (by decide) ?_
                  refine WL_stepM rfl (R_pk_t rfl) ?_
                  refine WL_nil ?_
                  exact ⟨(by repeat' first | refine same_updo rfl ?_ | refine same_mov rfl ?_ | refine same_upd rfl ?_ | refine same_updn ?_ | refine same_know rfl ?_ | exact same_ovr | refine same_in rfl ?_ | exact Same.refl), rfl, H⟩
                case h2 =>
                  (clear H; intro E123 w123 H)
                  refine WL_stepM rfl (R_mv) ?_
                  apply WL_orK 14 52 66 [(53, 66)] H
                  case hc => rfl
                  case h1 =>
                    intro h168
                    refine WL_guard_t rfl rfl ?_
                    refine WL_step rfl (R_fieldAddr (off' := 0) Try.underlying44 rfl Try.sizeOf3 (by decide) rfl rfl) ?_
                    refine WL_guard_t rfl rfl ?_
                    refine WL_step rfl (R_load Try.isAgg3 rfl (H.get .here) rfl) ?_
                    refine WL_guard_t rfl rfl ?_
                    refine WL_step rfl (R_eq rfl rfl) ?_
                    refine WL_guard_t rfl rfl ?_
                    refine WL_stepM rfl (R_mv) ?_
                    apply WL_andK 9 56 65 [(57, 65)] H
                    case hc => rfl
                    case h1 =>
                      intro h177
                      refine WL_guard_t rfl rfl ?_
                      refine WL_step rfl (R_fieldAddr (off' := 1) Try.underlying44 rfl Try.sizeOf3 (by decide) rfl rfl) ?_
                      refine WL_guard_t rfl rfl ?_
                      refine WL_step rfl (R_load Try.isAgg3 rfl (H.get .here) rfl) ?_
                      refine WL_guard_t rfl rfl ?_
                      refine WL_stepM rfl (R_mv) ?_
                      refine WL_guard_t rfl rfl ?_
                      refine WL_step rfl (R_len_slice Try.underlying45 rfl) ?_
                      refine WL_guard_t rfl rfl ?_
                      refine WL_step rfl (R_sub rfl rfl (w_i64 (by omega))) ?_
                      refine WL_guard_t rfl rfl ?_
                      refine WL_stepM rfl (R_mv) ?_
                      refine WL_guard_t rfl rfl ?_
                      refine WL_step rfl (R_sub rfl rfl (w_i64 (by omega))) ?_
                      refine WL_guard_t rfl rfl ?_
                      refine WL_step rfl (R_gt rfl rfl) ?_
                      refine WL_guard_t rfl rfl ?_
                      refine WL_stepM rfl (R_pk_t rfl) ?_
                      refine WL_nil ?_
                      exact ⟨(by repeat' first | refine same_updo rfl ?_ | refine same_mov rfl ?_ | refine same_upd rfl ?_ | refine same_updn ?_ | refine same_know rfl ?_ | exact same_ovr | refine same_in rfl ?_ | exact Same.refl), rfl, H⟩
                    case h0 =>
                      intro h177
                      refine WL_guard_f rfl rfl (by decide) ?_
                      refine WL_guard_f rfl rfl (by decide) ?_
                      refine WL_guard_f rfl rfl (by decide) ?_
                      refine WL_guard_f rfl rfl (by decide) ?_
                      refine WL_guard_f rfl rfl (by decide) ?_
                      refine WL_guard_f rfl rfl (by decide) ?_
                      refine WL_guard_f rfl rfl (by decide) ?_
                      refine WL_guard_f rfl rfl (by decide) ?_
                      refine WL_guard_t rfl rfl ?_
                      refine WL_stepM rfl (R_pk_f rfl) ?_
                      refine WL_nil ?_
                      exact ⟨(by repeat' first | refine same_updo rfl ?_ | refine same_mov rfl ?_ | refine same_upd rfl ?_ | refine same_updn ?_ | refine same_know rfl ?_ | exact same_ovr | refine same_in rfl ?_ | exact Same.refl), rfl, H⟩
                    case h2 =>
                      intro E177 w177 H
                      refine WL_stepM rfl (R_pk_f rfl) ?_
                      refine WL_nil ?_
                      exact ⟨(by repeat' first | refine same_updo rfl ?_ | refine same_mov rfl ?_ | refine same_upd rfl ?_ | refine same_updn ?_ | refine same_know rfl ?_ | exact same_ovr | refine same_in rfl ?_ | exact Same.refl), rfl, H⟩
                  case h0 =>
                    intro h168
                    refine WL_guard_f rfl rfl (by decide) ?_
                    refine WL_guard_f rfl rfl (by decide) ?_
                    refine WL_guard_f rfl rfl (by decide) ?_
                    refine WL_guard_f rfl rfl (by decide) ?_
                    refine WL_guard_n rfl rfl ?_
                    refine WL_guard_n rfl rfl ?_
                    refine WL_guard_n rfl rfl ?_
                    refine WL_guard_n rfl rfl ?_
                    refine WL_guard_n rfl rfl ?_
                    refine WL_guard_n rfl rfl ?_
                    refine WL_guard_n rfl rfl ?_
                    refine WL_guard_n rfl rfl ?_
                    refine WL_guard_f rfl rfl (by decide) ?_
                    refine WL_stepM rfl (R_pk_t rfl) ?_
                    refine WL_nil ?_
                    exact ⟨(by repeat' first | refine same_updo rfl ?_ | refine same_mov rfl ?_ | refine same_upd rfl ?_ | refine same_updn ?_ | refine same_know rfl ?_ | exact same_ovr | refine same_in rfl ?_ | exact Same.refl), rfl, H⟩
                  case h2 =>
                    (clear H; intro E168 w168 H)
                    refine WL_nil ?_
                    refine W_if rfl (fun h230 => ?_) (fun h230 => ?_)
                    · refine W_seq ?_
                      refine W_region_l ?_
                      refine WL_stepM rfl (R_as) ?_
                      refine WL_nil ?_
                      refine W_ret ?_
                      exact ⟨_, rfl, congrArg I (by unfold chk; rw [if_neg (by omega), if_neg (by rw [← ha, decide_eq_false (by unfold okP; simp only; omega), Bool.false_and]; decide)]), H.none (by repeat' first | exact kNil | apply kCons | apply kApp | assumption | exact OwnS.keys (by assumption))⟩
                    · refine W_skip ?_
                      refine W_region_l ?_
                      refine WL_stepM rfl (R_mv) ?_
                      refine WL_step rfl (R_add rfl rfl (w_i64 (by omega))) ?_
                      refine WL_stepM rfl (R_as) ?_
                      refine WL_nil ?_
                      exact ⟨(by repeat' first | refine same_updo rfl ?_ | refine same_mov rfl ?_ | refine same_upd rfl ?_ | refine same_updn ?_ | refine same_know rfl ?_ | exact same_ovr | refine same_in rfl ?_ | exact Same.refl), k + 1, by omega, by omega, rfl, (by rw [← ha, decide_eq_true (by unfold okP; simp only; omega), Bool.true_and]), H.none (by repeat' first | exact kNil | apply kCons | apply kApp | assumption | exact OwnS.keys (by assumption))⟩
      · refine W_exit ?_
        refine (if_pos rfl).mpr ?_
        refine W_seq ?_
        refine W_region_l ?_
        refine WL_stepM rfl (R_as) ?_
        refine WL_nil ?_
        refine W_ret ?_
        exact ⟨_, rfl, congrArg I (by unfold chk; rw [if_neg (by omega), if_pos (by rw [← ha, List.drop_of_length_le (by omega)]; rfl)]), H⟩

theorem reval_ret {view : List UInt8} (now : Int) (hl : RdR insC w lv l) (hb : view.length ≤ 9223372036854775807) (hb2 : l.length ≤ 9223372036854775807) :
    Ret Try.prog 26 #[S view, I now, lv] w fun r w' => r = .tuple #[.bool (evP view now l).1, I (evP view now l).2] ∧ Hp w [] w' := by
  refine Ret_of_W (args := [_, _, _]) Try.func26 rfl Try.ntmps26 Try.results26 (by simp) ?_
  have H := Hp.refl w
  obtain ⟨ao, ca, rfl⟩ := hl.form
  refine W_seq ?_
  refine W_region_l ?_
  refine WL_stepM rfl (R_as) ?_
  refine WL_stepM rfl (R_as) ?_
  refine WL_nil ?_
  refine W_seq ?_
  refine W_seq ?_
  refine W_region_l ?_
  refine WL_stepM rfl (R_mv) ?_
  (refine WL_call rfl (R_call rfl Try.call25 rfl) (rcheck_ret hl hb2) ?_; rintro _ w10 ⟨rfl, H1⟩; replace H := H.seq0 H1; clear H1)
  refine WL_step rfl (R_ne rfl rfl) ?_
  refine WL_nil ?_
  refine W_if rfl (fun h13 => ?_) (fun h13 => ?_)
  · refine W_seq ?_
    refine W_region_l ?_
    refine WL_stepM rfl (R_as) ?_
    refine WL_stepM rfl (R_as) ?_
    refine WL_nil ?_
    refine W_ret ?_
    exact ⟨_, rfl, (by unfold evP; rw [if_neg (by assumption)]; rfl), H⟩
  · refine W_skip ?_
    refine W_seq ?_
    (obtain ⟨hl32, hall⟩ := chk_zero (l := l) (by omega)) <;> refine W_region_l ?_
    refine WL_stepM rfl (R_as) ?_
    refine WL_stepM rfl (R_as) ?_
    refine WL_nil ?_
    refine W_seq ?_
    refine W_seq ?_
    refine W_region_l ?_
    refine WL_stepM rfl (R_as) ?_
    refine WL_nil ?_
    refine W_block ?_
    refine W_loopS [(6, 11), (15, 69)] (fun (k : Nat) E w' => ∃ (n : Int) (st f : Nat), k ≤ l.length ∧ E 8 = I n ∧ E 9 = I st ∧ E 10 = I k ∧ l.length - k ≤ f ∧ st ≤ k ∧ (evS view now f (l.drop k) n).1 = (evP view now l).1 ∧ st + (evS view now f (l.drop k) n).2 = (evP view now l).2 ∧ Hp w [] w') (fun k => l.length - k) 0 ?e0 ?r0
    · exact ⟨0, 0, l.length, by omega, rfl, rfl, rfl, by omega, by omega, by unfold evP; rw [if_pos (by omega)]; rfl, by unfold evP; rw [if_pos (by omega)]; exact Nat.zero_add _, H⟩
    · (clear H; rintro k E w1 ⟨n, st, f, hk, h0, h1, h2, hf, hst, hev1, hev2, H⟩; refine W_kn3 h0 h1 h2 ?_)
      refine W_seq ?_
      refine W_seq ?_
      refine W_region_l ?_
      refine WL_stepM rfl (R_mv) ?_
      refine WL_stepM rfl (R_mv) ?_
      refine WL_step rfl (R_len_slice Try.underlying45 rfl) ?_
      refine WL_step rfl (R_lt rfl rfl) ?_
      refine WL_nil ?_
      refine W_if rfl (fun h43 => ?_) (fun h43 => ?_)
      · refine W_skip ?_
        refine W_seq ?_
        refine W_block ?_
        refine W_seq ?_
        refine W_region_l ?_
        refine WL_stepM rfl (R_mv) ?_
        refine WL_step rfl (R_add (r := ((st + 1 : Nat) : Int)) rfl rfl (by rw [w_i64 (by omega)]; omega)) ?_
        refine WL_stepM rfl (R_as) ?_
        refine WL_nil ?_
        refine W_seq ?_
        (obtain ⟨⟨op, a, b⟩, hi⟩ : ∃ i, l[k]? = some i := ⟨_, List.getElem?_eq_getElem (by omega)⟩; obtain ⟨bb, off, rfl, hc⟩ := hl.cell insC_len hi; have hok := allOk_get hall hi; obtain ⟨f, rfl⟩ : ∃ g, f = g + 1 := ⟨f - 1, by omega⟩; rw [evS_step hi] at hev1 hev2; have hds := doS_bd (n := n) hok (by omega); unfold okP at hok; simp only at hok; obtain ⟨s, hs⟩ : ∃ s : Nat, doS n ⟨op, a, b⟩ = (s : Int) := ⟨(doS n ⟨op, a, b⟩).toNat, by omega⟩; rw [hs, Int.toNat_natCast] at hev1 hev2; rw [hs] at hds; unfold doS at hs; simp only at hs hev1 hev2) <;> refine W_region_l ?_
        refine WL_stepM rfl (R_mv) ?_
        refine WL_stepM rfl (R_mv) ?_
        refine WL_step rfl (R_indexAddr Try.underlying45 Try.sizeOf44 rfl rfl (by omega) (by omega) idx_castn) ?_
        refine WL_step rfl (R_fieldAddr (off' := _ + 1) Try.underlying44 rfl Try.sizeOf3 (by decide) rfl rfl) ?_
        refine WL_step rfl (R_load_cell Try.isAgg3 rfl (H.cellN (hc 1 (I a) rfl) (by repeat' first | exact kNil | apply kCons | apply kApp | assumption | exact OwnS.keys (by assumption)))) ?_
        refine WL_stepM rfl (R_as) ?_
        refine WL_nil ?_
        refine W_seq ?_
        refine W_region_l ?_
        refine WL_stepM rfl (R_mv) ?_
        refine WL_stepM rfl (R_mv) ?_
        refine WL_step rfl (R_indexAddr Try.underlying45 Try.sizeOf44 rfl rfl (by omega) (by omega) idx_castn) ?_
        refine WL_step rfl (R_fieldAddr Try.underlying44 rfl Try.sizeOf3 (by decide) rfl rfl) ?_
        refine WL_step rfl (R_load_cell Try.isAgg3 rfl (H.cellN (hc 0 (I op) rfl) (by repeat' first | exact kNil | apply kCons | apply kApp | assumption | exact OwnS.keys (by assumption)))) ?_
        refine WL_nil ?_
        refine W_blockS [(6, 8), (10, 10), (33, 69)] (fun E w' => op ≠ 6 ∧ E 8 = I (doN view now n ⟨op, a, b⟩) ∧ E 10 = I ((k + s : Nat) : Int) ∧ Hp w [] w') ?b2 ?k2
        · refine W_seq ?_
          refine W_region_l ?_
          refine WL_step rfl (R_eq rfl rfl) ?_
          refine WL_stepM rfl (R_as) ?_
          refine WL_nil ?_
          refine W_if rfl (fun h76 => ?_) (fun h76 => ?_)
          · refine W_seq ?_
            refine W_region_l ?_
            refine WL_stepM rfl (R_as) ?_
            refine WL_nil ?_
            refine W_seq ?_
            refine W_region_l ?_
            refine WL_stepM rfl (R_mv) ?_
            refine WL_stepM rfl (R_mv) ?_
            refine WL_step rfl (R_len_S Try.underlying9 rfl) ?_
            refine WL_step rfl (R_lt rfl rfl) ?_
            refine WL_nil ?_
            refine W_if rfl (fun h88 => ?_) (fun h88 => ?_)
            · (obtain ⟨u, hu⟩ : ∃ u, view[a.toNat]? = some u := ⟨_, List.getElem?_eq_getElem (by omega)⟩) <;> refine W_region_l ?_
              refine WL_stepM rfl (R_mv) ?_
              refine WL_stepM rfl (R_mv) ?_
              refine WL_step rfl (R_index_S Try.underlying9 rfl rfl (by omega) hu) ?_
              refine WL_step rfl (R_conv_int Try.underlying5 Try.underlying3 rfl u8_in_i64) ?_
              refine WL_stepM rfl (R_as) ?_
              refine WL_nil ?_
              exact ⟨(by repeat' first | refine same_updo rfl ?_ | refine same_mov rfl ?_ | refine same_upd rfl ?_ | refine same_updn ?_ | refine same_know rfl ?_ | exact same_ovr | refine same_in rfl ?_ | exact Same.refl), by omega, congrArg I (doN_1 (by omega) hu).symm, congrArg I (by rw [if_neg (by omega)] at hs; omega), H⟩
            · refine W_skip ?_
              exact ⟨(by repeat' first | refine same_updo rfl ?_ | refine same_mov rfl ?_ | refine same_upd rfl ?_ | refine same_updn ?_ | refine same_know rfl ?_ | exact same_ovr | refine same_in rfl ?_ | exact Same.refl), by omega, congrArg I (doN_1n (by omega) (by omega)).symm, congrArg I (by rw [if_neg (by omega)] at hs; omega), H⟩
          · refine W_seq ?_
            refine W_region_l ?_
            refine WL_step rfl (R_eq rfl rfl) ?_
            refine WL_stepM rfl (R_as) ?_
            refine WL_nil ?_
            refine W_if rfl (fun h104 => ?_) (fun h104 => ?_)
            · refine W_region_l ?_
              refine WL_stepM rfl (R_mv) ?_
              refine WL_stepM rfl (R_as) ?_
              refine WL_nil ?_
              exact ⟨(by repeat' first | refine same_updo rfl ?_ | refine same_mov rfl ?_ | refine same_upd rfl ?_ | refine same_updn ?_ | refine same_know rfl ?_ | exact same_ovr | refine same_in rfl ?_ | exact Same.refl), by omega, congrArg I (doN_2 (by omega)).symm, congrArg I (by rw [if_neg (by omega)] at hs; omega), H⟩
            · refine W_seq ?_
              refine W_region_l ?_
              refine WL_step rfl (R_eq rfl rfl) ?_
              refine WL_stepM rfl (R_as) ?_
              refine WL_nil ?_
              refine W_if rfl (fun h115 => ?_) (fun h115 => ?_)
              · refine W_region_l ?_
                refine WL_stepM rfl (R_mv) ?_
                refine WL_stepM rfl (R_mv) ?_
                refine WL_step rfl (R_bits rfl rfl (by simp) rfl) ?_
                refine WL_stepM rfl (R_as) ?_
                refine WL_nil ?_
                exact ⟨(by repeat' first | refine same_updo rfl ?_ | refine same_mov rfl ?_ | refine same_upd rfl ?_ | refine same_updn ?_ | refine same_know rfl ?_ | exact same_ovr | refine same_in rfl ?_ | exact Same.refl), by omega, congrArg I (doN_3 (by omega)).symm, congrArg I (by rw [if_neg (by omega)] at hs; omega), H⟩
              · refine W_seq ?_
                refine W_region_l ?_
                refine WL_step rfl (R_eq rfl rfl) ?_
                refine WL_stepM rfl (R_as) ?_
                refine WL_nil ?_
                refine W_if rfl (fun h128 => ?_) (fun h128 => ?_)
                · refine W_region_l ?_
                  refine WL_stepM rfl (R_mv) ?_
                  refine WL_stepM rfl (R_mv) ?_
                  refine WL_step rfl (R_lt rfl rfl) ?_
                  (refine WL_call rfl (R_call rfl Try.call41 rfl) (bit_ret _ _) ?_; rintro _ w133 ⟨rfl, H1⟩; replace H := H.seq0 H1; clear H1)
                  refine WL_stepM rfl (R_as) ?_
                  refine WL_nil ?_
                  exact ⟨(by repeat' first | refine same_updo rfl ?_ | refine same_mov rfl ?_ | refine same_upd rfl ?_ | refine same_updn ?_ | refine same_know rfl ?_ | exact same_ovr | refine same_in rfl ?_ | exact Same.refl), by omega, congrArg I (doN_4 (by omega)).symm, congrArg I (by rw [if_neg (by omega)] at hs; omega), H⟩
                · refine W_seq ?_
                  refine W_region_l ?_
                  refine WL_step rfl (R_eq rfl rfl) ?_
                  refine WL_stepM rfl (R_as) ?_
                  refine WL_nil ?_
                  refine W_if rfl (fun h142 => ?_) (fun h142 => ?_)
                  · refine W_seq ?_
                    refine W_region_l ?_
                    refine WL_stepM rfl (R_mv) ?_
                    refine WL_step rfl (R_ne rfl rfl) ?_
                    refine WL_nil ?_
                    refine W_if rfl (fun h148 => ?_) (fun h148 => ?_)
                    · refine W_region_l ?_
                      refine WL_stepM rfl (R_mv) ?_
                      refine WL_stepM rfl (R_mv) ?_
                      refine WL_step rfl (R_add (r := ((k + s : Nat) : Int)) rfl rfl (by rw [if_pos (by omega)] at hs; rw [w_i64 (by omega)]; omega)) ?_
                      refine WL_stepM rfl (R_as) ?_
                      refine WL_nil ?_
                      exact ⟨(by repeat' first | refine same_updo rfl ?_ | refine same_mov rfl ?_ | refine same_upd rfl ?_ | refine same_updn ?_ | refine same_know rfl ?_ | exact same_ovr | refine same_in rfl ?_ | exact Same.refl), by omega, congrArg I (doN_5 (by omega)).symm, rfl, H⟩
                    · refine W_skip ?_
                      exact ⟨(by repeat' first | refine same_updo rfl ?_ | refine same_mov rfl ?_ | refine same_upd rfl ?_ | refine same_updn ?_ | refine same_know rfl ?_ | exact same_ovr | refine same_in rfl ?_ | exact Same.refl), by omega, congrArg I (doN_5 (by omega)).symm, congrArg I (by rw [if_neg (by omega)] at hs; omega), H⟩
                  · refine W_seq ?_
                    refine W_region_l ?_
                    refine WL_step rfl (R_eq rfl rfl) ?_
                    refine WL_stepM rfl (R_as) ?_
                    refine WL_nil ?_
                    refine W_if rfl (fun h163 => ?_) (fun h163 => ?_)
                    · refine W_seq ?_
                      refine W_region_l ?_
                      refine WL_stepM rfl (R_mv) ?_
                      refine WL_stepM rfl (R_as) ?_
                      refine WL_stepM rfl (R_as) ?_
                      refine WL_nil ?_
                      refine W_ret ?_
                      (rw [if_pos (by assumption)] at hev1 hev2; exact ⟨_, rfl, (by rw [← hev1, ← hev2]; rfl), H.none (by repeat' first | exact kNil | apply kCons | apply kApp | assumption | exact OwnS.keys (by assumption))⟩)
                    · refine W_region_l ?_
                      refine WL_stepM rfl (R_mv) ?_
                      refine WL_step rfl (R_eq rfl rfl) ?_
                      (refine WL_call rfl (R_call rfl Try.call41 rfl) (bit_ret _ _) ?_; rintro _ w175 ⟨rfl, H1⟩; replace H := H.seq0 H1; clear H1)
                      refine WL_stepM rfl (R_as) ?_
                      refine WL_nil ?_
                      exact ⟨(by repeat' first | refine same_updo rfl ?_ | refine same_mov rfl ?_ | refine same_upd rfl ?_ | refine same_updn ?_ | refine same_know rfl ?_ | exact same_ovr | refine same_in rfl ?_ | exact Same.refl), by omega, congrArg I (doN_7 (by omega)).symm, congrArg I (by rw [if_neg (by omega)] at hs; omega), H⟩
        · (clear H; rintro E w1 ⟨h6, h0, h1, H⟩; rw [if_neg h6] at hev1 hev2; refine W_kn2 h0 h1 ?_)
          refine W_region_l ?_
          refine WL_stepM rfl (R_mv) ?_
          refine WL_step rfl (R_add (r := ((k + 1 + s : Nat) : Int)) rfl rfl (by rw [w_i64 (by omega)]; omega)) ?_
          refine WL_stepM rfl (R_as) ?_
          refine WL_nil ?_
          exact ⟨(by repeat' first | refine same_updo rfl ?_ | refine same_mov rfl ?_ | refine same_upd rfl ?_ | refine same_updn ?_ | refine same_know rfl ?_ | exact same_ovr | refine same_in rfl ?_ | exact Same.refl), k + 1 + s, by omega, _, st + 1, f, by omega, rfl, rfl, rfl, by omega, by omega, hev1, by omega, H⟩
      · refine W_exit ?_
        refine (if_pos rfl).mpr ?_
        refine W_seq ?_
        refine W_region_l ?_
        refine WL_stepM rfl (R_mv) ?_
        refine WL_stepM rfl (R_as) ?_
        refine WL_stepM rfl (R_as) ?_
        refine WL_nil ?_
        refine W_ret ?_
        (rw [List.drop_of_length_le (by omega), evS_nil] at hev1 hev2; exact ⟨_, rfl, (by rw [← hev1, ← hev2]; rfl), H.none (by repeat' first | exact kNil | apply kCons | apply kApp | assumption | exact OwnS.keys (by assumption))⟩)
end
end Go.Proofs.Ytaclingiedmpbaa.Pred

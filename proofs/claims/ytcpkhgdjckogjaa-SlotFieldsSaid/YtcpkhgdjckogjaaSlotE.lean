/-
  Slots put into bytes.
-/
import Derived.Test.YtcpkhgdjckogjaaSlotB
namespace Go.Proofs.Ytcpkhgdjckogjaa.Slot
open Go Go.Proofs Go.Proofs.Ytcpkhgdjckogjaa.Fx Go.Proofs.Ytcpkhgdjckogjaa.Codec
set_option maxRecDepth 100000
set_option linter.unusedVariables false
set_option linter.unusedSimpArgs false
set_option maxHeartbeats 2000000

theorem rep_iff {f : List Int} (h : f.length = 8) : f = List.replicate 8 0 ↔ ¬ ∃ x ∈ f, x ≠ 0 := by
  rw [List.eq_replicate_iff]
  constructor
  · rintro ⟨_, h2⟩ ⟨x, hx, hn⟩; exact hn (h2 x hx)
  · intro h2; exact ⟨h, fun x hx => Classical.byContradiction fun hn => h2 ⟨x, hx, hn⟩⟩
theorem mid2_iff {a b c d : BitVec 64} : (((((¬okB a ∨ ¬okB b) ∨ ¬okB c) ∨ ¬okB d) ∨ (((b ||| c) ||| d) &&& 16896#64).toInt ≠ 0) ∨ (c &&& d).toInt ≠ 0) ↔
    ¬ ((okB a ∧ okB b ∧ okB c ∧ okB d) ∧ (b &&& 16896#64 = 0#64 ∧ c &&& 16896#64 = 0#64 ∧ d &&& 16896#64 = 0#64) ∧ c &&& d = 0#64) := by
  rw [ne_eq, ne_eq, bv_zero, bv_zero, bv_or_and]
  simp only [Classical.not_and_iff_not_or_not, or_assoc]
theorem mid2_of {a b c d : BitVec 64} (h : ¬ (((((¬okB a ∨ ¬okB b) ∨ ¬okB c) ∨ ¬okB d) ∨ (((b ||| c) ||| d) &&& 16896#64).toInt ≠ 0) ∨ (c &&& d).toInt ≠ 0)) :
    (okB a ∧ okB b ∧ okB c ∧ okB d) ∧ (b &&& 16896#64 = 0#64 ∧ c &&& 16896#64 = 0#64 ∧ d &&& 16896#64 = 0#64) ∧ c &&& d = 0#64 :=
  Classical.byContradiction fun hn => h (mid2_iff.2 hn)
theorem pi_fd {p : Pi} {i : Nat} (hi : i < 8) : (piC p)[8 + i]? = some (I (p.f[i]'(by rw [p.hf]; exact hi))) := by
  unfold piC
  rw [List.getElem?_append_right (by simp), List.getElem?_map]
  simp only [List.length_cons, List.length_nil, Nat.zero_add]
  rw [show 8 + i - 8 = i from by omega, List.getElem?_eq_getElem (by rw [p.hf]; exact hi)]
  rfl

theorem refOk_ret (p : Pi) (w : World) : Ret Try.prog 30 #[vP p] w fun v w' => v = .bool (decide (okP p)) ∧ Hp w [] w' := by
  refine Ret_of_W (args := [_]) Try.func30 rfl Try.ntmps30 Try.results30 (by simp) ?_
  have H := Hp.refl w
  have hf8 := p.hf
  refine W_seq ?_
  refine W_region_l ?_
  (refine WL_effn rfl (E_boxP H rfl) ?_; clear H; intro bx w3 hbx H)
  refine WL_stepM rfl (R_as) ?_
  refine WL_nil ?_
  refine W_seq ?_
  refine W_seq ?_
  refine W_region_l ?_
  refine WL_step rfl (R_fieldAddr (off' := 0) Try.underlying53 rfl Try.sizeOf3 (by decide) rfl rfl) ?_
  refine WL_step rfl (R_load Try.isAgg3 rfl (H.get .here) rfl) ?_
  (refine WL_call rfl (R_call rfl Try.call42 rfl) (in_ret _ _ _ _) ?_; rintro _ w11 ⟨rfl, H1⟩; replace H := H.seq0 H1; clear H1)
  refine WL_step rfl (R_not_d rfl) ?_
  refine WL_stepM rfl (R_mv) ?_
  apply WL_orK 5 9 14 [(10, 14)] H
  case hc => rfl
  case h1 =>
    intro h14
    refine WL_guard_t rfl rfl ?_
    refine WL_step rfl (R_fieldAddr (off' := 1) Try.underlying53 rfl Try.sizeOf3 (by decide) rfl rfl) ?_
    refine WL_guard_t rfl rfl ?_
    refine WL_step rfl (R_load Try.isAgg3 rfl (H.get .here) rfl) ?_
    refine WL_guard_t rfl rfl ?_
    (refine WL_call rfl (R_call rfl Try.call42 rfl) (in_ret _ _ _ _) ?_; rintro _ w20 ⟨rfl, H1⟩; replace H := H.seq0 H1; clear H1)
    refine WL_guard_t rfl rfl ?_
    refine WL_step rfl (R_not_d rfl) ?_
    refine WL_stepM rfl (R_pk_f rfl) ?_
    refine WL_nil ?_
    exact ⟨(same_mov rfl (same_updo rfl (same_updo rfl (same_updo rfl (same_updo rfl Same.refl))))), rfl, H⟩
  case h0 =>
    intro h14
    refine WL_guard_f rfl rfl (by decide) ?_
    refine WL_guard_f rfl rfl (by decide) ?_
    refine WL_guard_f rfl rfl (by decide) ?_
    refine WL_guard_f rfl rfl (by decide) ?_
    refine WL_stepM rfl (R_pk_t rfl) ?_
    refine WL_nil ?_
    exact ⟨(same_mov rfl (same_updo rfl (same_updo rfl (same_updo rfl (same_updo rfl Same.refl))))), rfl, H⟩
  case h2 =>
    (clear H; intro E14 w14 H)
    refine WL_stepM rfl (R_mv) ?_
    apply WL_orK 5 15 20 [(16, 20)] H
    case hc => rfl
    case h1 =>
      intro h34
      refine WL_guard_t rfl rfl ?_
      refine WL_step rfl (R_fieldAddr (off' := 2) Try.underlying53 rfl Try.sizeOf3 (by decide) rfl rfl) ?_
      refine WL_guard_t rfl rfl ?_
      refine WL_step rfl (R_load Try.isAgg3 rfl (H.get .here) rfl) ?_
      refine WL_guard_t rfl rfl ?_
      (refine WL_call rfl (R_call rfl Try.call42 rfl) (in_ret _ _ _ _) ?_; rintro _ w40 ⟨rfl, H1⟩; replace H := H.seq0 H1; clear H1)
      refine WL_guard_t rfl rfl ?_
      refine WL_step rfl (R_not_d rfl) ?_
      refine WL_stepM rfl (R_pk_f rfl) ?_
      refine WL_nil ?_
      exact ⟨(same_mov rfl (same_updo rfl (same_updo rfl (same_updo rfl (same_updo rfl Same.refl))))), rfl, H⟩
    case h0 =>
      intro h34
      refine WL_guard_f rfl rfl (by decide) ?_
      refine WL_guard_f rfl rfl (by decide) ?_
      refine WL_guard_f rfl rfl (by decide) ?_
      refine WL_guard_f rfl rfl (by decide) ?_
      refine WL_stepM rfl (R_pk_t rfl) ?_
      refine WL_nil ?_
      exact ⟨(same_mov rfl (same_updo rfl (same_updo rfl (same_updo rfl (same_updo rfl Same.refl))))), rfl, H⟩
    case h2 =>
      (clear H; intro E34 w34 H)
      refine WL_stepM rfl (R_mv) ?_
      apply WL_orK 5 21 26 [(22, 26)] H
      case hc => rfl
      case h1 =>
        intro h54
        refine WL_guard_t rfl rfl ?_
        refine WL_step rfl (R_fieldAddr (off' := 3) Try.underlying53 rfl Try.sizeOf3 (by decide) rfl rfl) ?_
        refine WL_guard_t rfl rfl ?_
        refine WL_step rfl (R_load Try.isAgg3 rfl (H.get .here) rfl) ?_
        refine WL_guard_t rfl rfl ?_
        (refine WL_call rfl (R_call rfl Try.call42 rfl) (in_ret _ _ _ _) ?_; rintro _ w60 ⟨rfl, H1⟩; replace H := H.seq0 H1; clear H1)
        refine WL_guard_t rfl rfl ?_
        refine WL_step rfl (R_not_d rfl) ?_
        refine WL_stepM rfl (R_pk_f rfl) ?_
        refine WL_nil ?_
        exact ⟨(same_mov rfl (same_updo rfl (same_updo rfl (same_updo rfl (same_updo rfl Same.refl))))), rfl, H⟩
      case h0 =>
        intro h54
        refine WL_guard_f rfl rfl (by decide) ?_
        refine WL_guard_f rfl rfl (by decide) ?_
        refine WL_guard_f rfl rfl (by decide) ?_
        refine WL_guard_f rfl rfl (by decide) ?_
        refine WL_stepM rfl (R_pk_t rfl) ?_
        refine WL_nil ?_
        exact ⟨(same_mov rfl (same_updo rfl (same_updo rfl (same_updo rfl (same_updo rfl Same.refl))))), rfl, H⟩
      case h2 =>
        (clear H; intro E54 w54 H)
        refine WL_nil ?_
        refine W_if rfl (fun h74 => ?_) (fun h74 => ?_)
        · refine W_seq ?_
          refine W_region_l ?_
          refine WL_stepM rfl (R_as) ?_
          refine WL_nil ?_
          refine W_ret ?_
          exact ⟨_, rfl, congrArg Value.bool (decide_eq_false (fun h => by simp only [okP] at h; omega)).symm, H.none (by repeat' first | exact kNil | apply kCons | apply kApp | assumption | exact OwnS.keys (by assumption))⟩
        · refine W_skip ?_
          refine W_seq ?_
          refine W_seq ?_
          refine W_region_l ?_
          refine WL_step rfl (R_fieldAddr (off' := 4) Try.underlying53 rfl Try.sizeOf3 (by decide) rfl rfl) ?_
          refine WL_step rfl (R_load Try.isAgg3 rfl (H.get .here) rfl) ?_
          (refine WL_call rfl (R_call rfl Try.call51 rfl) (signals_ret _ _) ?_; rintro _ w87 ⟨rfl, H1⟩; replace H := H.seq0 H1; clear H1)
          refine WL_step rfl (R_not_d rfl) ?_
          refine WL_stepM rfl (R_mv) ?_
          apply WL_orK 5 31 36 [(32, 36)] H
          case hc => rfl
          case h1 =>
            intro h90
            refine WL_guard_t rfl rfl ?_
            refine WL_step rfl (R_fieldAddr (off' := 5) Try.underlying53 rfl Try.sizeOf3 (by decide) rfl rfl) ?_
            refine WL_guard_t rfl rfl ?_
            refine WL_step rfl (R_load Try.isAgg3 rfl (H.get .here) rfl) ?_
            refine WL_guard_t rfl rfl ?_
            (refine WL_call rfl (R_call rfl Try.call51 rfl) (signals_ret _ _) ?_; rintro _ w96 ⟨rfl, H1⟩; replace H := H.seq0 H1; clear H1)
            refine WL_guard_t rfl rfl ?_
            refine WL_step rfl (R_not_d rfl) ?_
            refine WL_stepM rfl (R_pk_f rfl) ?_
            refine WL_nil ?_
            exact ⟨(same_mov rfl (same_updo rfl (same_updo rfl (same_updo rfl (same_updo rfl Same.refl))))), rfl, H⟩
          case h0 =>
            intro h90
            refine WL_guard_f rfl rfl (by decide) ?_
            refine WL_guard_f rfl rfl (by decide) ?_
            refine WL_guard_f rfl rfl (by decide) ?_
            refine WL_guard_f rfl rfl (by decide) ?_
            refine WL_stepM rfl (R_pk_t rfl) ?_
            refine WL_nil ?_
            exact ⟨(same_mov rfl (same_updo rfl (same_updo rfl (same_updo rfl (same_updo rfl Same.refl))))), rfl, H⟩
          case h2 =>
            (clear H; intro E90 w90 H)
            refine WL_stepM rfl (R_mv) ?_
            apply WL_orK 5 37 42 [(38, 42)] H
            case hc => rfl
            case h1 =>
              intro h110
              refine WL_guard_t rfl rfl ?_
              refine WL_step rfl (R_fieldAddr (off' := 6) Try.underlying53 rfl Try.sizeOf3 (by decide) rfl rfl) ?_
              refine WL_guard_t rfl rfl ?_
              refine WL_step rfl (R_load Try.isAgg3 rfl (H.get .here) rfl) ?_
              refine WL_guard_t rfl rfl ?_
              (refine WL_call rfl (R_call rfl Try.call51 rfl) (signals_ret _ _) ?_; rintro _ w116 ⟨rfl, H1⟩; replace H := H.seq0 H1; clear H1)
              refine WL_guard_t rfl rfl ?_
              refine WL_step rfl (R_not_d rfl) ?_
              refine WL_stepM rfl (R_pk_f rfl) ?_
              refine WL_nil ?_
              exact ⟨(same_mov rfl (same_updo rfl (same_updo rfl (same_updo rfl (same_updo rfl Same.refl))))), rfl, H⟩
            case h0 =>
              intro h110
              refine WL_guard_f rfl rfl (by decide) ?_
              refine WL_guard_f rfl rfl (by decide) ?_
              refine WL_guard_f rfl rfl (by decide) ?_
              refine WL_guard_f rfl rfl (by decide) ?_
              refine WL_stepM rfl (R_pk_t rfl) ?_
              refine WL_nil ?_
              exact ⟨(same_mov rfl (same_updo rfl (same_updo rfl (same_updo rfl (same_updo rfl Same.refl))))), rfl, H⟩
            case h2 =>
              (clear H; intro E110 w110 H)
              refine WL_stepM rfl (R_mv) ?_
              apply WL_orK 5 43 48 [(44, 48)] H
              case hc => rfl
              case h1 =>
                intro h130
                refine WL_guard_t rfl rfl ?_
                refine WL_step rfl (R_fieldAddr (off' := 7) Try.underlying53 rfl Try.sizeOf3 (by decide) rfl rfl) ?_
                refine WL_guard_t rfl rfl ?_
                refine WL_step rfl (R_load Try.isAgg3 rfl (H.get .here) rfl) ?_
                refine WL_guard_t rfl rfl ?_
                (refine WL_call rfl (R_call rfl Try.call51 rfl) (signals_ret _ _) ?_; rintro _ w136 ⟨rfl, H1⟩; replace H := H.seq0 H1; clear H1)
                refine WL_guard_t rfl rfl ?_
                refine WL_step rfl (R_not_d rfl) ?_
                refine WL_stepM rfl (R_pk_f rfl) ?_
                refine WL_nil ?_
                exact ⟨(same_mov rfl (same_updo rfl (same_updo rfl (same_updo rfl (same_updo rfl Same.refl))))), rfl, H⟩
              case h0 =>
                intro h130
                refine WL_guard_f rfl rfl (by decide) ?_
                refine WL_guard_f rfl rfl (by decide) ?_
                refine WL_guard_f rfl rfl (by decide) ?_
                refine WL_guard_f rfl rfl (by decide) ?_
                refine WL_stepM rfl (R_pk_t rfl) ?_
                refine WL_nil ?_
                exact ⟨(same_mov rfl (same_updo rfl (same_updo rfl (same_updo rfl (same_updo rfl Same.refl))))), rfl, H⟩
              case h2 =>
                (clear H; intro E130 w130 H)
                refine WL_stepM rfl (R_mv) ?_
                apply WL_orK 11 49 60 [(50, 60)] H
                case hc => rfl
                case h1 =>
                  intro h150
                  refine WL_guard_t rfl rfl ?_
                  refine WL_step rfl (R_fieldAddr (off' := 5) Try.underlying53 rfl Try.sizeOf3 (by decide) rfl rfl) ?_
                  refine WL_guard_t rfl rfl ?_
                  refine WL_step rfl (R_load Try.isAgg3 rfl (H.get .here) rfl) ?_
                  refine WL_guard_t rfl rfl ?_
                  refine WL_step rfl (R_fieldAddr (off' := 6) Try.underlying53 rfl Try.sizeOf3 (by decide) rfl rfl) ?_
                  refine WL_guard_t rfl rfl ?_
                  refine WL_step rfl (R_load Try.isAgg3 rfl (H.get .here) rfl) ?_
                  refine WL_guard_t rfl rfl ?_
                  refine WL_step rfl (R_bits rfl rfl (by simp) (bv_or p.b p.c)) ?_
                  refine WL_guard_t rfl rfl ?_
                  refine WL_step rfl (R_fieldAddr (off' := 7) Try.underlying53 rfl Try.sizeOf3 (by decide) rfl rfl) ?_
                  refine WL_guard_t rfl rfl ?_
                  refine WL_step rfl (R_load Try.isAgg3 rfl (H.get .here) rfl) ?_
                  refine WL_guard_t rfl rfl ?_
                  refine WL_step rfl (R_bits rfl rfl (by simp) (bv_or (p.b ||| p.c) p.d)) ?_
                  refine WL_guard_t rfl rfl ?_
                  refine WL_step rfl (R_bits rfl rfl (by simp) (bv_and ((p.b ||| p.c) ||| p.d) 16896#64)) ?_
                  refine WL_guard_t rfl rfl ?_
                  refine WL_step rfl (R_ne rfl rfl) ?_
                  refine WL_stepM rfl (R_pk_f rfl) ?_
                  refine WL_nil ?_
                  exact ⟨(same_mov rfl (same_updo rfl (same_updo rfl (same_updo rfl (same_updo rfl (same_updo rfl (same_updo rfl (same_updo rfl (same_updo rfl (same_updo rfl (same_updo rfl Same.refl))))))))))), rfl, H⟩
                case h0 =>
                  intro h150
                  refine WL_guard_f rfl rfl (by decide) ?_
                  refine WL_guard_f rfl rfl (by decide) ?_
                  refine WL_guard_f rfl rfl (by decide) ?_
                  refine WL_guard_f rfl rfl (by decide) ?_
                  refine WL_guard_f rfl rfl (by decide) ?_
                  refine WL_guard_f rfl rfl (by decide) ?_
                  refine WL_guard_f rfl rfl (by decide) ?_
                  refine WL_guard_f rfl rfl (by decide) ?_
                  refine WL_guard_f rfl rfl (by decide) ?_
                  refine WL_guard_f rfl rfl (by decide) ?_
                  refine WL_stepM rfl (R_pk_t rfl) ?_
                  refine WL_nil ?_
                  exact ⟨(same_mov rfl (same_updo rfl (same_updo rfl (same_updo rfl (same_updo rfl (same_updo rfl (same_updo rfl (same_updo rfl (same_updo rfl (same_updo rfl (same_updo rfl Same.refl))))))))))), rfl, H⟩
                case h2 =>
                  (clear H; intro E150 w150 H)
                  refine WL_stepM rfl (R_mv) ?_
                  apply WL_orK 7 61 68 [(62, 68)] H
                  case hc => rfl
                  case h1 =>
                    intro h188
                    refine WL_guard_t rfl rfl ?_
                    refine WL_step rfl (R_fieldAddr (off' := 6) Try.underlying53 rfl Try.sizeOf3 (by decide) rfl rfl) ?_
                    refine WL_guard_t rfl rfl ?_
                    refine WL_step rfl (R_load Try.isAgg3 rfl (H.get .here) rfl) ?_
                    refine WL_guard_t rfl rfl ?_
                    refine WL_step rfl (R_fieldAddr (off' := 7) Try.underlying53 rfl Try.sizeOf3 (by decide) rfl rfl) ?_
                    refine WL_guard_t rfl rfl ?_
                    refine WL_step rfl (R_load Try.isAgg3 rfl (H.get .here) rfl) ?_
                    refine WL_guard_t rfl rfl ?_
                    refine WL_step rfl (R_bits rfl rfl (by simp) (bv_and p.c p.d)) ?_
                    refine WL_guard_t rfl rfl ?_
                    refine WL_step rfl (R_ne rfl rfl) ?_
                    refine WL_stepM rfl (R_pk_f rfl) ?_
                    refine WL_nil ?_
                    exact ⟨(same_mov rfl (same_updo rfl (same_updo rfl (same_updo rfl (same_updo rfl (same_updo rfl (same_updo rfl Same.refl))))))), rfl, H⟩
                  case h0 =>
                    intro h188
                    refine WL_guard_f rfl rfl (by decide) ?_
                    refine WL_guard_f rfl rfl (by decide) ?_
                    refine WL_guard_f rfl rfl (by decide) ?_
                    refine WL_guard_f rfl rfl (by decide) ?_
                    refine WL_guard_f rfl rfl (by decide) ?_
                    refine WL_guard_f rfl rfl (by decide) ?_
                    refine WL_stepM rfl (R_pk_t rfl) ?_
                    refine WL_nil ?_
                    exact ⟨(same_mov rfl (same_updo rfl (same_updo rfl (same_updo rfl (same_updo rfl (same_updo rfl (same_updo rfl Same.refl))))))), rfl, H⟩
                  case h2 =>
                    (clear H; intro E188 w188 H)
                    refine WL_nil ?_
                    refine W_if rfl (fun h214 => ?_) (fun h214 => ?_)
                    · refine W_seq ?_
                      refine W_region_l ?_
                      refine WL_stepM rfl (R_as) ?_
                      refine WL_nil ?_
                      refine W_ret ?_
                      exact ⟨_, rfl, congrArg Value.bool (decide_eq_false (fun h => mid2_iff.1 (by assumption) h.2.1)).symm, H.none (by repeat' first | exact kNil | apply kCons | apply kApp | assumption | exact OwnS.keys (by assumption))⟩
                    · refine W_skip ?_
                      refine W_seq ?_
                      refine W_region_l ?_
                      refine WL_stepM rfl (R_as) ?_
                      refine WL_nil ?_
                      refine W_seq ?_
                      refine W_seq ?_
                      refine W_region_l ?_
                      refine WL_stepM rfl (R_as) ?_
                      refine WL_nil ?_
                      refine W_block ?_
                      refine W_loopS [(2, 4), (69, 86)] (fun (i : Nat) E w' => ∃ b, i ≤ 8 ∧ E 3 = .bool b ∧ E 4 = I i ∧ (b = true ↔ ∃ x ∈ p.f.take i, x ≠ 0) ∧ (∀ x ∈ p.f.take i, 0 ≤ x ∧ x ≤ 12) ∧ Hp w [(bx, blk (piC p) 53)] w') (fun i => 8 - i) 0 ?e0 ?r0
                      · exact ⟨false, by omega, rfl, rfl, by simp, by simp, H⟩
                      · (clear H; rintro i E w1 ⟨b, hi, h3, h4, hb, hz, H⟩; refine W_kn2 h3 h4 ?_; clear h3; (by_cases hlt : i < 8 <;> cases b))
                        · refine W_seq ?_
                          refine W_seq ?_
                          refine W_region_l ?_
                          refine WL_stepM rfl (R_mv) ?_
                          refine WL_step rfl (R_lt_t rfl rfl (by omega)) ?_
                          refine WL_nil ?_
                          refine W_cond_t rfl ?_
                          refine W_skip ?_
                          refine W_seq ?_
                          refine W_block ?_
                          refine W_seq ?_
                          refine W_seq ?_
                          refine W_region_l ?_
                          refine WL_stepM rfl (R_mv) ?_
                          refine WL_step rfl (R_fieldAddr (off' := 8) Try.underlying53 rfl Try.sizeOf51 (by decide) rfl rfl) ?_
                          refine WL_step rfl (R_indexAddrA (off' := 8 + i) Try.underlying51 Try.sizeOf3 rfl rfl (by omega) (by omega) (by omega)) ?_
                          refine WL_step rfl (R_load (v := I p.f[i]) Try.isAgg3 rfl (H.get .here) (pi_fd hlt)) ?_
                          (refine WL_call rfl (R_call rfl Try.call42 rfl) (in_ret _ _ _ _) ?_; rintro _ w251 ⟨rfl, H1⟩; replace H := H.seq0 H1; clear H1)
                          refine WL_step rfl (R_not_d rfl) ?_
                          refine WL_nil ?_
                          refine W_if rfl (fun h254 => ?_) (fun h254 => ?_)
                          · refine W_seq ?_
                            refine W_region_l ?_
                            refine WL_stepM rfl (R_as) ?_
                            refine WL_nil ?_
                            refine W_ret ?_
                            exact ⟨_, rfl, congrArg Value.bool (decide_eq_false (fun h => by have := h.2.2.1 p.f[i] (List.getElem_mem _); omega)).symm, H.none (by repeat' first | exact kNil | apply kCons | apply kApp | assumption | exact OwnS.keys (by assumption))⟩
                          · refine W_skip ?_
                            refine W_region_l ?_
                            refine WL_stepM rfl (R_mv) ?_
                            refine WL_stepM rfl (R_mv) ?_
                            refine WL_guard_t rfl rfl ?_
                            refine WL_stepM rfl (R_mv) ?_
                            refine WL_guard_t rfl rfl ?_
                            refine WL_step rfl (R_fieldAddr (off' := 8) Try.underlying53 rfl Try.sizeOf51 (by decide) rfl rfl) ?_
                            refine WL_guard_t rfl rfl ?_
                            refine WL_step rfl (R_indexAddrA (off' := 8 + i) Try.underlying51 Try.sizeOf3 rfl rfl (by omega) (by omega) (by omega)) ?_
                            refine WL_guard_t rfl rfl ?_
                            refine WL_step rfl (R_load (v := I p.f[i]) Try.isAgg3 rfl (H.get .here) (pi_fd hlt)) ?_
                            refine WL_guard_t rfl rfl ?_
                            refine WL_step rfl (R_ne rfl rfl) ?_
                            refine WL_stepM rfl (R_pk_f rfl) ?_
                            refine WL_stepM rfl (R_as) ?_
                            refine WL_nil ?_
                            refine W_region_l ?_
                            refine WL_stepM rfl (R_mv) ?_
                            refine WL_step rfl (R_add rfl rfl (w_i64 (by omega))) ?_
                            refine WL_stepM rfl (R_as) ?_
                            refine WL_nil ?_
                            exact ⟨(same_mov rfl (same_updo rfl (same_mov rfl (same_mov rfl (same_mov rfl (same_updo rfl (same_updo rfl (same_updo rfl (same_updo rfl (same_mov rfl (same_mov rfl (same_mov rfl (same_know rfl (same_updo rfl (same_updo rfl (same_updo rfl (same_updo rfl (same_updo rfl (same_mov rfl (same_updo rfl (same_mov rfl same_ovr))))))))))))))))))))), i + 1, by omega, _, by omega, rfl, rfl, (by rw [decide_eq_true_eq, List.take_succ_eq_append_getElem (by omega)]; exact ⟨fun h => ⟨_, List.mem_append_right _ (List.mem_singleton.2 rfl), h⟩, fun ⟨x, hx, hn⟩ => by rcases List.mem_append.1 hx with hx | hx; exact (nomatch hb.2 ⟨x, hx, hn⟩); rw [← List.mem_singleton.1 hx]; exact hn⟩), (by intro x hx; rw [List.take_succ_eq_append_getElem (by omega)] at hx; rcases List.mem_append.1 hx with hx | hx; exact hz x hx; rw [List.mem_singleton.1 hx]; omega), H⟩
                        · refine W_seq ?_
                          refine W_seq ?_
                          refine W_region_l ?_
                          refine WL_stepM rfl (R_mv) ?_
                          refine WL_step rfl (R_lt_t rfl rfl (by omega)) ?_
                          refine WL_nil ?_
                          refine W_cond_t rfl ?_
                          refine W_skip ?_
                          refine W_seq ?_
                          refine W_block ?_
                          refine W_seq ?_
                          refine W_seq ?_
                          refine W_region_l ?_
                          refine WL_stepM rfl (R_mv) ?_
                          refine WL_step rfl (R_fieldAddr (off' := 8) Try.underlying53 rfl Try.sizeOf51 (by decide) rfl rfl) ?_
                          refine WL_step rfl (R_indexAddrA (off' := 8 + i) Try.underlying51 Try.sizeOf3 rfl rfl (by omega) (by omega) (by omega)) ?_
                          refine WL_step rfl (R_load (v := I p.f[i]) Try.isAgg3 rfl (H.get .here) (pi_fd hlt)) ?_
                          (refine WL_call rfl (R_call rfl Try.call42 rfl) (in_ret _ _ _ _) ?_; rintro _ w301 ⟨rfl, H1⟩; replace H := H.seq0 H1; clear H1)
                          refine WL_step rfl (R_not_d rfl) ?_
                          refine WL_nil ?_
                          refine W_if rfl (fun h304 => ?_) (fun h304 => ?_)
                          · refine W_seq ?_
                            refine W_region_l ?_
                            refine WL_stepM rfl (R_as) ?_
                            refine WL_nil ?_
                            refine W_ret ?_
                            exact ⟨_, rfl, congrArg Value.bool (decide_eq_false (fun h => by have := h.2.2.1 p.f[i] (List.getElem_mem _); omega)).symm, H.none (by repeat' first | exact kNil | apply kCons | apply kApp | assumption | exact OwnS.keys (by assumption))⟩
                          · refine W_skip ?_
                            refine W_region_l ?_
                            refine WL_stepM rfl (R_mv) ?_
                            refine WL_stepM rfl (R_mv) ?_
                            refine WL_guard_f rfl rfl (by decide) ?_
                            refine WL_guard_f rfl rfl (by decide) ?_
                            refine WL_guard_f rfl rfl (by decide) ?_
                            refine WL_guard_f rfl rfl (by decide) ?_
                            refine WL_guard_f rfl rfl (by decide) ?_
                            refine WL_stepM rfl (R_pk_t rfl) ?_
                            refine WL_stepM rfl (R_as) ?_
                            refine WL_nil ?_
                            refine W_region_l ?_
                            refine WL_stepM rfl (R_mv) ?_
                            refine WL_step rfl (R_add rfl rfl (w_i64 (by omega))) ?_
                            refine WL_stepM rfl (R_as) ?_
                            refine WL_nil ?_
                            exact ⟨(same_mov rfl (same_updo rfl (same_mov rfl (same_mov rfl (same_mov rfl (same_updo rfl (same_updo rfl (same_updo rfl (same_updo rfl (same_updo rfl (same_mov rfl (same_mov rfl (same_know rfl (same_updo rfl (same_updo rfl (same_updo rfl (same_updo rfl (same_updo rfl (same_mov rfl (same_updo rfl (same_mov rfl same_ovr))))))))))))))))))))), i + 1, by omega, true, by omega, rfl, rfl, ⟨fun _ => by obtain ⟨x, hx, hn⟩ := hb.1 rfl; exact ⟨x, by rw [List.take_succ_eq_append_getElem (by omega)]; exact List.mem_append_left _ hx, hn⟩, fun _ => rfl⟩, (by intro x hx; rw [List.take_succ_eq_append_getElem (by omega)] at hx; rcases List.mem_append.1 hx with hx | hx; exact hz x hx; rw [List.mem_singleton.1 hx]; omega), H⟩
                        · refine W_seq ?_
                          refine W_seq ?_
                          refine W_region_l ?_
                          refine WL_stepM rfl (R_mv) ?_
                          refine WL_step rfl (R_lt_f rfl rfl (by omega)) ?_
                          refine WL_nil ?_
                          refine W_cond_f rfl ?_
                          refine W_exit ?_
                          refine (if_pos rfl).mpr ?_
                          refine W_seq ?_
                          refine W_seq ?_
                          ((obtain rfl : i = 8 := (by omega); rw [List.take_of_length_le (l := p.f) (i := 8) (by rw [p.hf]; decide)] at hb hz; have hrep := rep_iff p.hf)) <;> refine W_region_l ?_
                          refine WL_step rfl (R_fieldAddr (off' := 0) Try.underlying53 rfl Try.sizeOf3 (by decide) rfl rfl) ?_
                          refine WL_step rfl (R_load Try.isAgg3 rfl (H.get .here) rfl) ?_
                          refine WL_step rfl (R_eq rfl rfl) ?_
                          refine WL_nil ?_
                          refine W_if rfl (fun h345 => ?_) (fun h345 => ?_)
                          · refine W_seq ?_
                            refine W_region_l ?_
                            refine WL_stepM rfl (R_mv) ?_
                            refine WL_step rfl (R_not_f rfl) ?_
                            refine WL_stepM rfl (R_mv) ?_
                            refine WL_guard_t rfl rfl ?_
                            refine WL_step rfl (R_fieldAddr (off' := 4) Try.underlying53 rfl Try.sizeOf3 (by decide) rfl rfl) ?_
                            refine WL_guard_t rfl rfl ?_
                            refine WL_step rfl (R_load Try.isAgg3 rfl (H.get .here) rfl) ?_
                            refine WL_guard_t rfl rfl ?_
                            refine WL_step rfl (R_eq rfl rfl) ?_
                            refine WL_stepM rfl (R_pk_t rfl) ?_
                            refine WL_stepM rfl (R_as) ?_
                            refine WL_nil ?_
                            refine W_ret ?_
                            exact ⟨_, rfl, congrArg Value.bool (decide_eq_decide.2 ⟨fun h => ⟨by omega, mid2_of (by assumption), hz, .inl ⟨by omega, bv_zero.1 h, hrep.2 (fun hn => nomatch hb.2 hn)⟩⟩, fun h => by rcases h.2.2.2 with ⟨_, h1, _⟩ | ⟨h1, _⟩; exact bv_zero.2 h1; exact (h1 (by omega)).elim⟩), H.none (by repeat' first | exact kNil | apply kCons | apply kApp | assumption | exact OwnS.keys (by assumption))⟩
                          · refine W_skip ?_
                            refine W_seq ?_
                            refine W_region_l ?_
                            refine WL_step rfl (R_fieldAddr (off' := 3) Try.underlying53 rfl Try.sizeOf3 (by decide) rfl rfl) ?_
                            refine WL_step rfl (R_load Try.isAgg3 rfl (H.get .here) rfl) ?_
                            refine WL_step rfl (R_eq rfl rfl) ?_
                            refine WL_stepM rfl (R_as) ?_
                            refine WL_nil ?_
                            refine W_ret ?_
                            exact ⟨_, rfl, congrArg Value.bool (decide_eq_decide.2 ⟨fun h => ⟨by omega, mid2_of (by assumption), hz, .inr ⟨by omega, h⟩⟩, fun h => by rcases h.2.2.2 with ⟨h1, _⟩ | ⟨_, h1⟩; exact (‹¬ p.s = 2› h1).elim; exact h1⟩), H.none (by repeat' first | exact kNil | apply kCons | apply kApp | assumption | exact OwnS.keys (by assumption))⟩
                        · refine W_seq ?_
                          refine W_seq ?_
                          refine W_region_l ?_
                          refine WL_stepM rfl (R_mv) ?_
                          refine WL_step rfl (R_lt_f rfl rfl (by omega)) ?_
                          refine WL_nil ?_
                          refine W_cond_f rfl ?_
                          refine W_exit ?_
                          refine (if_pos rfl).mpr ?_
                          refine W_seq ?_
                          refine W_seq ?_
                          ((obtain rfl : i = 8 := (by omega); rw [List.take_of_length_le (l := p.f) (i := 8) (by rw [p.hf]; decide)] at hb hz; have hrep := rep_iff p.hf)) <;> refine W_region_l ?_
                          refine WL_step rfl (R_fieldAddr (off' := 0) Try.underlying53 rfl Try.sizeOf3 (by decide) rfl rfl) ?_
                          refine WL_step rfl (R_load Try.isAgg3 rfl (H.get .here) rfl) ?_
                          refine WL_step rfl (R_eq rfl rfl) ?_
                          refine WL_nil ?_
                          refine W_if rfl (fun h388 => ?_) (fun h388 => ?_)
                          · refine W_seq ?_
                            refine W_region_l ?_
                            refine WL_stepM rfl (R_mv) ?_
                            refine WL_step rfl (R_not_t rfl) ?_
                            refine WL_stepM rfl (R_mv) ?_
                            refine WL_guard_f rfl rfl (by decide) ?_
                            refine WL_guard_f rfl rfl (by decide) ?_
                            refine WL_guard_f rfl rfl (by decide) ?_
                            refine WL_stepM rfl (R_pk_f rfl) ?_
                            refine WL_stepM rfl (R_as) ?_
                            refine WL_nil ?_
                            refine W_ret ?_
                            exact ⟨_, rfl, congrArg Value.bool (decide_eq_false (fun h => by rcases h.2.2.2 with ⟨_, _, h2⟩ | ⟨h1, _⟩; exact hrep.1 h2 (hb.1 rfl); exact h1 (by omega))).symm, H.none (by repeat' first | exact kNil | apply kCons | apply kApp | assumption | exact OwnS.keys (by assumption))⟩
                          · refine W_skip ?_
                            refine W_seq ?_
                            refine W_region_l ?_
                            refine WL_step rfl (R_fieldAddr (off' := 3) Try.underlying53 rfl Try.sizeOf3 (by decide) rfl rfl) ?_
                            refine WL_step rfl (R_load Try.isAgg3 rfl (H.get .here) rfl) ?_
                            refine WL_step rfl (R_eq rfl rfl) ?_
                            refine WL_stepM rfl (R_as) ?_
                            refine WL_nil ?_
                            refine W_ret ?_
                            exact ⟨_, rfl, congrArg Value.bool (decide_eq_decide.2 ⟨fun h => ⟨by omega, mid2_of (by assumption), hz, .inr ⟨by omega, h⟩⟩, fun h => by rcases h.2.2.2 with ⟨h1, _⟩ | ⟨_, h1⟩; exact (‹¬ p.s = 2› h1).elim; exact h1⟩), H.none (by repeat' first | exact kNil | apply kCons | apply kApp | assumption | exact OwnS.keys (by assumption))⟩
end Go.Proofs.Ytcpkhgdjckogjaa.Slot

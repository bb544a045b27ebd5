/-
  Which slots may be.
-/
import Derived.Test.YtcpkhgdjckogjaaSlotA
namespace Go.Proofs.Ytcpkhgdjckogjaa.Slot
open Go Go.Proofs Go.Proofs.Ytcpkhgdjckogjaa.Fx Go.Proofs.Ytcpkhgdjckogjaa.Codec
set_option maxRecDepth 100000
set_option linter.unusedVariables false
set_option linter.unusedSimpArgs false
set_option maxHeartbeats 2000000

theorem hfd (p : Pi) : ((piC p).drop 8).take 8 = p.f.map fun x => I x := by
  unfold piC
  rw [List.drop_left' (by simp), List.take_of_length_le (by simp [p.hf])]
theorem zip_rep {k : IntKind} : ∀ (n : Nat) (l : List Int), l.length = n → List.zipWith Value.int (List.replicate n k) l = l.map (Value.int k)
  | 0, [], _ => rfl
  | n + 1, a :: l, h => by rw [List.replicate_succ, List.zipWith_cons_cons, List.map_cons, zip_rep n l (by simpa using h)]
theorem eq_fds : EqC Try.prog 51 (List.replicate 8 .i64) true 2 :=
  EqC.array (EqC.int Try.isAgg3 Try.sizeOf3 Try.underlying3) Try.isAgg51 Try.sizeOf51 Try.underlying51 (info_of_run Try.typeInfo3 default) (by kernel_rfl) rfl
theorem R_eq_fds {E : Env} {w : World} {d : Option Nat} {ty : TypeId} {pos : String} {after : Array Edge} {t' : TypeId} {x y : Operand} {f g : List Int} (hf : f.length = 8) (hg : g.length = 8) (hx : ev E x = .agg (f.map fun x => I x).toArray) (hy : ev E y = .agg (g.map fun x => I x).toArray)
    : (execOp (ev E) (mk d (.binOp .eql 51 x y t') ty pos after)).run Try.prog w = .ok (.value (.bool (decide (f = g)))) w :=
  R_eq_C eq_fds (by decide) (by kernel_rfl) hx hy (zip_rep 8 f hf).symm (zip_rep 8 g hg).symm (by rw [hf]; rfl) (by rw [hg]; rfl)

theorem mid_of {a b c d : BitVec 64} (h : ¬((((¬(okB a ∧ a &&& 0#64 = 0#64) ∨ ¬(okB b ∧ b &&& 16896#64 = 0#64)) ∨ ¬(okB c ∧ c &&& 16896#64 = 0#64)) ∨ ¬(okB d ∧ d &&& 16896#64 = 0#64)) ∨ (c &&& d).toInt ≠ 0)) :
    (okB a ∧ okB b ∧ okB c ∧ okB d) ∧ (b &&& 16896#64 = 0#64 ∧ c &&& 16896#64 = 0#64 ∧ d &&& 16896#64 = 0#64) ∧ c &&& d = 0#64 := by
  have h5 : c &&& d = 0#64 := bv_zero.1 (Classical.byContradiction fun hn => h (.inr hn))
  have h1 : okB a ∧ a &&& 0#64 = 0#64 := Classical.byContradiction fun hn => h (.inl (.inl (.inl (.inl hn))))
  have h2 : okB b ∧ b &&& 16896#64 = 0#64 := Classical.byContradiction fun hn => h (.inl (.inl (.inl (.inr hn))))
  have h3 : okB c ∧ c &&& 16896#64 = 0#64 := Classical.byContradiction fun hn => h (.inl (.inl (.inr hn)))
  have h4 : okB d ∧ d &&& 16896#64 = 0#64 := Classical.byContradiction fun hn => h (.inl (.inr hn))
  exact ⟨⟨h1.1, h2.1, h3.1, h4.1⟩, ⟨h2.2, h3.2, h4.2⟩, h5⟩

theorem ok_ret (p : Pi) (w : World) : Ret Try.prog 27 #[vP p] w fun v w' => v = .bool (decide (okP p)) ∧ Hp w [] w' := by
  refine Ret_of_W (args := [_]) Try.func27 rfl Try.ntmps27 Try.results27 (by simp) ?_
  have H := Hp.refl w
  have hz8 : (List.replicate 8 (0 : Int)).length = 8 := rfl
  refine W_seq ?_
  refine W_region_l ?_
  (refine WL_effn rfl (E_boxP H rfl) ?_; clear H; intro bx w3 hbx H)
  refine WL_stepM rfl (R_as) ?_
  refine WL_nil ?_
  refine W_seq ?_
  refine W_seq ?_
  refine W_region_l ?_
  refine WL_step rfl (R_fieldAddr (off' := 0) Try.underlying53 rfl Try.sizeOf3 (by decide) rfl rfl) ?_
  refine WL_step rfl (R_load Try.isAgg3 rfl (H.get .here) rfl) ?_
  refine WL_step rfl (R_lt rfl rfl) ?_
  refine WL_stepM rfl (R_mv) ?_
  apply WL_orK 4 6 10 [(7, 10)] H
  case hc => rfl
  case h1 =>
    intro h13
    refine WL_guard_t rfl rfl ?_
    refine WL_step rfl (R_fieldAddr (off' := 0) Try.underlying53 rfl Try.sizeOf3 (by decide) rfl rfl) ?_
    refine WL_guard_t rfl rfl ?_
    refine WL_step rfl (R_load Try.isAgg3 rfl (H.get .here) rfl) ?_
    refine WL_guard_t rfl rfl ?_
    refine WL_step rfl (R_gt rfl rfl) ?_
    refine WL_stepM rfl (R_pk_f rfl) ?_
    refine WL_nil ?_
    exact ⟨(same_mov rfl (same_updo rfl (same_updo rfl (same_updo rfl Same.refl)))), rfl, H⟩
  case h0 =>
    intro h13
    refine WL_guard_f rfl rfl (by decide) ?_
    refine WL_guard_f rfl rfl (by decide) ?_
    refine WL_guard_f rfl rfl (by decide) ?_
    refine WL_stepM rfl (R_pk_t rfl) ?_
    refine WL_nil ?_
    exact ⟨(same_mov rfl (same_updo rfl (same_updo rfl (same_updo rfl Same.refl)))), rfl, H⟩
  case h2 =>
    (clear H; intro E13 w13 H)
    refine WL_stepM rfl (R_mv) ?_
    apply WL_orK 4 11 15 [(12, 15)] H
    case hc => rfl
    case h1 =>
      intro h30
      refine WL_guard_t rfl rfl ?_
      refine WL_step rfl (R_fieldAddr (off' := 1) Try.underlying53 rfl Try.sizeOf3 (by decide) rfl rfl) ?_
      refine WL_guard_t rfl rfl ?_
      refine WL_step rfl (R_load Try.isAgg3 rfl (H.get .here) rfl) ?_
      refine WL_guard_t rfl rfl ?_
      refine WL_step rfl (R_lt rfl rfl) ?_
      refine WL_stepM rfl (R_pk_f rfl) ?_
      refine WL_nil ?_
      exact ⟨(same_mov rfl (same_updo rfl (same_updo rfl (same_updo rfl Same.refl)))), rfl, H⟩
    case h0 =>
      intro h30
      refine WL_guard_f rfl rfl (by decide) ?_
      refine WL_guard_f rfl rfl (by decide) ?_
      refine WL_guard_f rfl rfl (by decide) ?_
      refine WL_stepM rfl (R_pk_t rfl) ?_
      refine WL_nil ?_
      exact ⟨(same_mov rfl (same_updo rfl (same_updo rfl (same_updo rfl Same.refl)))), rfl, H⟩
    case h2 =>
      (clear H; intro E30 w30 H)
      refine WL_stepM rfl (R_mv) ?_
      apply WL_orK 4 16 20 [(17, 20)] H
      case hc => rfl
      case h1 =>
        intro h47
        refine WL_guard_t rfl rfl ?_
        refine WL_step rfl (R_fieldAddr (off' := 1) Try.underlying53 rfl Try.sizeOf3 (by decide) rfl rfl) ?_
        refine WL_guard_t rfl rfl ?_
        refine WL_step rfl (R_load Try.isAgg3 rfl (H.get .here) rfl) ?_
        refine WL_guard_t rfl rfl ?_
        refine WL_step rfl (R_gt rfl rfl) ?_
        refine WL_stepM rfl (R_pk_f rfl) ?_
        refine WL_nil ?_
        exact ⟨(same_mov rfl (same_updo rfl (same_updo rfl (same_updo rfl Same.refl)))), rfl, H⟩
      case h0 =>
        intro h47
        refine WL_guard_f rfl rfl (by decide) ?_
        refine WL_guard_f rfl rfl (by decide) ?_
        refine WL_guard_f rfl rfl (by decide) ?_
        refine WL_stepM rfl (R_pk_t rfl) ?_
        refine WL_nil ?_
        exact ⟨(same_mov rfl (same_updo rfl (same_updo rfl (same_updo rfl Same.refl)))), rfl, H⟩
      case h2 =>
        (clear H; intro E47 w47 H)
        refine WL_stepM rfl (R_mv) ?_
        apply WL_orK 4 21 25 [(22, 25)] H
        case hc => rfl
        case h1 =>
          intro h64
          refine WL_guard_t rfl rfl ?_
          refine WL_step rfl (R_fieldAddr (off' := 2) Try.underlying53 rfl Try.sizeOf3 (by decide) rfl rfl) ?_
          refine WL_guard_t rfl rfl ?_
          refine WL_step rfl (R_load Try.isAgg3 rfl (H.get .here) rfl) ?_
          refine WL_guard_t rfl rfl ?_
          refine WL_step rfl (R_lt rfl rfl) ?_
          refine WL_stepM rfl (R_pk_f rfl) ?_
          refine WL_nil ?_
          exact ⟨(same_mov rfl (same_updo rfl (same_updo rfl (same_updo rfl Same.refl)))), rfl, H⟩
        case h0 =>
          intro h64
          refine WL_guard_f rfl rfl (by decide) ?_
          refine WL_guard_f rfl rfl (by decide) ?_
          refine WL_guard_f rfl rfl (by decide) ?_
          refine WL_stepM rfl (R_pk_t rfl) ?_
          refine WL_nil ?_
          exact ⟨(same_mov rfl (same_updo rfl (same_updo rfl (same_updo rfl Same.refl)))), rfl, H⟩
        case h2 =>
          (clear H; intro E64 w64 H)
          refine WL_stepM rfl (R_mv) ?_
          apply WL_orK 4 26 30 [(27, 30)] H
          case hc => rfl
          case h1 =>
            intro h81
            refine WL_guard_t rfl rfl ?_
            refine WL_step rfl (R_fieldAddr (off' := 2) Try.underlying53 rfl Try.sizeOf3 (by decide) rfl rfl) ?_
            refine WL_guard_t rfl rfl ?_
            refine WL_step rfl (R_load Try.isAgg3 rfl (H.get .here) rfl) ?_
            refine WL_guard_t rfl rfl ?_
            refine WL_step rfl (R_ge rfl rfl) ?_
            refine WL_stepM rfl (R_pk_f rfl) ?_
            refine WL_nil ?_
            exact ⟨(same_mov rfl (same_updo rfl (same_updo rfl (same_updo rfl Same.refl)))), rfl, H⟩
          case h0 =>
            intro h81
            refine WL_guard_f rfl rfl (by decide) ?_
            refine WL_guard_f rfl rfl (by decide) ?_
            refine WL_guard_f rfl rfl (by decide) ?_
            refine WL_stepM rfl (R_pk_t rfl) ?_
            refine WL_nil ?_
            exact ⟨(same_mov rfl (same_updo rfl (same_updo rfl (same_updo rfl Same.refl)))), rfl, H⟩
          case h2 =>
            (clear H; intro E81 w81 H)
            refine WL_stepM rfl (R_mv) ?_
            apply WL_orK 4 31 35 [(32, 35)] H
            case hc => rfl
            case h1 =>
              intro h98
              refine WL_guard_t rfl rfl ?_
              refine WL_step rfl (R_fieldAddr (off' := 3) Try.underlying53 rfl Try.sizeOf3 (by decide) rfl rfl) ?_
              refine WL_guard_t rfl rfl ?_
              refine WL_step rfl (R_load Try.isAgg3 rfl (H.get .here) rfl) ?_
              refine WL_guard_t rfl rfl ?_
              refine WL_step rfl (R_lt rfl rfl) ?_
              refine WL_stepM rfl (R_pk_f rfl) ?_
              refine WL_nil ?_
              exact ⟨(same_mov rfl (same_updo rfl (same_updo rfl (same_updo rfl Same.refl)))), rfl, H⟩
            case h0 =>
              intro h98
              refine WL_guard_f rfl rfl (by decide) ?_
              refine WL_guard_f rfl rfl (by decide) ?_
              refine WL_guard_f rfl rfl (by decide) ?_
              refine WL_stepM rfl (R_pk_t rfl) ?_
              refine WL_nil ?_
              exact ⟨(same_mov rfl (same_updo rfl (same_updo rfl (same_updo rfl Same.refl)))), rfl, H⟩
            case h2 =>
              (clear H; intro E98 w98 H)
              refine WL_stepM rfl (R_mv) ?_
              apply WL_orK 4 36 40 [(37, 40)] H
              case hc => rfl
              case h1 =>
                intro h115
                refine WL_guard_t rfl rfl ?_
                refine WL_step rfl (R_fieldAddr (off' := 3) Try.underlying53 rfl Try.sizeOf3 (by decide) rfl rfl) ?_
                refine WL_guard_t rfl rfl ?_
                refine WL_step rfl (R_load Try.isAgg3 rfl (H.get .here) rfl) ?_
                refine WL_guard_t rfl rfl ?_
                refine WL_step rfl (R_gt rfl rfl) ?_
                refine WL_stepM rfl (R_pk_f rfl) ?_
                refine WL_nil ?_
                exact ⟨(same_mov rfl (same_updo rfl (same_updo rfl (same_updo rfl Same.refl)))), rfl, H⟩
              case h0 =>
                intro h115
                refine WL_guard_f rfl rfl (by decide) ?_
                refine WL_guard_f rfl rfl (by decide) ?_
                refine WL_guard_f rfl rfl (by decide) ?_
                refine WL_stepM rfl (R_pk_t rfl) ?_
                refine WL_nil ?_
                exact ⟨(same_mov rfl (same_updo rfl (same_updo rfl (same_updo rfl Same.refl)))), rfl, H⟩
              case h2 =>
                (clear H; intro E115 w115 H)
                refine WL_nil ?_
                refine W_if rfl (fun h132 => ?_) (fun h132 => ?_)
                · refine W_seq ?_
                  refine W_region_l ?_
                  refine WL_stepM rfl (R_as) ?_
                  refine WL_nil ?_
                  refine W_ret ?_
                  exact ⟨_, rfl, congrArg Value.bool (decide_eq_false (fun h => by simp only [okP] at h; omega)).symm, H.none (by repeat' first | exact kNil | apply kCons | apply kApp | assumption | exact OwnS.keys (by assumption))⟩
                · refine W_skip ?_
                  refine W_seq ?_
                  refine W_seq ?_
                  refine W_region_l ?_
                  refine WL_step rfl (R_fieldAddr (off' := 4) Try.underlying53 rfl Try.sizeOf3 (by decide) rfl rfl) ?_
                  refine WL_step rfl (R_load Try.isAgg3 rfl (H.get .here) rfl) ?_
                  (refine WL_call rfl (R_call rfl Try.call48 rfl) (bits_ret _ 0#64 _) ?_; rintro _ w145 ⟨rfl, H1⟩; replace H := H.seq0 H1; clear H1)
                  refine WL_step rfl (R_not_d rfl) ?_
                  refine WL_stepM rfl (R_mv) ?_
                  apply WL_orK 5 45 50 [(46, 50)] H
                  case hc => rfl
                  case h1 =>
                    intro h148
                    refine WL_guard_t rfl rfl ?_
                    refine WL_step rfl (R_fieldAddr (off' := 5) Try.underlying53 rfl Try.sizeOf3 (by decide) rfl rfl) ?_
                    refine WL_guard_t rfl rfl ?_
                    refine WL_step rfl (R_load Try.isAgg3 rfl (H.get .here) rfl) ?_
                    refine WL_guard_t rfl rfl ?_
                    (refine WL_call rfl (R_call rfl Try.call48 rfl) (bits_ret _ 16896#64 _) ?_; rintro _ w154 ⟨rfl, H1⟩; replace H := H.seq0 H1; clear H1)
                    refine WL_guard_t rfl rfl ?_
                    refine WL_step rfl (R_not_d rfl) ?_
                    refine WL_stepM rfl (R_pk_f rfl) ?_
                    refine WL_nil ?_
                    exact ⟨(same_mov rfl (same_updo rfl (same_updo rfl (same_updo rfl (same_updo rfl Same.refl))))), rfl, H⟩
                  case h0 =>
                    intro h148
                    refine WL_guard_f rfl rfl (by decide) ?_
                    refine WL_guard_f rfl rfl (by decide) ?_
                    refine WL_guard_f rfl rfl (by decide) ?_
                    refine WL_guard_f rfl rfl (by decide) ?_
                    refine WL_stepM rfl (R_pk_t rfl) ?_
                    refine WL_nil ?_
                    exact ⟨(same_mov rfl (same_updo rfl (same_updo rfl (same_updo rfl (same_updo rfl Same.refl))))), rfl, H⟩
                  case h2 =>
                    (clear H; intro E148 w148 H)
                    refine WL_stepM rfl (R_mv) ?_
                    apply WL_orK 5 51 56 [(52, 56)] H
                    case hc => rfl
                    case h1 =>
                      intro h168
                      refine WL_guard_t rfl rfl ?_
                      refine WL_step rfl (R_fieldAddr (off' := 6) Try.underlying53 rfl Try.sizeOf3 (by decide) rfl rfl) ?_
                      refine WL_guard_t rfl rfl ?_
                      refine WL_step rfl (R_load Try.isAgg3 rfl (H.get .here) rfl) ?_
                      refine WL_guard_t rfl rfl ?_
                      (refine WL_call rfl (R_call rfl Try.call48 rfl) (bits_ret _ 16896#64 _) ?_; rintro _ w174 ⟨rfl, H1⟩; replace H := H.seq0 H1; clear H1)
                      refine WL_guard_t rfl rfl ?_
                      refine WL_step rfl (R_not_d rfl) ?_
                      refine WL_stepM rfl (R_pk_f rfl) ?_
                      refine WL_nil ?_
                      exact ⟨(same_mov rfl (same_updo rfl (same_updo rfl (same_updo rfl (same_updo rfl Same.refl))))), rfl, H⟩
                    case h0 =>
                      intro h168
                      refine WL_guard_f rfl rfl (by decide) ?_
                      refine WL_guard_f rfl rfl (by decide) ?_
                      refine WL_guard_f rfl rfl (by decide) ?_
                      refine WL_guard_f rfl rfl (by decide) ?_
                      refine WL_stepM rfl (R_pk_t rfl) ?_
                      refine WL_nil ?_
                      exact ⟨(same_mov rfl (same_updo rfl (same_updo rfl (same_updo rfl (same_updo rfl Same.refl))))), rfl, H⟩
                    case h2 =>
                      (clear H; intro E168 w168 H)
                      refine WL_stepM rfl (R_mv) ?_
                      apply WL_orK 5 57 62 [(58, 62)] H
                      case hc => rfl
                      case h1 =>
                        intro h188
                        refine WL_guard_t rfl rfl ?_
                        refine WL_step rfl (R_fieldAddr (off' := 7) Try.underlying53 rfl Try.sizeOf3 (by decide) rfl rfl) ?_
                        refine WL_guard_t rfl rfl ?_
                        refine WL_step rfl (R_load Try.isAgg3 rfl (H.get .here) rfl) ?_
                        refine WL_guard_t rfl rfl ?_
                        (refine WL_call rfl (R_call rfl Try.call48 rfl) (bits_ret _ 16896#64 _) ?_; rintro _ w194 ⟨rfl, H1⟩; replace H := H.seq0 H1; clear H1)
                        refine WL_guard_t rfl rfl ?_
                        refine WL_step rfl (R_not_d rfl) ?_
                        refine WL_stepM rfl (R_pk_f rfl) ?_
                        refine WL_nil ?_
                        exact ⟨(same_mov rfl (same_updo rfl (same_updo rfl (same_updo rfl (same_updo rfl Same.refl))))), rfl, H⟩
                      case h0 =>
                        intro h188
                        refine WL_guard_f rfl rfl (by decide) ?_
                        refine WL_guard_f rfl rfl (by decide) ?_
                        refine WL_guard_f rfl rfl (by decide) ?_
                        refine WL_guard_f rfl rfl (by decide) ?_
                        refine WL_stepM rfl (R_pk_t rfl) ?_
                        refine WL_nil ?_
                        exact ⟨(same_mov rfl (same_updo rfl (same_updo rfl (same_updo rfl (same_updo rfl Same.refl))))), rfl, H⟩
                      case h2 =>
                        (clear H; intro E188 w188 H)
                        refine WL_stepM rfl (R_mv) ?_
                        apply WL_orK 7 63 70 [(64, 70)] H
                        case hc => rfl
                        case h1 =>
                          intro h208
                          refine WL_guard_t rfl rfl ?_
                          refine WL_step rfl (R_fieldAddr (off' := 6) Try.underlying53 rfl Try.sizeOf3 (by decide) rfl rfl) ?_
                          refine WL_guard_t rfl rfl ?_
                          refine WL_step rfl (R_load Try.isAgg3 rfl (H.get .here) rfl) ?_
                          refine WL_guard_t rfl rfl ?_
                          refine WL_step rfl (R_fieldAddr (off' := 7) Try.underlying53 rfl Try.sizeOf3 (by decide) rfl rfl) ?_
                          refine WL_guard_t rfl rfl ?_
                          refine WL_step rfl (R_load Try.isAgg3 rfl (H.get .here) rfl) ?_
                          refine WL_guard_t rfl rfl ?_
                          refine WL_step rfl (R_bits rfl rfl (by simp) (bv_and p.c p.d)) ?_
                          refine WL_guard_t rfl rfl ?_
                          refine WL_step rfl (R_ne rfl rfl) ?_
                          refine WL_stepM rfl (R_pk_f rfl) ?_
                          refine WL_nil ?_
                          exact ⟨(same_mov rfl (same_updo rfl (same_updo rfl (same_updo rfl (same_updo rfl (same_updo rfl (same_updo rfl Same.refl))))))), rfl, H⟩
                        case h0 =>
                          intro h208
                          refine WL_guard_f rfl rfl (by decide) ?_
                          refine WL_guard_f rfl rfl (by decide) ?_
                          refine WL_guard_f rfl rfl (by decide) ?_
                          refine WL_guard_f rfl rfl (by decide) ?_
                          refine WL_guard_f rfl rfl (by decide) ?_
                          refine WL_guard_f rfl rfl (by decide) ?_
                          refine WL_stepM rfl (R_pk_t rfl) ?_
                          refine WL_nil ?_
                          exact ⟨(same_mov rfl (same_updo rfl (same_updo rfl (same_updo rfl (same_updo rfl (same_updo rfl (same_updo rfl Same.refl))))))), rfl, H⟩
                        case h2 =>
                          (clear H; intro E208 w208 H)
                          refine WL_nil ?_
                          refine W_if rfl (fun h234 => ?_) (fun h234 => ?_)
                          · refine W_seq ?_
                            refine W_region_l ?_
                            refine WL_stepM rfl (R_as) ?_
                            refine WL_nil ?_
                            refine W_ret ?_
                            exact ⟨_, rfl, congrArg Value.bool (decide_eq_false (fun h => by have h2 := h.2.1; simp_all [bv_zero])).symm, H.none (by repeat' first | exact kNil | apply kCons | apply kApp | assumption | exact OwnS.keys (by assumption))⟩
                          · refine W_skip ?_
                            refine W_seq ?_
                            refine W_seq ?_
                            refine W_region_l ?_
                            refine WL_step rfl (R_fieldAddr (off' := 8) Try.underlying53 rfl Try.sizeOf51 (by decide) rfl rfl) ?_
                            refine WL_step rfl (R_all Try.underlying51 Try.sizeOf3 rfl (by decide)) ?_
                            (refine WL_call rfl (R_call rfl Try.call49 rfl) (containsFunc_ret (xs := p.f) (RdS.blk (c := piC p) (off := 8) (H.get .here) (hfd p) (by rw [piC_len]; decide) (by decide)) (by rw [p.hf]; decide)) ?_; rintro _ w247 ⟨rfl, H1⟩; replace H := H.seq0 H1; clear H1)
                            refine WL_nil ?_
                            refine W_if rfl (fun h249 => ?_) (fun h249 => ?_)
                            · refine W_seq ?_
                              refine W_region_l ?_
                              refine WL_stepM rfl (R_as) ?_
                              refine WL_nil ?_
                              refine W_ret ?_
                              exact ⟨_, rfl, congrArg Value.bool (decide_eq_false (fun h => by obtain ⟨x, hx, hn⟩ := ‹∃ x ∈ p.f, _›; have := h.2.2.1 x hx; omega)).symm, H.none (by repeat' first | exact kNil | apply kCons | apply kApp | assumption | exact OwnS.keys (by assumption))⟩
                            · refine W_skip ?_
                              refine W_seq ?_
                              refine W_seq ?_
                              refine W_region_l ?_
                              refine WL_step rfl (R_fieldAddr (off' := 0) Try.underlying53 rfl Try.sizeOf3 (by decide) rfl rfl) ?_
                              refine WL_step rfl (R_load Try.isAgg3 rfl (H.get .here) rfl) ?_
                              refine WL_step rfl (R_eq rfl rfl) ?_
                              refine WL_nil ?_
                              refine W_if rfl (fun h264 => ?_) (fun h264 => ?_)
                              · refine W_seq ?_
                                refine W_region_l ?_
                                refine WL_step rfl (R_fieldAddr (off' := 4) Try.underlying53 rfl Try.sizeOf3 (by decide) rfl rfl) ?_
                                refine WL_step rfl (R_load Try.isAgg3 rfl (H.get .here) rfl) ?_
                                refine WL_step rfl (R_eq rfl rfl) ?_
                                refine WL_stepM rfl (R_mv) ?_
                                apply WL_andK 5 80 85 [(81, 85)] H
                                case hc => rfl
                                case h1 =>
                                  intro h271
                                  refine WL_guard_t rfl rfl ?_
                                  refine WL_step rfl (R_fieldAddr (off' := 8) Try.underlying53 rfl Try.sizeOf51 (by decide) rfl rfl) ?_
                                  refine WL_guard_t rfl rfl ?_
                                  refine WL_step rfl (R_loadA (vs := p.f.map fun x => I x) Try.isAgg51 Try.sizeOf51 rfl (H.get .here) (hfd p) (by rw [piC_len]; decide)) ?_
                                  refine WL_guard_t rfl rfl ?_
                                  refine WL_step rfl (R_zeroArr (zs := (List.replicate 8 0).map fun x => I x) Try.underlying51 Try.typeInfo51 ⟨_, info_of_run Try.typeInfo3 default⟩ rfl rfl) ?_
                                  refine WL_guard_t rfl rfl ?_
                                  refine WL_step rfl (R_eq_fds p.hf hz8 rfl rfl) ?_
                                  refine WL_stepM rfl (R_pk_t rfl) ?_
                                  refine WL_nil ?_
                                  exact ⟨(same_mov rfl (same_updo rfl (same_updo rfl (same_updo rfl (same_updo rfl Same.refl))))), rfl, H⟩
                                case h0 =>
                                  intro h271
                                  refine WL_guard_f rfl rfl (by decide) ?_
                                  refine WL_guard_f rfl rfl (by decide) ?_
                                  refine WL_guard_f rfl rfl (by decide) ?_
                                  refine WL_guard_f rfl rfl (by decide) ?_
                                  refine WL_stepM rfl (R_pk_f rfl) ?_
                                  refine WL_nil ?_
                                  exact ⟨(same_mov rfl (same_updo rfl (same_updo rfl (same_updo rfl (same_updo rfl Same.refl))))), rfl, H⟩
                                case h2 =>
                                  (clear H; intro E271 w271 H)
                                  refine WL_stepM rfl (R_as) ?_
                                  refine WL_nil ?_
                                  refine W_ret ?_
                                  exact ⟨_, rfl, congrArg Value.bool (decide_eq_decide.2 ⟨fun h => ⟨by omega, mid_of (by assumption), fun x hx => Classical.byContradiction fun hn => ‹¬ ∃ x ∈ p.f, _› ⟨x, hx, by omega⟩, .inl ⟨by omega, bv_zero.1 h.1, h.2⟩⟩, fun h => by rcases h.2.2.2 with ⟨_, h1, h2⟩ | ⟨h1, _⟩; exact ⟨bv_zero.2 h1, h2⟩; exact (h1 (by omega)).elim⟩), H.none (by repeat' first | exact kNil | apply kCons | apply kApp | assumption | exact OwnS.keys (by assumption))⟩
                              · refine W_skip ?_
                                refine W_seq ?_
                                refine W_region_l ?_
                                refine WL_step rfl (R_fieldAddr (off' := 3) Try.underlying53 rfl Try.sizeOf3 (by decide) rfl rfl) ?_
                                refine WL_step rfl (R_load Try.isAgg3 rfl (H.get .here) rfl) ?_
                                refine WL_step rfl (R_eq rfl rfl) ?_
                                refine WL_stepM rfl (R_as) ?_
                                refine WL_nil ?_
                                refine W_ret ?_
                                exact ⟨_, rfl, congrArg Value.bool (decide_eq_decide.2 ⟨fun h => ⟨by omega, mid_of (by assumption), fun x hx => Classical.byContradiction fun hn => ‹¬ ∃ x ∈ p.f, _› ⟨x, hx, by omega⟩, .inr ⟨by omega, h⟩⟩, fun h => by rcases h.2.2.2 with ⟨h1, _⟩ | ⟨_, h1⟩; exact (‹¬ p.s = 2› h1).elim; exact h1⟩), H.none (by repeat' first | exact kNil | apply kCons | apply kApp | assumption | exact OwnS.keys (by assumption))⟩
end Go.Proofs.Ytcpkhgdjckogjaa.Slot

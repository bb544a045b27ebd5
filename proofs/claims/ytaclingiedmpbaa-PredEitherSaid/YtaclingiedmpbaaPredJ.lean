/-
  Programs that are the same; the document's own programs; two programs behind each other.
-/
import Derived.Test.YtaclingiedmpbaaFxT
import Derived.Test.YtaclingiedmpbaaPredG
namespace Go.Proofs.Ytaclingiedmpbaa.Pred
open Go Go.Proofs Go.Proofs.Ytaclingiedmpbaa.Fx
set_option maxRecDepth 100000
set_option linter.unusedVariables false
set_option linter.unusedSimpArgs false
set_option maxHeartbeats 1000000

def insK : List IntKind := [.i64, .i64, .i64]
def insN (i : In) : List Int := [i.op, i.a, i.b]
theorem insC_K (i : In) : insC i = cellsK insK (insN i) := rfl
theorem insN_inj {i j : In} : insN i = insN j ↔ i = j := by
  obtain ⟨a, b, c⟩ := i
  obtain ⟨x, y, z⟩ := j
  simp [insN]
theorem eq_ins : EqC Try.prog 44 insK true 2 := by
  have hi := EqC.int Try.isAgg3 Try.sizeOf3 Try.underlying3
  refine EqC.struct (d0 := 1) Try.isAgg44 Try.sizeOf44 Try.underlying44 (by kernel_rfl) ?_
  refine FieldsC.cons (k := [.i64]) (ks := [.i64, .i64]) (by decide) rfl hi (Nat.le_refl _) ?_
  refine FieldsC.cons (k := [.i64]) (ks := [.i64]) (by decide) rfl hi (Nat.le_refl _) ?_
  exact FieldsC.cons (k := [.i64]) (ks := []) (by decide) rfl hi (Nat.le_refl _) .nil

theorem take_snoc_eq {α : Type} {xs ys : List α} {i : Nat} (h : xs.take i = ys.take i) (hx : i < xs.length) (hy : i < ys.length) (he : xs[i] = ys[i]) : xs.take (i + 1) = ys.take (i + 1) := by
  rw [List.take_succ_eq_append_getElem hx, List.take_succ_eq_append_getElem hy, h, he]

theorem sameIns_ret {xs ys : List In} {w : World} {a b : Value} (ha : RdR insC w a xs) (hb : RdR insC w b ys) (hl : xs.length ≤ 9223372036854775807) (hl2 : ys.length ≤ 9223372036854775807) :
    Ret Try.prog 29 #[a, b] w fun v w' => v = .bool (decide (xs = ys)) ∧ Hp w [] w' := by
  refine Ret_of_W (args := [_, _]) Try.func29 rfl Try.ntmps29 Try.results29 (by simp) ?_
  obtain ⟨ao, ca, rfl⟩ := ha.form
  obtain ⟨bo, cb, rfl⟩ := hb.form
  have H := Hp.refl w
  refine W_seq ?_
  refine W_region_l ?_
  refine WL_stepM rfl (R_as) ?_
  refine WL_nil ?_
  refine W_seq ?_
  refine W_seq ?_
  refine W_region_l ?_
  refine WL_stepM rfl (R_mv) ?_
  refine WL_step rfl (R_len_slice Try.underlying45 rfl) ?_
  refine WL_stepM rfl (R_mv) ?_
  refine WL_step rfl (R_len_slice Try.underlying45 rfl) ?_
  refine WL_step rfl (R_ne rfl rfl) ?_
  refine WL_nil ?_
  refine W_if rfl (fun h14 => ?_) (fun h14 => ?_)
  · refine W_seq ?_
    refine W_region_l ?_
    refine WL_stepM rfl (R_as) ?_
    refine WL_nil ?_
    refine W_ret ?_
    exact ⟨_, rfl, congrArg Value.bool (decide_eq_false (fun e => by subst e; omega)).symm, H⟩
  · refine W_skip ?_
    refine W_seq ?_
    refine W_seq ?_
    refine W_region_l ?_
    refine WL_stepM rfl (R_as) ?_
    refine WL_nil ?_
    refine W_block ?_
    refine W_loopS [(4, 5), (11, 25)] (fun (i : Nat) E w' => i ≤ xs.length ∧ xs.take i = ys.take i ∧ E 5 = I i ∧ Hp w [] w') (fun i => xs.length - i) 0 ?e0 ?r0
    · exact ⟨by omega, rfl, rfl, H⟩
    · (clear H; rintro i E w1 ⟨hi, ht, h0, H⟩; refine W_kn h0 ?_)
      refine W_seq ?_
      refine W_seq ?_
      refine W_region_l ?_
      refine WL_stepM rfl (R_mv) ?_
      refine WL_stepM rfl (R_mv) ?_
      refine WL_step rfl (R_len_slice Try.underlying45 rfl) ?_
      refine WL_step rfl (R_lt rfl rfl) ?_
      refine WL_nil ?_
      refine W_if rfl (fun h38 => ?_) (fun h38 => ?_)
      · refine W_skip ?_
        refine W_seq ?_
        refine W_block ?_
        refine W_seq ?_
        (obtain ⟨b1, o1, rfl, hc1⟩ := ha.cell insC_len (i := i) (List.getElem?_eq_getElem (by omega)); obtain ⟨b2, o2, rfl, hc2⟩ := hb.cell insC_len (i := i) (List.getElem?_eq_getElem (by omega))) <;> (refine W_drawH (fun _ => false) (by kernel_rfl) H ?_; clear H; intro w43 H)
        refine WA_takeM 0 rfl rfl rfl (by kernel_rfl) (by kernel_rfl) H (fun _ hC => R_mv) ?_
        refine WA_takeM 1 rfl rfl rfl (by kernel_rfl) (by kernel_rfl) H (fun _ hC => R_mv) ?_
        refine WA_take 2 rfl rfl rfl (by kernel_rfl) (by kernel_rfl) H (fun _ hC => R_indexAddr Try.underlying45 Try.sizeOf44 rfl rfl (by omega) (by omega) idx_castn) ?_
        refine WA_take 3 rfl rfl rfl (by kernel_rfl) (by kernel_rfl) H (fun _ hC => R_loadA_cell (vs := insC xs[i]) Try.isAgg44 Try.sizeOf44 rfl (fun j v hj => hC.cellN (hc1 j v hj) (by repeat' first | exact kNil | apply kCons | apply kApp | assumption | exact OwnS.keys (by assumption))) rfl) ?_
        refine WA_takeM 4 rfl rfl rfl (by kernel_rfl) (by kernel_rfl) H (fun _ hC => R_mv) ?_
        refine WA_takeM 5 rfl rfl rfl (by kernel_rfl) (by kernel_rfl) H (fun _ hC => R_mv) ?_
        refine WA_take 6 rfl rfl rfl (by kernel_rfl) (by kernel_rfl) H (fun _ hC => R_indexAddr Try.underlying45 Try.sizeOf44 rfl rfl (by omega) (by omega) idx_castn) ?_
        refine WA_take 7 rfl rfl rfl (by kernel_rfl) (by kernel_rfl) H (fun _ hC => R_loadA_cell (vs := insC ys[i]) Try.isAgg44 Try.sizeOf44 rfl (fun j v hj => hC.cellN (hc2 j v hj) (by repeat' first | exact kNil | apply kCons | apply kApp | assumption | exact OwnS.keys (by assumption))) rfl) ?_
        refine WA_take 8 rfl rfl rfl (by kernel_rfl) (by kernel_rfl) H (fun _ hC => R_ne_C eq_ins (by decide) (by kernel_rfl) rfl rfl (insC_K _) (insC_K _) rfl rfl) ?_
        refine WA_done (by kernel_rfl) ?_
        refine W_if rfl (fun h54 => ?_) (fun h54 => ?_)
        · refine W_seq ?_
          refine W_region_l ?_
          refine WL_stepM rfl (R_as) ?_
          refine WL_nil ?_
          refine W_ret ?_
          exact ⟨_, rfl, congrArg Value.bool (decide_eq_false (fun e => by subst e; exact absurd rfl (by assumption))).symm, H⟩
        · refine W_skip ?_
          refine W_region_l ?_
          refine WL_stepM rfl (R_mv) ?_
          refine WL_step rfl (R_add rfl rfl (w_i64 (by omega))) ?_
          refine WL_stepM rfl (R_as) ?_
          refine WL_nil ?_
          exact ⟨(by repeat' first | refine same_updo rfl ?_ | refine same_mov rfl ?_ | refine same_upd rfl ?_ | refine same_updn ?_ | refine same_know rfl ?_ | exact same_ovr | refine same_in rfl ?_ | exact Same.refl), i + 1, by omega, by omega, take_snoc_eq ht (by omega) (by omega) (insN_inj.1 (Decidable.of_not_not (by assumption))), rfl, H⟩
      · refine W_exit ?_
        refine (if_pos rfl).mpr ?_
        refine W_seq ?_
        refine W_region_l ?_
        refine WL_stepM rfl (R_as) ?_
        refine WL_nil ?_
        refine W_ret ?_
        exact ⟨_, rfl, congrArg Value.bool (decide_eq_true (by rw [List.take_of_length_le (l := xs) (i := i) (by omega), List.take_of_length_le (l := ys) (i := i) (by omega)] at ht; exact ht)).symm, H⟩

theorem rany_ret (a m : Int) (w : World) :
    Ret Try.prog 32 #[I a, I m] w fun v w' => ∃ M, OwnS w.heap.size 44 3 v (anyP a m).length (rows insC (anyP a m)) M ∧ Hp w M w' := by
  refine Ret_of_W (args := [_, _]) Try.func32 rfl Try.ntmps32 Try.results32 (by simp) ?_
  have H := Hp.refl w
  refine W_seq ?_
  refine W_region_l ?_
  refine WL_stepM rfl (R_as) ?_
  refine WL_nil ?_
  refine W_seq ?_
  refine W_seq ?_
  refine W_region_l ?_
  refine WL_stepM rfl (R_mv) ?_
  refine WL_step rfl (R_lt rfl rfl) ?_
  refine WL_stepM rfl (R_mv) ?_
  apply WL_orK 3 7 10 [(8, 10)] H
  case hc => rfl
  case h1 =>
    intro h11
    refine WL_guard_t rfl rfl ?_
    refine WL_stepM rfl (R_mv) ?_
    refine WL_guard_t rfl rfl ?_
    refine WL_step rfl (R_gt rfl rfl) ?_
    refine WL_stepM rfl (R_pk_f rfl) ?_
    refine WL_nil ?_
    exact ⟨(by repeat' first | refine same_updo rfl ?_ | refine same_mov rfl ?_ | refine same_upd rfl ?_ | refine same_updn ?_ | refine same_know rfl ?_ | exact same_ovr | refine same_in rfl ?_ | exact Same.refl), rfl, H⟩
  case h0 =>
    intro h11
    refine WL_guard_f rfl rfl (by decide) ?_
    refine WL_guard_f rfl rfl (by decide) ?_
    refine WL_stepM rfl (R_pk_t rfl) ?_
    refine WL_nil ?_
    exact ⟨(by repeat' first | refine same_updo rfl ?_ | refine same_mov rfl ?_ | refine same_upd rfl ?_ | refine same_updn ?_ | refine same_know rfl ?_ | exact same_ovr | refine same_in rfl ?_ | exact Same.refl), rfl, H⟩
  case h2 =>
    (clear H; intro E11 w11 H)
    refine WL_stepM rfl (R_mv) ?_
    apply WL_orK 3 11 14 [(12, 14)] H
    case hc => rfl
    case h1 =>
      intro h25
      refine WL_guard_t rfl rfl ?_
      refine WL_stepM rfl (R_mv) ?_
      refine WL_guard_t rfl rfl ?_
      refine WL_step rfl (R_lt rfl rfl) ?_
      refine WL_stepM rfl (R_pk_f rfl) ?_
      refine WL_nil ?_
      exact ⟨(by repeat' first | refine same_updo rfl ?_ | refine same_mov rfl ?_ | refine same_upd rfl ?_ | refine same_updn ?_ | refine same_know rfl ?_ | exact same_ovr | refine same_in rfl ?_ | exact Same.refl), rfl, H⟩
    case h0 =>
      intro h25
      refine WL_guard_f rfl rfl (by decide) ?_
      refine WL_guard_f rfl rfl (by decide) ?_
      refine WL_stepM rfl (R_pk_t rfl) ?_
      refine WL_nil ?_
      exact ⟨(by repeat' first | refine same_updo rfl ?_ | refine same_mov rfl ?_ | refine same_upd rfl ?_ | refine same_updn ?_ | refine same_know rfl ?_ | exact same_ovr | refine same_in rfl ?_ | exact Same.refl), rfl, H⟩
    case h2 =>
      (clear H; intro E25 w25 H)
      refine WL_stepM rfl (R_mv) ?_
      apply WL_orK 3 15 18 [(16, 18)] H
      case hc => rfl
      case h1 =>
        intro h39
        refine WL_guard_t rfl rfl ?_
        refine WL_stepM rfl (R_mv) ?_
        refine WL_guard_t rfl rfl ?_
        refine WL_step rfl (R_gt rfl rfl) ?_
        refine WL_stepM rfl (R_pk_f rfl) ?_
        refine WL_nil ?_
        exact ⟨(by repeat' first | refine same_updo rfl ?_ | refine same_mov rfl ?_ | refine same_upd rfl ?_ | refine same_updn ?_ | refine same_know rfl ?_ | exact same_ovr | refine same_in rfl ?_ | exact Same.refl), rfl, H⟩
      case h0 =>
        intro h39
        refine WL_guard_f rfl rfl (by decide) ?_
        refine WL_guard_f rfl rfl (by decide) ?_
        refine WL_stepM rfl (R_pk_t rfl) ?_
        refine WL_nil ?_
        exact ⟨(by repeat' first | refine same_updo rfl ?_ | refine same_mov rfl ?_ | refine same_upd rfl ?_ | refine same_updn ?_ | refine same_know rfl ?_ | exact same_ovr | refine same_in rfl ?_ | exact Same.refl), rfl, H⟩
      case h2 =>
        (clear H; intro E39 w39 H)
        refine WL_nil ?_
        refine W_if rfl (fun h53 => ?_) (fun h53 => ?_)
        · refine W_seq ?_
          refine W_region_l ?_
          refine WL_stepM rfl (R_as) ?_
          refine WL_nil ?_
          refine W_ret ?_
          exact ⟨_, rfl, [], (by unfold anyP; rw [if_neg (by omega)]; exact OwnS.nil _ _ _), H⟩
        · refine W_skip ?_
          refine W_seq ?_
          refine W_region_l ?_
          refine WL_stepM rfl (R_mv) ?_
          refine WL_step rfl (R_build (vs := [(.int _ _), (.int _ _), (.int _ _)]) rfl rfl) ?_
          refine WL_stepM rfl (R_mv) ?_
          refine WL_step rfl (R_build (vs := [(.int _ _), (.int _ _), (.int _ _)]) rfl rfl) ?_
          refine WL_step rfl (R_build (vs := [(.int _ _), (.int _ _), (.int _ _)]) rfl rfl) ?_
          refine WL_step rfl (R_build (vs := [(.int _ _), (.int _ _), (.int _ _)]) rfl rfl) ?_
          refine WL_step rfl (R_build (vs := [(.int _ _), (.int _ _), (.int _ _)]) rfl rfl) ?_
          (refine WL_effn rfl (E_buildRows (vss := [[(.int _ _), (.int _ _), (.int _ _)], [(.int _ _), (.int _ _), (.int _ _)], [(.int _ _), (.int _ _), (.int _ _)], [(.int _ _), (.int _ _), (.int _ _)], [(.int _ _), (.int _ _), (.int _ _)]]) H Try.underlying45 Try.sizeOf44 Try.zeroValue44 rfl rfl (by decide) rfl rfl (by simp)) ?_; clear H; intro b70 w70 hb70 H)
          refine WL_stepM rfl (R_as) ?_
          refine WL_nil ?_
          refine W_ret ?_
          exact ⟨_, rfl, _, (by unfold anyP; rw [if_pos (by omega)]; exact OwnS.new (sp := []) (by assumption) rfl rfl (by decide)), H⟩

theorem rafter_ret (a : Int) (w : World) :
    Ret Try.prog 33 #[I a] w fun v w' => ∃ M, OwnS w.heap.size 44 3 v (afterP a).length (rows insC (afterP a)) M ∧ Hp w M w' := by
  refine Ret_of_W (args := [_]) Try.func33 rfl Try.ntmps33 Try.results33 (by simp) ?_
  have H := Hp.refl w
  refine W_seq ?_
  refine W_region_l ?_
  refine WL_stepM rfl (R_as) ?_
  refine WL_nil ?_
  refine W_seq ?_
  refine W_seq ?_
  refine W_region_l ?_
  refine WL_stepM rfl (R_mv) ?_
  refine WL_step rfl (R_lt rfl rfl) ?_
  refine WL_stepM rfl (R_mv) ?_
  apply WL_orK 3 5 8 [(6, 8)] H
  case hc => rfl
  case h1 =>
    intro h11
    refine WL_guard_t rfl rfl ?_
    refine WL_stepM rfl (R_mv) ?_
    refine WL_guard_t rfl rfl ?_
    refine WL_step rfl (R_gt rfl rfl) ?_
    refine WL_stepM rfl (R_pk_f rfl) ?_
    refine WL_nil ?_
    exact ⟨(by repeat' first | refine same_updo rfl ?_ | refine same_mov rfl ?_ | refine same_upd rfl ?_ | refine same_updn ?_ | refine same_know rfl ?_ | exact same_ovr | refine same_in rfl ?_ | exact Same.refl), rfl, H⟩
  case h0 =>
    intro h11
    refine WL_guard_f rfl rfl (by decide) ?_
    refine WL_guard_f rfl rfl (by decide) ?_
    refine WL_stepM rfl (R_pk_t rfl) ?_
    refine WL_nil ?_
    exact ⟨(by repeat' first | refine same_updo rfl ?_ | refine same_mov rfl ?_ | refine same_upd rfl ?_ | refine same_updn ?_ | refine same_know rfl ?_ | exact same_ovr | refine same_in rfl ?_ | exact Same.refl), rfl, H⟩
  case h2 =>
    (clear H; intro E11 w11 H)
    refine WL_nil ?_
    refine W_if rfl (fun h25 => ?_) (fun h25 => ?_)
    · refine W_seq ?_
      refine W_region_l ?_
      refine WL_stepM rfl (R_as) ?_
      refine WL_nil ?_
      refine W_ret ?_
      exact ⟨_, rfl, [], (by unfold afterP; rw [if_neg (by omega)]; exact OwnS.nil _ _ _), H⟩
    · refine W_skip ?_
      refine W_seq ?_
      refine W_region_l ?_
      refine WL_step rfl (R_build (vs := [(.int _ _), (.int _ _), (.int _ _)]) rfl rfl) ?_
      refine WL_stepM rfl (R_mv) ?_
      refine WL_step rfl (R_build (vs := [(.int _ _), (.int _ _), (.int _ _)]) rfl rfl) ?_
      refine WL_step rfl (R_build (vs := [(.int _ _), (.int _ _), (.int _ _)]) rfl rfl) ?_
      refine WL_step rfl (R_build (vs := [(.int _ _), (.int _ _), (.int _ _)]) rfl rfl) ?_
      (refine WL_effn rfl (E_buildRows (vss := [[(.int _ _), (.int _ _), (.int _ _)], [(.int _ _), (.int _ _), (.int _ _)], [(.int _ _), (.int _ _), (.int _ _)], [(.int _ _), (.int _ _), (.int _ _)]]) H Try.underlying45 Try.sizeOf44 Try.zeroValue44 rfl rfl (by decide) rfl rfl (by simp)) ?_; clear H; intro b40 w40 hb40 H)
      refine WL_stepM rfl (R_as) ?_
      refine WL_nil ?_
      refine W_ret ?_
      exact ⟨_, rfl, _, (by unfold afterP; rw [if_pos (by omega)]; exact OwnS.new (sp := []) (by assumption) rfl rfl (by decide)), H⟩
end Go.Proofs.Ytaclingiedmpbaa.Pred

/-
  What the reference's Names do.
-/
import Derived.Test.YtjkkfahjgaidbaaTableG
import Derived.Test.YtjkkfahjgaidbaaFxZ
namespace Go.Proofs.Ytjkkfahjgaidbaa.TabR
open Go Go.Proofs Go.Proofs.Ytjkkfahjgaidbaa.Fx Go.Proofs.Ytjkkfahjgaidbaa.Tab
set_option maxRecDepth 100000
set_option linter.unusedVariables false
set_option linter.unusedSimpArgs false
set_option maxHeartbeats 2000000

def rc (a : Pl) : List Value := [I a.g, .bool a.u]
theorem rc_len (a : Pl) : (rc a).length = 2 := rfl
def vR (N bL cap : Nat) : Value := if N = 0 then nilS else sl bL 0 N cap
def LR (N bL : Nat) (l : List Pl) (sp : List Value) : List (Nat × Obj) := if N = 0 then [] else [(bL, blk (rows rc l ++ sp) 122)]
theorem LR_keys {N bL B : Nat} {l : List Pl} {sp : List Value} (h : B ≤ bL) : ∀ p ∈ LR N bL l sp, B ≤ p.1 := by
  unfold LR
  split
  · exact kNil
  · exact kCons h kNil
theorem LR_pos {N bL : Nat} {l : List Pl} {sp : List Value} (h : N ≠ 0) : LR N bL l sp = [(bL, blk (rows rc l ++ sp) 122)] := if_neg h
theorem vR_pos {N bL cap : Nat} (h : N ≠ 0) : vR N bL cap = sl bL 0 N cap := if_neg h
theorem vR_one (N bL cap : Nat) : (vR N bL cap).oneCell' = true := by unfold vR; split <;> rfl
theorem rc_get {l : List Pl} {sp : List Value} {i j : Nat} {a : Pl} (h : l[i]? = some a) (hj : j < 2) : (rows rc l ++ sp)[i * 2 + j]? = (rc a)[j]? := by
  have hi := (List.getElem?_eq_some_iff.1 h).1
  rw [List.getElem?_append_left (by rw [rows_length rc_len]; omega), rows_get rc_len h hj]
theorem rc_g {l : List Pl} {sp : List Value} {i : Nat} {a : Pl} (h : l[i]? = some a) : (rows rc l ++ sp)[i * 2 + 0]? = some (I a.g) := rc_get h (by decide)
theorem rc_u {l : List Pl} {sp : List Value} {i : Nat} {a : Pl} (h : l[i]? = some a) : (rows rc l ++ sp)[i * 2 + 1]? = some (.bool a.u) := rc_get h (by decide)

theorem rows_snoc {α : Type} (f : α → List Value) (l : List α) (a : α) : rows f l ++ f a = rows f (l ++ [a]) := by simp [rows]
theorem rnew_ret (n : Int) (w : World) : Ret Try.prog 44 #[I n] w fun v w' => ∃ nb bL cap sp, v = ptr nb 0 ∧ w.heap.size ≤ nb ∧ w.heap.size ≤ bL ∧
    Hp w ((nb, blk [vR (szOf n) bL cap] 120) :: LR (szOf n) bL (List.replicate (szOf n) newPl) sp) w' := by
  refine Ret_of_W (args := [_]) Try.func44 rfl Try.ntmps44 Try.results44 (by simp) ?_
  have H := Hp.refl w
  obtain ⟨m, hm2⟩ : ∃ m : Nat, szOf n = m := ⟨_, rfl⟩
  have hm : min (max n 0) 256 = (m : Int) := by unfold szOf at hm2; omega
  rw [hm2]
  have hO := OwnS.nil w.heap.size 122 2
  refine W_seq ?_
  refine W_region_l ?_
  refine WL_stepM rfl (R_as) ?_
  refine WL_nil ?_
  refine W_seq ?_
  refine W_region_l ?_
  refine WL_step rfl (R_buildL (places := [(0, 1)]) (vs := [(.slice _ _ _)]) Try.underlying120 Try.typeInfo120 rfl rfl (by kernel_rfl) rfl rfl rfl) ?_
  (refine WL_effn rfl (E_box (vs := [nilS]) H rfl rfl) ?_; clear H; intro nb w8 hnb H)
  refine WL_stepM rfl (R_as) ?_
  refine WL_nil ?_
  refine W_seq ?_
  refine W_seq ?_
  refine W_region_l ?_
  refine WL_stepM rfl (R_as) ?_
  refine WL_nil ?_
  refine W_block ?_
  refine W_loop (fun (i : Nat) E w' => ∃ v M, i ≤ m ∧ (i = 0 → v = nilS ∧ M = []) ∧ E 0 = I n ∧ E 3 = ptr nb 0 ∧ E 4 = I i ∧ OwnS w.heap.size 122 2 v i (rows rc (List.replicate i newPl)) M ∧ Hp w (M ++ [(nb, blk [v] 120)]) w') (fun i => m - i) 0 ?_ ?_
  · exact ⟨_, [], by omega, fun _ => ⟨rfl, rfl⟩, rfl, rfl, rfl, hO, H⟩
  · (clear H hO; rintro i E w1 ⟨v, M, hi, hz0, h0, h1, h2, hO, H⟩; obtain ⟨av, cv, rfl⟩ := OwnS.form hO; refine W_know3 h0 h1 h2 ?_)
    refine W_seq ?_
    refine W_seq ?_
    refine W_region_l ?_
    refine WL_stepM rfl (R_mv) ?_
    refine WL_stepM rfl (R_mv) ?_
    refine WL_step rfl (R_lt rfl rfl) ?_
    refine WL_stepM rfl (R_mv) ?_
    apply WL_andK 3 10 13 [(11, 13)] H
    case hc => rfl
    case h1 =>
      intro h27
      refine WL_guard_t rfl rfl ?_
      refine WL_stepM rfl (R_mv) ?_
      refine WL_guard_t rfl rfl ?_
      refine WL_step rfl (R_lt rfl rfl) ?_
      refine WL_stepM rfl (R_pk_t rfl) ?_
      refine WL_nil ?_
      exact ⟨(same_mov rfl (same_updo rfl (same_mov rfl Same.refl))), rfl, H⟩
    case h0 =>
      intro h27
      refine WL_guard_f rfl rfl (by decide) ?_
      refine WL_guard_f rfl rfl (by decide) ?_
      refine WL_stepM rfl (R_pk_f rfl) ?_
      refine WL_nil ?_
      exact ⟨(same_mov rfl (same_updo rfl (same_updo rfl Same.refl))), rfl, H⟩
    case h2 =>
      (clear H; intro E27 w27 H)
      refine WL_nil ?_
      refine W_if rfl (fun h41 => ?_) (fun h41 => ?_)
      · refine W_skip ?_
        refine W_seq ?_
        refine W_block ?_
        refine W_region_l ?_
        refine WL_stepM rfl (R_mv) ?_
        refine WL_stepM rfl (R_mv) ?_
        refine WL_step rfl (R_nilCheck rfl) ?_
        refine WL_step rfl (R_fieldAddr (off' := 0) Try.underlying120 rfl Try.sizeOf118 (by decide) rfl rfl) ?_
        refine WL_step rfl (R_load (v := .slice av i cv) Try.isAgg118 rfl (H.get (.app _ .here)) rfl) ?_
        refine WL_step rfl (R_buildL (places := [(0, 1), (1, 1)]) (vs := [(.int _ _), (.bool _)]) Try.underlying122 Try.typeInfo122 rfl rfl (by kernel_rfl) rfl rfl rfl) ?_
        (refine WL_effn rfl (E_buildRows (vss := [[(.int _ _), (.bool _)]]) H Try.underlying118 Try.sizeOf122 Try.zeroValue122 rfl rfl (by decide) rfl rfl (by simp)) ?_; clear H; intro b52 w52 hb52 H)
        (refine WL_effm rfl (E_append (news := rc newPl) H (.there .here) hO Try.underlying118 Try.typeInfo122 rfl rfl rfl rfl rfl rfl (src_blk (m := 1) (sp := []) Try.underlying118 (by rw [List.append_nil]; exact H.get .here) rfl (by simp [rc, Value.oneCell'])) (by omega) (by simp only [Try.t122]; omega)) ?_; clear H hO; intro vN MN w53 hO H; replace H := H.pop (by assumption); rw [show rows rc (List.replicate i newPl) ++ rc newPl = rows rc (List.replicate (i + 1) newPl) from by rw [List.replicate_succ', rows_snoc]] at hO; obtain ⟨aN, cN, rfl⟩ := OwnS.form hO)
        refine WL_step rfl (R_nilCheck rfl) ?_
        refine WL_step rfl (R_fieldAddr (off' := 0) Try.underlying120 rfl Try.sizeOf118 (by decide) rfl rfl) ?_
        (refine WL_effu rfl (E_store (v := .slice aN (i + 1) cN) H Try.sizeOf118 rfl rfl rfl (.app _ .here) (by simp)) ?_; clear H; intro w56 H)
        refine WL_nil ?_
        refine W_region_l ?_
        refine WL_stepM rfl (R_mv) ?_
        refine WL_step rfl (R_add rfl rfl (w_i64 (by omega))) ?_
        refine WL_stepM rfl (R_as) ?_
        refine WL_nil ?_
        exact ⟨i + 1, by omega, _, _, by omega, fun h => absurd h (by omega), rfl, rfl, rfl, hO, H⟩
      · refine W_exit ?_
        refine (if_pos rfl).mpr ?_
        refine W_seq ?_
        refine W_region_l ?_
        refine WL_stepM rfl (R_mv) ?_
        refine WL_stepM rfl (R_as) ?_
        refine WL_nil ?_
        refine W_ret ?_
        (obtain rfl : i = m := (by omega); rcases Nat.eq_zero_or_pos i with hz | hz; subst hz; obtain ⟨hx1, hx2⟩ := hz0 rfl; exact ⟨_, rfl, nb, w.heap.size, 0, [], rfl, hnb, Nat.le_refl _, by rw [hx1, hx2] at H; exact H⟩; obtain ⟨bL, cL, sp, hv, hbL, hM, hsp, hcap⟩ := OwnS.pos hO (by omega); exact ⟨_, rfl, nb, bL, cL, sp, rfl, hnb, hbL, by rw [hM, hv] at H; rw [LR_pos (by omega), vR_pos (by omega)]; exact H.swap2⟩)
end Go.Proofs.Ytjkkfahjgaidbaa.TabR

/-
  The document's Quota: what it holds, and what only reads it.
-/
import Derived.Test.YtjfcnmbalojehaaQuotaE
namespace Go.Proofs.Ytjfcnmbalojehaa.Quota
open Go Go.Proofs Go.Proofs.Ytjfcnmbalojehaa.Fx
set_option maxRecDepth 100000
set_option linter.unusedVariables false
set_option linter.unusedSimpArgs false
set_option maxHeartbeats 1000000

/-- a frame, as the document tells it -/
def bV (x : Int) : Value := .bool (decide (x = 1))
def rBlks (ins : List (Nat × List Int)) : List (Nat × Obj) := ins.map fun x => (x.1, blk (x.2.map bV) 4)

structure SeesR (w : World) (p : Nat) (uv : Value) (ins : List (Nat × List Int)) : Prop where
  obj : w.heap[p]? = some (blk [uv] 105)
  outer : RdS w uv (qVals ins)
  rows : ∀ x ∈ ins, w.heap[x.1]? = some (blk (x.2.map bV) 4)
  len : ins.length ≤ 4
  small : ∀ x ∈ ins, x.2.length ≤ 64
  bits : ∀ x ∈ ins, ∀ y ∈ x.2, y = 0 ∨ y = 1

theorem SeesR.cell {w : World} {p : Nat} {ao : Option Addr} {m c : Nat} {ins : List (Nat × List Int)} (h : SeesR w p (.slice ao m c) ins) {s : Int} (hs : 0 ≤ s ∧ s < ins.length) :
    ∃ b o, ao = some ⟨b, o, none⟩ ∧ w.cell? ⟨b, o + s.toNat, none⟩ = some (sl (rowD ins s).1 0 (rowD ins s).2.length (rowD ins s).2.length) := by
  obtain ⟨b, o, e, hc⟩ := h.outer.cell (i := s.toNat) (u := sl (rowD ins s).1 0 (rowD ins s).2.length (rowD ins s).2.length) (by unfold qVals; rw [List.getElem?_map, rowD_get hs]; rfl)
  exact ⟨b, o, e, hc⟩
theorem SeesR.row {w : World} {p : Nat} {uv : Value} {ins : List (Nat × List Int)} (h : SeesR w p uv ins) {s : Int} (hs : 0 ≤ s ∧ s < ins.length) {k : Int} (hk : 0 ≤ k ∧ k < (rowD ins s).2.length) :
    w.cell? ⟨(rowD ins s).1, k.toNat, none⟩ = some (.bool (decide ((rowD ins s).2.getD k.toNat 0 = 1))) := by
  rw [cell_blk (h.rows _ (List.mem_of_getElem? (rowD_get hs))), List.getElem?_map, List.getD_eq_getElem?_getD, List.getElem?_eq_getElem (by omega)]; rfl
theorem SeesR.at_ {w w' : World} {p : Nat} {uv : Value} {ins : List (Nat × List Int)} (h : SeesR w p uv ins) (H : Hp w [] w') : SeesR w' p uv ins :=
  ⟨H.blockN h.obj kNil, h.outer.monoN H kNil, fun x hx => H.blockN (h.rows x hx) kNil, h.len, h.small, h.bits⟩
theorem SeesR.form {w : World} {p : Nat} {uv : Value} {ins : List (Nat × List Int)} (h : SeesR w p uv ins) : ∃ ao c, uv = .slice ao ins.length c := by
  obtain ⟨ao, ca, e⟩ := h.outer.form
  rw [show (qVals ins).length = ins.length by simp [qVals]] at e
  exact ⟨ao, ca, e⟩

def ownR (ins : List (Nat × List Int)) (s k : Int) : Prop := (((0 ≤ s ∧ s < ins.length) ∧ 0 ≤ k) ∧ k < (rowD ins s).2.length) ∧ (rowD ins s).2.getD k.toNat 0 = 1
instance (ins : List (Nat × List Int)) (s k : Int) : Decidable (ownR ins s k) := by unfold ownR; infer_instance
theorem own_same {ins : List (Nat × List Int)} {s k : Int} (hb : ∀ x ∈ ins, ∀ y ∈ x.2, y = 0 ∨ y = 1) : ownR ins s k ↔ ownP ins s k := by
  unfold ownR ownP
  refine and_congr_right fun h => ?_
  have h1 : (rowD ins s).2.getD k.toNat 0 = 0 ∨ (rowD ins s).2.getD k.toNat 0 = 1 := by
    rw [List.getD_eq_getElem?_getD, List.getElem?_eq_getElem (by have := h.1.2; have := h.2; omega)]
    exact hb _ (rowD_mem h.1.1) _ (List.getElem_mem _)
  omega

section
variable {w : World} {p : Nat} {uv : Value} {ins : List (Nat × List Int)}
theorem ownsR_ret (s k : Int) (hS : SeesR w p uv ins) :
    Ret Try.prog 55 #[ptr p 0, I s, I k] w fun v w' => v = .bool (decide (ownP ins s k)) ∧ Hp w [] w' := by
  refine Ret_of_W (args := [_, _, _]) Try.func55 rfl Try.ntmps55 Try.results55 (by simp) ?_
  have H := Hp.refl w
  have hl4 := hS.len
  obtain ⟨ao, ca, rfl⟩ := hS.form
  refine W_seq ?_
  refine W_region_l ?_
  refine WL_stepM rfl (R_as) ?_
  refine WL_nil ?_
  refine W_seq ?_
  refine W_region_l ?_
  refine WL_stepM rfl (R_mv) ?_
  refine WL_step rfl (R_ge rfl rfl) ?_
  refine WL_stepM rfl (R_mv) ?_
  apply WL_andK 8 9 17 [(10, 17)] H
  case hc => rfl
  case h1 =>
    intro h10
    refine WL_guard_t rfl rfl ?_
    refine WL_stepM rfl (R_mv) ?_
    refine WL_guard_t rfl rfl ?_
    refine WL_stepM rfl (R_mv) ?_
    refine WL_guard_t rfl rfl ?_
    refine WL_step rfl (R_nilCheck rfl) ?_
    refine WL_guard_t rfl rfl ?_
    refine WL_step rfl (R_fieldAddr (off' := 0) Try.underlying105 rfl Try.sizeOf103 (by decide) rfl rfl) ?_
    refine WL_guard_t rfl rfl ?_
    refine WL_step rfl (R_load Try.isAgg103 rfl (hS.at_ H).obj rfl) ?_
    refine WL_guard_t rfl rfl ?_
    refine WL_step rfl (R_len_slice Try.underlying103 rfl) ?_
    refine WL_guard_t rfl rfl ?_
    refine WL_step rfl (R_lt rfl rfl) ?_
    refine WL_stepM rfl (R_pk_t rfl) ?_
    refine WL_nil ?_
    exact ⟨(by repeat' first | with_reducible exact Same.refl | refine same_updo rfl ?_ | refine same_mov rfl ?_ | refine same_upd rfl ?_ | refine same_updn ?_ | refine same_know rfl ?_ | exact same_ovr | refine same_in rfl ?_ | exact Same.refl), rfl, H⟩
  case h0 =>
    intro h10
    refine WL_guard_f rfl rfl (by decide) ?_
    refine WL_guard_f rfl rfl (by decide) ?_
    refine WL_guard_f rfl rfl (by decide) ?_
    refine WL_guard_f rfl rfl (by decide) ?_
    refine WL_guard_f rfl rfl (by decide) ?_
    refine WL_guard_f rfl rfl (by decide) ?_
    refine WL_guard_f rfl rfl (by decide) ?_
    refine WL_stepM rfl (R_pk_f rfl) ?_
    refine WL_nil ?_
    exact ⟨(by repeat' first | with_reducible exact Same.refl | refine same_updo rfl ?_ | refine same_mov rfl ?_ | refine same_upd rfl ?_ | refine same_updn ?_ | refine same_know rfl ?_ | exact same_ovr | refine same_in rfl ?_ | exact Same.refl), rfl, H⟩
  case h2 =>
    (clear H; intro E10 w10 H)
    refine WL_stepM rfl (R_mv) ?_
    apply WL_andK 3 18 21 [(19, 21)] H
    case hc => rfl
    case h1 =>
      intro h39
      refine WL_guard_t rfl rfl ?_
      refine WL_stepM rfl (R_mv) ?_
      refine WL_guard_t rfl rfl ?_
      refine WL_step rfl (R_ge rfl rfl) ?_
      refine WL_stepM rfl (R_pk_t rfl) ?_
      refine WL_nil ?_
      exact ⟨(by repeat' first | with_reducible exact Same.refl | refine same_updo rfl ?_ | refine same_mov rfl ?_ | refine same_upd rfl ?_ | refine same_updn ?_ | refine same_know rfl ?_ | exact same_ovr | refine same_in rfl ?_ | exact Same.refl), rfl, H⟩
    case h0 =>
      intro h39
      refine WL_guard_f rfl rfl (by decide) ?_
      refine WL_guard_f rfl rfl (by decide) ?_
      refine WL_stepM rfl (R_pk_f rfl) ?_
      refine WL_nil ?_
      exact ⟨(by repeat' first | with_reducible exact Same.refl | refine same_updo rfl ?_ | refine same_mov rfl ?_ | refine same_upd rfl ?_ | refine same_updn ?_ | refine same_know rfl ?_ | exact same_ovr | refine same_in rfl ?_ | exact Same.refl), rfl, H⟩
    case h2 =>
      (clear H; intro E39 w39 H)
      refine WL_stepM rfl (R_mv) ?_
      apply WL_andK 11 22 33 [(23, 33)] H
      case hc => rfl
      case h1 =>
        intro h53
        refine WL_guard_t rfl rfl ?_
        refine WL_stepM rfl (R_mv) ?_
        refine WL_guard_t rfl rfl ?_
        refine WL_stepM rfl (R_mv) ?_
        refine WL_guard_t rfl rfl ?_
        refine WL_step rfl (R_nilCheck rfl) ?_
        refine WL_guard_t rfl rfl ?_
        refine WL_step rfl (R_fieldAddr (off' := 0) Try.underlying105 rfl Try.sizeOf103 (by decide) rfl rfl) ?_
        refine WL_guard_t rfl rfl ?_
        refine WL_step rfl (R_load Try.isAgg103 rfl (hS.at_ H).obj rfl) ?_
        refine WL_guard_t rfl rfl ?_
        refine WL_stepM rfl (R_mv) ?_
        refine WL_guard_t rfl rfl ?_
        (have hs : 0 ≤ s ∧ s < ins.length := (by omega); obtain ⟨b1, o1, rfl, hc1⟩ := (hS.at_ H).cell hs; refine WL_step rfl (R_indexAddr (off' := o1 + s.toNat) Try.underlying103 Try.sizeOf69 rfl rfl (by omega) (by omega) (by simp)) ?_)
        refine WL_guard_t rfl rfl ?_
        refine WL_step rfl (R_load_cell Try.isAgg69 rfl hc1) ?_
        refine WL_guard_t rfl rfl ?_
        refine WL_step rfl (R_len_slice Try.underlying69 rfl) ?_
        refine WL_guard_t rfl rfl ?_
        refine WL_step rfl (R_lt rfl rfl) ?_
        refine WL_stepM rfl (R_pk_t rfl) ?_
        refine WL_nil ?_
        exact ⟨(by repeat' first | with_reducible exact Same.refl | refine same_updo rfl ?_ | refine same_mov rfl ?_ | refine same_upd rfl ?_ | refine same_updn ?_ | refine same_know rfl ?_ | exact same_ovr | refine same_in rfl ?_ | exact Same.refl), rfl, H⟩
      case h0 =>
        intro h53
        refine WL_guard_f rfl rfl (by decide) ?_
        refine WL_guard_f rfl rfl (by decide) ?_
        refine WL_guard_f rfl rfl (by decide) ?_
        refine WL_guard_f rfl rfl (by decide) ?_
        refine WL_guard_f rfl rfl (by decide) ?_
        refine WL_guard_f rfl rfl (by decide) ?_
        refine WL_guard_f rfl rfl (by decide) ?_
        refine WL_guard_f rfl rfl (by decide) ?_
        refine WL_guard_f rfl rfl (by decide) ?_
        refine WL_guard_f rfl rfl (by decide) ?_
        refine WL_stepM rfl (R_pk_f rfl) ?_
        refine WL_nil ?_
        exact ⟨(by repeat' first | with_reducible exact Same.refl | refine same_updo rfl ?_ | refine same_mov rfl ?_ | refine same_upd rfl ?_ | refine same_updn ?_ | refine same_know rfl ?_ | exact same_ovr | refine same_in rfl ?_ | exact Same.refl), rfl, H⟩
      case h2 =>
        (clear H; intro E53 w53 H)
        refine WL_stepM rfl (R_mv) ?_
        apply WL_andK 11 34 45 [(35, 45)] H
        case hc => rfl
        case h1 =>
          intro h91
          refine WL_guard_t rfl rfl ?_
          refine WL_stepM rfl (R_mv) ?_
          refine WL_guard_t rfl rfl ?_
          refine WL_step rfl (R_nilCheck rfl) ?_
          refine WL_guard_t rfl rfl ?_
          refine WL_step rfl (R_fieldAddr (off' := 0) Try.underlying105 rfl Try.sizeOf103 (by decide) rfl rfl) ?_
          refine WL_guard_t rfl rfl ?_
          refine WL_step rfl (R_load Try.isAgg103 rfl (hS.at_ H).obj rfl) ?_
          refine WL_guard_t rfl rfl ?_
          refine WL_stepM rfl (R_mv) ?_
          refine WL_guard_t rfl rfl ?_
          (have hs : 0 ≤ s ∧ s < ins.length := (by omega); obtain ⟨b1, o1, rfl, hc1⟩ := (hS.at_ H).cell hs; refine WL_step rfl (R_indexAddr (off' := o1 + s.toNat) Try.underlying103 Try.sizeOf69 rfl rfl (by omega) (by omega) (by simp)) ?_)
          refine WL_guard_t rfl rfl ?_
          refine WL_step rfl (R_load_cell Try.isAgg69 rfl hc1) ?_
          refine WL_guard_t rfl rfl ?_
          refine WL_stepM rfl (R_mv) ?_
          refine WL_guard_t rfl rfl ?_
          refine WL_step rfl (R_indexAddr (off' := k.toNat) Try.underlying69 Try.sizeOf4 rfl rfl (by omega) (by omega) (by simp)) ?_
          refine WL_guard_t rfl rfl ?_
          refine WL_step rfl (R_load_cell Try.isAgg4 rfl ((hS.at_ H).row hs ⟨by omega, by omega⟩)) ?_
          refine WL_stepM rfl (R_pk_t rfl) ?_
          refine WL_nil ?_
          exact ⟨(by repeat' first | with_reducible exact Same.refl | refine same_updo rfl ?_ | refine same_mov rfl ?_ | refine same_upd rfl ?_ | refine same_updn ?_ | refine same_know rfl ?_ | exact same_ovr | refine same_in rfl ?_ | exact Same.refl), rfl, H⟩
        case h0 =>
          intro h91
          refine WL_guard_f rfl rfl (by decide) ?_
          refine WL_guard_f rfl rfl (by decide) ?_
          refine WL_guard_f rfl rfl (by decide) ?_
          refine WL_guard_f rfl rfl (by decide) ?_
          refine WL_guard_f rfl rfl (by decide) ?_
          refine WL_guard_f rfl rfl (by decide) ?_
          refine WL_guard_f rfl rfl (by decide) ?_
          refine WL_guard_f rfl rfl (by decide) ?_
          refine WL_guard_f rfl rfl (by decide) ?_
          refine WL_guard_f rfl rfl (by decide) ?_
          refine WL_stepM rfl (R_pk_f rfl) ?_
          refine WL_nil ?_
          exact ⟨(by repeat' first | with_reducible exact Same.refl | refine same_updo rfl ?_ | refine same_mov rfl ?_ | refine same_upd rfl ?_ | refine same_updn ?_ | refine same_know rfl ?_ | exact same_ovr | refine same_in rfl ?_ | exact Same.refl), rfl, H⟩
        case h2 =>
          (clear H; intro E91 w91 H)
          refine WL_stepM rfl (R_as) ?_
          refine WL_nil ?_
          refine W_ret ?_
          exact ⟨_, rfl, congrArg Value.bool (decide_eq_decide.2 (own_same hS.bits)), H⟩

theorem firstR_ret (s : Int) (hS : SeesR w p uv ins) (hs : 0 ≤ s ∧ s < ins.length) :
    Ret Try.prog 56 #[ptr p 0, I s] w fun v w' => v = I (firstQ ins s) ∧ Hp w [] w' := by
  refine Ret_of_W (args := [_, _]) Try.func56 rfl Try.ntmps56 Try.results56 (by simp) ?_
  have H := Hp.refl w
  have hl4 := hS.len
  obtain ⟨ao, ca, rfl⟩ := hS.form
  obtain ⟨b1, o1, rfl, hc1⟩ := hS.cell hs
  obtain ⟨m, hm, hm2⟩ : ∃ m : Nat, s = m ∧ m < ins.length := ⟨s.toNat, by omega, by omega⟩
  subst hm
  refine W_seq ?_
  refine W_region_l ?_
  refine WL_stepM rfl (R_as) ?_
  refine WL_nil ?_
  refine W_seq ?_
  refine W_region_l ?_
  refine WL_stepM rfl (R_as) ?_
  refine WL_nil ?_
  refine W_seq ?_
  refine W_seq ?_
  refine W_region_l ?_
  refine WL_stepM rfl (R_as) ?_
  refine WL_nil ?_
  refine W_block ?_
  refine W_loopS [(5, 21)] (fun (i : Nat) E w' => i ≤ m ∧ E 5 = I (lens ins i) ∧ E 6 = I i ∧ Hp w [] w') (fun i => m - i) 0 ?e0 ?r0
  · exact ⟨by omega, rfl, rfl, H⟩
  · (clear H; rintro i E w1 ⟨hi, h0, h1, H⟩; refine W_kn2 h0 h1 ?_; have hll := lens_le hS.small i (by omega))
    refine W_seq ?_
    refine W_seq ?_
    refine W_region_l ?_
    refine WL_stepM rfl (R_mv) ?_
    refine WL_stepM rfl (R_mv) ?_
    refine WL_step rfl (R_lt rfl rfl) ?_
    refine WL_nil ?_
    refine W_if rfl (fun h24 => ?_) (fun h24 => ?_)
    · refine W_skip ?_
      refine W_seq ?_
      refine W_block ?_
      refine W_region_l ?_
      refine WL_stepM rfl (R_mv) ?_
      refine WL_stepM rfl (R_mv) ?_
      refine WL_step rfl (R_nilCheck rfl) ?_
      refine WL_step rfl (R_fieldAddr (off' := 0) Try.underlying105 rfl Try.sizeOf103 (by decide) rfl rfl) ?_
      refine WL_step rfl (R_load Try.isAgg103 rfl (hS.at_ H).obj rfl) ?_
      refine WL_stepM rfl (R_mv) ?_
      (obtain ⟨b2, o2, e2, hc2⟩ := (hS.at_ H).cell (s := (i : Int)) ⟨by omega, by omega⟩; cases e2; have h64 := hS.small _ (rowD_mem (ins := ins) (s := (i : Int)) ⟨by omega, by omega⟩); rw [Int.toNat_natCast] at hc2; refine WL_step rfl (R_indexAddr (off' := o1 + i) Try.underlying103 Try.sizeOf69 rfl rfl (by omega) (by omega) (by simp)) ?_)
      refine WL_step rfl (R_load_cell Try.isAgg69 rfl hc2) ?_
      refine WL_step rfl (R_len_slice Try.underlying69 rfl) ?_
      refine WL_step rfl (R_add rfl rfl (w_i64 (by omega))) ?_
      refine WL_stepM rfl (R_as) ?_
      refine WL_nil ?_
      refine W_region_l ?_
      refine WL_stepM rfl (R_mv) ?_
      refine WL_step rfl (R_add rfl rfl (w_i64 (by omega))) ?_
      refine WL_stepM rfl (R_as) ?_
      refine WL_nil ?_
      exact ⟨(by repeat' first | with_reducible exact Same.refl | refine same_updo rfl ?_ | refine same_mov rfl ?_ | refine same_upd rfl ?_ | refine same_updn ?_ | refine same_know rfl ?_ | exact same_ovr | refine same_in rfl ?_ | exact Same.refl), i + 1, by omega, by omega, congrArg I (by rw [lens_next (by omega)]; push_cast; rfl), rfl, H⟩
    · refine W_exit ?_
      refine (if_pos rfl).mpr ?_
      refine W_seq ?_
      refine W_region_l ?_
      refine WL_stepM rfl (R_mv) ?_
      refine WL_stepM rfl (R_as) ?_
      refine WL_nil ?_
      refine W_ret ?_
      (obtain rfl : i = m := (by omega); exact ⟨_, rfl, rfl, H⟩)

theorem usedR_ret (s : Int) (hS : SeesR w p uv ins) :
    Ret Try.prog 59 #[ptr p 0, I s] w fun v w' => v = I (usedQ ins s) ∧ Hp w [] w' := by
  refine Ret_of_W (args := [_, _]) Try.func59 rfl Try.ntmps59 Try.results59 (by simp) ?_
  have H := Hp.refl w
  have hl4 := hS.len
  obtain ⟨ao, ca, rfl⟩ := hS.form
  by_cases hs : 0 ≤ s ∧ s < ins.length
  · obtain ⟨b1, o1, rfl, hc1⟩ := hS.cell hs
    have h64 := hS.small _ (rowD_mem hs)
    have hbits := hS.bits _ (rowD_mem hs)
    refine W_seq ?_
    refine W_region_l ?_
    refine WL_stepM rfl (R_as) ?_
    refine WL_nil ?_
    refine W_seq ?_
    refine W_region_l ?_
    refine WL_stepM rfl (R_as) ?_
    refine WL_nil ?_
    refine W_seq ?_
    refine W_seq ?_
    refine W_region_l ?_
    refine WL_stepM rfl (R_as) ?_
    refine WL_nil ?_
    refine W_block ?_
    refine W_loopS [(5, 43)] (fun (i : Nat) E w' => i ≤ (rowD ins s).2.length ∧ E 5 = I ((rowD ins s).2.take i).sum ∧ E 6 = I i ∧ Hp w [] w') (fun i => (rowD ins s).2.length - i) 0 ?e0 ?r0
    · exact ⟨by omega, rfl, rfl, H⟩
    · (clear H; rintro i E w1 ⟨hi, h0, h1, H⟩; refine W_kn2 h0 h1 ?_; have hsum := sum_take hbits i hi)
      refine W_seq ?_
      refine W_seq ?_
      refine W_region_l ?_
      refine WL_stepM rfl (R_mv) ?_
      refine WL_step rfl (R_ge_t rfl rfl (by omega)) ?_
      refine WL_stepM rfl (R_mv) ?_
      refine WL_guard_t rfl rfl ?_
      refine WL_stepM rfl (R_mv) ?_
      refine WL_guard_t rfl rfl ?_
      refine WL_stepM rfl (R_mv) ?_
      refine WL_guard_t rfl rfl ?_
      refine WL_step rfl (R_nilCheck rfl) ?_
      refine WL_guard_t rfl rfl ?_
      refine WL_step rfl (R_fieldAddr (off' := 0) Try.underlying105 rfl Try.sizeOf103 (by decide) rfl rfl) ?_
      refine WL_guard_t rfl rfl ?_
      refine WL_step rfl (R_load Try.isAgg103 rfl (hS.at_ H).obj rfl) ?_
      refine WL_guard_t rfl rfl ?_
      refine WL_step rfl (R_len_slice Try.underlying103 rfl) ?_
      refine WL_guard_t rfl rfl ?_
      refine WL_step rfl (R_lt_t rfl rfl (by omega)) ?_
      refine WL_stepM rfl (R_pk_t rfl) ?_
      refine WL_stepM rfl (R_mv) ?_
      refine WL_guard_t rfl rfl ?_
      refine WL_stepM rfl (R_mv) ?_
      refine WL_guard_t rfl rfl ?_
      refine WL_stepM rfl (R_mv) ?_
      refine WL_guard_t rfl rfl ?_
      refine WL_step rfl (R_nilCheck rfl) ?_
      refine WL_guard_t rfl rfl ?_
      refine WL_step rfl (R_fieldAddr (off' := 0) Try.underlying105 rfl Try.sizeOf103 (by decide) rfl rfl) ?_
      refine WL_guard_t rfl rfl ?_
      refine WL_step rfl (R_load Try.isAgg103 rfl (hS.at_ H).obj rfl) ?_
      refine WL_guard_t rfl rfl ?_
      refine WL_stepM rfl (R_mv) ?_
      refine WL_guard_t rfl rfl ?_
      refine WL_step rfl (R_indexAddr (off' := o1 + s.toNat) Try.underlying103 Try.sizeOf69 rfl rfl (by omega) (by omega) (by simp)) ?_
      refine WL_guard_t rfl rfl ?_
      refine WL_step rfl (R_load_cell Try.isAgg69 rfl (H.cellN hc1 kNil)) ?_
      refine WL_guard_t rfl rfl ?_
      refine WL_step rfl (R_len_slice Try.underlying69 rfl) ?_
      refine WL_guard_t rfl rfl ?_
      refine WL_step rfl (R_lt rfl rfl) ?_
      refine WL_stepM rfl (R_pk_t rfl) ?_
      refine WL_nil ?_
      refine W_if rfl (fun h61 => ?_) (fun h61 => ?_)
      · refine W_skip ?_
        refine W_seq ?_
        refine W_block ?_
        refine W_seq ?_
        ((have hbi : (rowD ins s).2.getD i 0 = 0 ∨ (rowD ins s).2.getD i 0 = 1 := by rw [List.getD_eq_getElem?_getD, List.getElem?_eq_getElem (by omega)]; exact hbits _ (List.getElem_mem _))) <;> refine W_region_l ?_
        refine WL_stepM rfl (R_mv) ?_
        refine WL_step rfl (R_nilCheck rfl) ?_
        refine WL_step rfl (R_fieldAddr (off' := 0) Try.underlying105 rfl Try.sizeOf103 (by decide) rfl rfl) ?_
        refine WL_step rfl (R_load Try.isAgg103 rfl (hS.at_ H).obj rfl) ?_
        refine WL_stepM rfl (R_mv) ?_
        refine WL_step rfl (R_indexAddr (off' := o1 + s.toNat) Try.underlying103 Try.sizeOf69 rfl rfl (by omega) (by omega) (by simp)) ?_
        refine WL_step rfl (R_load_cell Try.isAgg69 rfl (H.cellN hc1 kNil)) ?_
        refine WL_stepM rfl (R_mv) ?_
        refine WL_step rfl (R_indexAddr Try.underlying69 Try.sizeOf4 rfl rfl (by omega) (by omega) idx0_cast) ?_
        refine WL_step rfl (R_load_cell Try.isAgg4 rfl (by have := (hS.at_ H).row hs (k := (i : Int)) ⟨by omega, by omega⟩; rwa [Int.toNat_natCast] at this)) ?_
        refine WL_nil ?_
        refine W_if rfl (fun h78 => ?_) (fun h78 => ?_)
        · refine W_region_l ?_
          refine WL_stepM rfl (R_mv) ?_
          refine WL_step rfl (R_add rfl rfl (w_i64 (by omega))) ?_
          refine WL_stepM rfl (R_as) ?_
          refine WL_nil ?_
          refine W_region_l ?_
          refine WL_stepM rfl (R_mv) ?_
          refine WL_step rfl (R_add rfl rfl (w_i64 (by omega))) ?_
          refine WL_stepM rfl (R_as) ?_
          refine WL_nil ?_
          exact ⟨(by repeat' first | with_reducible exact Same.refl | refine same_updo rfl ?_ | refine same_mov rfl ?_ | refine same_upd rfl ?_ | refine same_updn ?_ | refine same_know rfl ?_ | exact same_ovr | refine same_in rfl ?_ | exact Same.refl), i + 1, by omega, by omega, congrArg I (by rw [sum_next (by omega)]; omega), rfl, H⟩
        · refine W_skip ?_
          refine W_region_l ?_
          refine WL_stepM rfl (R_mv) ?_
          refine WL_step rfl (R_add rfl rfl (w_i64 (by omega))) ?_
          refine WL_stepM rfl (R_as) ?_
          refine WL_nil ?_
          exact ⟨(by repeat' first | with_reducible exact Same.refl | refine same_updo rfl ?_ | refine same_mov rfl ?_ | refine same_upd rfl ?_ | refine same_updn ?_ | refine same_know rfl ?_ | exact same_ovr | refine same_in rfl ?_ | exact Same.refl), i + 1, by omega, by omega, congrArg I (by rw [sum_next (by omega)]; omega), rfl, H⟩
      · refine W_exit ?_
        refine (if_pos rfl).mpr ?_
        refine W_seq ?_
        refine W_region_l ?_
        refine WL_stepM rfl (R_mv) ?_
        refine WL_stepM rfl (R_as) ?_
        refine WL_nil ?_
        refine W_ret ?_
        (obtain rfl : i = (rowD ins s).2.length := (by omega); exact ⟨_, rfl, used_eq hs, H⟩)
  · refine W_seq ?_
    refine W_region_l ?_
    refine WL_stepM rfl (R_as) ?_
    refine WL_nil ?_
    refine W_seq ?_
    refine W_region_l ?_
    refine WL_stepM rfl (R_as) ?_
    refine WL_nil ?_
    refine W_seq ?_
    refine W_seq ?_
    refine W_region_l ?_
    refine WL_stepM rfl (R_as) ?_
    refine WL_nil ?_
    refine W_block ?_
    refine W_loopS [(5, 43)] (fun (i : Nat) E w' => i = 0 ∧ E 5 = I 0 ∧ E 6 = I 0 ∧ Hp w [] w') (fun i => 0) 0 ?e1 ?r1
    · exact ⟨rfl, rfl, rfl, H⟩
    · (clear H; rintro i E w1 ⟨hi, h0, h1, H⟩; refine W_kn2 h0 h1 ?_)
      refine W_seq ?_
      refine W_seq ?_
      refine W_region_l ?_
      refine WL_stepM rfl (R_mv) ?_
      refine WL_step rfl (R_ge rfl rfl) ?_
      refine WL_stepM rfl (R_mv) ?_
      apply WL_andK 8 9 17 [(10, 17)] H
      case hc => rfl
      case h1 =>
        intro h23
        refine WL_guard_t rfl rfl ?_
        refine WL_stepM rfl (R_mv) ?_
        refine WL_guard_t rfl rfl ?_
        refine WL_stepM rfl (R_mv) ?_
        refine WL_guard_t rfl rfl ?_
        refine WL_step rfl (R_nilCheck rfl) ?_
        refine WL_guard_t rfl rfl ?_
        refine WL_step rfl (R_fieldAddr (off' := 0) Try.underlying105 rfl Try.sizeOf103 (by decide) rfl rfl) ?_
        refine WL_guard_t rfl rfl ?_
        refine WL_step rfl (R_load Try.isAgg103 rfl (hS.at_ H).obj rfl) ?_
        refine WL_guard_t rfl rfl ?_
        refine WL_step rfl (R_len_slice Try.underlying103 rfl) ?_
        refine WL_guard_t rfl rfl ?_
        refine WL_step rfl (R_lt rfl rfl) ?_
        refine WL_stepM rfl (R_pk_t rfl) ?_
        refine WL_nil ?_
        exact ⟨(by repeat' first | with_reducible exact Same.refl | refine same_updo rfl ?_ | refine same_mov rfl ?_ | refine same_upd rfl ?_ | refine same_updn ?_ | refine same_know rfl ?_ | exact same_ovr | refine same_in rfl ?_ | exact Same.refl), rfl, H⟩
      case h0 =>
        intro h23
        refine WL_guard_f rfl rfl (by decide) ?_
        refine WL_guard_f rfl rfl (by decide) ?_
        refine WL_guard_f rfl rfl (by decide) ?_
        refine WL_guard_f rfl rfl (by decide) ?_
        refine WL_guard_f rfl rfl (by decide) ?_
        refine WL_guard_f rfl rfl (by decide) ?_
        refine WL_guard_f rfl rfl (by decide) ?_
        refine WL_stepM rfl (R_pk_f rfl) ?_
        refine WL_nil ?_
        exact ⟨(by repeat' first | with_reducible exact Same.refl | refine same_updo rfl ?_ | refine same_mov rfl ?_ | refine same_upd rfl ?_ | refine same_updn ?_ | refine same_know rfl ?_ | exact same_ovr | refine same_in rfl ?_ | exact Same.refl), rfl, H⟩
      case h2 =>
        (clear H; intro E23 w23 H)
        refine WL_stepM rfl (R_mv) ?_
        refine WL_if 18 rfl (fun h52 => ?_) (fun h52 => ?_)
        · refine WL_guard_t rfl rfl ?_
          refine WL_stepM rfl (R_mv) ?_
          refine WL_guard_t rfl rfl ?_
          refine WL_stepM rfl (R_mv) ?_
          refine WL_guard_t rfl rfl ?_
          refine WL_step rfl (R_nilCheck rfl) ?_
          refine WL_guard_t rfl rfl ?_
          refine WL_step rfl (R_fieldAddr (off' := 0) Try.underlying105 rfl Try.sizeOf103 (by decide) rfl rfl) ?_
          refine WL_guard_t rfl rfl ?_
          exact (by omega : False).elim
        · refine WL_guard_f rfl rfl (by decide) ?_
          refine WL_guard_f rfl rfl (by decide) ?_
          refine WL_guard_f rfl rfl (by decide) ?_
          refine WL_guard_f rfl rfl (by decide) ?_
          refine WL_guard_f rfl rfl (by decide) ?_
          refine WL_guard_f rfl rfl (by decide) ?_
          refine WL_guard_f rfl rfl (by decide) ?_
          refine WL_guard_f rfl rfl (by decide) ?_
          refine WL_guard_f rfl rfl (by decide) ?_
          refine WL_guard_f rfl rfl (by decide) ?_
          refine WL_stepM rfl (R_pk_f rfl) ?_
          refine WL_nil ?_
          refine W_cond_f rfl ?_
          refine W_exit ?_
          refine (if_pos rfl).mpr ?_
          refine W_seq ?_
          refine W_region_l ?_
          refine WL_stepM rfl (R_mv) ?_
          refine WL_stepM rfl (R_as) ?_
          refine WL_nil ?_
          refine W_ret ?_
          exact ⟨_, rfl, (congrArg I (if_neg hs)).symm, H⟩
end
end Go.Proofs.Ytjfcnmbalojehaa.Quota

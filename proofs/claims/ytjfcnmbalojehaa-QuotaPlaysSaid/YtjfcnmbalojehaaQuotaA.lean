/-
  What a Quota holds in memory; the calls that only read.
-/
import Derived.Test.YtjfcnmbalojehaaFxU
import Derived.Test.YtjfcnmbalojehaaProg
namespace Go.Proofs.Ytjfcnmbalojehaa.Quota
open Go Go.Proofs Go.Proofs.Ytjfcnmbalojehaa.Fx
set_option maxRecDepth 100000
set_option linter.unusedVariables false
set_option linter.unusedSimpArgs false
set_option maxHeartbeats 1000000

/-- the sessions' rows, each in its block -/
def qVals (ins : List (Nat × List Int)) : List Value := ins.map fun x => sl x.1 0 x.2.length x.2.length
def qBlks (ins : List (Nat × List Int)) : List (Nat × Obj) := ins.map fun x => (x.1, blk (x.2.map I) 3)
def rowD (ins : List (Nat × List Int)) (s : Int) : Nat × List Int := ins.getD s.toNat (0, [])

theorem rowD_get {ins : List (Nat × List Int)} {s : Int} (h : 0 ≤ s ∧ s < ins.length) : ins[s.toNat]? = some (rowD ins s) := by
  unfold rowD
  rw [List.getD_eq_getElem?_getD, List.getElem?_eq_getElem (by omega)]; rfl

/-- what is to be seen of a Quota -/
structure Sees (w : World) (p : Nat) (uv : Value) (ins : List (Nat × List Int)) : Prop where
  obj : w.heap[p]? = some (blk [uv] 101)
  outer : RdS w uv (qVals ins)
  rows : ∀ x ∈ ins, w.heap[x.1]? = some (blk (x.2.map I) 3)
  len : ins.length ≤ 4
  small : ∀ x ∈ ins, x.2.length ≤ 64
  bits : ∀ x ∈ ins, ∀ y ∈ x.2, y = 0 ∨ y = 1

theorem Sees.cell {w : World} {p : Nat} {ao : Option Addr} {m c : Nat} {ins : List (Nat × List Int)} (h : Sees w p (.slice ao m c) ins) {s : Int} (hs : 0 ≤ s ∧ s < ins.length) :
    ∃ b o, ao = some ⟨b, o, none⟩ ∧ w.cell? ⟨b, o + s.toNat, none⟩ = some (sl (rowD ins s).1 0 (rowD ins s).2.length (rowD ins s).2.length) := by
  obtain ⟨b, o, e, hc⟩ := h.outer.cell (i := s.toNat) (u := sl (rowD ins s).1 0 (rowD ins s).2.length (rowD ins s).2.length) (by unfold qVals; rw [List.getElem?_map, rowD_get hs]; rfl)
  exact ⟨b, o, e, hc⟩
theorem Sees.row {w : World} {p : Nat} {uv : Value} {ins : List (Nat × List Int)} (h : Sees w p uv ins) {s : Int} (hs : 0 ≤ s ∧ s < ins.length) {k : Int} (hk : 0 ≤ k ∧ k < (rowD ins s).2.length) :
    w.cell? ⟨(rowD ins s).1, k.toNat, none⟩ = some (I ((rowD ins s).2.getD k.toNat 0)) := by
  rw [cell_blk (h.rows _ (List.mem_of_getElem? (rowD_get hs))), List.getElem?_map, List.getD_eq_getElem?_getD, List.getElem?_eq_getElem (by omega)]; rfl

theorem Sees.at_ {w w' : World} {p : Nat} {uv : Value} {ins : List (Nat × List Int)} (h : Sees w p uv ins) (H : Hp w [] w') : Sees w' p uv ins :=
  ⟨H.blockN h.obj kNil, h.outer.monoN H kNil, fun x hx => H.blockN (h.rows x hx) kNil, h.len, h.small, h.bits⟩
theorem Sees.form {w : World} {p : Nat} {uv : Value} {ins : List (Nat × List Int)} (h : Sees w p uv ins) : ∃ ao c, uv = .slice ao ins.length c := by
  obtain ⟨ao, ca, e⟩ := h.outer.form
  rw [show (qVals ins).length = ins.length by simp [qVals]] at e
  exact ⟨ao, ca, e⟩
theorem rowD_mem {ins : List (Nat × List Int)} {s : Int} (h : 0 ≤ s ∧ s < ins.length) : rowD ins s ∈ ins := List.mem_of_getElem? (rowD_get h)

section
variable {w : World} {p : Nat} {uv : Value} {ins : List (Nat × List Int)}

theorem is_ret (s : Int) (hS : Sees w p uv ins) :
    Ret Try.prog 63 #[ptr p 0, I s] w fun v w' => v = .bool (decide (0 ≤ s ∧ s < ins.length)) ∧ Hp w [] w' := by
  refine Ret_of_W (args := [_, _]) Try.func63 rfl Try.ntmps63 Try.results63 (by simp) ?_
  have hl4 := hS.len
  obtain ⟨ao, ca, rfl⟩ := hS.form
  have H := Hp.focus0 hS.obj
  refine W_seq ?_
  refine W_region_l ?_
  refine WL_stepM rfl (R_as) ?_
  refine WL_nil ?_
  refine W_seq ?_
  refine W_region_l ?_
  refine WL_stepM rfl (R_mv) ?_
  refine WL_step rfl (R_ge rfl rfl) ?_
  refine WL_stepM rfl (R_mv) ?_
  apply WL_andK 8 7 15 [(8, 15)] H
  case hc => rfl
  case h1 =>
    intro h10
    refine WL_guard_t rfl rfl ?_
    refine WL_stepM rfl (R_mv) ?_
    refine WL_guard_t rfl rfl ?_
    refine WL_stepM rfl (R_mv) ?_
    refine WL_guard_t rfl rfl ?_
    refine WL_step rfl (R_nilCheck rfl) ?_
    refine WL_guard_t rfl rfl ?_
    refine WL_step rfl (R_fieldAddr (off' := 0) Try.underlying101 rfl Try.sizeOf99 (by decide) rfl rfl) ?_
    refine WL_guard_t rfl rfl ?_
    refine WL_step rfl (R_load Try.isAgg99 rfl (H.get .here) rfl) ?_
    refine WL_guard_t rfl rfl ?_
    refine WL_step rfl (R_len_slice Try.underlying99 rfl) ?_
    refine WL_guard_t rfl rfl ?_
    refine WL_step rfl (R_lt rfl rfl) ?_
    refine WL_stepM rfl (R_pk_t rfl) ?_
    refine WL_nil ?_
    exact ⟨(by repeat' first | with_reducible exact Same.refl | refine same_updo rfl ?_ | refine same_mov rfl ?_ | refine same_upd rfl ?_ | refine same_updn ?_ | refine same_know rfl ?_ | exact same_ovr | refine same_in rfl ?_ | exact Same.refl), rfl, H⟩
  case h0 =>
    intro h10
    refine WL_guard_f rfl rfl (by decide) ?_
    refine WL_guard_f rfl rfl (by decide) ?_
    refine WL_guard_f rfl rfl (by decide) ?_
    refine WL_guard_f rfl rfl (by decide) ?_
    refine WL_guard_f rfl rfl (by decide) ?_
    refine WL_guard_f rfl rfl (by decide) ?_
    refine WL_guard_f rfl rfl (by decide) ?_
    refine WL_stepM rfl (R_pk_f rfl) ?_
    refine WL_nil ?_
    exact ⟨(by repeat' first | with_reducible exact Same.refl | refine same_updo rfl ?_ | refine same_mov rfl ?_ | refine same_upd rfl ?_ | refine same_updn ?_ | refine same_know rfl ?_ | exact same_ovr | refine same_in rfl ?_ | exact Same.refl), rfl, H⟩
  case h2 =>
    (clear H; intro E10 w10 H)
    refine WL_stepM rfl (R_as) ?_
    refine WL_nil ?_
    refine W_ret ?_
    exact ⟨_, rfl, rfl, H.back hS.obj⟩

/-- whose frame it is -/
def ownP (ins : List (Nat × List Int)) (s k : Int) : Prop := (((0 ≤ s ∧ s < ins.length) ∧ 0 ≤ k) ∧ k < (rowD ins s).2.length) ∧ 0 < (rowD ins s).2.getD k.toNat 0
instance (ins : List (Nat × List Int)) (s k : Int) : Decidable (ownP ins s k) := by unfold ownP; infer_instance

theorem owns_ret (s k : Int) (hS : Sees w p uv ins) :
    Ret Try.prog 57 #[ptr p 0, I s, I k] w fun v w' => v = .bool (decide (ownP ins s k)) ∧ Hp w [] w' := by
  refine Ret_of_W (args := [_, _, _]) Try.func57 rfl Try.ntmps57 Try.results57 (by simp) ?_
  have H := Hp.refl w
  have hl4 := hS.len
  obtain ⟨ao, ca, rfl⟩ := hS.form
  refine W_seq ?_
  refine W_region_l ?_
  refine WL_stepM rfl (R_as) ?_
  refine WL_nil ?_
  refine W_seq ?_
  refine W_region_l ?_
  refine WL_stepM rfl (R_mv) ?_
  refine WL_stepM rfl (R_mv) ?_
  (refine WL_call rfl (R_call rfl Try.call63 rfl) (is_ret s (hS.at_ H)) ?_; rintro _ w9 ⟨rfl, H1⟩; replace H := H.seq0 H1; clear H1)
  refine WL_stepM rfl (R_mv) ?_
  apply WL_andK 3 10 13 [(11, 13)] H
  case hc => rfl
  case h1 =>
    intro h11
    refine WL_guard_t rfl rfl ?_
    refine WL_stepM rfl (R_mv) ?_
    refine WL_guard_t rfl rfl ?_
    refine WL_step rfl (R_ge rfl rfl) ?_
    refine WL_stepM rfl (R_pk_t rfl) ?_
    refine WL_nil ?_
    exact ⟨(by repeat' first | with_reducible exact Same.refl | refine same_updo rfl ?_ | refine same_mov rfl ?_ | refine same_upd rfl ?_ | refine same_updn ?_ | refine same_know rfl ?_ | exact same_ovr | refine same_in rfl ?_ | exact Same.refl), rfl, H⟩
  case h0 =>
    intro h11
    refine WL_guard_f rfl rfl (by decide) ?_
    refine WL_guard_f rfl rfl (by decide) ?_
    refine WL_stepM rfl (R_pk_f rfl) ?_
    refine WL_nil ?_
    exact ⟨(by repeat' first | with_reducible exact Same.refl | refine same_updo rfl ?_ | refine same_mov rfl ?_ | refine same_upd rfl ?_ | refine same_updn ?_ | refine same_know rfl ?_ | exact same_ovr | refine same_in rfl ?_ | exact Same.refl), rfl, H⟩
  case h2 =>
    (clear H; intro E11 w11 H)
    refine WL_stepM rfl (R_mv) ?_
    apply WL_andK 11 14 25 [(15, 25)] H
    case hc => rfl
    case h1 =>
      intro h25
      refine WL_guard_t rfl rfl ?_
      refine WL_stepM rfl (R_mv) ?_
      refine WL_guard_t rfl rfl ?_
      refine WL_stepM rfl (R_mv) ?_
      refine WL_guard_t rfl rfl ?_
      refine WL_step rfl (R_nilCheck rfl) ?_
      refine WL_guard_t rfl rfl ?_
      refine WL_step rfl (R_fieldAddr (off' := 0) Try.underlying101 rfl Try.sizeOf99 (by decide) rfl rfl) ?_
      refine WL_guard_t rfl rfl ?_
      refine WL_step rfl (R_load Try.isAgg99 rfl (hS.at_ H).obj rfl) ?_
      refine WL_guard_t rfl rfl ?_
      refine WL_stepM rfl (R_mv) ?_
      refine WL_guard_t rfl rfl ?_
      (have hs : 0 ≤ s ∧ s < ins.length := (by omega); obtain ⟨b1, o1, rfl, hc1⟩ := (hS.at_ H).cell hs; refine WL_step rfl (R_indexAddr (off' := o1 + s.toNat) Try.underlying99 Try.sizeOf22 rfl rfl (by omega) (by omega) (by simp)) ?_)
      refine WL_guard_t rfl rfl ?_
      refine WL_step rfl (R_load_cell Try.isAgg22 rfl hc1) ?_
      refine WL_guard_t rfl rfl ?_
      refine WL_step rfl (R_len_slice Try.underlying22 rfl) ?_
      refine WL_guard_t rfl rfl ?_
      refine WL_step rfl (R_lt rfl rfl) ?_
      refine WL_stepM rfl (R_pk_t rfl) ?_
      refine WL_nil ?_
      exact ⟨(by repeat' first | with_reducible exact Same.refl | refine same_updo rfl ?_ | refine same_mov rfl ?_ | refine same_upd rfl ?_ | refine same_updn ?_ | refine same_know rfl ?_ | exact same_ovr | refine same_in rfl ?_ | exact Same.refl), rfl, H⟩
    case h0 =>
      intro h25
      refine WL_guard_f rfl rfl (by decide) ?_
      refine WL_guard_f rfl rfl (by decide) ?_
      refine WL_guard_f rfl rfl (by decide) ?_
      refine WL_guard_f rfl rfl (by decide) ?_
      refine WL_guard_f rfl rfl (by decide) ?_
      refine WL_guard_f rfl rfl (by decide) ?_
      refine WL_guard_f rfl rfl (by decide) ?_
      refine WL_guard_f rfl rfl (by decide) ?_
      refine WL_guard_f rfl rfl (by decide) ?_
      refine WL_guard_f rfl rfl (by decide) ?_
      refine WL_stepM rfl (R_pk_f rfl) ?_
      refine WL_nil ?_
      exact ⟨(by repeat' first | with_reducible exact Same.refl | refine same_updo rfl ?_ | refine same_mov rfl ?_ | refine same_upd rfl ?_ | refine same_updn ?_ | refine same_know rfl ?_ | exact same_ovr | refine same_in rfl ?_ | exact Same.refl), rfl, H⟩
    case h2 =>
      (clear H; intro E25 w25 H)
      refine WL_stepM rfl (R_mv) ?_
      apply WL_andK 12 26 38 [(27, 38)] H
      case hc => rfl
      case h1 =>
        intro h63
        refine WL_guard_t rfl rfl ?_
        refine WL_stepM rfl (R_mv) ?_
        refine WL_guard_t rfl rfl ?_
        refine WL_step rfl (R_nilCheck rfl) ?_
        refine WL_guard_t rfl rfl ?_
        refine WL_step rfl (R_fieldAddr (off' := 0) Try.underlying101 rfl Try.sizeOf99 (by decide) rfl rfl) ?_
        refine WL_guard_t rfl rfl ?_
        refine WL_step rfl (R_load Try.isAgg99 rfl (hS.at_ H).obj rfl) ?_
        refine WL_guard_t rfl rfl ?_
        refine WL_stepM rfl (R_mv) ?_
        refine WL_guard_t rfl rfl ?_
        (have hs : 0 ≤ s ∧ s < ins.length := (by omega); obtain ⟨b1, o1, rfl, hc1⟩ := (hS.at_ H).cell hs; refine WL_step rfl (R_indexAddr (off' := o1 + s.toNat) Try.underlying99 Try.sizeOf22 rfl rfl (by omega) (by omega) (by simp)) ?_)
        refine WL_guard_t rfl rfl ?_
        refine WL_step rfl (R_load_cell Try.isAgg22 rfl hc1) ?_
        refine WL_guard_t rfl rfl ?_
        refine WL_stepM rfl (R_mv) ?_
        refine WL_guard_t rfl rfl ?_
        refine WL_step rfl (R_indexAddr (off' := k.toNat) Try.underlying22 Try.sizeOf3 rfl rfl (by omega) (by omega) (by simp)) ?_
        refine WL_guard_t rfl rfl ?_
        refine WL_step rfl (R_load_cell Try.isAgg3 rfl ((hS.at_ H).row hs ⟨by omega, by omega⟩)) ?_
        refine WL_guard_t rfl rfl ?_
        refine WL_step rfl (R_gt rfl rfl) ?_
        refine WL_stepM rfl (R_pk_t rfl) ?_
        refine WL_nil ?_
        exact ⟨(by repeat' first | with_reducible exact Same.refl | refine same_updo rfl ?_ | refine same_mov rfl ?_ | refine same_upd rfl ?_ | refine same_updn ?_ | refine same_know rfl ?_ | exact same_ovr | refine same_in rfl ?_ | exact Same.refl), rfl, H⟩
      case h0 =>
        intro h63
        refine WL_guard_f rfl rfl (by decide) ?_
        refine WL_guard_f rfl rfl (by decide) ?_
        refine WL_guard_f rfl rfl (by decide) ?_
        refine WL_guard_f rfl rfl (by decide) ?_
        refine WL_guard_f rfl rfl (by decide) ?_
        refine WL_guard_f rfl rfl (by decide) ?_
        refine WL_guard_f rfl rfl (by decide) ?_
        refine WL_guard_f rfl rfl (by decide) ?_
        refine WL_guard_f rfl rfl (by decide) ?_
        refine WL_guard_f rfl rfl (by decide) ?_
        refine WL_guard_f rfl rfl (by decide) ?_
        refine WL_stepM rfl (R_pk_f rfl) ?_
        refine WL_nil ?_
        exact ⟨(by repeat' first | with_reducible exact Same.refl | refine same_updo rfl ?_ | refine same_mov rfl ?_ | refine same_upd rfl ?_ | refine same_updn ?_ | refine same_know rfl ?_ | exact same_ovr | refine same_in rfl ?_ | exact Same.refl), rfl, H⟩
      case h2 =>
        (clear H; intro E63 w63 H)
        refine WL_stepM rfl (R_as) ?_
        refine WL_nil ?_
        refine W_ret ?_
        exact ⟨_, rfl, rfl, H⟩
end
end Go.Proofs.Ytjfcnmbalojehaa.Quota

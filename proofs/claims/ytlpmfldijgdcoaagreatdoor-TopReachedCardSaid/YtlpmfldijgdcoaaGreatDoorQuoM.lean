/-
  What a Quota holds in memory; the calls that only read.
-/
import Derived.Test.YtlpmfldijgdcoaaGreatDoorFxU
import Derived.Test.YtlpmfldijgdcoaaGreatDoorProg
import Derived.Test.YtlpmfldijgdcoaaGreatDoorFxW
namespace Go.Proofs.YtlpmfldijgdcoaaGreatDoor.Quota
open Go Go.Proofs Go.Proofs.YtlpmfldijgdcoaaGreatDoor.Fx
set_option maxRecDepth 100000
set_option linter.unusedVariables false
set_option linter.unusedSimpArgs false
set_option maxHeartbeats 1000000

/-- the sessions' rows, each in its block -/
def qVals (ins : List (Nat × List Int)) : List Value := ins.map fun x => sl x.1 0 x.2.length x.2.length
def qBlks (ins : List (Nat × List Int)) : List (Nat × Obj) := ins.map fun x => (x.1, blk (x.2.map I) 3)
def rowD (ins : List (Nat × List Int)) (s : Int) : Nat × List Int := ins.getD s.toNat (0, [])

theorem rowD_get {ins : List (Nat × List Int)} {s : Int} (h : 0 ≤ s ∧ s < ins.length) : ins[s.toNat]? = some (rowD ins s) := by
  unfold rowD
  rw [List.getD_eq_getElem?_getD, List.getElem?_eq_getElem (by omega)]; rfl

/-- what is to be seen of a Quota -/
structure Sees (w : World) (p : Nat) (uv : Value) (ins : List (Nat × List Int)) : Prop where
  obj : w.heap[p]? = some (blk [uv] 168)
  outer : RdS w uv (qVals ins)
  rows : ∀ x ∈ ins, w.heap[x.1]? = some (blk (x.2.map I) 3)
  len : ins.length ≤ 4
  small : ∀ x ∈ ins, x.2.length ≤ 64
  bits : ∀ x ∈ ins, ∀ y ∈ x.2, y = 0 ∨ y = 1

theorem Sees.cell {w : World} {p : Nat} {ao : Option Addr} {m c : Nat} {ins : List (Nat × List Int)} (h : Sees w p (.slice ao m c) ins) {s : Int} (hs : 0 ≤ s ∧ s < ins.length) :
    ∃ b o, ao = some ⟨b, o, none⟩ ∧ w.cell? ⟨b, o + s.toNat, none⟩ = some (sl (rowD ins s).1 0 (rowD ins s).2.length (rowD ins s).2.length) := by
  obtain ⟨b, o, e, hc⟩ := h.outer.cell (i := s.toNat) (u := sl (rowD ins s).1 0 (rowD ins s).2.length (rowD ins s).2.length) (by unfold qVals; rw [List.getElem?_map, rowD_get hs]; rfl)
  exact ⟨b, o, e, hc⟩
theorem Sees.row {w : World} {p : Nat} {uv : Value} {ins : List (Nat × List Int)} (h : Sees w p uv ins) {s : Int} (hs : 0 ≤ s ∧ s < ins.length) {k : Int} (hk : 0 ≤ k ∧ k < (rowD ins s).2.length) :
    w.cell? ⟨(rowD ins s).1, k.toNat, none⟩ = some (I ((rowD ins s).2.getD k.toNat 0)) := by
  rw [cell_blk (h.rows _ (List.mem_of_getElem? (rowD_get hs))), List.getElem?_map, List.getD_eq_getElem?_getD, List.getElem?_eq_getElem (by omega)]; rfl

theorem Sees.at_ {w w' : World} {p : Nat} {uv : Value} {ins : List (Nat × List Int)} (h : Sees w p uv ins) (H : Hp w [] w') : Sees w' p uv ins :=
  ⟨H.blockN h.obj kNil, h.outer.monoN H kNil, fun x hx => H.blockN (h.rows x hx) kNil, h.len, h.small, h.bits⟩
theorem Sees.form {w : World} {p : Nat} {uv : Value} {ins : List (Nat × List Int)} (h : Sees w p uv ins) : ∃ ao c, uv = .slice ao ins.length c := by
  obtain ⟨ao, ca, e⟩ := h.outer.form
  rw [show (qVals ins).length = ins.length by simp [qVals]] at e
  exact ⟨ao, ca, e⟩
theorem rowD_mem {ins : List (Nat × List Int)} {s : Int} (h : 0 ≤ s ∧ s < ins.length) : rowD ins s ∈ ins := List.mem_of_getElem? (rowD_get h)

section
variable {w : World} {p : Nat} {uv : Value} {ins : List (Nat × List Int)}

theorem is_ret (s : Int) (hS : Sees w p uv ins) :
    Ret Tryz.prog 155 #[ptr p 0, I s] w fun v w' => v = .bool (decide (0 ≤ s ∧ s < ins.length)) ∧ Hp w [] w' := by
  refine Ret_of_W (args := [_, _]) Tryz.func155 rfl Tryz.ntmps155 Tryz.results155 (by simp) ?_
  have hl4 := hS.len
  obtain ⟨ao, ca, rfl⟩ := hS.form
  have H := Hp.focus0 hS.obj
  refine W_seq ?_
  refine W_region_l ?_
  refine WL_stepM rfl (R_as) ?_
  refine WL_nil ?_
  refine W_seq ?_
  refine W_region_l ?_
  refine WL_stepM rfl (R_mv) ?_
  refine WL_step rfl (R_ge rfl rfl) ?_
  refine WL_stepM rfl (R_mv) ?_
  apply WL_andK 8 7 15 [(8, 15)] H
  case hc => rfl
  case h1 =>
    intro h10
    refine WL_guard_t rfl rfl ?_
    refine WL_stepM rfl (R_mv) ?_
    refine WL_guard_t rfl rfl ?_
    refine WL_stepM rfl (R_mv) ?_
    refine WL_guard_t rfl rfl ?_
    refine WL_step rfl (R_nilCheck rfl) ?_
    refine WL_guard_t rfl rfl ?_
    refine WL_step rfl (R_fieldAddr (off' := 0) Tryz.underlying168 rfl Tryz.sizeOf74 (by decide) rfl rfl) ?_
    refine WL_guard_t rfl rfl ?_
    refine WL_step rfl (R_load Tryz.isAgg74 rfl (H.get .here) rfl) ?_
    refine WL_guard_t rfl rfl ?_
    refine WL_step rfl (R_len_slice Tryz.underlying74 rfl) ?_
    refine WL_guard_t rfl rfl ?_
    refine WL_step rfl (R_lt rfl rfl) ?_
    refine WL_stepM rfl (R_pk_t rfl) ?_
    refine WL_nil ?_
    exact ⟨(same_mov rfl (same_updo rfl (same_updo rfl (same_updo rfl (same_updo rfl (same_updo rfl (same_mov rfl (same_mov rfl Same.refl)))))))), rfl, H⟩
  case h0 =>
    intro h10
    refine WL_guard_f rfl rfl (by decide) ?_
    refine WL_guard_f rfl rfl (by decide) ?_
    refine WL_guard_f rfl rfl (by decide) ?_
    refine WL_guard_f rfl rfl (by decide) ?_
    refine WL_guard_f rfl rfl (by decide) ?_
    refine WL_guard_f rfl rfl (by decide) ?_
    refine WL_guard_f rfl rfl (by decide) ?_
    refine WL_stepM rfl (R_pk_f rfl) ?_
    refine WL_nil ?_
    exact ⟨(same_mov rfl (same_updo rfl (same_updo rfl (same_updo rfl (same_updo rfl (same_updo rfl (same_updo rfl (same_updo rfl Same.refl)))))))), rfl, H⟩
  case h2 =>
    (clear H; intro E10 w10 H)
    refine WL_stepM rfl (R_as) ?_
    refine WL_nil ?_
    refine W_ret ?_
    exact ⟨_, rfl, rfl, H.back hS.obj⟩

/-- whose frame it is -/
def ownP (ins : List (Nat × List Int)) (s k : Int) : Prop := (((0 ≤ s ∧ s < ins.length) ∧ 0 ≤ k) ∧ k < (rowD ins s).2.length) ∧ 0 < (rowD ins s).2.getD k.toNat 0
instance (ins : List (Nat × List Int)) (s k : Int) : Decidable (ownP ins s k) := by unfold ownP; infer_instance

end
end Go.Proofs.YtlpmfldijgdcoaaGreatDoor.Quota

/-
  Frames taken and given back.
-/
namespace Go.Proofs.YtlpmfldijgdcoaaGreatDoor.Quota
open Go Go.Proofs Go.Proofs.YtlpmfldijgdcoaaGreatDoor.Fx
set_option maxRecDepth 100000
set_option linter.unusedVariables false
set_option linter.unusedSimpArgs false
set_option maxHeartbeats 1000000

/-- where a number stands in a row; below 0: nowhere -/
def idx (xs : List Int) (x : Int) : Int := match xs with
  | [] => -1
  | y :: ys => if x = y then 0 else if idx ys x < 0 then -1 else idx ys x + 1

theorem idx_ge (xs : List Int) (x : Int) : -1 ≤ idx xs x := by
  induction xs with
  | nil => simp [idx]
  | cons y ys ih => unfold idx; split <;> (try split) <;> omega
theorem idx_mem {xs : List Int} {x : Int} : 0 ≤ idx xs x ↔ x ∈ xs := by
  induction xs with
  | nil => simp [idx]
  | cons y ys ih =>
    unfold idx
    rw [List.mem_cons, ← ih]
    split
    · simp_all
    · split <;> omega
/-- the first of the numbers behind place k, if none ahead of it is it -/
theorem idx_drop {xs : List Int} {x : Int} {k : Nat} (hk : k < xs.length) (h : ∀ j (hj : j < k), xs[j]'(by omega) ≠ x) (hx : x = xs[k]) : idx xs x = k := by
  induction xs generalizing k with
  | nil => simp at hk
  | cons y ys ih =>
    unfold idx
    cases k with
    | zero => rw [if_pos (by simpa using hx)]; rfl
    | succ k =>
      have h0 := h 0 (by omega)
      rw [if_neg (fun e => h0 e.symm)]
      simp only [List.length_cons] at hk
      have := ih (k := k) (by omega) (fun j hj => by have := h (j + 1) (by omega); simpa using this) (by simpa using hx)
      rw [this]
      rw [if_neg (by omega)]
      omega
theorem idx_none {xs : List Int} {x : Int} (h : ∀ j (hj : j < xs.length), xs[j] ≠ x) : idx xs x = -1 := by
  have h1 := idx_ge xs x
  have h2 : ¬ 0 ≤ idx xs x := fun h3 => by
    obtain ⟨j, hj, he⟩ := List.getElem_of_mem (idx_mem.1 h3)
    exact h j hj he
  omega

theorem index_ret {xs : List Int} {w : World} {v : Value} (x : Int) (hv : RdS w v (xs.map I)) (hb : xs.length ≤ 9223372036854775807) :
    Ret Tryz.prog 79 #[v, I x] w fun r w' => r = I (idx xs x) ∧ Hp w [] w' := by
  refine Ret_of_W (args := [_, _]) Tryz.func79 rfl Tryz.ntmps79 Tryz.results79 (by simp) ?_
  obtain ⟨ao, ca, rfl⟩ := hv.form
  simp only [List.length_map] at hv ⊢
  have H := Hp.refl w
  refine W_seq ?_
  refine W_region_l ?_
  refine WL_stepM rfl (R_as) ?_
  refine WL_nil ?_
  refine W_seq ?_
  refine W_seq ?_
  refine W_region_l ?_
  refine WL_stepM rfl (R_mv) ?_
  refine WL_step rfl (R_len_slice Tryz.underlying22 rfl) ?_
  refine WL_stepM rfl (R_mv) ?_
  refine WL_nil ?_
  refine W_block ?_
  refine W_loopS [(4, 5), (8, 18)] (fun (k : Nat) E w' => k ≤ xs.length ∧ E 8 = I k ∧ (∀ j (hj : j < k) (hl : j < xs.length), xs[j] ≠ x) ∧ Hp w [] w') (fun k => xs.length - k) 0 ?e0 ?r0
  · exact ⟨by omega, rfl, fun j hj => by omega, H⟩
  · (clear H; rintro k E w1 ⟨hk, h0, hn, H⟩; refine W_kn h0 ?_)
    refine W_seq ?_
    refine W_region_l ?_
    refine WL_step rfl (R_lt rfl rfl) ?_
    refine WL_nil ?_
    refine W_seq ?_
    refine W_if rfl (fun h20 => ?_) (fun h20 => ?_)
    · refine W_skip ?_
      refine W_seq ?_
      refine W_block ?_
      refine W_seq ?_
      refine W_region_l ?_
      refine WL_stepM rfl (R_mv) ?_
      refine WL_stepM rfl (R_as) ?_
      refine WL_nil ?_
      refine W_seq ?_
      (obtain ⟨b1, o1, rfl, hc1⟩ := hv.cell (i := k) (u := I xs[k]) (by rw [List.getElem?_map, List.getElem?_eq_getElem (by omega)]; rfl)) <;> refine W_region_l ?_
      refine WL_stepM rfl (R_mv) ?_
      refine WL_stepM rfl (R_mv) ?_
      refine WL_stepM rfl (R_mv) ?_
      refine WL_step rfl (R_indexAddr Tryz.underlying22 Tryz.sizeOf3 rfl rfl (by omega) (by omega) idx_cast1) ?_
      refine WL_step rfl (R_load_cell Tryz.isAgg3 rfl (H.cellN hc1 kYs)) ?_
      refine WL_step rfl (R_eq rfl rfl) ?_
      refine WL_nil ?_
      refine W_if rfl (fun h38 => ?_) (fun h38 => ?_)
      · refine W_seq ?_
        refine W_region_l ?_
        refine WL_stepM rfl (R_mv) ?_
        refine WL_stepM rfl (R_as) ?_
        refine WL_nil ?_
        refine W_ret ?_
        exact ⟨_, rfl, congrArg I (idx_drop (by omega) (fun j hj => hn j hj (by omega)) (by assumption)).symm, H⟩
      · refine W_skip ?_
        refine W_region_l ?_
        refine WL_step rfl (R_add rfl rfl (w_i64 (by omega))) ?_
        refine WL_stepM rfl (R_mv) ?_
        refine WL_nil ?_
        exact ⟨(same_mov rfl (same_updo rfl (same_know rfl (same_updo rfl (same_updo rfl (same_updo rfl (same_mov rfl (same_mov rfl (same_mov rfl (same_mov rfl (same_mov rfl (same_know rfl (same_updo rfl same_ovr))))))))))))), k + 1, by omega, by omega, rfl, (fun j hj hl => by rcases Nat.lt_or_ge j k with h' | h'; exact hn j h' hl; obtain rfl : j = k := (by omega); exact fun e => absurd e.symm (by assumption)), H⟩
    · refine W_exit ?_
      refine (if_pos rfl).mpr ?_
      refine W_seq ?_
      refine W_region_l ?_
      refine WL_stepM rfl (R_as) ?_
      refine WL_nil ?_
      refine W_ret ?_
      exact ⟨_, rfl, congrArg I (idx_none (fun j hj => hn j (by omega) hj)).symm, H⟩


/-- a frame of a session turned -/
def setQ (ins : List (Nat × List Int)) (s k v : Int) : List (Nat × List Int) := ins.set s.toNat ((rowD ins s).1, (rowD ins s).2.set k.toNat v)

section
variable {w0 w : World} {p : Nat} {uv : Value} {ins : List (Nat × List Int)} {Mo R : List (Nat × Obj)}

/-- a Quota that one holds -/
structure Has (w0 w : World) (p : Nat) (uv : Value) (ins : List (Nat × List Int)) (Mo R : List (Nat × Obj)) : Prop where
  hO : OwnQ w0.heap.size 22 uv (qVals ins) Mo
  H : Hp w0 (qBlks ins ++ (Mo ++ ((p, blk [uv] 168) :: R))) w
  len : ins.length ≤ 4
  small : ∀ x ∈ ins, x.2.length ≤ 64
  bits : ∀ x ∈ ins, ∀ y ∈ x.2, y = 0 ∨ y = 1

theorem Has.sees (h : Has w0 w p uv ins Mo R) : Sees w p uv ins :=
  ⟨h.H.held (p, blk [uv] 168) (by simp), h.hO.rds fun q hq => h.H.held q (by simp [hq]), fun x hx => h.H.held (x.1, blk (x.2.map I) 3) (List.mem_append.2 (.inl (List.mem_map.2 ⟨x, hx, rfl⟩))), h.len, h.small, h.bits⟩
theorem Has.set {w' : World} (h : Has w0 w p uv ins Mo R) {s k v : Int} (hs : 0 ≤ s ∧ s < ins.length) (hk : 0 ≤ k) (hv : v = 0 ∨ v = 1) {A C : List (Nat × List Int)} (hA : ∀ x, ins.set s.toNat x = A ++ x :: C) (he : ins = A ++ rowD ins s :: C)
    (H' : Hp w0 (qBlks A ++ (((rowD ins s).1, blk (((rowD ins s).2.map I).set k.toNat (I v)) 3) :: (qBlks C ++ (Mo ++ ((p, blk [uv] 168) :: R))))) w') : Has w0 w' p uv (setQ ins s k v) Mo R := by
  have hq : setQ ins s k v = A ++ ((rowD ins s).1, (rowD ins s).2.set k.toNat v) :: C := hA _
  have hv2 : qVals (setQ ins s k v) = qVals ins := by
    rw [hq]
    conv => rhs; rw [he]
    simp [qVals]
  have hin : ∀ x ∈ setQ ins s k v, x ∈ ins ∨ x = ((rowD ins s).1, (rowD ins s).2.set k.toNat v) := by
    intro x hx
    unfold setQ at hx
    rcases List.mem_or_eq_of_mem_set hx with h1 | h1
    · exact .inl h1
    · exact .inr h1
  refine ⟨by rw [hv2]; exact h.hO, ?_, ?_, ?_, ?_⟩
  · rw [hq]
    rw [List.map_set.symm] at H'
    simpa [qBlks, List.append_assoc] using H'
  · unfold setQ; rw [List.length_set]; exact h.len
  · intro x hx
    rcases hin x hx with h1 | rfl
    · exact h.small x h1
    · show ((rowD ins s).2.set k.toNat v).length ≤ 64
      rw [List.length_set]; exact h.small _ (rowD_mem hs)
  · intro x hx y hy
    rcases hin x hx with h1 | rfl
    · exact h.bits x h1 y hy
    · rcases List.mem_or_eq_of_mem_set hy with h2 | h2
      · exact h.bits _ (rowD_mem hs) y h2
      · rw [h2]; exact hv

/-- the least free frame is taken -/
def allocQ (ins : List (Nat × List Int)) (s : Int) : List (Nat × List Int) × Int × Int :=
  if 0 ≤ s ∧ s < ins.length then (if (0 : Int) ∈ (rowD ins s).2 then (setQ ins s (idx (rowD ins s).2 0) 1, idx (rowD ins s).2 0, 0) else (ins, 0, 4)) else (ins, 0, 1)
end
end Go.Proofs.YtlpmfldijgdcoaaGreatDoor.Quota

/-
  Frames given back, numbered, counted.
-/
namespace Go.Proofs.YtlpmfldijgdcoaaGreatDoor.Quota
open Go Go.Proofs Go.Proofs.YtlpmfldijgdcoaaGreatDoor.Fx
set_option maxRecDepth 100000
set_option linter.unusedVariables false
set_option linter.unusedSimpArgs false
set_option maxHeartbeats 1000000

/-- a frame is given back -/
def freeQ (ins : List (Nat × List Int)) (s k : Int) : List (Nat × List Int) × Int :=
  if 0 ≤ s ∧ s < ins.length then (if ownP ins s k then (setQ ins s k 0, 0) else (ins, 5)) else (ins, 1)
def usedQ (ins : List (Nat × List Int)) (s : Int) : Int := if 0 ≤ s ∧ s < ins.length then (rowD ins s).2.sum else 0
def firstQ (ins : List (Nat × List Int)) (s : Int) : Nat := ((ins.take s.toNat).map fun x => x.2.length).sum

def lens (ins : List (Nat × List Int)) (i : Nat) : Nat := ((ins.take i).map fun x => x.2.length).sum
theorem lens_next {ins : List (Nat × List Int)} {i : Nat} (hi : i < ins.length) : lens ins (i + 1) = lens ins i + (rowD ins i).2.length := by
  have hr := rowD_get (ins := ins) (s := (i : Int)) ⟨by omega, by omega⟩
  rw [Int.toNat_natCast, List.getElem?_eq_getElem hi] at hr
  unfold lens
  rw [List.take_succ_eq_append_getElem hi, List.map_append, List.sum_append, Option.some.inj hr]
  simp
theorem lens_le {ins : List (Nat × List Int)} (h : ∀ x ∈ ins, x.2.length ≤ 64) (i : Nat) (hi : i ≤ ins.length) : lens ins i ≤ 64 * i := by
  induction i with
  | zero => simp [lens]
  | succ i ih =>
    have h1 := ih (by omega)
    have h2 := h _ (rowD_mem (ins := ins) (s := (i : Int)) ⟨by omega, by omega⟩)
    rw [lens_next (by omega)]; omega
section
variable {w0 w : World} {p : Nat} {uv : Value} {ins : List (Nat × List Int)} {Mo R : List (Nat × Obj)}

end
end Go.Proofs.YtlpmfldijgdcoaaGreatDoor.Quota

/-
  Which frame of all it is; a new Quota.
-/
namespace Go.Proofs.YtlpmfldijgdcoaaGreatDoor.Quota
open Go Go.Proofs Go.Proofs.YtlpmfldijgdcoaaGreatDoor.Fx
set_option maxRecDepth 100000
set_option linter.unusedVariables false
set_option linter.unusedSimpArgs false
set_option maxHeartbeats 1000000

def nrow (x : Int) : List Int := List.replicate (min (max x 0) 64).toNat 0
def frameQ (ins : List (Nat × List Int)) (s k : Int) : Int × Bool := if ownP ins s k then ((firstQ ins s : Int) + k, true) else (0, false)

section
variable {w0 w : World} {p : Nat} {uv : Value} {ins : List (Nat × List Int)} {Mo R : List (Nat × Obj)}

theorem first_ret (s : Int) (hS : Sees w p uv ins) (hs : 0 ≤ s ∧ s < ins.length) :
    Ret Tryz.prog 50 #[ptr p 0, I s] w fun v w' => v = I (firstQ ins s) ∧ Hp w [] w' := by
  refine Ret_of_W (args := [_, _]) Tryz.func50 rfl Tryz.ntmps50 Tryz.results50 (by simp) ?_
  have H := Hp.refl w
  have hl4 := hS.len
  obtain ⟨ao, ca, rfl⟩ := hS.form
  obtain ⟨b1, o1, rfl, hc1⟩ := hS.cell hs
  have hca : ins.length ≤ ca := by
    obtain ⟨a', c', e, h1, _⟩ := hS.outer
    rw [(Value.slice.inj e).2.2]
    simpa [qVals] using h1
  obtain ⟨m, hm, hm2⟩ : ∃ m : Nat, s = m ∧ m < ins.length := ⟨s.toNat, by omega, by omega⟩
  subst hm
  have hmx : max (m : Int) 0 = m := by omega
  have hmn : min (m : Int) (ins.length : Int) = m := by omega
  refine W_seq ?_
  refine W_region_l ?_
  refine WL_stepM rfl (R_as) ?_
  refine WL_nil ?_
  refine W_seq ?_
  refine W_region_l ?_
  refine WL_stepM rfl (R_as) ?_
  refine WL_nil ?_
  refine W_seq ?_
  refine W_seq ?_
  (refine W_drawH (fun _ => false) (by kernel_rfl) H ?_; clear H; intro w11 H)
  refine WA_takeM 0 rfl rfl rfl (by kernel_rfl) (by kernel_rfl) H (fun _ hC => R_mv) ?_
  refine WA_take 1 rfl rfl rfl (by kernel_rfl) (by kernel_rfl) H (fun _ hC => R_nilCheck rfl) ?_
  refine WA_take 2 rfl rfl rfl (by kernel_rfl) (by kernel_rfl) H (fun _ hC => R_fieldAddr (off' := 0) Tryz.underlying168 rfl Tryz.sizeOf74 (by decide) rfl rfl) ?_
  refine WA_take 3 rfl rfl rfl (by kernel_rfl) (by kernel_rfl) H (fun _ hC => R_load Tryz.isAgg74 rfl (hS.at_ hC).obj rfl) ?_
  refine WA_takeM 4 rfl rfl rfl (by kernel_rfl) (by kernel_rfl) H (fun _ hC => R_mv) ?_
  refine WA_take 5 rfl rfl rfl (by kernel_rfl) (by kernel_rfl) H (fun _ hC => R_max rfl rfl hmx) ?_
  refine WA_takeM 6 rfl rfl rfl (by kernel_rfl) (by kernel_rfl) H (fun _ hC => R_mv) ?_
  refine WA_take 7 rfl rfl rfl (by kernel_rfl) (by kernel_rfl) H (fun _ hC => R_nilCheck rfl) ?_
  refine WA_take 8 rfl rfl rfl (by kernel_rfl) (by kernel_rfl) H (fun _ hC => R_fieldAddr (off' := 0) Tryz.underlying168 rfl Tryz.sizeOf74 (by decide) rfl rfl) ?_
  refine WA_take 9 rfl rfl rfl (by kernel_rfl) (by kernel_rfl) H (fun _ hC => R_load Tryz.isAgg74 rfl (hS.at_ hC).obj rfl) ?_
  refine WA_take 10 rfl rfl rfl (by kernel_rfl) (by kernel_rfl) H (fun _ hC => R_len_slice Tryz.underlying74 rfl) ?_
  refine WA_take 11 rfl rfl rfl (by kernel_rfl) (by kernel_rfl) H (fun _ hC => R_min rfl rfl hmn) ?_
  refine WA_take 12 rfl rfl rfl (by kernel_rfl) (by kernel_rfl) H (fun _ hC => R_to Tryz.underlying74 Tryz.sizeOf22 rfl rfl hca (by omega)) ?_
  refine WA_take 13 rfl rfl rfl (by kernel_rfl) (by kernel_rfl) H (fun _ hC => R_len_slice Tryz.underlying74 rfl) ?_
  refine WA_takeM 14 rfl rfl rfl (by kernel_rfl) (by kernel_rfl) H (fun _ hC => R_mv) ?_
  refine WA_done (by kernel_rfl) ?_
  refine W_block ?_
  refine W_loopS [(5, 5), (7, 7), (22, 30)] (fun (i : Nat) E w' => i ≤ m ∧ E 5 = I (lens ins i) ∧ E 22 = I i ∧ Hp w [] w') (fun i => m - i) 0 ?e0 ?r0
  · exact ⟨by omega, rfl, rfl, H⟩
  · (clear H; rintro i E w1 ⟨hi, h0, h1, H⟩; refine W_kn2 h0 h1 ?_; have hll := lens_le hS.small i (by omega))
    refine W_seq ?_
    refine W_region_l ?_
    refine WL_step rfl (R_lt rfl rfl) ?_
    refine WL_nil ?_
    refine W_seq ?_
    refine W_if rfl (fun h36 => ?_) (fun h36 => ?_)
    · refine W_skip ?_
      refine W_seq ?_
      refine W_block ?_
      refine W_seq ?_
      refine W_region_l ?_
      (obtain ⟨b2, o2, e2, hc2⟩ := (hS.at_ H).cell (s := (i : Int)) ⟨by omega, by omega⟩; cases e2; have h64 := hS.small _ (rowD_mem (ins := ins) (s := (i : Int)) ⟨by omega, by omega⟩); rw [Int.toNat_natCast] at hc2; refine WL_step rfl (R_indexAddr (off' := o1 + i) Tryz.underlying74 Tryz.sizeOf22 rfl rfl (by omega) (by omega) (by simp)) ?_)
      refine WL_step rfl (R_load_cell Tryz.isAgg22 rfl hc2) ?_
      refine WL_stepM rfl (R_as) ?_
      refine WL_nil ?_
      refine W_region_l ?_
      refine WL_stepM rfl (R_mv) ?_
      refine WL_stepM rfl (R_mv) ?_
      refine WL_step rfl (R_len_slice Tryz.underlying22 rfl) ?_
      refine WL_step rfl (R_add rfl rfl (w_i64 (by omega))) ?_
      refine WL_stepM rfl (R_as) ?_
      refine WL_nil ?_
      refine W_region_l ?_
      refine WL_step rfl (R_add rfl rfl (w_i64 (by omega))) ?_
      refine WL_stepM rfl (R_mv) ?_
      refine WL_nil ?_
      exact ⟨(same_mov rfl (same_updo rfl (same_mov rfl (same_updo rfl (same_updo rfl (same_mov rfl (same_mov rfl (same_mov rfl (same_updo rfl (same_updo rfl (same_know rfl (same_updo rfl same_ovr)))))))))))), i + 1, by omega, by omega, congrArg I (by rw [lens_next (by omega)]; push_cast; rfl), rfl, H⟩
    · refine W_exit ?_
      refine (if_pos rfl).mpr ?_
      refine W_seq ?_
      refine W_region_l ?_
      refine WL_stepM rfl (R_mv) ?_
      refine WL_stepM rfl (R_as) ?_
      refine WL_nil ?_
      refine W_ret ?_
      (obtain rfl : i = m := (by omega); exact ⟨_, rfl, rfl, H⟩)

end
end Go.Proofs.YtlpmfldijgdcoaaGreatDoor.Quota

/-
  A new Quota.
-/
namespace Go.Proofs.YtlpmfldijgdcoaaGreatDoor.Quota
open Go Go.Proofs Go.Proofs.YtlpmfldijgdcoaaGreatDoor.Fx
set_option maxRecDepth 100000
set_option linter.unusedVariables false
set_option linter.unusedSimpArgs false
set_option maxHeartbeats 1000000

theorem atm_app {A M B : List (Nat × Obj)} : AtM (A ++ (M ++ B)) M (fun M' => A ++ (M' ++ B)) := by
  induction A with
  | nil => simpa using AtM.here (M := M) (B := B)
  | cons a A ih => exact .there ih
theorem qBlks_keys {n : Nat} {ins : List (Nat × List Int)} (h : ∀ x ∈ ins, n ≤ x.1) : ∀ q ∈ qBlks ins, n ≤ q.1 := by
  intro q hq
  obtain ⟨x, hx, rfl⟩ := List.mem_map.1 hq
  exact h x hx
theorem rows_small {ins : List (Nat × List Int)} {ys : List Int} (h : ins.map (·.2) = ys.map nrow) : ∀ x ∈ ins, x.2.length ≤ 64 := by
  intro x hx
  have : x.2 ∈ ys.map nrow := h ▸ List.mem_map.2 ⟨x, hx, rfl⟩
  obtain ⟨y, _, e⟩ := List.mem_map.1 this
  rw [← e, nrow, List.length_replicate]; omega
theorem rows_bits {ins : List (Nat × List Int)} {ys : List Int} (h : ins.map (·.2) = ys.map nrow) : ∀ x ∈ ins, ∀ y ∈ x.2, y = 0 ∨ y = 1 := by
  intro x hx z hz
  have : x.2 ∈ ys.map nrow := h ▸ List.mem_map.2 ⟨x, hx, rfl⟩
  obtain ⟨y, _, e⟩ := List.mem_map.1 this
  rw [← e] at hz
  exact .inl (List.eq_of_mem_replicate hz)
theorem nrow_length {x : Int} {n : Nat} (h : min (max x 0) 64 = (n : Int)) : nrow x = List.replicate n 0 := by unfold nrow; rw [h, Int.toNat_natCast]
theorem rows_snoc {ins : List (Nat × List Int)} {xs : List Int} {i b : Nat} (h : ins.map (·.2) = (xs.take i).map nrow) (hi : i < xs.length) : (ins ++ [(b, nrow xs[i])]).map (·.2) = (xs.take (i + 1)).map nrow := by
  rw [List.map_append, h, List.take_succ_eq_append_getElem hi, List.map_append]; rfl
theorem qVals_snoc {ins : List (Nat × List Int)} {r : List Int} {b n : Nat} (h : r = List.replicate n 0) : qVals (ins ++ [(b, r)]) = qVals ins ++ [sl b 0 n n] := by
  subst h; simp [qVals]
theorem qBlks_snoc {ins : List (Nat × List Int)} {r : List Int} {b n : Nat} (h : r = List.replicate n 0) : qBlks (ins ++ [(b, r)]) = qBlks ins ++ [(b, blk (List.replicate n (I 0)) 3)] := by
  subst h; simp [qBlks]
theorem keys_snoc {ins : List (Nat × List Int)} {r : List Int} {b n : Nat} (h : ∀ x ∈ ins, n ≤ x.1) (hb : n ≤ b) : ∀ x ∈ ins ++ [(b, r)], n ≤ x.1 := by
  intro x hx
  rcases List.mem_append.1 hx with hx | hx
  · exact h x hx
  · rw [List.mem_singleton.1 hx]; exact hb
theorem new_perm {w0 w : World} {A B : List (Nat × Obj)} {a : Nat × Obj} (H : Hp w0 (a :: (A ++ B)) w) : Hp w0 ((A ++ [a]) ++ B) w :=
  H.perm (by rw [List.append_assoc]; exact List.perm_middle.symm)

section
variable {w : World} {p : Nat}

theorem new_ret {xs : List Int} {v : Value} (hl : RdS w v (xs.map I)) (hx : 0 < xs.length) (hb : xs.length ≤ 1000000) :
    Ret Tryz.prog 46 #[v] w fun r w' => ∃ p uv ins Mo, r = ptr p 0 ∧ ins.map (·.2) = (xs.take 4).map nrow ∧ Has w w' p uv ins Mo [] ∧ (∀ x ∈ ins, w.heap.size ≤ x.1) ∧ w.heap.size ≤ p := by
  refine Ret_of_W (args := [_]) Tryz.func46 rfl Tryz.ntmps46 Tryz.results46 (by simp) ?_
  have H := Hp.refl w
  obtain ⟨ao, ca, rfl⟩ := hl.form
  obtain ⟨b1, o1, rfl, _⟩ := hl.cell (i := 0) (u := I xs[0]) (by rw [List.getElem?_map, List.getElem?_eq_getElem hx]; rfl)
  have hca : xs.length ≤ ca := by
    obtain ⟨a', c', e, h1, _⟩ := id hl
    rw [(Value.slice.inj e).2.2]
    simpa using h1
  simp only [List.length_map] at hl ⊢
  obtain ⟨m, hm, hm1, hm4, hm2⟩ : ∃ m : Nat, min (xs.length : Int) 4 = m ∧ m ≤ xs.length ∧ m ≤ 4 ∧ xs.take 4 = xs.take m := by
    refine ⟨min xs.length 4, by omega, by omega, by omega, ?_⟩
    rcases Nat.le_total xs.length 4 with h | h
    · rw [Nat.min_eq_left h, List.take_of_length_le h, List.take_of_length_le (Nat.le_refl _)]
    · rw [Nat.min_eq_right h]
  rw [hm2]
  refine W_seq ?_
  refine W_region_l ?_
  refine WL_stepM rfl (R_as) ?_
  refine WL_nil ?_
  refine W_seq ?_
  refine W_region_l ?_
  refine WL_step rfl (R_build (vs := [(.slice _ _ _)]) rfl rfl) ?_
  (refine WL_effn rfl (E_box (vs := [nilS]) H rfl rfl) ?_; clear H; intro p w8 hp H)
  refine WL_stepM rfl (R_as) ?_
  refine WL_nil ?_
  refine W_seq ?_
  refine W_seq ?_
  refine W_region_l ?_
  refine WL_stepM rfl (R_mv) ?_
  refine WL_stepM rfl (R_mv) ?_
  refine WL_step rfl (R_len_slice Tryz.underlying22 rfl) ?_
  refine WL_step rfl (R_min rfl rfl hm) ?_
  refine WL_step rfl (R_to Tryz.underlying22 Tryz.sizeOf3 rfl rfl hca (by omega)) ?_
  refine WL_step rfl (R_len_slice Tryz.underlying22 rfl) ?_
  refine WL_stepM rfl (R_mv) ?_
  refine WL_nil ?_
  refine W_block ?_
  refine W_loopS [(5, 5), (14, 31)] (fun (i : Nat) E w' => ∃ uv ins Mo, i ≤ m ∧ E 14 = I i ∧ ins.map (·.2) = (xs.take i).map nrow ∧ OwnQ w.heap.size 22 uv (qVals ins) Mo ∧ (∀ x ∈ ins, w.heap.size ≤ x.1) ∧ Hp w (qBlks ins ++ (Mo ++ [(p, blk [uv] 168)])) w') (fun i => m - i) 0 ?e0 ?r0
  · exact ⟨nilS, [], [], by omega, rfl, rfl, OwnQ.nil _ _, (fun _ h => by cases h), H⟩
  · (clear H; rintro i E w1 ⟨uv, ins, Mo, hi, h0, hrows, hQ, hk, H⟩; refine W_kn h0 ?_; have hil : ins.length = i := (by have := congrArg List.length hrows; simp at this; omega); have hsm := rows_small hrows; have hbt := rows_bits hrows)
    refine W_seq ?_
    refine W_region_l ?_
    refine WL_step rfl (R_lt rfl rfl) ?_
    refine WL_nil ?_
    refine W_seq ?_
    refine W_if rfl (fun h30 => ?_) (fun h30 => ?_)
    · refine W_skip ?_
      refine W_seq ?_
      refine W_block ?_
      refine W_seq ?_
      (obtain ⟨b2, o2, e2, hc1⟩ := hl.cell (i := i) (u := I xs[i]) (by rw [List.getElem?_map, List.getElem?_eq_getElem (by omega)]; rfl); cases e2) <;> refine W_region_l ?_
      refine WL_step rfl (R_indexAddr Tryz.underlying22 Tryz.sizeOf3 rfl rfl (by omega) (by omega) idx_cast1) ?_
      refine WL_step rfl (R_load_cell Tryz.isAgg3 rfl (H.cellN hc1 (kApp (qBlks_keys hk) (kApp hQ.keys (kCons hp kNil))))) ?_
      refine WL_stepM rfl (R_as) ?_
      refine WL_nil ?_
      (obtain ⟨mx, hmx⟩ : ∃ mx, max xs[i] 0 = mx := ⟨_, rfl⟩; obtain ⟨n, hn, hn1⟩ : ∃ n : Nat, min mx 64 = (n : Int) ∧ n ≤ 64 := ⟨(min mx 64).toNat, by omega, by omega⟩; refine W_draw (Kp [(p, blk [uv] 168)]) (fun i => Nat.ble 11 i) (by kernel_rfl) H ?_; clear H; intro w40 H)
      refine WA_takeM 0 rfl rfl rfl (by kernel_rfl) (by kernel_rfl) (H.kp.sub (by simp)) (fun _ hC => R_mv) ?_
      refine WA_takeM 1 rfl rfl rfl (by kernel_rfl) (by kernel_rfl) (H.kp.sub (by simp)) (fun _ hC => R_mv) ?_
      refine WA_take 2 rfl rfl rfl (by kernel_rfl) (by kernel_rfl) (H.kp.sub (by simp)) (fun _ hC => R_nilCheck rfl) ?_
      refine WA_take 3 rfl rfl rfl (by kernel_rfl) (by kernel_rfl) (H.kp.sub (by simp)) (fun _ hC => R_fieldAddr (off' := 0) Tryz.underlying168 rfl Tryz.sizeOf74 (by decide) rfl rfl) ?_
      refine WA_take 4 rfl rfl rfl (by kernel_rfl) (by kernel_rfl) (H.kp.sub (by simp)) (fun _ hC => R_load Tryz.isAgg74 rfl (hC (p, _) (.head _)) rfl) ?_
      refine WA_takeM 5 rfl rfl rfl (by kernel_rfl) (by kernel_rfl) (H.kp.sub (by simp)) (fun _ hC => R_mv) ?_
      refine WA_take 6 rfl rfl rfl (by kernel_rfl) (by kernel_rfl) (H.kp.sub (by simp)) (fun _ hC => R_max rfl rfl hmx) ?_
      refine WA_take 7 rfl rfl rfl (by kernel_rfl) (by kernel_rfl) (H.kp.sub (by simp)) (fun _ hC => R_min rfl rfl hn) ?_
      refine WA_one (i := 8) (by kernel_rfl) ?_
      (refine WI_effn rfl (.inl rfl) (E_makeSlice H Tryz.underlying22 Tryz.sizeOf3 Tryz.typeInfo3 Tryz.zeroValue3 rfl rfl rfl (by omega) (by omega) (by omega) (by simp only [Tryz.t3]; omega)) (fun _ _ H => (by first | exact fun h => absurd h (by decide) | exact fun _ => H | exact fun _ => H.none kYs | exact fun _ => H.dropN kYs | exact fun _ => H.pop (by assumption) | exact fun _ => (H.pop (by assumption)).pop (by assumption) | exact fun _ => H.kp | exact fun _ => H.kp.tail | exact fun _ => H.kp.tail.tail | exact fun _ => H.kp.tail.tail.tail | exact fun _ => H.kp.sub (by simp) | exact fun _ => Kp.nil | exact fun _ => H.kh (by simp) kYs)) ?_; clear H; intro b50 w50 hb50 H)
      refine WA_one (i := 9) (by kernel_rfl) ?_
      (refine WI_effn rfl (.inl rfl) (E_buildOnes (vs := [(.slice _ _ _)]) H Tryz.underlying74 Tryz.sizeOf22 Tryz.zeroValue22 rfl rfl (by decide) rfl rfl (by simp [Value.oneCell'])) (fun _ _ H => (by first | exact fun h => absurd h (by decide) | exact fun _ => H | exact fun _ => H.none kYs | exact fun _ => H.dropN kYs | exact fun _ => H.pop (by assumption) | exact fun _ => (H.pop (by assumption)).pop (by assumption) | exact fun _ => H.kp | exact fun _ => H.kp.tail | exact fun _ => H.kp.tail.tail | exact fun _ => H.kp.tail.tail.tail | exact fun _ => H.kp.sub (by simp) | exact fun _ => Kp.nil | exact fun _ => H.kh (by simp) kYs)) ?_; clear H; intro b52 w52 hb52 H)
      refine WA_one (i := 10) (by kernel_rfl) ?_
      (refine WI_effm rfl (.inl rfl) (E_appendQ (m := 1) H (.there (.there atm_app)) hQ Tryz.underlying74 Tryz.typeInfo22 rfl rfl rfl rfl rfl rfl (src_one Tryz.underlying74 (H.get .here) rfl) (by simp [qVals]; omega) (by simp [qVals, Tryz.t22]; omega)) (fun _ _ H => (by first | exact fun h => absurd h (by decide) | exact fun _ => H | exact fun _ => H.none kYs | exact fun _ => H.dropN kYs | exact fun _ => H.pop (by assumption) | exact fun _ => (H.pop (by assumption)).pop (by assumption) | exact fun _ => H.kp | exact fun _ => H.kp.tail | exact fun _ => H.kp.tail.tail | exact fun _ => H.kp.tail.tail.tail | exact fun _ => H.kp.sub (by simp) | exact fun _ => Kp.nil | exact fun _ => H.kh (by simp) kYs)) ?_; clear H; intro v5 M5 w54 hQ5 H; obtain ⟨a5, c5, rfl⟩ := hQ5.form; replace H := new_perm (H.pop hb52))
      refine WA_one (i := 11) (by kernel_rfl) ?_
      refine WI_value rfl (.inl rfl) (R_nilCheck rfl) (by first | exact fun h => absurd h (by decide) | exact fun _ => H | exact fun _ => H.none kYs | exact fun _ => H.dropN kYs | exact fun _ => H.pop (by assumption) | exact fun _ => (H.pop (by assumption)).pop (by assumption) | exact fun _ => H.kp | exact fun _ => H.kp.tail | exact fun _ => H.kp.tail.tail | exact fun _ => H.kp.tail.tail.tail | exact fun _ => H.kp.sub (by simp) | exact fun _ => Kp.nil | exact fun _ => H.kh (by simp) kYs) ?_
      refine WA_one (i := 12) (by kernel_rfl) ?_
      refine WI_value rfl (.inl rfl) (R_fieldAddr (off' := 0) Tryz.underlying168 rfl Tryz.sizeOf74 (by decide) rfl rfl) (by first | exact fun h => absurd h (by decide) | exact fun _ => H | exact fun _ => H.none kYs | exact fun _ => H.dropN kYs | exact fun _ => H.pop (by assumption) | exact fun _ => (H.pop (by assumption)).pop (by assumption) | exact fun _ => H.kp | exact fun _ => H.kp.tail | exact fun _ => H.kp.tail.tail | exact fun _ => H.kp.tail.tail.tail | exact fun _ => H.kp.sub (by simp) | exact fun _ => Kp.nil | exact fun _ => H.kh (by simp) kYs) ?_
      refine WA_one (i := 13) (by kernel_rfl) ?_
      (refine WI_effu rfl (.inl rfl) (E_store (v := (.slice _ _ _)) H Tryz.sizeOf74 rfl rfl rfl (.app _ (.app _ .here)) (by simp)) (fun _ H => (by first | exact fun h => absurd h (by decide) | exact fun _ => H | exact fun _ => H.none kYs | exact fun _ => H.dropN kYs | exact fun _ => H.pop (by assumption) | exact fun _ => (H.pop (by assumption)).pop (by assumption) | exact fun _ => H.kp | exact fun _ => H.kp.tail | exact fun _ => H.kp.tail.tail | exact fun _ => H.kp.tail.tail.tail | exact fun _ => H.kp.sub (by simp) | exact fun _ => Kp.nil | exact fun _ => H.kh (by simp) kYs)) ?_; clear H; intro w60 H)
      refine WA_done (by kernel_rfl) ?_
      refine W_region_l ?_
      refine WL_step rfl (R_add rfl rfl (w_i64 (by omega))) ?_
      refine WL_stepM rfl (R_mv) ?_
      refine WL_nil ?_
      exact ⟨(same_mov rfl (same_updo rfl (same_updn (same_updo rfl (same_updo rfl (same_updo rfl (same_updo rfl (same_updo rfl (same_updo rfl (same_updo rfl (same_mov rfl (same_updo rfl (same_updo rfl (same_updo rfl (same_mov rfl (same_mov rfl (same_mov rfl (same_updo rfl (same_updo rfl (same_know rfl (same_updo rfl same_ovr))))))))))))))))))))), i + 1, by omega, _, ins ++ [(b50, nrow xs[i])], M5, by omega, rfl, rows_snoc hrows (by omega), (by rw [qVals_snoc (nrow_length (by rw [hmx]; exact hn))]; exact hQ5), keys_snoc hk hb50, (by rw [qBlks_snoc (nrow_length (by rw [hmx]; exact hn))]; exact H)⟩
    · refine W_exit ?_
      refine (if_pos rfl).mpr ?_
      refine W_seq ?_
      refine W_region_l ?_
      refine WL_stepM rfl (R_mv) ?_
      refine WL_stepM rfl (R_as) ?_
      refine WL_nil ?_
      refine W_ret ?_
      (obtain rfl : i = m := (by omega); exact ⟨_, rfl, p, uv, ins, Mo, rfl, hrows, ⟨hQ, H, by omega, hsm, hbt⟩, hk, hp⟩)
end
end Go.Proofs.YtlpmfldijgdcoaaGreatDoor.Quota

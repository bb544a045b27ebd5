/-
  Frames taken and given back.
-/
import Derived.Test.YtjfcnmbalojehaaQuotaA
namespace Go.Proofs.Ytjfcnmbalojehaa.Quota
open Go Go.Proofs Go.Proofs.Ytjfcnmbalojehaa.Fx
set_option maxRecDepth 100000
set_option linter.unusedVariables false
set_option linter.unusedSimpArgs false
set_option maxHeartbeats 1000000

/-- where a number stands in a row; below 0: nowhere -/
def idx (xs : List Int) (x : Int) : Int := match xs with
  | [] => -1
  | y :: ys => if x = y then 0 else if idx ys x < 0 then -1 else idx ys x + 1

theorem idx_ge (xs : List Int) (x : Int) : -1 ≤ idx xs x := by
  induction xs with
  | nil => simp [idx]
  | cons y ys ih => unfold idx; split <;> (try split) <;> omega
theorem idx_mem {xs : List Int} {x : Int} : 0 ≤ idx xs x ↔ x ∈ xs := by
  induction xs with
  | nil => simp [idx]
  | cons y ys ih =>
    unfold idx
    rw [List.mem_cons, ← ih]
    split
    · simp_all
    · split <;> omega
/-- the first of the numbers behind place k, if none ahead of it is it -/
theorem idx_drop {xs : List Int} {x : Int} {k : Nat} (hk : k < xs.length) (h : ∀ j (hj : j < k), xs[j]'(by omega) ≠ x) (hx : x = xs[k]) : idx xs x = k := by
  induction xs generalizing k with
  | nil => simp at hk
  | cons y ys ih =>
    unfold idx
    cases k with
    | zero => rw [if_pos (by simpa using hx)]; rfl
    | succ k =>
      have h0 := h 0 (by omega)
      rw [if_neg (fun e => h0 e.symm)]
      simp only [List.length_cons] at hk
      have := ih (k := k) (by omega) (fun j hj => by have := h (j + 1) (by omega); simpa using this) (by simpa using hx)
      rw [this]
      rw [if_neg (by omega)]
      omega
theorem idx_none {xs : List Int} {x : Int} (h : ∀ j (hj : j < xs.length), xs[j] ≠ x) : idx xs x = -1 := by
  have h1 := idx_ge xs x
  have h2 : ¬ 0 ≤ idx xs x := fun h3 => by
    obtain ⟨j, hj, he⟩ := List.getElem_of_mem (idx_mem.1 h3)
    exact h j hj he
  omega

theorem index_ret {xs : List Int} {w : World} {v : Value} (x : Int) (hv : RdS w v (xs.map I)) (hb : xs.length ≤ 9223372036854775807) :
    Ret Try.prog 64 #[v, I x] w fun r w' => r = I (idx xs x) ∧ Hp w [] w' := by
  refine Ret_of_W (args := [_, _]) Try.func64 rfl Try.ntmps64 Try.results64 (by simp) ?_
  obtain ⟨ao, ca, rfl⟩ := hv.form
  simp only [List.length_map] at hv ⊢
  have H := Hp.refl w
  refine W_seq ?_
  refine W_region_l ?_
  refine WL_stepM rfl (R_as) ?_
  refine WL_nil ?_
  refine W_seq ?_
  refine W_seq ?_
  refine W_region_l ?_
  refine WL_stepM rfl (R_mv) ?_
  refine WL_step rfl (R_len_slice Try.underlying22 rfl) ?_
  refine WL_stepM rfl (R_mv) ?_
  refine WL_nil ?_
  refine W_block ?_
  refine W_loopS [(4, 5), (8, 18)] (fun (k : Nat) E w' => k ≤ xs.length ∧ E 8 = I k ∧ (∀ j (hj : j < k) (hl : j < xs.length), xs[j] ≠ x) ∧ Hp w [] w') (fun k => xs.length - k) 0 ?e0 ?r0
  · exact ⟨by omega, rfl, fun j hj => by omega, H⟩
  · (clear H; rintro k E w1 ⟨hk, h0, hn, H⟩; refine W_kn h0 ?_)
    refine W_seq ?_
    refine W_region_l ?_
    refine WL_step rfl (R_lt rfl rfl) ?_
    refine WL_nil ?_
    refine W_seq ?_
    refine W_if rfl (fun h20 => ?_) (fun h20 => ?_)
    · refine W_skip ?_
      refine W_seq ?_
      refine W_block ?_
      refine W_seq ?_
      refine W_region_l ?_
      refine WL_stepM rfl (R_mv) ?_
      refine WL_stepM rfl (R_as) ?_
      refine WL_nil ?_
      refine W_seq ?_
      (obtain ⟨b1, o1, rfl, hc1⟩ := hv.cell (i := k) (u := I xs[k]) (by rw [List.getElem?_map, List.getElem?_eq_getElem (by omega)]; rfl)) <;> refine W_region_l ?_
      refine WL_stepM rfl (R_mv) ?_
      refine WL_stepM rfl (R_mv) ?_
      refine WL_stepM rfl (R_mv) ?_
      refine WL_step rfl (R_indexAddr Try.underlying22 Try.sizeOf3 rfl rfl (by omega) (by omega) idx_cast1) ?_
      refine WL_step rfl (R_load_cell Try.isAgg3 rfl (H.cellN hc1 (by repeat' first | exact kNil | apply kCons | apply kApp | assumption | exact OwnS.keys (by assumption)))) ?_
      refine WL_step rfl (R_eq rfl rfl) ?_
      refine WL_nil ?_
      refine W_if rfl (fun h38 => ?_) (fun h38 => ?_)
      · refine W_seq ?_
        refine W_region_l ?_
        refine WL_stepM rfl (R_mv) ?_
        refine WL_stepM rfl (R_as) ?_
        refine WL_nil ?_
        refine W_ret ?_
        exact ⟨_, rfl, congrArg I (idx_drop (by omega) (fun j hj => hn j hj (by omega)) (by assumption)).symm, H⟩
      · refine W_skip ?_
        refine W_region_l ?_
        refine WL_step rfl (R_add rfl rfl (w_i64 (by omega))) ?_
        refine WL_stepM rfl (R_mv) ?_
        refine WL_nil ?_
        exact ⟨(by repeat' first | with_reducible exact Same.refl | refine same_updo rfl ?_ | refine same_mov rfl ?_ | refine same_upd rfl ?_ | refine same_updn ?_ | refine same_know rfl ?_ | exact same_ovr | refine same_in rfl ?_ | exact Same.refl), k + 1, by omega, by omega, rfl, (fun j hj hl => by rcases Nat.lt_or_ge j k with h' | h'; exact hn j h' hl; obtain rfl : j = k := (by omega); exact fun e => absurd e.symm (by assumption)), H⟩
    · refine W_exit ?_
      refine (if_pos rfl).mpr ?_
      refine W_seq ?_
      refine W_region_l ?_
      refine WL_stepM rfl (R_as) ?_
      refine WL_nil ?_
      refine W_ret ?_
      exact ⟨_, rfl, congrArg I (idx_none (fun j hj => hn j (by omega) hj)).symm, H⟩


theorem idx_lt {xs : List Int} {x : Int} (h : x ∈ xs) : 0 ≤ idx xs x ∧ idx xs x < xs.length ∧ xs.getD (idx xs x).toNat 0 = x := by
  induction xs with
  | nil => simp at h
  | cons y ys ih =>
    unfold idx
    by_cases e : x = y
    · subst e; simp
    · rw [if_neg e]
      obtain ⟨h1, h2, h3⟩ := ih ((List.mem_cons.1 h).resolve_left e)
      rw [if_neg (by omega)]
      refine ⟨by omega, by simp; omega, ?_⟩
      rw [show (idx ys x + 1).toNat = (idx ys x).toNat + 1 by omega, List.getD_cons_succ]
      exact h3
theorem idx_out {xs : List Int} {x : Int} (h : ¬ x ∈ xs) : idx xs x = -1 := by
  have h1 := idx_ge xs x
  have h2 : ¬ 0 ≤ idx xs x := fun h3 => h (idx_mem.1 h3)
  omega
theorem split_ins {ins : List (Nat × List Int)} {s : Int} (h : 0 ≤ s ∧ s < ins.length) :
    ∃ A C, ins = A ++ rowD ins s :: C ∧ ∀ x, ins.set s.toNat x = A ++ x :: C := by
  have hl : s.toNat < ins.length := by omega
  refine ⟨ins.take s.toNat, ins.drop (s.toNat + 1), ?_, fun x => ?_⟩
  · have hr : ins[s.toNat] = rowD ins s := by
      have := rowD_get h
      rw [List.getElem?_eq_getElem hl] at this
      exact Option.some.inj this
    rw [← hr, List.getElem_cons_drop, List.take_append_drop]
  · rw [List.set_eq_take_append_cons_drop, if_pos hl]
/-- a frame of a session turned -/
def setQ (ins : List (Nat × List Int)) (s k v : Int) : List (Nat × List Int) := ins.set s.toNat ((rowD ins s).1, (rowD ins s).2.set k.toNat v)

section
variable {w0 w : World} {p : Nat} {uv : Value} {ins : List (Nat × List Int)} {Mo R : List (Nat × Obj)}

/-- a Quota that one holds -/
structure Has (w0 w : World) (p : Nat) (uv : Value) (ins : List (Nat × List Int)) (Mo R : List (Nat × Obj)) : Prop where
  hO : OwnQ w0.heap.size 22 uv (qVals ins) Mo
  H : Hp w0 (qBlks ins ++ (Mo ++ ((p, blk [uv] 101) :: R))) w
  len : ins.length ≤ 4
  small : ∀ x ∈ ins, x.2.length ≤ 64
  bits : ∀ x ∈ ins, ∀ y ∈ x.2, y = 0 ∨ y = 1

theorem Has.sees (h : Has w0 w p uv ins Mo R) : Sees w p uv ins :=
  ⟨h.H.held (p, blk [uv] 101) (by simp), h.hO.rds fun q hq => h.H.held q (by simp [hq]), fun x hx => h.H.held (x.1, blk (x.2.map I) 3) (List.mem_append.2 (.inl (List.mem_map.2 ⟨x, hx, rfl⟩))), h.len, h.small, h.bits⟩
theorem Has.next {w' : World} (h : Has w0 w p uv ins Mo R) (H' : Hp w [] w') : Has w0 w' p uv ins Mo R := ⟨h.hO, h.H.seq0 H', h.len, h.small, h.bits⟩
theorem Has.set {w' : World} (h : Has w0 w p uv ins Mo R) {s k v : Int} (hs : 0 ≤ s ∧ s < ins.length) (hk : 0 ≤ k) (hv : v = 0 ∨ v = 1) {A C : List (Nat × List Int)} (hA : ∀ x, ins.set s.toNat x = A ++ x :: C) (he : ins = A ++ rowD ins s :: C)
    (H' : Hp w0 (qBlks A ++ (((rowD ins s).1, blk (((rowD ins s).2.map I).set k.toNat (I v)) 3) :: (qBlks C ++ (Mo ++ ((p, blk [uv] 101) :: R))))) w') : Has w0 w' p uv (setQ ins s k v) Mo R := by
  have hq : setQ ins s k v = A ++ ((rowD ins s).1, (rowD ins s).2.set k.toNat v) :: C := hA _
  have hv2 : qVals (setQ ins s k v) = qVals ins := by
    rw [hq]
    conv => rhs; rw [he]
    simp [qVals]
  have hin : ∀ x ∈ setQ ins s k v, x ∈ ins ∨ x = ((rowD ins s).1, (rowD ins s).2.set k.toNat v) := by
    intro x hx
    unfold setQ at hx
    rcases List.mem_or_eq_of_mem_set hx with h1 | h1
    · exact .inl h1
    · exact .inr h1
  refine ⟨by rw [hv2]; exact h.hO, ?_, ?_, ?_, ?_⟩
  · rw [hq]
    rw [List.map_set.symm] at H'
    simpa [qBlks, List.append_assoc] using H'
  · unfold setQ; rw [List.length_set]; exact h.len
  · intro x hx
    rcases hin x hx with h1 | rfl
    · exact h.small x h1
    · show ((rowD ins s).2.set k.toNat v).length ≤ 64
      rw [List.length_set]; exact h.small _ (rowD_mem hs)
  · intro x hx y hy
    rcases hin x hx with h1 | rfl
    · exact h.bits x h1 y hy
    · rcases List.mem_or_eq_of_mem_set hy with h2 | h2
      · exact h.bits _ (rowD_mem hs) y h2
      · rw [h2]; exact hv

/-- the least free frame is taken -/
def allocQ (ins : List (Nat × List Int)) (s : Int) : List (Nat × List Int) × Int × Int :=
  if 0 ≤ s ∧ s < ins.length then (if (0 : Int) ∈ (rowD ins s).2 then (setQ ins s (idx (rowD ins s).2 0) 1, idx (rowD ins s).2 0, 0) else (ins, 0, 4)) else (ins, 0, 1)
theorem Has.shut (h : Has w0 w p uv ins Mo R) {A C : List (Nat × List Int)} {s : Int} (he : ins = A ++ rowD ins s :: C) :
    Hp w0 (qBlks A ++ (((rowD ins s).1, blk ((rowD ins s).2.map I) 3) :: (qBlks C ++ (Mo ++ ((p, blk [uv] 101) :: R))))) w := by
  have := h.H
  rw [show qBlks ins = qBlks (A ++ rowD ins s :: C) by rw [← he]] at this
  simpa [qBlks, List.append_assoc] using this

theorem alloc_ret (s : Int) (hH : Has w0 w p uv ins Mo R) :
    Ret Try.prog 48 #[ptr p 0, I s] w fun v w' => v = .tuple #[I (allocQ ins s).2.1, I (allocQ ins s).2.2] ∧ Has w0 w' p uv (allocQ ins s).1 Mo R := by
  refine Ret_of_W (args := [_, _]) Try.func48 rfl Try.ntmps48 Try.results48 (by simp) ?_
  have hS := hH.sees
  have hl4 := hH.len
  obtain ⟨ao, ca, rfl⟩ := hS.form
  by_cases hs : 0 ≤ s ∧ s < ins.length
  · obtain ⟨b1, o1, rfl, hc1⟩ := hS.cell hs
    have hrd : RdS w (sl (rowD ins s).1 0 (rowD ins s).2.length (rowD ins s).2.length) ((rowD ins s).2.map I) := RdS.blk (c := (rowD ins s).2.map I) (off := 0) (hS.rows _ (rowD_mem hs)) (by rw [List.drop_zero, List.take_of_length_le (by simp)]) (by simp) (Nat.le_refl _)
    have h64 := hS.small _ (rowD_mem hs)
    obtain ⟨A, C, he, hA⟩ := split_ins hs
    have H := hH.shut he
    by_cases hz : (0 : Int) ∈ (rowD ins s).2
    · obtain ⟨i0, i1, i2⟩ := idx_lt hz
      refine W_seq ?_
      refine W_region_l ?_
      refine WL_stepM rfl (R_as) ?_
      refine WL_stepM rfl (R_as) ?_
      refine WL_nil ?_
      refine W_seq ?_
      refine W_seq ?_
      refine W_region_l ?_
      refine WL_stepM rfl (R_mv) ?_
      refine WL_stepM rfl (R_mv) ?_
      (refine WL_call rfl (R_call rfl Try.call63 rfl) (is_ret s hS) ?_; rintro _ w11 ⟨rfl, H1⟩; replace H := H.seq0 H1; replace hS := hS.at_ H1; replace hrd := hrd.monoN H1 kNil; replace hc1 := H1.cellN hc1 kNil; clear H1; rw [decide_eq_true hs])
      refine WL_step rfl (R_not_t rfl) ?_
      refine WL_nil ?_
      refine W_cond_f rfl ?_
      refine W_skip ?_
      refine W_seq ?_
      refine W_region_l ?_
      refine WL_stepM rfl (R_mv) ?_
      refine WL_step rfl (R_nilCheck rfl) ?_
      refine WL_step rfl (R_fieldAddr (off' := 0) Try.underlying101 rfl Try.sizeOf99 (by decide) rfl rfl) ?_
      refine WL_step rfl (R_load Try.isAgg99 rfl hS.obj rfl) ?_
      refine WL_stepM rfl (R_mv) ?_
      refine WL_step rfl (R_indexAddr (off' := o1 + s.toNat) Try.underlying99 Try.sizeOf22 rfl rfl (by omega) (by omega) (by simp)) ?_
      refine WL_step rfl (R_load_cell Try.isAgg22 rfl hc1) ?_
      (refine WL_call rfl (R_call rfl Try.call64 rfl) (index_ret 0 hrd (by omega)) ?_; rintro _ w25 ⟨rfl, H1⟩; replace H := H.seq0 H1; replace hS := hS.at_ H1; replace hc1 := H1.cellN hc1 kNil; clear H1)
      refine WL_stepM rfl (R_as) ?_
      refine WL_nil ?_
      refine W_seq ?_
      refine W_seq ?_
      refine W_region_l ?_
      refine WL_stepM rfl (R_mv) ?_
      refine WL_step rfl (R_lt_f rfl rfl (by omega)) ?_
      refine WL_nil ?_
      refine W_cond_f rfl ?_
      refine W_skip ?_
      refine W_seq ?_
      refine W_region_l ?_
      refine WL_stepM rfl (R_mv) ?_
      refine WL_step rfl (R_nilCheck rfl) ?_
      refine WL_step rfl (R_fieldAddr (off' := 0) Try.underlying101 rfl Try.sizeOf99 (by decide) rfl rfl) ?_
      refine WL_step rfl (R_load Try.isAgg99 rfl hS.obj rfl) ?_
      refine WL_stepM rfl (R_mv) ?_
      refine WL_step rfl (R_indexAddr (off' := o1 + s.toNat) Try.underlying99 Try.sizeOf22 rfl rfl (by omega) (by omega) (by simp)) ?_
      refine WL_step rfl (R_load_cell Try.isAgg22 rfl hc1) ?_
      refine WL_stepM rfl (R_mv) ?_
      refine WL_step rfl (R_indexAddr (off' := (idx (rowD ins s).2 0).toNat) Try.underlying22 Try.sizeOf3 rfl rfl (by omega) (by omega) (by simp)) ?_
      (refine WL_effu rfl (E_store (v := (.int _ _)) H Try.sizeOf3 rfl rfl rfl (.app _ .here) (by simp; omega)) ?_; clear H; intro w47 H)
      refine WL_nil ?_
      refine W_seq ?_
      refine W_region_l ?_
      refine WL_stepM rfl (R_mv) ?_
      refine WL_stepM rfl (R_as) ?_
      refine WL_stepM rfl (R_as) ?_
      refine WL_nil ?_
      refine W_ret ?_
      (have e : allocQ ins s = (setQ ins s (idx (rowD ins s).2 0) 1, idx (rowD ins s).2 0, 0) := (by unfold allocQ; rw [if_pos hs, if_pos hz]); exact ⟨_, rfl, by rw [e]; rfl, by rw [e]; exact hH.set hs i0 (.inr rfl) hA he H⟩)
    · have hi := idx_out hz
      refine W_seq ?_
      refine W_region_l ?_
      refine WL_stepM rfl (R_as) ?_
      refine WL_stepM rfl (R_as) ?_
      refine WL_nil ?_
      refine W_seq ?_
      refine W_seq ?_
      refine W_region_l ?_
      refine WL_stepM rfl (R_mv) ?_
      refine WL_stepM rfl (R_mv) ?_
      (refine WL_call rfl (R_call rfl Try.call63 rfl) (is_ret s hS) ?_; rintro _ w11 ⟨rfl, H1⟩; replace H := H.seq0 H1; replace hS := hS.at_ H1; replace hrd := hrd.monoN H1 kNil; replace hc1 := H1.cellN hc1 kNil; replace hH := hH.next H1; clear H1; rw [decide_eq_true hs])
      refine WL_step rfl (R_not_t rfl) ?_
      refine WL_nil ?_
      refine W_cond_f rfl ?_
      refine W_skip ?_
      refine W_seq ?_
      refine W_region_l ?_
      refine WL_stepM rfl (R_mv) ?_
      refine WL_step rfl (R_nilCheck rfl) ?_
      refine WL_step rfl (R_fieldAddr (off' := 0) Try.underlying101 rfl Try.sizeOf99 (by decide) rfl rfl) ?_
      refine WL_step rfl (R_load Try.isAgg99 rfl hS.obj rfl) ?_
      refine WL_stepM rfl (R_mv) ?_
      refine WL_step rfl (R_indexAddr (off' := o1 + s.toNat) Try.underlying99 Try.sizeOf22 rfl rfl (by omega) (by omega) (by simp)) ?_
      refine WL_step rfl (R_load_cell Try.isAgg22 rfl hc1) ?_
      (refine WL_call rfl (R_call rfl Try.call64 rfl) (index_ret 0 hrd (by omega)) ?_; rintro _ w25 ⟨rfl, H1⟩; replace H := H.seq0 H1; replace hS := hS.at_ H1; replace hc1 := H1.cellN hc1 kNil; replace hH := hH.next H1; clear H1; rw [hi])
      refine WL_stepM rfl (R_as) ?_
      refine WL_nil ?_
      refine W_seq ?_
      refine W_seq ?_
      refine W_region_l ?_
      refine WL_stepM rfl (R_mv) ?_
      refine WL_step rfl (R_lt_t rfl rfl (by omega)) ?_
      refine WL_nil ?_
      refine W_cond_t rfl ?_
      refine W_seq ?_
      refine W_region_l ?_
      refine WL_stepM rfl (R_as) ?_
      refine WL_stepM rfl (R_as) ?_
      refine WL_nil ?_
      refine W_ret ?_
      (have e : allocQ ins s = (ins, 0, 4) := (by unfold allocQ; rw [if_pos hs, if_neg hz]); exact ⟨_, rfl, by rw [e]; rfl, by rw [e]; exact hH⟩)
  · have H := Hp.refl w
    refine W_seq ?_
    refine W_region_l ?_
    refine WL_stepM rfl (R_as) ?_
    refine WL_stepM rfl (R_as) ?_
    refine WL_nil ?_
    refine W_seq ?_
    refine W_seq ?_
    refine W_region_l ?_
    refine WL_stepM rfl (R_mv) ?_
    refine WL_stepM rfl (R_mv) ?_
    (refine WL_call rfl (R_call rfl Try.call63 rfl) (is_ret s hS) ?_; rintro _ w11 ⟨rfl, H1⟩; rw [decide_eq_false hs]; replace H := H.seq0 H1; clear H1)
    refine WL_step rfl (R_not_f rfl) ?_
    refine WL_nil ?_
    refine W_cond_t rfl ?_
    refine W_seq ?_
    refine W_region_l ?_
    refine WL_stepM rfl (R_as) ?_
    refine WL_stepM rfl (R_as) ?_
    refine WL_nil ?_
    refine W_ret ?_
    (have e : allocQ ins s = (ins, 0, 1) := if_neg hs; exact ⟨_, rfl, by rw [e]; rfl, by rw [e]; exact hH.next H⟩)
end
end Go.Proofs.Ytjfcnmbalojehaa.Quota

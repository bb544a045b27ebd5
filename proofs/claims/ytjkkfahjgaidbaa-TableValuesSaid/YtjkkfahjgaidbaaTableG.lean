/-
  Adding, told by whether there is a place; package table's own try.
-/
import Derived.Test.YtjkkfahjgaidbaaTableF
namespace Go.Proofs.Ytjkkfahjgaidbaa.Tab
open Go Go.Proofs Go.Proofs.Ytjkkfahjgaidbaa.Fx
set_option maxRecDepth 100000
set_option linter.unusedVariables false
set_option linter.unusedSimpArgs false
set_option maxHeartbeats 1000000

section
variable {w : World} {p b : Nat} {l : List Pl} {N : Nat}

theorem add_yes {i : Nat} {a : Pl} (hp : w.heap[p]? = some (blk [sl b 0 N N] 93)) (hb : w.heap[b]? = some (blk (rows plc l) 95)) (hN : l.length = N) (hN2 : N ≤ 256) (hg : ∀ a ∈ l, a.g ≤ 1000001)
    (hv : ∀ a ∈ l, a.v.oneCell' = true) (x : Int) (h : l[i]? = some a) (hf : free a) (hlt : ∀ j a', j < i → l[j]? = some a' → ¬ free a') :
    Ret Try.prog 27 #[ptr p 0, I x] w fun v w' => v = .tuple #[I (i + 256 * a.g : Nat), .bool true] ∧ Hp w [(b, blk (rows plc (l.set i ⟨I x, a.g, true⟩)) 95)] w' := by
  refine (add_ret hp hb hN hN2 hg hv x).mono ?_
  rintro v w' (⟨i', a', h', hf', hlt', hv', H⟩ | ⟨hno, _⟩)
  · rcases Nat.lt_trichotomy i i' with hh | rfl | hh
    · exact (hlt' i a hh h hf).elim
    · rw [h] at h'; cases h'; exact ⟨hv', H⟩
    · exact (hlt i' a' hh h' hf').elim
  · exact (hno a (List.mem_of_getElem? h) hf).elim

theorem add_no (hp : w.heap[p]? = some (blk [sl b 0 N N] 93)) (hb : w.heap[b]? = some (blk (rows plc l) 95)) (hN : l.length = N) (hN2 : N ≤ 256) (hg : ∀ a ∈ l, a.g ≤ 1000001)
    (hv : ∀ a ∈ l, a.v.oneCell' = true) (x : Int) (hno : ∀ a ∈ l, ¬ free a) :
    Ret Try.prog 27 #[ptr p 0, I x] w fun v w' => v = .tuple #[I 0, .bool false] ∧ Hp w [] w' := by
  refine (add_ret hp hb hN hN2 hg hv x).mono ?_
  rintro v w' (⟨i', a', h', hf', _⟩ | ⟨_, hv', H⟩)
  · exact (hno a' (List.mem_of_getElem? h') hf').elim
  · exact ⟨hv', H⟩
end

theorem awake_ret (w : World) : Ret Try.prog 31 #[] w fun v w' => v = .bool true ∧ Hp w [] w' := by
  refine Ret_of_W (args := []) Try.func31 rfl Try.ntmps31 Try.results31 (by simp) ?_
  have H := Hp.refl w
  refine W_seq ?_
  refine W_region_l ?_
  refine WL_stepM rfl (R_as) ?_
  refine WL_nil ?_
  refine W_seq ?_
  refine W_region_l ?_
  (refine WL_call rfl (R_call rfl Try.call26 rfl) (new_ret 2 _) ?_; rintro _ w7 ⟨p, b, rfl, H1, hp, hb⟩; rw [show szOf 2 = 2 from rfl] at H1; replace H := H.seq H1 (okSeq_new hp (okSeq_new hb okSeq_nil)); clear H1)
  refine WL_stepM rfl (R_as) ?_
  refine WL_nil ?_
  refine W_seq ?_
  refine W_seq ?_
  refine W_region_l ?_
  refine WL_stepM rfl (R_mv) ?_
  refine WL_step rfl (R_eq_ptr_nil Try.underlying52 rfl rfl) ?_
  refine WL_nil ?_
  refine W_cond_f rfl ?_
  refine W_skip ?_
  refine W_seq ?_
  refine W_region_l ?_
  refine WL_stepM rfl (R_mv) ?_
  (refine WL_call rfl (R_call rfl Try.call27 rfl) (add_yes (l := [newPl, newPl]) (i := 0) (a := newPl) (H.get (.there .here)) (H.get .here) rfl (by decide) (by simp [newPl]) (by simp [newPl, Value.oneCell']) 5 rfl ⟨rfl, by decide⟩ (by intro j a' hj; omega)) ?_; rintro _ w21 ⟨rfl, H1⟩; replace H := H.seq H1 (okSeq_set .here okSeq_nil); clear H1)
  refine WL_stepM rfl (R_mv) ?_
  refine WL_step rfl (R_extract rfl rfl) ?_
  refine WL_step rfl (R_extract rfl rfl) ?_
  refine WL_stepM rfl (R_as) ?_
  refine WL_stepM rfl (R_as) ?_
  refine WL_nil ?_
  refine W_seq ?_
  refine W_region_l ?_
  refine WL_stepM rfl (R_mv) ?_
  refine WL_stepM rfl (R_mv) ?_
  (refine WL_call rfl (R_call rfl Try.call28 rfl) (drop_yes (l := [⟨I 5, 1, true⟩, newPl]) (i := 0) (a := ⟨I 5, 1, true⟩) (H.get (.there .here)) (H.get .here) rfl (by decide) rfl (by decide) rfl) ?_; rintro _ w32 ⟨rfl, H1⟩; replace H := H.seq H1 (okSeq_set .here okSeq_nil); clear H1)
  refine WL_stepM rfl (R_as) ?_
  refine WL_nil ?_
  refine W_seq ?_
  refine W_region_l ?_
  refine WL_stepM rfl (R_mv) ?_
  (refine WL_call rfl (R_call rfl Try.call27 rfl) (add_yes (l := [⟨I 0, 2, false⟩, newPl]) (i := 0) (a := ⟨I 0, 2, false⟩) (H.get (.there .here)) (H.get .here) rfl (by decide) (by simp [newPl]) (by simp [newPl, Value.oneCell']) 6 rfl ⟨rfl, by decide⟩ (by intro j a' hj; omega)) ?_; rintro _ w38 ⟨rfl, H1⟩; replace H := H.seq H1 (okSeq_set .here okSeq_nil); clear H1)
  refine WL_stepM rfl (R_mv) ?_
  refine WL_step rfl (R_extract rfl rfl) ?_
  refine WL_step rfl (R_extract rfl rfl) ?_
  refine WL_stepM rfl (R_as) ?_
  refine WL_stepM rfl (R_as) ?_
  refine WL_nil ?_
  refine W_seq ?_
  refine W_region_l ?_
  refine WL_stepM rfl (R_mv) ?_
  refine WL_stepM rfl (R_mv) ?_
  (refine WL_call rfl (R_call rfl Try.call29 rfl) (get_yes (l := [⟨I 6, 2, true⟩, newPl]) (i := 0) (a := ⟨I 6, 2, true⟩) (H.get (.there .here)) (H.get .here) rfl (by decide) rfl (by decide) rfl) ?_; rintro _ w49 ⟨rfl, H1⟩; replace H := H.seq0 H1; clear H1)
  refine WL_stepM rfl (R_mv) ?_
  refine WL_step rfl (R_extract rfl rfl) ?_
  refine WL_step rfl (R_extract rfl rfl) ?_
  refine WL_stepM rfl (R_as) ?_
  refine WL_stepM rfl (R_as) ?_
  refine WL_nil ?_
  refine W_seq ?_
  refine W_region_l ?_
  refine WL_stepM rfl (R_mv) ?_
  refine WL_step rfl (R_eq_t rfl rfl (by decide)) ?_
  refine WL_stepM rfl (R_mv) ?_
  refine WL_guard_t rfl rfl ?_
  refine WL_stepM rfl (R_mv) ?_
  refine WL_stepM rfl (R_pk_t rfl) ?_
  refine WL_stepM rfl (R_mv) ?_
  refine WL_guard_t rfl rfl ?_
  refine WL_stepM rfl (R_mv) ?_
  refine WL_stepM rfl (R_pk_t rfl) ?_
  refine WL_stepM rfl (R_mv) ?_
  refine WL_guard_t rfl rfl ?_
  refine WL_stepM rfl (R_mv) ?_
  refine WL_guard_t rfl rfl ?_
  refine WL_step rfl (R_eq_t rfl rfl (by decide)) ?_
  refine WL_stepM rfl (R_pk_t rfl) ?_
  refine WL_stepM rfl (R_mv) ?_
  refine WL_guard_t rfl rfl ?_
  refine WL_stepM rfl (R_mv) ?_
  refine WL_stepM rfl (R_pk_t rfl) ?_
  refine WL_stepM rfl (R_mv) ?_
  refine WL_guard_t rfl rfl ?_
  refine WL_stepM rfl (R_mv) ?_
  refine WL_guard_t rfl rfl ?_
  refine WL_step rfl (R_eq_t rfl rfl (by omega)) ?_
  refine WL_stepM rfl (R_pk_t rfl) ?_
  refine WL_stepM rfl (R_mv) ?_
  refine WL_guard_t rfl rfl ?_
  refine WL_stepM rfl (R_mv) ?_
  refine WL_stepM rfl (R_pk_t rfl) ?_
  refine WL_stepM rfl (R_mv) ?_
  refine WL_guard_t rfl rfl ?_
  refine WL_stepM rfl (R_mv) ?_
  refine WL_guard_t rfl rfl ?_
  (refine WL_call rfl (R_call rfl Try.call30 rfl) (len_ret (l := [⟨I 6, 2, true⟩, newPl]) (H.get (.there .here)) (H.get .here) rfl (by decide) (by simp [newPl]) (by simp [newPl, Value.oneCell'])) ?_; rintro _ w92 ⟨rfl, H1⟩; replace H := H.seq0 H1; clear H1)
  refine WL_guard_t rfl rfl ?_
  refine WL_step rfl (R_eq_t rfl rfl (by decide)) ?_
  refine WL_stepM rfl (R_pk_t rfl) ?_
  refine WL_stepM rfl (R_as) ?_
  refine WL_nil ?_
  refine W_ret ?_
  exact ⟨_, rfl, rfl, H.none (by repeat' first | exact kNil | apply kCons | apply kApp | assumption | exact OwnS.keys (by assumption))⟩
end Go.Proofs.Ytjkkfahjgaidbaa.Tab

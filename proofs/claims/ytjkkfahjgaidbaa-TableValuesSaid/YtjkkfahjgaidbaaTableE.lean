/-
  The names that are in a table.
-/
import Derived.Test.YtjkkfahjgaidbaaTableD
namespace Go.Proofs.Ytjkkfahjgaidbaa.Tab
open Go Go.Proofs Go.Proofs.Ytjkkfahjgaidbaa.Fx
set_option maxRecDepth 100000
set_option linter.unusedVariables false
set_option linter.unusedSimpArgs false
set_option maxHeartbeats 1000000

/-- the names that are there, from a place on -/
def namesFrom : Nat → List Pl → List Int
  | _, [] => []
  | k, a :: l => if a.u = true then ((k + 256 * a.g : Nat) : Int) :: namesFrom (k + 1) l else namesFrom (k + 1) l

theorem namesFrom_le : ∀ (l : List Pl) (k : Nat), (namesFrom k l).length ≤ l.length
  | [], k => by simp [namesFrom]
  | a :: l, k => by
    have := namesFrom_le l (k + 1)
    unfold namesFrom
    split <;> simp <;> omega

section
variable {w : World} {p b : Nat} {l : List Pl} {N : Nat}

theorem names_ret (hp : w.heap[p]? = some (blk [sl b 0 N N] 93)) (hb : w.heap[b]? = some (blk (rows plc l) 95)) (hN : l.length = N) (hN2 : N ≤ 256) (hg : ∀ a ∈ l, a.g ≤ 1000001)
    (hv : ∀ a ∈ l, a.v.oneCell' = true) :
    Ret Try.prog 55 #[ptr p 0] w fun v w' => ∃ M, OwnS w.heap.size 3 1 v (namesFrom 0 l).length ((namesFrom 0 l).map I) M ∧ Hp w M w' := by
  refine Ret_of_W (args := [_]) Try.func55 rfl Try.ntmps55 Try.results55 (by simp) ?_
  have H := Hp.refl w
  have hlen := rows_length plc_len l
  have hO := OwnS.nil w.heap.size 3 1
  have hnl := namesFrom_le l 0
  refine W_seq ?_
  refine W_region_l ?_
  refine WL_stepM rfl (R_as) ?_
  refine WL_nil ?_
  refine W_seq ?_
  refine W_region_l ?_
  refine WL_stepM rfl (R_as) ?_
  refine WL_nil ?_
  refine W_seq ?_
  refine W_seq ?_
  refine W_region_l ?_
  refine WL_stepM rfl (R_mv) ?_
  refine WL_step rfl (R_nilCheck rfl) ?_
  refine WL_step rfl (R_fieldAddr (off' := 0) Try.underlying93 rfl Try.sizeOf91 (by decide) rfl rfl) ?_
  refine WL_step rfl (R_load Try.isAgg91 rfl (H.block hp (by simp)) rfl) ?_
  refine WL_step rfl (R_len_slice Try.underlying91 rfl) ?_
  refine WL_stepM rfl (R_mv) ?_
  refine WL_nil ?_
  refine W_block ?_
  refine W_loop (fun (i : Nat) E w' => ∃ v M out, i ≤ N ∧ E 0 = ptr p 0 ∧ E 3 = v ∧ E 9 = sl b 0 N N ∧ E 10 = I N ∧ E 11 = I i ∧ out ++ namesFrom i (l.drop i) = namesFrom 0 l ∧ OwnS w.heap.size 3 1 v out.length (out.map I) M ∧ Hp w M w') (fun i => N - i) 0 ?_ ?_
  · exact ⟨_, [], [], by omega, rfl, rfl, rfl, rfl, rfl, rfl, hO, H⟩
  · (clear H hO; rintro i E w1 ⟨v, M, out, hi, h0, h3, h1, h2, h4, hout, hO, H⟩; refine W_know5 h0 h3 h1 h2 h4 ?_; have hol := congrArg List.length hout; rw [List.length_append] at hol; by_cases hlt : i < N)
    · refine W_seq ?_
      refine W_region_l ?_
      refine WL_step rfl (R_lt_t rfl rfl (by omega)) ?_
      refine WL_nil ?_
      refine W_seq ?_
      refine W_cond_t rfl ?_
      refine W_skip ?_
      refine W_seq ?_
      refine W_block ?_
      refine W_seq ?_
      (obtain ⟨⟨av, ag, au⟩, h⟩ : ∃ a, l[i]? = some a := ⟨_, List.getElem?_eq_getElem (by omega)⟩; have hone := hv _ (List.mem_of_getElem? h); have hga := hg _ (List.mem_of_getElem? h); simp only at hone hga; rw [List.drop_eq_getElem_cons (by omega), (List.getElem?_eq_some_iff.1 h).2] at hout; cases au <;> refine W_region_l ?_)
      · refine WL_stepM rfl (R_mv) ?_
        refine WL_step rfl (R_indexAddr Try.underlying91 Try.sizeOf95 rfl rfl (by omega) (by omega) idx0_castn) ?_
        refine WL_step rfl (R_loadA (vs := [av, I ag, .bool _]) Try.isAgg95 Try.sizeOf95 rfl (H.blockN hb (by repeat' first | exact kNil | apply kCons | apply kApp | assumption | exact OwnS.keys (by assumption))) (pl_all h) (by omega)) ?_
        (refine WL_effn rfl (E_alloc H Try.zeroValue95 rfl) ?_; clear H; intro b37 w37 hb37 H)
        refine WL_stepM rfl (R_as) ?_
        (refine WL_effu rfl (E_storeA (vs := [av, I ag, .bool _]) H Try.sizeOf95 rfl rfl (plc_one (a := ⟨av, ag, _⟩) hone) .here (by simp)) ?_; clear H; intro w39 H; simp only [List.take_zero, List.nil_append, List.length_cons, List.length_nil, Nat.zero_add, List.drop_succ_cons, List.drop_zero, List.append_nil] at H)
        refine WL_nil ?_
        refine W_seq ?_
        refine W_region_l ?_
        refine WL_step rfl (R_fieldAddr (off' := 2) Try.underlying95 rfl Try.sizeOf4 (by decide) rfl rfl) ?_
        refine WL_step rfl (R_load Try.isAgg4 rfl (H.get .here) rfl) ?_
        refine WL_nil ?_
        refine W_cond_f rfl ?_
        refine W_skip ?_
        refine W_region_l ?_
        refine WL_step rfl (R_add rfl rfl (w_i64 (by omega))) ?_
        refine WL_stepM rfl (R_mv) ?_
        refine WL_nil ?_
        exact ⟨i + 1, by omega, v, M, out, by omega, rfl, rfl, rfl, rfl, rfl, hout, hO, H.pop (by assumption)⟩
      · refine WL_stepM rfl (R_mv) ?_
        refine WL_step rfl (R_indexAddr Try.underlying91 Try.sizeOf95 rfl rfl (by omega) (by omega) idx0_castn) ?_
        refine WL_step rfl (R_loadA (vs := [av, I ag, .bool _]) Try.isAgg95 Try.sizeOf95 rfl (H.blockN hb (by repeat' first | exact kNil | apply kCons | apply kApp | assumption | exact OwnS.keys (by assumption))) (pl_all h) (by omega)) ?_
        (refine WL_effn rfl (E_alloc H Try.zeroValue95 rfl) ?_; clear H; intro b56 w56 hb56 H)
        refine WL_stepM rfl (R_as) ?_
        (refine WL_effu rfl (E_storeA (vs := [av, I ag, .bool _]) H Try.sizeOf95 rfl rfl (plc_one (a := ⟨av, ag, _⟩) hone) .here (by simp)) ?_; clear H; intro w58 H; simp only [List.take_zero, List.nil_append, List.length_cons, List.length_nil, Nat.zero_add, List.drop_succ_cons, List.drop_zero, List.append_nil] at H)
        refine WL_nil ?_
        refine W_seq ?_
        refine W_region_l ?_
        refine WL_step rfl (R_fieldAddr (off' := 2) Try.underlying95 rfl Try.sizeOf4 (by decide) rfl rfl) ?_
        refine WL_step rfl (R_load Try.isAgg4 rfl (H.get .here) rfl) ?_
        refine WL_nil ?_
        refine W_cond_t rfl ?_
        refine W_region_l ?_
        refine WL_stepM rfl (R_mv) ?_
        refine WL_stepM rfl (R_mv) ?_
        refine WL_stepM rfl (R_mv) ?_
        (refine WL_call rfl (R_call rfl Try.call59 rfl) (name_ret (H.blockN hp (by repeat' first | exact kNil | apply kCons | apply kApp | assumption | exact OwnS.keys (by assumption))) (H.blockN hb (by repeat' first | exact kNil | apply kCons | apply kApp | assumption | exact OwnS.keys (by assumption))) hN hN2 h hga) ?_; rintro _ w70 ⟨rfl, H1⟩; replace H := H.seq0 H1; clear H1)
        (refine WL_effn rfl (E_buildSlice (vs := [(.int _ _)]) H Try.underlying51 Try.sizeOf3 Try.zeroValue3 rfl rfl (by decide) rfl rfl) ?_; clear H; intro b71 w71 hb71 H)
        (refine WL_effm rfl (E_append H (.there (.there .last)) hO Try.underlying51 Try.typeInfo3 rfl rfl rfl rfl rfl rfl (src_one Try.underlying51 (H.get .here) rfl) (by omega) (by simp only [Try.t3]; omega)) ?_; clear H hO; intro vN MN w72 hO H; replace H := H.pop (by assumption))
        refine WL_stepM rfl (R_as) ?_
        refine WL_nil ?_
        refine W_region_l ?_
        refine WL_step rfl (R_add rfl rfl (w_i64 (by omega))) ?_
        refine WL_stepM rfl (R_mv) ?_
        refine WL_nil ?_
        exact ⟨i + 1, by omega, vN, MN, out ++ [((i + 256 * ag : Nat) : Int)], by omega, rfl, rfl, rfl, rfl, rfl, (by rw [List.append_assoc]; exact hout), (by rw [List.length_append, List.map_append]; exact hO), H.pop (by assumption)⟩
    · refine W_seq ?_
      refine W_region_l ?_
      refine WL_step rfl (R_lt_f rfl rfl (by omega)) ?_
      refine WL_nil ?_
      refine W_seq ?_
      refine W_cond_f rfl ?_
      refine W_exit ?_
      refine (if_pos rfl).mpr ?_
      refine W_seq ?_
      refine W_region_l ?_
      refine WL_stepM rfl (R_mv) ?_
      refine WL_stepM rfl (R_as) ?_
      refine WL_nil ?_
      refine W_ret ?_
      (rw [List.drop_of_length_le (by omega)] at hout; simp only [namesFrom, List.append_nil] at hout; subst hout; exact ⟨_, rfl, M, hO, H⟩)
end
end Go.Proofs.Ytjkkfahjgaidbaa.Tab

/-
  Things that are added to a table; the names that are there.
-/
import Derived.Test.YtjkkfahjgaidbaaTableC
namespace Go.Proofs.Ytjkkfahjgaidbaa.Tab
open Go Go.Proofs Go.Proofs.Ytjkkfahjgaidbaa.Fx
set_option maxRecDepth 100000
set_option linter.unusedVariables false
set_option linter.unusedSimpArgs false
set_option maxHeartbeats 1000000

/-- a place that may be taken -/
def free (a : Pl) : Prop := a.u = false ∧ a.g ≤ 1000000

theorem pl_all {l : List Pl} {i : Nat} {a : Pl} (h : l[i]? = some a) : ((rows plc l).drop (i * 3)).take 3 = plc a := rows_one plc_len h

theorem plc_one {a : Pl} (h : a.v.oneCell' = true) : ∀ v ∈ plc a, v.oneCell' = true := by
  intro v hv
  simp only [plc, List.mem_cons, List.not_mem_nil, or_false] at hv
  rcases hv with rfl | rfl | rfl
  · exact h
  · rfl
  · rfl

theorem add_set {l : List Pl} {i ag : Nat} {av x : Value} (h : l[i]? = some ⟨av, ag, false⟩) : ((rows plc l).set (i * 3 + 0) x).set (i * 3 + 2) (.bool true) = rows plc (l.set i ⟨x, ag, true⟩) := by
  have hi := (List.getElem?_eq_some_iff.1 h).1
  rw [rows_set (j := 0) (v := x) (a' := ⟨x, ag, false⟩) plc_len h (by decide) rfl]
  rw [rows_set (j := 2) (v := .bool true) (a' := ⟨x, ag, true⟩) (hf := plc_len) (l := l.set i ⟨x, ag, false⟩) (a := ⟨x, ag, false⟩) (List.getElem?_set_self hi) (by decide) rfl, List.set_set]

section
variable {w : World} {p b : Nat} {l : List Pl} {N : Nat}

theorem add_ret (hp : w.heap[p]? = some (blk [sl b 0 N N] 93)) (hb : w.heap[b]? = some (blk (rows plc l) 95)) (hN : l.length = N) (hN2 : N ≤ 256) (hg : ∀ a ∈ l, a.g ≤ 1000001) (hv : ∀ a ∈ l, a.v.oneCell' = true) (x : Int) :
    Ret Try.prog 27 #[ptr p 0, I x] w fun v w' =>
      (∃ i a, l[i]? = some a ∧ free a ∧ (∀ j a', j < i → l[j]? = some a' → ¬ free a') ∧ v = .tuple #[I (i + 256 * a.g : Nat), .bool true] ∧ Hp w [(b, blk (rows plc (l.set i ⟨I x, a.g, true⟩)) 95)] w') ∨
      ((∀ a ∈ l, ¬ free a) ∧ v = .tuple #[I 0, .bool false] ∧ Hp w [] w') := by
  refine Ret_of_W (args := [_, _]) Try.func27 rfl Try.ntmps27 Try.results27 (by simp) ?_
  have H := (Hp.focus0 hp).focus hb (by simpa using ne_of_obj hb hp (by simp))
  have hlen := rows_length plc_len l
  refine W_seq ?_
  refine W_region_l ?_
  refine WL_stepM rfl (R_as) ?_
  refine WL_stepM rfl (R_as) ?_
  refine WL_nil ?_
  refine W_seq ?_
  refine W_seq ?_
  refine W_region_l ?_
  refine WL_stepM rfl (R_mv) ?_
  refine WL_step rfl (R_nilCheck rfl) ?_
  refine WL_step rfl (R_fieldAddr (off' := 0) Try.underlying93 rfl Try.sizeOf91 (by decide) rfl rfl) ?_
  refine WL_step rfl (R_load Try.isAgg91 rfl (H.get (.there .here)) rfl) ?_
  refine WL_step rfl (R_len_slice Try.underlying91 rfl) ?_
  refine WL_stepM rfl (R_mv) ?_
  refine WL_nil ?_
  refine W_block ?_
  refine W_loop (fun (i : Nat) E w' => i ≤ N ∧ E 0 = ptr p 0 ∧ E 1 = I x ∧ E 11 = sl b 0 N N ∧ E 12 = I N ∧ E 13 = I i ∧ (∀ j a', j < i → l[j]? = some a' → ¬ free a') ∧ Hp w [(b, blk (rows plc l) 95), (p, blk [sl b 0 N N] 93)] w') (fun i => N - i) 0 ?_ ?_
  · exact ⟨by omega, rfl, rfl, rfl, rfl, rfl, fun j a' hj _ => absurd hj (by omega), H⟩
  · (clear H; rintro i E w1 ⟨hi, h0, h1, h2, h3, h4, hf, H⟩; refine W_know5 h0 h1 h2 h3 h4 ?_; by_cases hlt : i < N)
    · refine W_seq ?_
      refine W_region_l ?_
      refine WL_step rfl (R_lt_t rfl rfl (by omega)) ?_
      refine WL_nil ?_
      refine W_seq ?_
      refine W_cond_t rfl ?_
      refine W_skip ?_
      refine W_seq ?_
      refine W_block ?_
      refine W_seq ?_
      (obtain ⟨⟨av, ag, au⟩, h⟩ : ∃ a, l[i]? = some a := ⟨_, List.getElem?_eq_getElem (by omega)⟩; have hone := hv _ (List.mem_of_getElem? h); simp only at hone; cases au <;> by_cases hg6 : ag ≤ 1000000 <;> refine W_region_l ?_)
      · refine WL_stepM rfl (R_mv) ?_
        refine WL_step rfl (R_indexAddr Try.underlying91 Try.sizeOf95 rfl rfl (by omega) (by omega) idx0_castn) ?_
        refine WL_step rfl (R_loadA (vs := [av, I ag, .bool _]) Try.isAgg95 Try.sizeOf95 rfl (H.get .here) (pl_all h) (by omega)) ?_
        (refine WL_effn rfl (E_alloc H Try.zeroValue95 rfl) ?_; clear H; intro b34 w34 hb34 H)
        refine WL_stepM rfl (R_as) ?_
        (refine WL_effu rfl (E_storeA (vs := [av, I ag, .bool _]) H Try.sizeOf95 rfl rfl (plc_one (a := ⟨av, ag, _⟩) hone) .here (by simp)) ?_; clear H; intro w36 H; simp only [List.take_zero, List.nil_append, List.length_cons, List.length_nil, Nat.zero_add, List.drop_succ_cons, List.drop_zero, List.append_nil] at H)
        refine WL_nil ?_
        refine W_seq ?_
        refine W_region_l ?_
        refine WL_step rfl (R_fieldAddr (off' := 2) Try.underlying95 rfl Try.sizeOf4 (by decide) rfl rfl) ?_
        refine WL_step rfl (R_load Try.isAgg4 rfl (H.get .here) rfl) ?_
        refine WL_step rfl (R_not_f rfl) ?_
        refine WL_stepM rfl (R_mv) ?_
        refine WL_guard_t rfl rfl ?_
        refine WL_step rfl (R_fieldAddr (off' := 1) Try.underlying95 rfl Try.sizeOf3 (by decide) rfl rfl) ?_
        refine WL_guard_t rfl rfl ?_
        refine WL_step rfl (R_load Try.isAgg3 rfl (H.get .here) rfl) ?_
        refine WL_guard_t rfl rfl ?_
        refine WL_step rfl (R_le_t rfl rfl (by omega)) ?_
        refine WL_stepM rfl (R_pk_t rfl) ?_
        refine WL_nil ?_
        refine W_cond_t rfl ?_
        refine W_seq ?_
        (refine W_draw (Kp [(p, blk [sl b 0 N N] 93)]) (fun _ => false) (by kernel_rfl) H ?_; clear H; intro w54 H)
        refine WA_takeM 0 rfl rfl rfl (by kernel_rfl) (by kernel_rfl) H.kp.tail.tail (fun _ hC => R_mv) ?_
        refine WA_take 1 rfl rfl rfl (by kernel_rfl) (by kernel_rfl) H.kp.tail.tail (fun _ hC => R_nilCheck rfl) ?_
        refine WA_take 2 rfl rfl rfl (by kernel_rfl) (by kernel_rfl) H.kp.tail.tail (fun _ hC => R_fieldAddr (off' := 0) Try.underlying93 rfl Try.sizeOf91 (by decide) rfl rfl) ?_
        refine WA_take 3 rfl rfl rfl (by kernel_rfl) (by kernel_rfl) H.kp.tail.tail (fun _ hC => R_load Try.isAgg91 rfl (hC.get .here) rfl) ?_
        refine WA_takeM 4 rfl rfl rfl (by kernel_rfl) (by kernel_rfl) H.kp.tail.tail (fun _ hC => R_mv) ?_
        refine WA_takeM 5 rfl rfl rfl (by kernel_rfl) (by kernel_rfl) H.kp.tail.tail (fun _ hC => R_mv) ?_
        refine WA_take 6 rfl rfl rfl (by kernel_rfl) (by kernel_rfl) H.kp.tail.tail (fun _ hC => R_nilCheck rfl) ?_
        refine WA_take 7 rfl rfl rfl (by kernel_rfl) (by kernel_rfl) H.kp.tail.tail (fun _ hC => R_fieldAddr (off' := 0) Try.underlying93 rfl Try.sizeOf91 (by decide) rfl rfl) ?_
        refine WA_take 8 rfl rfl rfl (by kernel_rfl) (by kernel_rfl) H.kp.tail.tail (fun _ hC => R_load Try.isAgg91 rfl (hC.get .here) rfl) ?_
        refine WA_takeM 9 rfl rfl rfl (by kernel_rfl) (by kernel_rfl) H.kp.tail.tail (fun _ hC => R_mv) ?_
        refine WA_takeM 10 rfl rfl rfl (by kernel_rfl) (by kernel_rfl) H.kp.tail.tail (fun _ hC => R_mv) ?_
        refine WA_take 11 rfl rfl rfl (by kernel_rfl) (by kernel_rfl) H.kp.tail.tail (fun _ hC => R_indexAddr Try.underlying91 Try.sizeOf95 rfl rfl (by omega) (by omega) idx0_castn) ?_
        refine WA_take 12 rfl rfl rfl (by kernel_rfl) (by kernel_rfl) H.kp.tail.tail (fun _ hC => R_fieldAddr Try.underlying95 rfl Try.sizeOf3 (by decide) rfl rfl) ?_
        refine WA_one (i := 13) (by kernel_rfl) ?_
        (refine WI_effu rfl (.inl rfl) (E_store (v := (.int _ _)) H Try.sizeOf3 rfl rfl rfl (.there .here) (by simp; omega)) (fun _ H => (by first | exact fun h => absurd h (by decide) | exact fun _ => H | exact fun _ => H.none (by repeat' first | exact kNil | apply kCons | apply kApp | assumption | exact OwnS.keys (by assumption)) | exact fun _ => H.dropN (by repeat' first | exact kNil | apply kCons | apply kApp | assumption | exact OwnS.keys (by assumption)) | exact fun _ => H.pop (by assumption) | exact fun _ => (H.pop (by assumption)).pop (by assumption) | exact fun _ => H.kp | exact fun _ => H.kp.tail | exact fun _ => H.kp.tail.tail | exact fun _ => H.kp.tail.tail.tail | exact fun _ => H.kp.sub (by simp) | exact fun _ => Kp.nil)) ?_; clear H; intro w69 H)
        refine WA_take 14 rfl rfl rfl (by kernel_rfl) (by kernel_rfl) H.kp.tail.tail (fun _ hC => R_indexAddr Try.underlying91 Try.sizeOf95 rfl rfl (by omega) (by omega) idx0_castn) ?_
        refine WA_take 15 rfl rfl rfl (by kernel_rfl) (by kernel_rfl) H.kp.tail.tail (fun _ hC => R_fieldAddr (off' := _ + 2) Try.underlying95 rfl Try.sizeOf4 (by decide) rfl rfl) ?_
        refine WA_one (i := 16) (by kernel_rfl) ?_
        (refine WI_effu rfl (.inl rfl) (E_store (v := (.bool _)) H Try.sizeOf4 rfl rfl rfl (.there .here) (by simp; omega)) (fun _ H => (by first | exact fun h => absurd h (by decide) | exact fun _ => H | exact fun _ => H.none (by repeat' first | exact kNil | apply kCons | apply kApp | assumption | exact OwnS.keys (by assumption)) | exact fun _ => H.dropN (by repeat' first | exact kNil | apply kCons | apply kApp | assumption | exact OwnS.keys (by assumption)) | exact fun _ => H.pop (by assumption) | exact fun _ => (H.pop (by assumption)).pop (by assumption) | exact fun _ => H.kp | exact fun _ => H.kp.tail | exact fun _ => H.kp.tail.tail | exact fun _ => H.kp.tail.tail.tail | exact fun _ => H.kp.sub (by simp) | exact fun _ => Kp.nil)) ?_; clear H; intro w73 H)
        refine WA_done (by kernel_rfl) ?_
        refine W_seq ?_
        (replace H : Hp w [(_, blk [av, I ag, .bool false] _), (b, blk (((rows plc l).set (i * 3 + 0) (I x)).set (i * 3 + 2) (.bool true)) 95), (p, blk [sl b 0 N N] 93)] _ := H; rw [add_set h] at H; refine W_region_l ?_)
        refine WL_stepM rfl (R_mv) ?_
        refine WL_stepM rfl (R_mv) ?_
        (refine WL_call rfl (R_call rfl Try.call59 rfl) (name_ret (a := ⟨I x, ag, true⟩) (H.get (.there (.there .here))) (H.get (.there .here)) (by simpa using hN) hN2 (List.getElem?_set_self (by omega)) (by show ag ≤ 1000001; omega)) ?_; rintro _ w79 ⟨rfl, H1⟩; replace H := H.seq0 H1; clear H1)
        refine WL_stepM rfl (R_as) ?_
        refine WL_stepM rfl (R_as) ?_
        refine WL_nil ?_
        refine W_ret ?_
        exact ⟨_, rfl, .inl ⟨i, _, h, ⟨rfl, hg6⟩, hf, rfl, (H.pop (by assumption)).swap2.back hp⟩⟩
      · refine WL_stepM rfl (R_mv) ?_
        refine WL_step rfl (R_indexAddr Try.underlying91 Try.sizeOf95 rfl rfl (by omega) (by omega) idx0_castn) ?_
        refine WL_step rfl (R_loadA (vs := [av, I ag, .bool _]) Try.isAgg95 Try.sizeOf95 rfl (H.get .here) (pl_all h) (by omega)) ?_
        (refine WL_effn rfl (E_alloc H Try.zeroValue95 rfl) ?_; clear H; intro b88 w88 hb88 H)
        refine WL_stepM rfl (R_as) ?_
        (refine WL_effu rfl (E_storeA (vs := [av, I ag, .bool _]) H Try.sizeOf95 rfl rfl (plc_one (a := ⟨av, ag, _⟩) hone) .here (by simp)) ?_; clear H; intro w90 H; simp only [List.take_zero, List.nil_append, List.length_cons, List.length_nil, Nat.zero_add, List.drop_succ_cons, List.drop_zero, List.append_nil] at H)
        refine WL_nil ?_
        refine W_seq ?_
        refine W_region_l ?_
        refine WL_step rfl (R_fieldAddr (off' := 2) Try.underlying95 rfl Try.sizeOf4 (by decide) rfl rfl) ?_
        refine WL_step rfl (R_load Try.isAgg4 rfl (H.get .here) rfl) ?_
        refine WL_step rfl (R_not_f rfl) ?_
        refine WL_stepM rfl (R_mv) ?_
        refine WL_guard_t rfl rfl ?_
        refine WL_step rfl (R_fieldAddr (off' := 1) Try.underlying95 rfl Try.sizeOf3 (by decide) rfl rfl) ?_
        refine WL_guard_t rfl rfl ?_
        refine WL_step rfl (R_load Try.isAgg3 rfl (H.get .here) rfl) ?_
        refine WL_guard_t rfl rfl ?_
        refine WL_step rfl (R_le_f rfl rfl (by omega)) ?_
        refine WL_stepM rfl (R_pk_t rfl) ?_
        refine WL_nil ?_
        refine W_cond_f rfl ?_
        refine W_skip ?_
        refine W_region_l ?_
        refine WL_step rfl (R_add rfl rfl (w_i64 (by omega))) ?_
        refine WL_stepM rfl (R_mv) ?_
        refine WL_nil ?_
        exact ⟨i + 1, by omega, by omega, rfl, rfl, rfl, rfl, rfl, (fun j a' hj hja hfr => by rcases Nat.lt_or_ge j i with h' | h'; exact hf j a' h' hja hfr; obtain rfl : j = i := (by omega); rw [h] at hja; cases hja; first | exact hg6 hfr.2 | exact Bool.noConfusion hfr.1), H.pop (by assumption)⟩
      · refine WL_stepM rfl (R_mv) ?_
        refine WL_step rfl (R_indexAddr Try.underlying91 Try.sizeOf95 rfl rfl (by omega) (by omega) idx0_castn) ?_
        refine WL_step rfl (R_loadA (vs := [av, I ag, .bool _]) Try.isAgg95 Try.sizeOf95 rfl (H.get .here) (pl_all h) (by omega)) ?_
        (refine WL_effn rfl (E_alloc H Try.zeroValue95 rfl) ?_; clear H; intro b116 w116 hb116 H)
        refine WL_stepM rfl (R_as) ?_
        (refine WL_effu rfl (E_storeA (vs := [av, I ag, .bool _]) H Try.sizeOf95 rfl rfl (plc_one (a := ⟨av, ag, _⟩) hone) .here (by simp)) ?_; clear H; intro w118 H; simp only [List.take_zero, List.nil_append, List.length_cons, List.length_nil, Nat.zero_add, List.drop_succ_cons, List.drop_zero, List.append_nil] at H)
        refine WL_nil ?_
        refine W_seq ?_
        refine W_region_l ?_
        refine WL_step rfl (R_fieldAddr (off' := 2) Try.underlying95 rfl Try.sizeOf4 (by decide) rfl rfl) ?_
        refine WL_step rfl (R_load Try.isAgg4 rfl (H.get .here) rfl) ?_
        refine WL_step rfl (R_not_t rfl) ?_
        refine WL_stepM rfl (R_mv) ?_
        refine WL_guard_f rfl rfl (by decide) ?_
        refine WL_guard_f rfl rfl (by decide) ?_
        refine WL_guard_f rfl rfl (by decide) ?_
        refine WL_stepM rfl (R_pk_f rfl) ?_
        refine WL_nil ?_
        refine W_cond_f rfl ?_
        refine W_skip ?_
        refine W_region_l ?_
        refine WL_step rfl (R_add rfl rfl (w_i64 (by omega))) ?_
        refine WL_stepM rfl (R_mv) ?_
        refine WL_nil ?_
        exact ⟨i + 1, by omega, by omega, rfl, rfl, rfl, rfl, rfl, (fun j a' hj hja hfr => by rcases Nat.lt_or_ge j i with h' | h'; exact hf j a' h' hja hfr; obtain rfl : j = i := (by omega); rw [h] at hja; cases hja; first | exact hg6 hfr.2 | exact Bool.noConfusion hfr.1), H.pop (by assumption)⟩
      · refine WL_stepM rfl (R_mv) ?_
        refine WL_step rfl (R_indexAddr Try.underlying91 Try.sizeOf95 rfl rfl (by omega) (by omega) idx0_castn) ?_
        refine WL_step rfl (R_loadA (vs := [av, I ag, .bool _]) Try.isAgg95 Try.sizeOf95 rfl (H.get .here) (pl_all h) (by omega)) ?_
        (refine WL_effn rfl (E_alloc H Try.zeroValue95 rfl) ?_; clear H; intro b141 w141 hb141 H)
        refine WL_stepM rfl (R_as) ?_
        (refine WL_effu rfl (E_storeA (vs := [av, I ag, .bool _]) H Try.sizeOf95 rfl rfl (plc_one (a := ⟨av, ag, _⟩) hone) .here (by simp)) ?_; clear H; intro w143 H; simp only [List.take_zero, List.nil_append, List.length_cons, List.length_nil, Nat.zero_add, List.drop_succ_cons, List.drop_zero, List.append_nil] at H)
        refine WL_nil ?_
        refine W_seq ?_
        refine W_region_l ?_
        refine WL_step rfl (R_fieldAddr (off' := 2) Try.underlying95 rfl Try.sizeOf4 (by decide) rfl rfl) ?_
        refine WL_step rfl (R_load Try.isAgg4 rfl (H.get .here) rfl) ?_
        refine WL_step rfl (R_not_t rfl) ?_
        refine WL_stepM rfl (R_mv) ?_
        refine WL_guard_f rfl rfl (by decide) ?_
        refine WL_guard_f rfl rfl (by decide) ?_
        refine WL_guard_f rfl rfl (by decide) ?_
        refine WL_stepM rfl (R_pk_f rfl) ?_
        refine WL_nil ?_
        refine W_cond_f rfl ?_
        refine W_skip ?_
        refine W_region_l ?_
        refine WL_step rfl (R_add rfl rfl (w_i64 (by omega))) ?_
        refine WL_stepM rfl (R_mv) ?_
        refine WL_nil ?_
        exact ⟨i + 1, by omega, by omega, rfl, rfl, rfl, rfl, rfl, (fun j a' hj hja hfr => by rcases Nat.lt_or_ge j i with h' | h'; exact hf j a' h' hja hfr; obtain rfl : j = i := (by omega); rw [h] at hja; cases hja; first | exact hg6 hfr.2 | exact Bool.noConfusion hfr.1), H.pop (by assumption)⟩
    · refine W_seq ?_
      refine W_region_l ?_
      refine WL_step rfl (R_lt_f rfl rfl (by omega)) ?_
      refine WL_nil ?_
      refine W_seq ?_
      refine W_cond_f rfl ?_
      refine W_exit ?_
      refine (if_pos rfl).mpr ?_
      refine W_seq ?_
      refine W_region_l ?_
      refine WL_stepM rfl (R_as) ?_
      refine WL_stepM rfl (R_as) ?_
      refine WL_nil ?_
      refine W_ret ?_
      exact ⟨_, rfl, .inr ⟨fun a ha hfr => by obtain ⟨j, hj⟩ := List.mem_iff_getElem?.1 ha; exact hf j a (by have := (List.getElem?_eq_some_iff.1 hj).1; omega) hj hfr, rfl, (H.back hb).back hp⟩⟩
end
end Go.Proofs.Ytjkkfahjgaidbaa.Tab

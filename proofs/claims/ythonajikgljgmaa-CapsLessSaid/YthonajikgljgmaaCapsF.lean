/-
  The law CapsFull.
-/
import Derived.Test.YthonajikgljgmaaRevA
namespace Go.Proofs.Ythonajikgljgmaa.Reg
open Go Go.Proofs Go.Proofs.Ythonajikgljgmaa.Fx Go.Proofs.Ythonajikgljgmaa.TabC Go.Proofs.Ythonajikgljgmaa.Caps
set_option maxRecDepth 100000
set_option linter.unusedVariables false
set_option linter.unusedSimpArgs false
set_option maxHeartbeats 8000000

section
variable {w : World} {s : Nat} {PB : List (Nat × Nat)} {ts : List (List Pl)}
theorem spnames_yes {j : Nat} {q : Nat × Nat} {t : List Pl} (hS : Sp w s PB ts) (hq : PB[j]? = some q) (ht : ts[j]? = some t) :
    Ret Try.prog 29 #[ptr s 0, I j] w fun v w' => ∃ M, OwnS w.heap.size 3 1 v (namesFrom 0 t).length ((namesFrom 0 t).map I) M ∧ Hp w M w' := by
  obtain ⟨bs, cap, sp, hs, hbs⟩ := hS.ex
  have htp := hS.tp j q hq
  have htb := hS.tb j q t hq ht
  have hj := (List.getElem?_eq_some_iff.1 hq).1
  have hsz := hS.inv.sz t (List.mem_of_getElem? ht)
  have hgn := hS.inv.gn t (List.mem_of_getElem? ht)
  refine Ret_of_W (args := [_, _]) Try.func29 rfl Try.ntmps29 Try.results29 (by simp) ?_
  have H := Hp.refl w
  refine W_seq ?_
  refine W_region_l ?_
  refine WL_stepM rfl (R_as) ?_
  refine WL_nil ?_
  refine W_seq ?_
  refine W_seq ?_
  refine W_region_l ?_
  refine WL_stepM rfl (R_mv) ?_
  refine WL_stepM rfl (R_mv) ?_
  (refine WL_call rfl (R_call rfl Try.call43 rfl) (is_ret (hS.monoN H (by repeat' first | exact kNil | apply kCons | apply kApp | assumption | exact OwnS.keys (by assumption))) _) ?_; rintro _ w10 ⟨rfl, H1⟩; rw [decide_eq_true (show 0 ≤ (j : Int) ∧ (j : Int) < PB.length by omega)]; replace H := H.seq0 H1; clear H1)
  refine WL_step rfl (R_not_t rfl) ?_
  refine WL_nil ?_
  refine W_cond_f rfl ?_
  refine W_skip ?_
  refine W_seq ?_
  refine W_region_l ?_
  refine WL_stepM rfl (R_mv) ?_
  refine WL_step rfl (R_nilCheck rfl) ?_
  refine WL_step rfl (R_fieldAddr (off' := 0) Try.underlying90 rfl Try.sizeOf88 (by decide) rfl rfl) ?_
  refine WL_step rfl (R_load (v := sl bs 0 PB.length cap) Try.isAgg88 rfl (H.blockN hs (by repeat' first | exact kNil | apply kCons | apply kApp | assumption | exact OwnS.keys (by assumption))) rfl) ?_
  refine WL_stepM rfl (R_mv) ?_
  refine WL_step rfl (R_indexAddr Try.underlying88 Try.sizeOf91 rfl rfl (by omega) (by omega) idx0_cast) ?_
  refine WL_step rfl (R_load (v := ptr q.1 0) Try.isAgg91 rfl (H.blockN hbs (by repeat' first | exact kNil | apply kCons | apply kApp | assumption | exact OwnS.keys (by assumption))) (ptrs_get hq)) ?_
  (refine WL_call rfl (R_call rfl Try.call49 rfl) (TabC.names_ret (H.blockN htp (by repeat' first | exact kNil | apply kCons | apply kApp | assumption | exact OwnS.keys (by assumption))) (H.blockN htb (by repeat' first | exact kNil | apply kCons | apply kApp | assumption | exact OwnS.keys (by assumption))) hsz (by decide) hgn) ?_; rintro u w24 ⟨M, hO, H1⟩; have h24 := H.seqO hO H1; clear H H1 hO; obtain ⟨hO, H⟩ := h24; rw [List.append_nil] at H)
  refine WL_stepM rfl (R_as) ?_
  refine WL_nil ?_
  refine W_ret ?_
  exact ⟨_, rfl, M, hO, H⟩
theorem spnames_no {e : Int} (hS : Sp w s PB ts) (he : ¬ (0 ≤ e ∧ e < PB.length)) :
    Ret Try.prog 29 #[ptr s 0, I e] w fun v w' => v = nilS ∧ Hp w [] w' := by
  refine Ret_of_W (args := [_, _]) Try.func29 rfl Try.ntmps29 Try.results29 (by simp) ?_
  have H := Hp.refl w
  refine W_seq ?_
  refine W_region_l ?_
  refine WL_stepM rfl (R_as) ?_
  refine WL_nil ?_
  refine W_seq ?_
  refine W_seq ?_
  refine W_region_l ?_
  refine WL_stepM rfl (R_mv) ?_
  refine WL_stepM rfl (R_mv) ?_
  (refine WL_call rfl (R_call rfl Try.call43 rfl) (is_ret (hS.monoN H (by repeat' first | exact kNil | apply kCons | apply kApp | assumption | exact OwnS.keys (by assumption))) _) ?_; rintro _ w10 ⟨rfl, H1⟩; rw [decide_eq_false he]; replace H := H.seq0 H1; clear H1)
  refine WL_step rfl (R_not_f rfl) ?_
  refine WL_nil ?_
  refine W_cond_t rfl ?_
  refine W_seq ?_
  refine W_region_l ?_
  refine WL_stepM rfl (R_as) ?_
  refine WL_nil ?_
  refine W_ret ?_
  exact ⟨_, rfl, rfl, H⟩
end

/-- a table of which the first places are taken -/
def fillT (x : Vk) (i : Nat) : List Pl := List.replicate i ⟨x, newPl.g, true⟩ ++ List.replicate (32 - i) newPl
theorem fill_len {x : Vk} {i : Nat} (h : i ≤ 32) : (fillT x i).length = 32 := by simp [fillT]; omega
theorem fill_g {x : Vk} {i : Nat} : ∀ a ∈ fillT x i, a.g ≤ 1000001 := by
  intro a ha
  rcases List.mem_append.1 ha with h | h <;> rw [List.eq_of_mem_replicate h]
  · show newPl.g ≤ 1000001; decide
  · decide
theorem fill_at {x : Vk} {i : Nat} (h : i < 32) : (fillT x i)[i]? = some newPl := by
  unfold fillT
  rw [List.getElem?_append_right (by simp), List.length_replicate, Nat.sub_self, List.getElem?_replicate, if_pos (by omega)]
theorem fill_lt {x : Vk} {i : Nat} : ∀ (k : Nat) (a : Pl), k < i → (fillT x i)[k]? = some a → ¬ free a := by
  intro k a hk ha hf
  unfold fillT at ha
  rw [List.getElem?_append_left (by simpa using hk), List.getElem?_replicate, if_pos hk] at ha
  cases ha
  exact absurd hf.1 (show ¬ (true = false) by decide)
theorem fill_full {x : Vk} : ∀ a ∈ fillT x 32, ¬ free a := by
  intro a ha hf
  have h : a ∈ List.replicate 32 (⟨x, newPl.g, true⟩ : Pl) := by
    rcases List.mem_append.1 ha with h | h
    · exact h
    · simp at h
  rw [List.eq_of_mem_replicate h] at hf
  exact absurd hf.1 (show ¬ (true = false) by decide)
theorem fill_set {x : Vk} {i : Nat} (h : i < 32) : (fillT x i).set i ⟨x, newPl.g, true⟩ = fillT x (i + 1) := by
  unfold fillT
  rw [List.set_append_right _ _ (by simp), List.length_replicate, Nat.sub_self, show 32 - i = (32 - (i + 1)) + 1 from by omega, List.replicate_succ, List.set_cons_zero, List.replicate_succ', List.append_assoc]
  rfl
theorem names_rep0 : ∀ (n k : Nat), (namesFrom k (List.replicate n newPl)).length = 0
  | 0, _ => rfl
  | n + 1, k => by rw [List.replicate_succ]; exact names_rep0 n (k + 1)
theorem names_rep {x : Vk} {l : List Pl} : ∀ (n k : Nat), (namesFrom k (List.replicate n ⟨x, newPl.g, true⟩ ++ l)).length = n + (namesFrom (k + n) l).length
  | 0, k => by simp
  | n + 1, k => by
    rw [List.replicate_succ, List.cons_append]
    show (namesFrom (k + 1) (List.replicate n ⟨x, newPl.g, true⟩ ++ l)).length + 1 = _
    rw [names_rep n (k + 1), show k + 1 + n = k + (n + 1) from by omega]; omega
theorem fill_names {x : Vk} {i k : Nat} : (namesFrom k (fillT x i)).length = i := by
  unfold fillT
  rw [names_rep, names_rep0]; rfl
theorem inv3 {x y z : Nat × Nat} {ta tb tc : List Pl} (h1 : ta.length = 32) (h2 : ∀ a ∈ ta, a.g ≤ 1000001) (h3 : tb.length = 32) (h4 : ∀ a ∈ tb, a.g ≤ 1000001) (h5 : tc.length = 32) (h6 : ∀ a ∈ tc, a.g ≤ 1000001) : Inv [x, y, z] [ta, tb, tc] :=
  ⟨rfl, by simp [h1, h3, h5], by simp only [List.mem_cons, List.not_mem_nil, or_false]; rintro t (rfl | rfl | rfl); exact h2; exact h4; exact h6⟩
theorem three {PB : List (Nat × Nat)} (h : PB.length = 3) : ∃ p0 b0 p1 b1 p2 b2, PB = [(p0, b0), (p1, b1), (p2, b2)] := by
  rcases PB with _ | ⟨⟨a, b⟩, _ | ⟨⟨c, d⟩, _ | ⟨⟨e, f⟩, _ | ⟨_, _⟩⟩⟩⟩ <;> simp at h
  exact ⟨a, b, c, d, e, f, rfl⟩

theorem full_g {w : World} (n : Int) : Ret Try.prog 9 #[I n, .bool true] w fun v w' => v = .bool true ∧ Hp w [] w' := by
  refine Ret_of_W (args := [_, _]) Try.func9 rfl Try.ntmps9 Try.results9 (by simp) ?_
  have H := Hp.refl w
  obtain ⟨N, hN, hN2⟩ : ∃ N : Nat, n % 16 = (N : Int) ∧ N < 16 := ⟨(n % 16).toNat, by omega, by omega⟩
  obtain ⟨tc, htc, hcl, hcg, hc0⟩ := tset t0_len t0_g (i := 0) (by decide) ⟨cp 0 (7 : Nat) 0 10 0 0, newPl.g, true⟩ (by decide)
  obtain ⟨tb, htb, hbl, hbg, hb0⟩ := tset t0_len t0_g (i := 0) (by decide) ⟨cp 0 (0 : Nat) 0 0 0 0, newPl.g, true⟩ (by decide)
  obtain ⟨X, hX⟩ : ∃ X, cp 0 1 (0 + 0) 1 (2 : Nat) (0 + 256 * newPl.g : Nat) = X := ⟨_, rfl⟩
  refine W_seq ?_
  refine W_region_l ?_
  refine WL_stepM rfl (R_as) ?_
  refine WL_nil ?_
  refine W_seq ?_
  refine W_region_l ?_
  (refine WL_call rfl (R_call rfl Try.call13 rfl) (Caps.new_ret (E := 3) (by decide) (by decide) _) ?_; rintro _ w7 ⟨s, bs, cap, sp, PB, rfl, hPl, hs, hbs, hPB, H1⟩; obtain ⟨p0, b0, p1, b1, p2, b2, rfl⟩ := three hPl; have hsz := H.size; replace H := H.seqN H1 (spB_keys hs hbs hPB); clear H1; obtain ⟨hp0, hb0'⟩ := hPB (p0, b0) (.head _); obtain ⟨hp1, hb1'⟩ := hPB (p1, b1) (.tail _ (.head _)); obtain ⟨hp2, hb2'⟩ := hPB (p2, b2) (.tail _ (.tail _ (.head _))); replace hs := Nat.le_trans hsz hs; replace hbs := Nat.le_trans hsz hbs; replace hp0 : w.heap.size ≤ p0 := Nat.le_trans hsz hp0; replace hb0' : w.heap.size ≤ b0 := Nat.le_trans hsz hb0'; replace hp1 : w.heap.size ≤ p1 := Nat.le_trans hsz hp1; replace hb1' : w.heap.size ≤ b1 := Nat.le_trans hsz hb1'; replace hp2 : w.heap.size ≤ p2 := Nat.le_trans hsz hp2; replace hb2' : w.heap.size ≤ b2 := Nat.le_trans hsz hb2'; clear hPB hPl hsz; replace H : Hp w [(s, blk [sl bs 0 3 cap] 90), (bs, blk (ptrs [(p0, b0), (p1, b1), (p2, b2)] ++ sp) 91), (p0, blk [sl b0 0 32 32] 135), (b0, blk (rows plc (t0)) 137), (p1, blk [sl b1 0 32 32] 135), (b1, blk (rows plc t0) 137), (p2, blk [sl b2 0 32 32] 135), (b2, blk (rows plc t0) 137)] w7 := H)
  refine WL_stepM rfl (R_as) ?_
  refine WL_nil ?_
  refine W_seq ?_
  refine W_seq ?_
  refine W_region_l ?_
  refine WL_stepM rfl (R_mv) ?_
  refine WL_step rfl (R_eq_ptr_nil Try.underlying25 rfl rfl) ?_
  refine WL_nil ?_
  refine W_cond_f rfl ?_
  refine W_skip ?_
  refine W_seq ?_
  refine W_region_l ?_
  refine WL_stepM rfl (R_mv) ?_
  refine WL_step rfl (R_buildL (places := [(0, 1), (1, 1), (2, 1), (3, 1), (4, 2)]) (vs := (cp 0 (7 : Nat) 0 10 0 0).c) Try.underlying38 Try.typeInfo38 rfl rfl (by kernel_rfl) rfl rfl rfl) ?_
  (refine WL_call rfl (R_call rfl Try.call18 rfl) (put_yes (j := 2) (i := 0) (r := 7) (o := 0) (lo := 0) (n := 10) (re := 0) (rn := 0) (Sp.from H (PB := [(p0, b0), (p1, b1), (p2, b2)]) (ts := [t0, t0, t0]) bs cap sp (inv3 t0_len t0_g t0_len t0_g t0_len t0_g) (fun _ hp => hp)) rfl rfl (by decide) (by decide) (by decide) t0_at new_free (fun _ _ h => absurd h (Nat.not_lt_zero _))) ?_; rintro _ w22 ⟨rfl, H1⟩; rw [htc] at H1; replace H := H.seq H1 (okSeq_set (.there (.there (.there (.there (.there (.there (.there .here))))))) okSeq_nil); clear H1)
  refine WL_stepM rfl (R_mv) ?_
  refine WL_step rfl (R_extract rfl rfl) ?_
  refine WL_step rfl (R_extract rfl rfl) ?_
  refine WL_stepM rfl (R_as) ?_
  refine WL_stepM rfl (R_as) ?_
  refine WL_nil ?_
  refine W_seq ?_
  refine W_region_l ?_
  refine WL_stepM rfl (R_mv) ?_
  refine WL_step rfl (R_bits (r := (N : Int)) rfl rfl (by simp) ((and_mask_i64 4 16 (by decide) rfl (by decide)).trans hN)) ?_
  refine WL_step rfl (R_add (r := ((N + 25 : Nat) : Int)) rfl rfl (by rw [w_i64 (by omega)]; omega)) ?_
  refine WL_stepM rfl (R_as) ?_
  refine WL_nil ?_
  refine W_seq ?_
  refine W_seq ?_
  refine W_region_l ?_
  refine WL_stepM rfl (R_as) ?_
  refine WL_nil ?_
  refine W_block ?_
  refine W_loopS [(4, 4), (8, 10), (29, 51)] (fun (i : Nat) E w' => i ≤ N + 25 ∧ E 8 = I i ∧ Hp w [(s, blk [sl bs 0 3 cap] 90), (bs, blk (ptrs [(p0, b0), (p1, b1), (p2, b2)] ++ sp) 91), (p0, blk [sl b0 0 32 32] 135), (b0, blk (rows plc (fillT X (min i 32))) 137), (p1, blk [sl b1 0 32 32] 135), (b1, blk (rows plc t0) 137), (p2, blk [sl b2 0 32 32] 135), (b2, blk (rows plc tc) 137)] w') (fun i => N + 25 - i) 0 ?e0 ?r0
  · exact ⟨by omega, rfl, H⟩
  · (clear H; rintro i E w1 ⟨hi, h0, H⟩; refine W_kn h0 ?_)
    refine W_seq ?_
    refine W_seq ?_
    refine W_region_l ?_
    refine WL_stepM rfl (R_mv) ?_
    refine WL_stepM rfl (R_mv) ?_
    refine WL_step rfl (R_lt rfl rfl) ?_
    refine WL_nil ?_
    refine W_if rfl (fun h51 => ?_) (fun h51 => ?_)
    · refine W_skip ?_
      refine W_seq ?_
      refine W_block ?_
      refine W_seq ?_
      ((rcases Nat.lt_or_ge i 32 with h32 | h32 <;> first | rw [Nat.min_eq_left (Nat.le_of_lt h32)] at H | rw [Nat.min_eq_right h32] at H)) <;> refine W_region_l ?_
      · refine WL_stepM rfl (R_as) ?_
        refine WL_nil ?_
        refine W_seq ?_
        refine W_seq ?_
        refine W_region_l ?_
        refine WL_stepM rfl (R_mv) ?_
        refine WL_nil ?_
        refine W_cond_t rfl ?_
        refine W_region_l ?_
        refine WL_stepM rfl (R_mv) ?_
        refine WL_stepM rfl (R_mv) ?_
        (refine WL_call rfl (R_call rfl Try.call19 rfl) (grant_yes (j := 2) (i := 0) (k := 0) (i2 := i) (a := newPl) (l1 := 0) (n1 := 1) (gv := 1) (z := 4) (Sp.from H (PB := [(p0, b0), (p1, b1), (p2, b2)]) (ts := [fillT X i, t0, tc]) bs cap sp (inv3 (fill_len (Nat.le_of_lt h32)) fill_g t0_len t0_g hcl hcg) (fun _ hp => hp)) rfl rfl hc0 rfl rfl (fill_at h32) new_free (fun k a hk ha => fill_lt k a hk ha) (by decide) (by decide) (by decide) (by decide) (by decide) (by decide) (by decide)) ?_; rintro _ w68 ⟨rfl, H1⟩; rw [hX, fill_set h32] at H1; replace H := H.seq H1 (okSeq_set (.there (.there (.there .here))) okSeq_nil); clear H1)
        refine WL_stepM rfl (R_mv) ?_
        refine WL_step rfl (R_extract rfl rfl) ?_
        refine WL_step rfl (R_extract rfl rfl) ?_
        refine WL_stepM rfl (R_as) ?_
        refine WL_nil ?_
        refine W_seq ?_
        refine W_region_l ?_
        refine WL_stepM rfl (R_as) ?_
        refine WL_nil ?_
        refine W_seq ?_
        refine W_seq ?_
        refine W_region_l ?_
        refine WL_stepM rfl (R_mv) ?_
        refine WL_step rfl (R_ge_f rfl rfl (by omega)) ?_
        refine WL_nil ?_
        refine W_cond_f rfl ?_
        refine W_skip ?_
        refine W_seq ?_
        refine W_region_l ?_
        refine WL_stepM rfl (R_mv) ?_
        refine WL_stepM rfl (R_mv) ?_
        refine WL_step rfl (R_ne_f rfl rfl (by omega)) ?_
        refine WL_nil ?_
        refine W_cond_f rfl ?_
        refine W_skip ?_
        refine W_region_l ?_
        refine WL_stepM rfl (R_mv) ?_
        refine WL_step rfl (R_add rfl rfl (w_i64 (by omega))) ?_
        refine WL_stepM rfl (R_as) ?_
        refine WL_nil ?_
        exact ⟨(same_mov rfl (same_updo rfl (same_mov rfl (same_updo rfl (same_mov rfl (same_mov rfl (same_updo rfl (same_mov rfl (same_mov rfl (same_mov rfl (same_updo rfl (same_updo rfl (same_mov rfl (same_updo rfl (same_mov rfl (same_mov rfl (same_mov rfl (same_mov rfl (same_know rfl (same_updo rfl (same_mov rfl (same_mov rfl same_ovr)))))))))))))))))))))), i + 1, by omega, by omega, rfl, (by rw [Nat.min_eq_left (by omega)]; exact H)⟩
      · refine WL_stepM rfl (R_as) ?_
        refine WL_nil ?_
        refine W_seq ?_
        refine W_seq ?_
        refine W_region_l ?_
        refine WL_stepM rfl (R_mv) ?_
        refine WL_nil ?_
        refine W_cond_t rfl ?_
        refine W_region_l ?_
        refine WL_stepM rfl (R_mv) ?_
        refine WL_stepM rfl (R_mv) ?_
        (refine WL_call rfl (R_call rfl Try.call19 rfl) (grant_full (j := 2) (i := 0) (k := 0) (l1 := 0) (n1 := 1) (gv := 1) (z := 4) (Sp.from H (PB := [(p0, b0), (p1, b1), (p2, b2)]) (ts := [fillT X 32, t0, tc]) bs cap sp (inv3 (fill_len (Nat.le_refl 32)) fill_g t0_len t0_g hcl hcg) (fun _ hp => hp)) rfl rfl hc0 rfl rfl fill_full (by decide) (by decide) (by decide) (by decide) (by decide) (by decide) (by decide)) ?_; rintro _ w111 ⟨rfl, H1⟩; replace H := H.seq0 H1; clear H1)
        refine WL_stepM rfl (R_mv) ?_
        refine WL_step rfl (R_extract rfl rfl) ?_
        refine WL_step rfl (R_extract rfl rfl) ?_
        refine WL_stepM rfl (R_as) ?_
        refine WL_nil ?_
        refine W_seq ?_
        refine W_region_l ?_
        refine WL_stepM rfl (R_as) ?_
        refine WL_nil ?_
        refine W_seq ?_
        refine W_seq ?_
        refine W_region_l ?_
        refine WL_stepM rfl (R_mv) ?_
        refine WL_step rfl (R_ge_t rfl rfl (by omega)) ?_
        refine WL_nil ?_
        refine W_cond_t rfl ?_
        refine W_region_l ?_
        refine WL_stepM rfl (R_as) ?_
        refine WL_nil ?_
        refine W_seq ?_
        refine W_region_l ?_
        refine WL_stepM rfl (R_mv) ?_
        refine WL_stepM rfl (R_mv) ?_
        refine WL_step rfl (R_ne_f rfl rfl (by omega)) ?_
        refine WL_nil ?_
        refine W_cond_f rfl ?_
        refine W_skip ?_
        refine W_region_l ?_
        refine WL_stepM rfl (R_mv) ?_
        refine WL_step rfl (R_add rfl rfl (w_i64 (by omega))) ?_
        refine WL_stepM rfl (R_as) ?_
        refine WL_nil ?_
        exact ⟨(same_mov rfl (same_updo rfl (same_mov rfl (same_updo rfl (same_mov rfl (same_mov rfl (same_mov rfl (same_updo rfl (same_mov rfl (same_mov rfl (same_mov rfl (same_updo rfl (same_updo rfl (same_mov rfl (same_updo rfl (same_mov rfl (same_mov rfl (same_mov rfl (same_mov rfl (same_know rfl (same_updo rfl (same_mov rfl (same_mov rfl same_ovr))))))))))))))))))))))), i + 1, by omega, by omega, rfl, (by rw [Nat.min_eq_right (by omega)]; exact H)⟩
    · refine W_exit ?_
      refine (if_pos rfl).mpr ?_
      refine W_seq ?_
      ((obtain ⟨K, hK, hK2⟩ : ∃ K, min i 32 = K ∧ K ≤ 32 := ⟨_, rfl, Nat.min_le_right _ _⟩; rw [hK] at H)) <;> refine W_region_l ?_
      refine WL_stepM rfl (R_mv) ?_
      refine WL_step rfl (R_buildL (places := [(0, 1), (1, 1), (2, 1), (3, 1), (4, 2)]) (vs := (cp 0 (0 : Nat) 0 0 0 0).c) Try.underlying38 Try.typeInfo38 rfl rfl (by kernel_rfl) rfl rfl rfl) ?_
      (refine WL_call rfl (R_call rfl Try.call18 rfl) (put_yes (j := 1) (i := 0) (r := 0) (o := 0) (lo := 0) (n := 0) (re := 0) (rn := 0) (Sp.from H (PB := [(p0, b0), (p1, b1), (p2, b2)]) (ts := [fillT X K, t0, tc]) bs cap sp (inv3 (fill_len hK2) fill_g t0_len t0_g hcl hcg) (fun _ hp => hp)) rfl rfl (by decide) (by decide) (by decide) t0_at new_free (fun _ _ h => absurd h (Nat.not_lt_zero _))) ?_; rintro _ w151 ⟨rfl, H1⟩; rw [htb] at H1; replace H := H.seq H1 (okSeq_set (.there (.there (.there (.there (.there .here))))) okSeq_nil); clear H1)
      refine WL_stepM rfl (R_mv) ?_
      refine WL_step rfl (R_extract rfl rfl) ?_
      refine WL_step rfl (R_extract rfl rfl) ?_
      refine WL_stepM rfl (R_as) ?_
      refine WL_stepM rfl (R_as) ?_
      refine WL_nil ?_
      refine W_seq ?_
      refine W_region_l ?_
      refine WL_stepM rfl (R_mv) ?_
      refine WL_step rfl (R_buildL (places := [(0, 1), (1, 1), (2, 1), (3, 1), (4, 2)]) (vs := (cp 0 (0 : Nat) 0 0 0 0).c) Try.underlying38 Try.typeInfo38 rfl rfl (by kernel_rfl) rfl rfl rfl) ?_
      (refine WL_call rfl (R_call rfl Try.call18 rfl) (put_noenv (e := 3) (o := 0) (r := (0 : Nat)) (lo := 0) (n := 0) (re := 0) (rn := 0) (Sp.from H (PB := [(p0, b0), (p1, b1), (p2, b2)]) (ts := [fillT X K, tb, tc]) bs cap sp (inv3 (fill_len hK2) fill_g hbl hbg hcl hcg) (fun _ hp => hp)) (by simp)) ?_; rintro _ w162 ⟨rfl, H1⟩; replace H := H.seq0 H1; clear H1)
      refine WL_stepM rfl (R_mv) ?_
      refine WL_step rfl (R_extract rfl rfl) ?_
      refine WL_step rfl (R_extract rfl rfl) ?_
      refine WL_stepM rfl (R_as) ?_
      refine WL_stepM rfl (R_as) ?_
      refine WL_nil ?_
      refine W_seq ?_
      refine W_region_l ?_
      refine WL_stepM rfl (R_mv) ?_
      refine WL_step rfl (R_buildL (places := [(0, 1), (1, 1), (2, 1), (3, 1), (4, 2)]) (vs := (cp 0 8 0 0 0 0).c) Try.underlying38 Try.typeInfo38 rfl rfl (by kernel_rfl) rfl rfl rfl) ?_
      (refine WL_call rfl (R_call rfl Try.call18 rfl) (put_no8 (j := 0) (o := 0) (lo := 0) (n := 0) (re := 0) (rn := 0) (Sp.from H (PB := [(p0, b0), (p1, b1), (p2, b2)]) (ts := [fillT X K, tb, tc]) bs cap sp (inv3 (fill_len hK2) fill_g hbl hbg hcl hcg) (fun _ hp => hp)) (by simp)) ?_; rintro _ w173 ⟨rfl, H1⟩; replace H := H.seq0 H1; clear H1)
      refine WL_stepM rfl (R_mv) ?_
      refine WL_step rfl (R_extract rfl rfl) ?_
      refine WL_step rfl (R_extract rfl rfl) ?_
      refine WL_stepM rfl (R_as) ?_
      refine WL_stepM rfl (R_as) ?_
      refine WL_nil ?_
      refine W_seq ?_
      refine W_region_l ?_
      refine WL_stepM rfl (R_mv) ?_
      refine WL_step rfl (R_eq_t rfl rfl (by omega)) ?_
      refine WL_stepM rfl (R_mv) ?_
      refine WL_guard_t rfl rfl ?_
      refine WL_stepM rfl (R_mv) ?_
      refine WL_guard_t rfl rfl ?_
      refine WL_step rfl (R_eq_t rfl rfl (by omega)) ?_
      refine WL_stepM rfl (R_pk_t rfl) ?_
      refine WL_stepM rfl (R_mv) ?_
      refine WL_guard_t rfl rfl ?_
      refine WL_stepM rfl (R_mv) ?_
      refine WL_guard_t rfl rfl ?_
      refine WL_step rfl (R_eq_t rfl rfl (by omega)) ?_
      refine WL_stepM rfl (R_pk_t rfl) ?_
      refine WL_stepM rfl (R_mv) ?_
      refine WL_guard_t rfl rfl ?_
      refine WL_stepM rfl (R_mv) ?_
      refine WL_guard_t rfl rfl ?_
      refine WL_step rfl (R_eq_t rfl rfl (by omega)) ?_
      refine WL_stepM rfl (R_pk_t rfl) ?_
      refine WL_stepM rfl (R_mv) ?_
      refine WL_guard_t rfl rfl ?_
      refine WL_stepM rfl (R_mv) ?_
      refine WL_guard_t rfl rfl ?_
      (refine WL_call rfl (R_call rfl Try.call29 rfl) (spnames_yes (j := 0) (Sp.from H (PB := [(p0, b0), (p1, b1), (p2, b2)]) (ts := [fillT X K, tb, tc]) bs cap sp (inv3 (fill_len hK2) fill_g hbl hbg hcl hcg) (fun _ hp => hp)) rfl rfl) ?_; rintro _ w206 ⟨M, hO, H1⟩; rw [fill_names] at hO; obtain ⟨na, nc, rfl⟩ := hO.form; replace H := H.seqD H1 hO.keys; clear H1 hO)
      refine WL_guard_t rfl rfl ?_
      refine WL_step rfl (R_len_slice Try.underlying59 rfl) ?_
      refine WL_guard_t rfl rfl ?_
      refine WL_stepM rfl (R_mv) ?_
      refine WL_guard_t rfl rfl ?_
      refine WL_step rfl (R_min (r := (K : Int)) rfl rfl (by omega)) ?_
      refine WL_guard_t rfl rfl ?_
      refine WL_step rfl (R_eq_t rfl rfl (by omega)) ?_
      refine WL_stepM rfl (R_pk_t rfl) ?_
      refine WL_stepM rfl (R_mv) ?_
      refine WL_guard_t rfl rfl ?_
      refine WL_stepM rfl (R_mv) ?_
      refine WL_guard_t rfl rfl ?_
      (refine WL_call rfl (R_call rfl Try.call29 rfl) (spnames_no (e := -1) (Sp.from H (PB := [(p0, b0), (p1, b1), (p2, b2)]) (ts := [fillT X K, tb, tc]) bs cap sp (inv3 (fill_len hK2) fill_g hbl hbg hcl hcg) (fun _ hp => hp)) (by simp)) ?_; rintro _ w220 ⟨rfl, H1⟩; replace H := H.seq0 H1; clear H1)
      refine WL_guard_t rfl rfl ?_
      refine WL_step rfl (R_len_slice Try.underlying59 rfl) ?_
      refine WL_guard_t rfl rfl ?_
      refine WL_step rfl (R_eq_t rfl rfl (by omega)) ?_
      refine WL_stepM rfl (R_pk_t rfl) ?_
      refine WL_stepM rfl (R_mv) ?_
      refine WL_guard_t rfl rfl ?_
      (refine WL_call rfl (R_call rfl Try.call25 rfl) (awake3_ret _) ?_; rintro _ w228 ⟨rfl, H1⟩; replace H := H.seq0 H1; clear H1)
      refine WL_stepM rfl (R_pk_t rfl) ?_
      refine WL_stepM rfl (R_as) ?_
      refine WL_nil ?_
      refine W_ret ?_
      exact ⟨_, rfl, rfl, H.none (by repeat' first | exact kNil | apply kCons | apply kApp | assumption | exact OwnS.keys (by assumption))⟩

theorem full_p {w : World} (n : Int) : Ret Try.prog 9 #[I n, .bool false] w fun v w' => v = .bool true ∧ Hp w [] w' := by
  refine Ret_of_W (args := [_, _]) Try.func9 rfl Try.ntmps9 Try.results9 (by simp) ?_
  have H := Hp.refl w
  obtain ⟨N, hN, hN2⟩ : ∃ N : Nat, n % 16 = (N : Int) ∧ N < 16 := ⟨(n % 16).toNat, by omega, by omega⟩
  obtain ⟨tc, htc, hcl, hcg, hc0⟩ := tset t0_len t0_g (i := 0) (by decide) ⟨cp 0 (7 : Nat) 0 10 0 0, newPl.g, true⟩ (by decide)
  obtain ⟨tb, htb, hbl, hbg, hb0⟩ := tset t0_len t0_g (i := 0) (by decide) ⟨cp 0 (0 : Nat) 0 0 0 0, newPl.g, true⟩ (by decide)
  obtain ⟨X, hX⟩ : ∃ X, cp 0 (1 : Nat) 0 0 0 0 = X := ⟨_, rfl⟩
  refine W_seq ?_
  refine W_region_l ?_
  refine WL_stepM rfl (R_as) ?_
  refine WL_nil ?_
  refine W_seq ?_
  refine W_region_l ?_
  (refine WL_call rfl (R_call rfl Try.call13 rfl) (Caps.new_ret (E := 3) (by decide) (by decide) _) ?_; rintro _ w7 ⟨s, bs, cap, sp, PB, rfl, hPl, hs, hbs, hPB, H1⟩; obtain ⟨p0, b0, p1, b1, p2, b2, rfl⟩ := three hPl; have hsz := H.size; replace H := H.seqN H1 (spB_keys hs hbs hPB); clear H1; obtain ⟨hp0, hb0'⟩ := hPB (p0, b0) (.head _); obtain ⟨hp1, hb1'⟩ := hPB (p1, b1) (.tail _ (.head _)); obtain ⟨hp2, hb2'⟩ := hPB (p2, b2) (.tail _ (.tail _ (.head _))); replace hs := Nat.le_trans hsz hs; replace hbs := Nat.le_trans hsz hbs; replace hp0 : w.heap.size ≤ p0 := Nat.le_trans hsz hp0; replace hb0' : w.heap.size ≤ b0 := Nat.le_trans hsz hb0'; replace hp1 : w.heap.size ≤ p1 := Nat.le_trans hsz hp1; replace hb1' : w.heap.size ≤ b1 := Nat.le_trans hsz hb1'; replace hp2 : w.heap.size ≤ p2 := Nat.le_trans hsz hp2; replace hb2' : w.heap.size ≤ b2 := Nat.le_trans hsz hb2'; clear hPB hPl hsz; replace H : Hp w [(s, blk [sl bs 0 3 cap] 90), (bs, blk (ptrs [(p0, b0), (p1, b1), (p2, b2)] ++ sp) 91), (p0, blk [sl b0 0 32 32] 135), (b0, blk (rows plc (t0)) 137), (p1, blk [sl b1 0 32 32] 135), (b1, blk (rows plc t0) 137), (p2, blk [sl b2 0 32 32] 135), (b2, blk (rows plc t0) 137)] w7 := H)
  refine WL_stepM rfl (R_as) ?_
  refine WL_nil ?_
  refine W_seq ?_
  refine W_seq ?_
  refine W_region_l ?_
  refine WL_stepM rfl (R_mv) ?_
  refine WL_step rfl (R_eq_ptr_nil Try.underlying25 rfl rfl) ?_
  refine WL_nil ?_
  refine W_cond_f rfl ?_
  refine W_skip ?_
  refine W_seq ?_
  refine W_region_l ?_
  refine WL_stepM rfl (R_mv) ?_
  refine WL_step rfl (R_buildL (places := [(0, 1), (1, 1), (2, 1), (3, 1), (4, 2)]) (vs := (cp 0 (7 : Nat) 0 10 0 0).c) Try.underlying38 Try.typeInfo38 rfl rfl (by kernel_rfl) rfl rfl rfl) ?_
  (refine WL_call rfl (R_call rfl Try.call18 rfl) (put_yes (j := 2) (i := 0) (r := 7) (o := 0) (lo := 0) (n := 10) (re := 0) (rn := 0) (Sp.from H (PB := [(p0, b0), (p1, b1), (p2, b2)]) (ts := [t0, t0, t0]) bs cap sp (inv3 t0_len t0_g t0_len t0_g t0_len t0_g) (fun _ hp => hp)) rfl rfl (by decide) (by decide) (by decide) t0_at new_free (fun _ _ h => absurd h (Nat.not_lt_zero _))) ?_; rintro _ w22 ⟨rfl, H1⟩; rw [htc] at H1; replace H := H.seq H1 (okSeq_set (.there (.there (.there (.there (.there (.there (.there .here))))))) okSeq_nil); clear H1)
  refine WL_stepM rfl (R_mv) ?_
  refine WL_step rfl (R_extract rfl rfl) ?_
  refine WL_step rfl (R_extract rfl rfl) ?_
  refine WL_stepM rfl (R_as) ?_
  refine WL_stepM rfl (R_as) ?_
  refine WL_nil ?_
  refine W_seq ?_
  refine W_region_l ?_
  refine WL_stepM rfl (R_mv) ?_
  refine WL_step rfl (R_bits (r := (N : Int)) rfl rfl (by simp) ((and_mask_i64 4 16 (by decide) rfl (by decide)).trans hN)) ?_
  refine WL_step rfl (R_add (r := ((N + 25 : Nat) : Int)) rfl rfl (by rw [w_i64 (by omega)]; omega)) ?_
  refine WL_stepM rfl (R_as) ?_
  refine WL_nil ?_
  refine W_seq ?_
  refine W_seq ?_
  refine W_region_l ?_
  refine WL_stepM rfl (R_as) ?_
  refine WL_nil ?_
  refine W_block ?_
  refine W_loopS [(4, 4), (8, 10), (29, 51)] (fun (i : Nat) E w' => i ≤ N + 25 ∧ E 8 = I i ∧ Hp w [(s, blk [sl bs 0 3 cap] 90), (bs, blk (ptrs [(p0, b0), (p1, b1), (p2, b2)] ++ sp) 91), (p0, blk [sl b0 0 32 32] 135), (b0, blk (rows plc (fillT X (min i 32))) 137), (p1, blk [sl b1 0 32 32] 135), (b1, blk (rows plc t0) 137), (p2, blk [sl b2 0 32 32] 135), (b2, blk (rows plc tc) 137)] w') (fun i => N + 25 - i) 0 ?e0 ?r0
  · exact ⟨by omega, rfl, H⟩
  · (clear H; rintro i E w1 ⟨hi, h0, H⟩; refine W_kn h0 ?_)
    refine W_seq ?_
    refine W_seq ?_
    refine W_region_l ?_
    refine WL_stepM rfl (R_mv) ?_
    refine WL_stepM rfl (R_mv) ?_
    refine WL_step rfl (R_lt rfl rfl) ?_
    refine WL_nil ?_
    refine W_if rfl (fun h51 => ?_) (fun h51 => ?_)
    · refine W_skip ?_
      refine W_seq ?_
      refine W_block ?_
      refine W_seq ?_
      ((rcases Nat.lt_or_ge i 32 with h32 | h32 <;> first | rw [Nat.min_eq_left (Nat.le_of_lt h32)] at H | rw [Nat.min_eq_right h32] at H)) <;> refine W_region_l ?_
      · refine WL_stepM rfl (R_as) ?_
        refine WL_nil ?_
        refine W_seq ?_
        refine W_seq ?_
        refine W_region_l ?_
        refine WL_stepM rfl (R_mv) ?_
        refine WL_nil ?_
        refine W_cond_f rfl ?_
        refine W_region_l ?_
        refine WL_stepM rfl (R_mv) ?_
        refine WL_step rfl (R_buildL (places := [(0, 1), (1, 1), (2, 1), (3, 1), (4, 2)]) (vs := (cp 0 (1 : Nat) 0 0 0 0).c) Try.underlying38 Try.typeInfo38 rfl rfl (by kernel_rfl) rfl rfl rfl) ?_
        (refine WL_call rfl (R_call rfl Try.call18 rfl) (put_yes (j := 0) (i := i) (a := newPl) (r := 1) (o := 0) (lo := 0) (n := 0) (re := 0) (rn := 0) (Sp.from H (PB := [(p0, b0), (p1, b1), (p2, b2)]) (ts := [fillT X i, t0, tc]) bs cap sp (inv3 (fill_len (Nat.le_of_lt h32)) fill_g t0_len t0_g hcl hcg) (fun _ hp => hp)) rfl rfl (by decide) (by decide) (by decide) (fill_at h32) new_free (fun k a hk ha => fill_lt k a hk ha)) ?_; rintro _ w68 ⟨rfl, H1⟩; rw [hX, fill_set h32] at H1; replace H := H.seq H1 (okSeq_set (.there (.there (.there .here))) okSeq_nil); clear H1)
        refine WL_stepM rfl (R_mv) ?_
        refine WL_step rfl (R_extract rfl rfl) ?_
        refine WL_step rfl (R_extract rfl rfl) ?_
        refine WL_stepM rfl (R_as) ?_
        refine WL_nil ?_
        refine W_seq ?_
        refine W_region_l ?_
        refine WL_stepM rfl (R_as) ?_
        refine WL_nil ?_
        refine W_seq ?_
        refine W_seq ?_
        refine W_region_l ?_
        refine WL_stepM rfl (R_mv) ?_
        refine WL_step rfl (R_ge_f rfl rfl (by omega)) ?_
        refine WL_nil ?_
        refine W_cond_f rfl ?_
        refine W_skip ?_
        refine W_seq ?_
        refine W_region_l ?_
        refine WL_stepM rfl (R_mv) ?_
        refine WL_stepM rfl (R_mv) ?_
        refine WL_step rfl (R_ne_f rfl rfl (by omega)) ?_
        refine WL_nil ?_
        refine W_cond_f rfl ?_
        refine W_skip ?_
        refine W_region_l ?_
        refine WL_stepM rfl (R_mv) ?_
        refine WL_step rfl (R_add rfl rfl (w_i64 (by omega))) ?_
        refine WL_stepM rfl (R_as) ?_
        refine WL_nil ?_
        exact ⟨(same_mov rfl (same_updo rfl (same_mov rfl (same_updo rfl (same_mov rfl (same_mov rfl (same_updo rfl (same_mov rfl (same_mov rfl (same_mov rfl (same_updo rfl (same_updo rfl (same_mov rfl (same_updo rfl (same_updo rfl (same_mov rfl (same_mov rfl (same_mov rfl (same_know rfl (same_updo rfl (same_mov rfl (same_mov rfl same_ovr)))))))))))))))))))))), i + 1, by omega, by omega, rfl, (by rw [Nat.min_eq_left (by omega)]; exact H)⟩
      · refine WL_stepM rfl (R_as) ?_
        refine WL_nil ?_
        refine W_seq ?_
        refine W_seq ?_
        refine W_region_l ?_
        refine WL_stepM rfl (R_mv) ?_
        refine WL_nil ?_
        refine W_cond_f rfl ?_
        refine W_region_l ?_
        refine WL_stepM rfl (R_mv) ?_
        refine WL_step rfl (R_buildL (places := [(0, 1), (1, 1), (2, 1), (3, 1), (4, 2)]) (vs := (cp 0 (1 : Nat) 0 0 0 0).c) Try.underlying38 Try.typeInfo38 rfl rfl (by kernel_rfl) rfl rfl rfl) ?_
        (refine WL_call rfl (R_call rfl Try.call18 rfl) (put_full (j := 0) (r := 1) (o := 0) (lo := 0) (n := 0) (re := 0) (rn := 0) (Sp.from H (PB := [(p0, b0), (p1, b1), (p2, b2)]) (ts := [fillT X 32, t0, tc]) bs cap sp (inv3 (fill_len (Nat.le_refl 32)) fill_g t0_len t0_g hcl hcg) (fun _ hp => hp)) rfl rfl (by decide) (by decide) (by decide) fill_full) ?_; rintro _ w111 ⟨rfl, H1⟩; replace H := H.seq0 H1; clear H1)
        refine WL_stepM rfl (R_mv) ?_
        refine WL_step rfl (R_extract rfl rfl) ?_
        refine WL_step rfl (R_extract rfl rfl) ?_
        refine WL_stepM rfl (R_as) ?_
        refine WL_nil ?_
        refine W_seq ?_
        refine W_region_l ?_
        refine WL_stepM rfl (R_as) ?_
        refine WL_nil ?_
        refine W_seq ?_
        refine W_seq ?_
        refine W_region_l ?_
        refine WL_stepM rfl (R_mv) ?_
        refine WL_step rfl (R_ge_t rfl rfl (by omega)) ?_
        refine WL_nil ?_
        refine W_cond_t rfl ?_
        refine W_region_l ?_
        refine WL_stepM rfl (R_as) ?_
        refine WL_nil ?_
        refine W_seq ?_
        refine W_region_l ?_
        refine WL_stepM rfl (R_mv) ?_
        refine WL_stepM rfl (R_mv) ?_
        refine WL_step rfl (R_ne_f rfl rfl (by omega)) ?_
        refine WL_nil ?_
        refine W_cond_f rfl ?_
        refine W_skip ?_
        refine W_region_l ?_
        refine WL_stepM rfl (R_mv) ?_
        refine WL_step rfl (R_add rfl rfl (w_i64 (by omega))) ?_
        refine WL_stepM rfl (R_as) ?_
        refine WL_nil ?_
        exact ⟨(same_mov rfl (same_updo rfl (same_mov rfl (same_updo rfl (same_mov rfl (same_mov rfl (same_mov rfl (same_updo rfl (same_mov rfl (same_mov rfl (same_mov rfl (same_updo rfl (same_updo rfl (same_mov rfl (same_updo rfl (same_updo rfl (same_mov rfl (same_mov rfl (same_mov rfl (same_know rfl (same_updo rfl (same_mov rfl (same_mov rfl same_ovr))))))))))))))))))))))), i + 1, by omega, by omega, rfl, (by rw [Nat.min_eq_right (by omega)]; exact H)⟩
    · refine W_exit ?_
      refine (if_pos rfl).mpr ?_
      refine W_seq ?_
      ((obtain ⟨K, hK, hK2⟩ : ∃ K, min i 32 = K ∧ K ≤ 32 := ⟨_, rfl, Nat.min_le_right _ _⟩; rw [hK] at H)) <;> refine W_region_l ?_
      refine WL_stepM rfl (R_mv) ?_
      refine WL_step rfl (R_buildL (places := [(0, 1), (1, 1), (2, 1), (3, 1), (4, 2)]) (vs := (cp 0 (0 : Nat) 0 0 0 0).c) Try.underlying38 Try.typeInfo38 rfl rfl (by kernel_rfl) rfl rfl rfl) ?_
      (refine WL_call rfl (R_call rfl Try.call18 rfl) (put_yes (j := 1) (i := 0) (r := 0) (o := 0) (lo := 0) (n := 0) (re := 0) (rn := 0) (Sp.from H (PB := [(p0, b0), (p1, b1), (p2, b2)]) (ts := [fillT X K, t0, tc]) bs cap sp (inv3 (fill_len hK2) fill_g t0_len t0_g hcl hcg) (fun _ hp => hp)) rfl rfl (by decide) (by decide) (by decide) t0_at new_free (fun _ _ h => absurd h (Nat.not_lt_zero _))) ?_; rintro _ w151 ⟨rfl, H1⟩; rw [htb] at H1; replace H := H.seq H1 (okSeq_set (.there (.there (.there (.there (.there .here))))) okSeq_nil); clear H1)
      refine WL_stepM rfl (R_mv) ?_
      refine WL_step rfl (R_extract rfl rfl) ?_
      refine WL_step rfl (R_extract rfl rfl) ?_
      refine WL_stepM rfl (R_as) ?_
      refine WL_stepM rfl (R_as) ?_
      refine WL_nil ?_
      refine W_seq ?_
      refine W_region_l ?_
      refine WL_stepM rfl (R_mv) ?_
      refine WL_step rfl (R_buildL (places := [(0, 1), (1, 1), (2, 1), (3, 1), (4, 2)]) (vs := (cp 0 (0 : Nat) 0 0 0 0).c) Try.underlying38 Try.typeInfo38 rfl rfl (by kernel_rfl) rfl rfl rfl) ?_
      (refine WL_call rfl (R_call rfl Try.call18 rfl) (put_noenv (e := 3) (o := 0) (r := (0 : Nat)) (lo := 0) (n := 0) (re := 0) (rn := 0) (Sp.from H (PB := [(p0, b0), (p1, b1), (p2, b2)]) (ts := [fillT X K, tb, tc]) bs cap sp (inv3 (fill_len hK2) fill_g hbl hbg hcl hcg) (fun _ hp => hp)) (by simp)) ?_; rintro _ w162 ⟨rfl, H1⟩; replace H := H.seq0 H1; clear H1)
      refine WL_stepM rfl (R_mv) ?_
      refine WL_step rfl (R_extract rfl rfl) ?_
      refine WL_step rfl (R_extract rfl rfl) ?_
      refine WL_stepM rfl (R_as) ?_
      refine WL_stepM rfl (R_as) ?_
      refine WL_nil ?_
      refine W_seq ?_
      refine W_region_l ?_
      refine WL_stepM rfl (R_mv) ?_
      refine WL_step rfl (R_buildL (places := [(0, 1), (1, 1), (2, 1), (3, 1), (4, 2)]) (vs := (cp 0 8 0 0 0 0).c) Try.underlying38 Try.typeInfo38 rfl rfl (by kernel_rfl) rfl rfl rfl) ?_
      (refine WL_call rfl (R_call rfl Try.call18 rfl) (put_no8 (j := 0) (o := 0) (lo := 0) (n := 0) (re := 0) (rn := 0) (Sp.from H (PB := [(p0, b0), (p1, b1), (p2, b2)]) (ts := [fillT X K, tb, tc]) bs cap sp (inv3 (fill_len hK2) fill_g hbl hbg hcl hcg) (fun _ hp => hp)) (by simp)) ?_; rintro _ w173 ⟨rfl, H1⟩; replace H := H.seq0 H1; clear H1)
      refine WL_stepM rfl (R_mv) ?_
      refine WL_step rfl (R_extract rfl rfl) ?_
      refine WL_step rfl (R_extract rfl rfl) ?_
      refine WL_stepM rfl (R_as) ?_
      refine WL_stepM rfl (R_as) ?_
      refine WL_nil ?_
      refine W_seq ?_
      refine W_region_l ?_
      refine WL_stepM rfl (R_mv) ?_
      refine WL_step rfl (R_eq_t rfl rfl (by omega)) ?_
      refine WL_stepM rfl (R_mv) ?_
      refine WL_guard_t rfl rfl ?_
      refine WL_stepM rfl (R_mv) ?_
      refine WL_guard_t rfl rfl ?_
      refine WL_step rfl (R_eq_t rfl rfl (by omega)) ?_
      refine WL_stepM rfl (R_pk_t rfl) ?_
      refine WL_stepM rfl (R_mv) ?_
      refine WL_guard_t rfl rfl ?_
      refine WL_stepM rfl (R_mv) ?_
      refine WL_guard_t rfl rfl ?_
      refine WL_step rfl (R_eq_t rfl rfl (by omega)) ?_
      refine WL_stepM rfl (R_pk_t rfl) ?_
      refine WL_stepM rfl (R_mv) ?_
      refine WL_guard_t rfl rfl ?_
      refine WL_stepM rfl (R_mv) ?_
      refine WL_guard_t rfl rfl ?_
      refine WL_step rfl (R_eq_t rfl rfl (by omega)) ?_
      refine WL_stepM rfl (R_pk_t rfl) ?_
      refine WL_stepM rfl (R_mv) ?_
      refine WL_guard_t rfl rfl ?_
      refine WL_stepM rfl (R_mv) ?_
      refine WL_guard_t rfl rfl ?_
      (refine WL_call rfl (R_call rfl Try.call29 rfl) (spnames_yes (j := 0) (Sp.from H (PB := [(p0, b0), (p1, b1), (p2, b2)]) (ts := [fillT X K, tb, tc]) bs cap sp (inv3 (fill_len hK2) fill_g hbl hbg hcl hcg) (fun _ hp => hp)) rfl rfl) ?_; rintro _ w206 ⟨M, hO, H1⟩; rw [fill_names] at hO; obtain ⟨na, nc, rfl⟩ := hO.form; replace H := H.seqD H1 hO.keys; clear H1 hO)
      refine WL_guard_t rfl rfl ?_
      refine WL_step rfl (R_len_slice Try.underlying59 rfl) ?_
      refine WL_guard_t rfl rfl ?_
      refine WL_stepM rfl (R_mv) ?_
      refine WL_guard_t rfl rfl ?_
      refine WL_step rfl (R_min (r := (K : Int)) rfl rfl (by omega)) ?_
      refine WL_guard_t rfl rfl ?_
      refine WL_step rfl (R_eq_t rfl rfl (by omega)) ?_
      refine WL_stepM rfl (R_pk_t rfl) ?_
      refine WL_stepM rfl (R_mv) ?_
      refine WL_guard_t rfl rfl ?_
      refine WL_stepM rfl (R_mv) ?_
      refine WL_guard_t rfl rfl ?_
      (refine WL_call rfl (R_call rfl Try.call29 rfl) (spnames_no (e := -1) (Sp.from H (PB := [(p0, b0), (p1, b1), (p2, b2)]) (ts := [fillT X K, tb, tc]) bs cap sp (inv3 (fill_len hK2) fill_g hbl hbg hcl hcg) (fun _ hp => hp)) (by simp)) ?_; rintro _ w220 ⟨rfl, H1⟩; replace H := H.seq0 H1; clear H1)
      refine WL_guard_t rfl rfl ?_
      refine WL_step rfl (R_len_slice Try.underlying59 rfl) ?_
      refine WL_guard_t rfl rfl ?_
      refine WL_step rfl (R_eq_t rfl rfl (by omega)) ?_
      refine WL_stepM rfl (R_pk_t rfl) ?_
      refine WL_stepM rfl (R_mv) ?_
      refine WL_guard_t rfl rfl ?_
      (refine WL_call rfl (R_call rfl Try.call25 rfl) (awake3_ret _) ?_; rintro _ w228 ⟨rfl, H1⟩; replace H := H.seq0 H1; clear H1)
      refine WL_stepM rfl (R_pk_t rfl) ?_
      refine WL_stepM rfl (R_as) ?_
      refine WL_nil ?_
      refine W_ret ?_
      exact ⟨_, rfl, rfl, H.none (by repeat' first | exact kNil | apply kCons | apply kApp | assumption | exact OwnS.keys (by assumption))⟩

theorem full_ret {w : World} (n : Int) (g : Bool) : Ret Try.prog 9 #[I n, .bool g] w fun v w' => v = .bool true ∧ Hp w [] w' := by
  cases g
  · exact full_p n
  · exact full_g n
end Go.Proofs.Ythonajikgljgmaa.Reg

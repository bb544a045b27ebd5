/-
  A new Quota.
-/
import Derived.Test.YtjfcnmbalojehaaQuotaD
namespace Go.Proofs.Ytjfcnmbalojehaa.Quota
open Go Go.Proofs Go.Proofs.Ytjfcnmbalojehaa.Fx
set_option maxRecDepth 100000
set_option linter.unusedVariables false
set_option linter.unusedSimpArgs false
set_option maxHeartbeats 1000000

theorem atm_app {A M B : List (Nat × Obj)} : AtM (A ++ (M ++ B)) M (fun M' => A ++ (M' ++ B)) := by
  induction A with
  | nil => simpa using AtM.here (M := M) (B := B)
  | cons a A ih => exact .there ih
theorem qBlks_keys {n : Nat} {ins : List (Nat × List Int)} (h : ∀ x ∈ ins, n ≤ x.1) : ∀ q ∈ qBlks ins, n ≤ q.1 := by
  intro q hq
  obtain ⟨x, hx, rfl⟩ := List.mem_map.1 hq
  exact h x hx
theorem rows_small {ins : List (Nat × List Int)} {ys : List Int} (h : ins.map (·.2) = ys.map nrow) : ∀ x ∈ ins, x.2.length ≤ 64 := by
  intro x hx
  have : x.2 ∈ ys.map nrow := h ▸ List.mem_map.2 ⟨x, hx, rfl⟩
  obtain ⟨y, _, e⟩ := List.mem_map.1 this
  rw [← e, nrow, List.length_replicate]; omega
theorem rows_bits {ins : List (Nat × List Int)} {ys : List Int} (h : ins.map (·.2) = ys.map nrow) : ∀ x ∈ ins, ∀ y ∈ x.2, y = 0 ∨ y = 1 := by
  intro x hx z hz
  have : x.2 ∈ ys.map nrow := h ▸ List.mem_map.2 ⟨x, hx, rfl⟩
  obtain ⟨y, _, e⟩ := List.mem_map.1 this
  rw [← e] at hz
  exact .inl (List.eq_of_mem_replicate hz)
theorem nrow_length {x : Int} {n : Nat} (h : min (max x 0) 64 = (n : Int)) : nrow x = List.replicate n 0 := by unfold nrow; rw [h, Int.toNat_natCast]
theorem rows_snoc {ins : List (Nat × List Int)} {xs : List Int} {i b : Nat} (h : ins.map (·.2) = (xs.take i).map nrow) (hi : i < xs.length) : (ins ++ [(b, nrow xs[i])]).map (·.2) = (xs.take (i + 1)).map nrow := by
  rw [List.map_append, h, List.take_succ_eq_append_getElem hi, List.map_append]; rfl
theorem qVals_snoc {ins : List (Nat × List Int)} {r : List Int} {b n : Nat} (h : r = List.replicate n 0) : qVals (ins ++ [(b, r)]) = qVals ins ++ [sl b 0 n n] := by
  subst h; simp [qVals]
theorem qBlks_snoc {ins : List (Nat × List Int)} {r : List Int} {b n : Nat} (h : r = List.replicate n 0) : qBlks (ins ++ [(b, r)]) = qBlks ins ++ [(b, blk (List.replicate n (I 0)) 3)] := by
  subst h; simp [qBlks]
theorem keys_snoc {ins : List (Nat × List Int)} {r : List Int} {b n : Nat} (h : ∀ x ∈ ins, n ≤ x.1) (hb : n ≤ b) : ∀ x ∈ ins ++ [(b, r)], n ≤ x.1 := by
  intro x hx
  rcases List.mem_append.1 hx with hx | hx
  · exact h x hx
  · rw [List.mem_singleton.1 hx]; exact hb
theorem new_perm {w0 w : World} {A B : List (Nat × Obj)} {a : Nat × Obj} (H : Hp w0 (a :: (A ++ B)) w) : Hp w0 ((A ++ [a]) ++ B) w :=
  H.perm (by rw [List.append_assoc]; exact List.perm_middle.symm)

section
variable {w : World} {p : Nat}

theorem new_ret {xs : List Int} {v : Value} (hl : RdS w v (xs.map I)) (hx : 0 < xs.length) (hb : xs.length ≤ 1000000) :
    Ret Try.prog 47 #[v] w fun r w' => ∃ p uv ins Mo, r = ptr p 0 ∧ ins.map (·.2) = (xs.take 4).map nrow ∧ Has w w' p uv ins Mo [] ∧ (∀ x ∈ ins, w.heap.size ≤ x.1) ∧ w.heap.size ≤ p := by
  refine Ret_of_W (args := [_]) Try.func47 rfl Try.ntmps47 Try.results47 (by simp) ?_
  have H := Hp.refl w
  obtain ⟨ao, ca, rfl⟩ := hl.form
  obtain ⟨b1, o1, rfl, _⟩ := hl.cell (i := 0) (u := I xs[0]) (by rw [List.getElem?_map, List.getElem?_eq_getElem hx]; rfl)
  have hca : xs.length ≤ ca := by
    obtain ⟨a', c', e, h1, _⟩ := id hl
    rw [(Value.slice.inj e).2.2]
    simpa using h1
  simp only [List.length_map] at hl ⊢
  obtain ⟨m, hm, hm1, hm4, hm2⟩ : ∃ m : Nat, min (xs.length : Int) 4 = m ∧ m ≤ xs.length ∧ m ≤ 4 ∧ xs.take 4 = xs.take m := by
    refine ⟨min xs.length 4, by omega, by omega, by omega, ?_⟩
    rcases Nat.le_total xs.length 4 with h | h
    · rw [Nat.min_eq_left h, List.take_of_length_le h, List.take_of_length_le (Nat.le_refl _)]
    · rw [Nat.min_eq_right h]
  rw [hm2]
  refine W_seq ?_
  refine W_region_l ?_
  refine WL_stepM rfl (R_as) ?_
  refine WL_nil ?_
  refine W_seq ?_
  refine W_region_l ?_
  refine WL_step rfl (R_build (vs := [(.slice _ _ _)]) rfl rfl) ?_
  (refine WL_effn rfl (E_box (vs := [nilS]) H rfl rfl) ?_; clear H; intro p w8 hp H)
  refine WL_stepM rfl (R_as) ?_
  refine WL_nil ?_
  refine W_seq ?_
  refine W_seq ?_
  refine W_region_l ?_
  refine WL_stepM rfl (R_mv) ?_
  refine WL_stepM rfl (R_mv) ?_
  refine WL_step rfl (R_len_slice Try.underlying22 rfl) ?_
  refine WL_step rfl (R_min rfl rfl hm) ?_
  refine WL_step rfl (R_to Try.underlying22 Try.sizeOf3 rfl rfl hca (by omega)) ?_
  refine WL_step rfl (R_len_slice Try.underlying22 rfl) ?_
  refine WL_stepM rfl (R_mv) ?_
  refine WL_nil ?_
  refine W_block ?_
  refine W_loopS [(5, 5), (14, 31)] (fun (i : Nat) E w' => ∃ uv ins Mo, i ≤ m ∧ E 14 = I i ∧ ins.map (·.2) = (xs.take i).map nrow ∧ OwnQ w.heap.size 22 uv (qVals ins) Mo ∧ (∀ x ∈ ins, w.heap.size ≤ x.1) ∧ Hp w (qBlks ins ++ (Mo ++ [(p, blk [uv] 101)])) w') (fun i => m - i) 0 ?e0 ?r0
  · exact ⟨nilS, [], [], by omega, rfl, rfl, OwnQ.nil _ _, (fun _ h => by cases h), H⟩
  · (clear H; rintro i E w1 ⟨uv, ins, Mo, hi, h0, hrows, hQ, hk, H⟩; refine W_kn h0 ?_; have hil : ins.length = i := (by have := congrArg List.length hrows; simp at this; omega); have hsm := rows_small hrows; have hbt := rows_bits hrows)
    refine W_seq ?_
    refine W_region_l ?_
    refine WL_step rfl (R_lt rfl rfl) ?_
    refine WL_nil ?_
    refine W_seq ?_
    refine W_if rfl (fun h30 => ?_) (fun h30 => ?_)
    · refine W_skip ?_
      refine W_seq ?_
      refine W_block ?_
      refine W_seq ?_
      (obtain ⟨b2, o2, e2, hc1⟩ := hl.cell (i := i) (u := I xs[i]) (by rw [List.getElem?_map, List.getElem?_eq_getElem (by omega)]; rfl); cases e2) <;> refine W_region_l ?_
      refine WL_step rfl (R_indexAddr Try.underlying22 Try.sizeOf3 rfl rfl (by omega) (by omega) idx_cast1) ?_
      refine WL_step rfl (R_load_cell Try.isAgg3 rfl (H.cellN hc1 (kApp (qBlks_keys hk) (kApp hQ.keys (kCons hp kNil))))) ?_
      refine WL_stepM rfl (R_as) ?_
      refine WL_nil ?_
      (obtain ⟨mx, hmx⟩ : ∃ mx, max xs[i] 0 = mx := ⟨_, rfl⟩; obtain ⟨n, hn, hn1⟩ : ∃ n : Nat, min mx 64 = (n : Int) ∧ n ≤ 64 := ⟨(min mx 64).toNat, by omega, by omega⟩; refine W_draw (Kp [(p, blk [uv] 101)]) (fun i => Nat.ble 11 i) (by kernel_rfl) H ?_; clear H; intro w40 H)
      refine WA_takeM 0 rfl rfl rfl (by kernel_rfl) (by kernel_rfl) (H.kp.sub (by simp)) (fun _ hC => R_mv) ?_
      refine WA_takeM 1 rfl rfl rfl (by kernel_rfl) (by kernel_rfl) (H.kp.sub (by simp)) (fun _ hC => R_mv) ?_
      refine WA_take 2 rfl rfl rfl (by kernel_rfl) (by kernel_rfl) (H.kp.sub (by simp)) (fun _ hC => R_nilCheck rfl) ?_
      refine WA_take 3 rfl rfl rfl (by kernel_rfl) (by kernel_rfl) (H.kp.sub (by simp)) (fun _ hC => R_fieldAddr (off' := 0) Try.underlying101 rfl Try.sizeOf99 (by decide) rfl rfl) ?_
      refine WA_take 4 rfl rfl rfl (by kernel_rfl) (by kernel_rfl) (H.kp.sub (by simp)) (fun _ hC => R_load Try.isAgg99 rfl (hC (p, _) (.head _)) rfl) ?_
      refine WA_takeM 5 rfl rfl rfl (by kernel_rfl) (by kernel_rfl) (H.kp.sub (by simp)) (fun _ hC => R_mv) ?_
      refine WA_take 6 rfl rfl rfl (by kernel_rfl) (by kernel_rfl) (H.kp.sub (by simp)) (fun _ hC => R_max rfl rfl hmx) ?_
      refine WA_take 7 rfl rfl rfl (by kernel_rfl) (by kernel_rfl) (H.kp.sub (by simp)) (fun _ hC => R_min rfl rfl hn) ?_
      refine WA_one (i := 8) (by kernel_rfl) ?_
      (refine WI_effn rfl (.inl rfl) (E_makeSlice H Try.underlying22 Try.sizeOf3 Try.typeInfo3 Try.zeroValue3 rfl rfl rfl (by omega) (by omega) (by omega) (by simp only [Try.t3]; omega)) (fun _ _ H => (by first | exact fun h => absurd h (by decide) | exact fun _ => H | exact fun _ => H.none (by repeat' first | exact kNil | apply kCons | apply kApp | assumption | exact OwnS.keys (by assumption)) | exact fun _ => H.dropN (by repeat' first | exact kNil | apply kCons | apply kApp | assumption | exact OwnS.keys (by assumption)) | exact fun _ => H.pop (by assumption) | exact fun _ => (H.pop (by assumption)).pop (by assumption) | exact fun _ => H.kp | exact fun _ => H.kp.tail | exact fun _ => H.kp.tail.tail | exact fun _ => H.kp.tail.tail.tail | exact fun _ => H.kp.sub (by simp) | exact fun _ => Kp.nil)) ?_; clear H; intro b50 w50 hb50 H)
      refine WA_one (i := 9) (by kernel_rfl) ?_
      (refine WI_effn rfl (.inl rfl) (E_buildOnes (vs := [(.slice _ _ _)]) H Try.underlying99 Try.sizeOf22 Try.zeroValue22 rfl rfl (by decide) rfl rfl (by simp [Value.oneCell'])) (fun _ _ H => (by first | exact fun h => absurd h (by decide) | exact fun _ => H | exact fun _ => H.none (by repeat' first | exact kNil | apply kCons | apply kApp | assumption | exact OwnS.keys (by assumption)) | exact fun _ => H.dropN (by repeat' first | exact kNil | apply kCons | apply kApp | assumption | exact OwnS.keys (by assumption)) | exact fun _ => H.pop (by assumption) | exact fun _ => (H.pop (by assumption)).pop (by assumption) | exact fun _ => H.kp | exact fun _ => H.kp.tail | exact fun _ => H.kp.tail.tail | exact fun _ => H.kp.tail.tail.tail | exact fun _ => H.kp.sub (by simp) | exact fun _ => Kp.nil)) ?_; clear H; intro b52 w52 hb52 H)
      refine WA_one (i := 10) (by kernel_rfl) ?_
      (refine WI_effm rfl (.inl rfl) (E_appendQ (m := 1) H (.there (.there atm_app)) hQ Try.underlying99 Try.typeInfo22 rfl rfl rfl rfl rfl rfl (src_one Try.underlying99 (H.get .here) rfl) (by simp [qVals]; omega) (by simp [qVals, Try.t22]; omega)) (fun _ _ H => (by first | exact fun h => absurd h (by decide) | exact fun _ => H | exact fun _ => H.none (by repeat' first | exact kNil | apply kCons | apply kApp | assumption | exact OwnS.keys (by assumption)) | exact fun _ => H.dropN (by repeat' first | exact kNil | apply kCons | apply kApp | assumption | exact OwnS.keys (by assumption)) | exact fun _ => H.pop (by assumption) | exact fun _ => (H.pop (by assumption)).pop (by assumption) | exact fun _ => H.kp | exact fun _ => H.kp.tail | exact fun _ => H.kp.tail.tail | exact fun _ => H.kp.tail.tail.tail | exact fun _ => H.kp.sub (by simp) | exact fun _ => Kp.nil)) ?_; clear H; intro v5 M5 w54 hQ5 H; obtain ⟨a5, c5, rfl⟩ := hQ5.form; replace H := new_perm (H.pop hb52))
      refine WA_one (i := 11) (by kernel_rfl) ?_
      refine WI_value rfl (.inl rfl) (R_nilCheck rfl) (by first | exact fun h => absurd h (by decide) | exact fun _ => H | exact fun _ => H.none (by repeat' first | exact kNil | apply kCons | apply kApp | assumption | exact OwnS.keys (by assumption)) | exact fun _ => H.dropN (by repeat' first | exact kNil | apply kCons | apply kApp | assumption | exact OwnS.keys (by assumption)) | exact fun _ => H.pop (by assumption) | exact fun _ => (H.pop (by assumption)).pop (by assumption) | exact fun _ => H.kp | exact fun _ => H.kp.tail | exact fun _ => H.kp.tail.tail | exact fun _ => H.kp.tail.tail.tail | exact fun _ => H.kp.sub (by simp) | exact fun _ => Kp.nil) ?_
      refine WA_one (i := 12) (by kernel_rfl) ?_
      refine WI_value rfl (.inl rfl) (R_fieldAddr (off' := 0) Try.underlying101 rfl Try.sizeOf99 (by decide) rfl rfl) (by first | exact fun h => absurd h (by decide) | exact fun _ => H | exact fun _ => H.none (by repeat' first | exact kNil | apply kCons | apply kApp | assumption | exact OwnS.keys (by assumption)) | exact fun _ => H.dropN (by repeat' first | exact kNil | apply kCons | apply kApp | assumption | exact OwnS.keys (by assumption)) | exact fun _ => H.pop (by assumption) | exact fun _ => (H.pop (by assumption)).pop (by assumption) | exact fun _ => H.kp | exact fun _ => H.kp.tail | exact fun _ => H.kp.tail.tail | exact fun _ => H.kp.tail.tail.tail | exact fun _ => H.kp.sub (by simp) | exact fun _ => Kp.nil) ?_
      refine WA_one (i := 13) (by kernel_rfl) ?_
      (refine WI_effu rfl (.inl rfl) (E_store (v := (.slice _ _ _)) H Try.sizeOf99 rfl rfl rfl (.app _ (.app _ .here)) (by simp)) (fun _ H => (by first | exact fun h => absurd h (by decide) | exact fun _ => H | exact fun _ => H.none (by repeat' first | exact kNil | apply kCons | apply kApp | assumption | exact OwnS.keys (by assumption)) | exact fun _ => H.dropN (by repeat' first | exact kNil | apply kCons | apply kApp | assumption | exact OwnS.keys (by assumption)) | exact fun _ => H.pop (by assumption) | exact fun _ => (H.pop (by assumption)).pop (by assumption) | exact fun _ => H.kp | exact fun _ => H.kp.tail | exact fun _ => H.kp.tail.tail | exact fun _ => H.kp.tail.tail.tail | exact fun _ => H.kp.sub (by simp) | exact fun _ => Kp.nil)) ?_; clear H; intro w60 H)
      refine WA_done (by kernel_rfl) ?_
      refine W_region_l ?_
      refine WL_step rfl (R_add rfl rfl (w_i64 (by omega))) ?_
      refine WL_stepM rfl (R_mv) ?_
      refine WL_nil ?_
      exact ⟨(by repeat' first | with_reducible exact Same.refl | refine same_updo rfl ?_ | refine same_mov rfl ?_ | refine same_upd rfl ?_ | refine same_updn ?_ | refine same_know rfl ?_ | exact same_ovr | refine same_in rfl ?_ | exact Same.refl), i + 1, by omega, _, ins ++ [(b50, nrow xs[i])], M5, by omega, rfl, rows_snoc hrows (by omega), (by rw [qVals_snoc (nrow_length (by rw [hmx]; exact hn))]; exact hQ5), keys_snoc hk hb50, (by rw [qBlks_snoc (nrow_length (by rw [hmx]; exact hn))]; exact H)⟩
    · refine W_exit ?_
      refine (if_pos rfl).mpr ?_
      refine W_seq ?_
      refine W_region_l ?_
      refine WL_stepM rfl (R_mv) ?_
      refine WL_stepM rfl (R_as) ?_
      refine WL_nil ?_
      refine W_ret ?_
      (obtain rfl : i = m := (by omega); exact ⟨_, rfl, p, uv, ins, Mo, rfl, hrows, ⟨hQ, H, by omega, hsm, hbt⟩, hk, hp⟩)
end
end Go.Proofs.Ytjfcnmbalojehaa.Quota

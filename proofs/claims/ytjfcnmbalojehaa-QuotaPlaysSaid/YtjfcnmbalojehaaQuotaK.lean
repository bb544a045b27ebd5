/-
  New Quotas, of no sessions too; the document's.
-/
import Derived.Test.YtjfcnmbalojehaaQuotaJ
namespace Go.Proofs.Ytjfcnmbalojehaa.Quota
open Go Go.Proofs Go.Proofs.Ytjfcnmbalojehaa.Fx
set_option maxRecDepth 100000
set_option linter.unusedVariables false
set_option linter.unusedSimpArgs false
set_option maxHeartbeats 1000000

theorem rBlks_keys {n : Nat} {ins : List (Nat × List Int)} (h : ∀ x ∈ ins, n ≤ x.1) : ∀ q ∈ rBlks ins, n ≤ q.1 := by
  intro q hq
  obtain ⟨x, hx, rfl⟩ := List.mem_map.1 hq
  exact h x hx
theorem obj_of {w : World} {a : Addr} {v : Value} (h : w.cell? a = some v) : ∃ o, w.heap[a.block]? = some o := ⟨_, Array.getElem?_eq_getElem (lt_of_cell h)⟩
theorem cell_of {w w' : World} {b k : Nat} {o : Obj} {v : Value} (h : w.heap[b]? = some o) (h' : w'.heap[b]? = some o) (hc : w.cell? ⟨b, k, none⟩ = some v) : w'.cell? ⟨b, k, none⟩ = some v := by
  rw [← hc]; simp [World.cell?, h, h']
theorem last_of {w0 w : World} {A B : List (Nat × Obj)} {a x : Nat × Obj} (H : Hp w0 (x :: (A ++ (B ++ [a]))) w) : Hp w0 (A ++ (B ++ [a, x])) w := by
  refine H.perm ?_
  have h1 : (A ++ (B ++ [a, x])) = (A ++ (B ++ [a])) ++ [x] := by simp
  rw [h1]
  exact (List.perm_append_singleton x _).symm
theorem of_last {w0 w : World} {A B : List (Nat × Obj)} {a : Nat × Obj} {b : Nat} {o : Obj} (H : Hp w0 (A ++ (B ++ [a, (b, o)])) w) (hb : w0.heap[b]? = some o) : Hp w0 (A ++ (B ++ [a])) w := by
  have h1 : (A ++ (B ++ [a, (b, o)])) = (A ++ (B ++ [a])) ++ [(b, o)] := by simp
  rw [h1] at H
  exact (H.perm (List.perm_append_singleton (b, o) _)).back hb
section
variable {P : Program} {E : Env} {w : World} {d : Option Nat} {ty : TypeId} {pos : String} {after : Array Edge}
theorem R_zero {t elem : TypeId} {x hi : Operand} {ao : Option Addr} {ca sz : Nat} (ht : P.underlying t = some (.slice elem)) (hS : ∀ w, (sizeOf elem).run P w = .ok sz w)
    (hx : ev E x = .slice ao 0 ca) (hhi : ev E hi = I (0 : Nat))
    : (execOp (ev E) (mk d (.slice t x none (some hi) none) ty pos after)).run P w = .ok (.value (.slice ao 0 ca)) w := by
  have hb : (Instr.sliceBounds true 0 ca none (some (I (0 : Nat))) none).run P w = .ok (0, 0, ca) w := by
    simp [Instr.sliceBounds, Instr.sliceBound, asIntOf]
  simp only [execOp, hx, hhi, Instr.sliceAt, Instr.slice, run_underlying ht, Option.map_some, Option.map_none, Sem.run_bind, Sem.run_pure, Result.andThen_ok, hb, hS]
  cases ao <;> simp [Addr.add]
end
theorem rBlks_snoc {ins : List (Nat × List Int)} {r : List Int} {b n : Nat} (h : r = List.replicate n 0) : rBlks (ins ++ [(b, r)]) = rBlks ins ++ [(b, blk (List.replicate n (.bool false)) 4)] := by
  subst h; simp [rBlks, bV]

section
variable {w : World} {p : Nat}

theorem new_any {xs : List Int} {v : Value} (hl : RdS w v (xs.map I)) (hb : xs.length ≤ 1000000) :
    Ret Try.prog 47 #[v] w fun r w' => ∃ p uv ins Mo, r = ptr p 0 ∧ ins.map (·.2) = (xs.take 4).map nrow ∧ Has w w' p uv ins Mo [] ∧ (∀ x ∈ ins, w.heap.size ≤ x.1) ∧ w.heap.size ≤ p := by
  rcases Nat.eq_zero_or_pos xs.length with h0 | h0
  · obtain rfl : xs = [] := List.length_eq_zero_iff.1 h0
    refine Ret_of_W (args := [_]) Try.func47 rfl Try.ntmps47 Try.results47 (by simp) ?_
    have H := Hp.refl w
    obtain ⟨ao, ca, rfl⟩ := hl.form
    have hm : min (([] : List Int).length : Int) 4 = ((0 : Nat) : Int) := rfl
    refine W_seq ?_
    refine W_region_l ?_
    refine WL_stepM rfl (R_as) ?_
    refine WL_nil ?_
    refine W_seq ?_
    refine W_region_l ?_
    refine WL_step rfl (R_build (vs := [(.slice _ _ _)]) rfl rfl) ?_
    (refine WL_effn rfl (E_box (vs := [nilS]) H rfl rfl) ?_; clear H; intro p w8 hp H)
    refine WL_stepM rfl (R_as) ?_
    refine WL_nil ?_
    refine W_seq ?_
    refine W_seq ?_
    refine W_region_l ?_
    refine WL_stepM rfl (R_mv) ?_
    refine WL_stepM rfl (R_mv) ?_
    refine WL_step rfl (R_len_slice Try.underlying22 rfl) ?_
    refine WL_step rfl (R_min rfl rfl hm) ?_
    refine WL_step rfl (R_zero Try.underlying22 Try.sizeOf3 rfl rfl) ?_
    refine WL_step rfl (R_len_slice Try.underlying22 rfl) ?_
    refine WL_stepM rfl (R_mv) ?_
    refine WL_nil ?_
    refine W_block ?_
    refine W_loopS [(5, 5), (14, 31)] (fun (i : Nat) E w' => i = 0 ∧ E 14 = I 0 ∧ Hp w [(p, blk [nilS] 101)] w') (fun i => 0) 0 ?e0 ?r0
    · exact ⟨rfl, rfl, H⟩
    · (clear H; rintro i E w1 ⟨hi, h0, H⟩; refine W_kn h0 ?_)
      refine W_seq ?_
      refine W_region_l ?_
      refine WL_step rfl (R_lt_f rfl rfl (by omega)) ?_
      refine WL_nil ?_
      refine W_seq ?_
      refine W_cond_f rfl ?_
      refine W_exit ?_
      refine (if_pos rfl).mpr ?_
      refine W_seq ?_
      refine W_region_l ?_
      refine WL_stepM rfl (R_mv) ?_
      refine WL_stepM rfl (R_as) ?_
      refine WL_nil ?_
      refine W_ret ?_
      exact ⟨_, rfl, p, nilS, [], [], rfl, rfl, ⟨OwnQ.nil _ _, H, by simp, (fun _ h => by cases h), (fun _ h => by cases h)⟩, (fun _ h => by cases h), hp⟩
  · exact new_ret hl h0 hb

theorem newR_ret {xs : List Int} {v : Value} (hl : RdS w v (xs.map I)) (hb : xs.length ≤ 1000000) :
    Ret Try.prog 51 #[v] w fun r w' => ∃ p uv ins Mo, r = ptr p 0 ∧ ins.map (·.2) = (xs.take 4).map nrow ∧ HasR w w' p uv ins Mo [] ∧ (∀ x ∈ ins, w.heap.size ≤ x.1) ∧ w.heap.size ≤ p := by
  refine Ret_of_W (args := [_]) Try.func51 rfl Try.ntmps51 Try.results51 (by simp) ?_
  have H := Hp.refl w
  obtain ⟨ao, ca, rfl⟩ := hl.form
  simp only [List.length_map] at hl ⊢
  refine W_seq ?_
  refine W_region_l ?_
  refine WL_stepM rfl (R_as) ?_
  refine WL_nil ?_
  refine W_seq ?_
  refine W_region_l ?_
  refine WL_step rfl (R_build (vs := [(.slice _ _ _)]) rfl rfl) ?_
  (refine WL_effn rfl (E_box (vs := [nilS]) H rfl rfl) ?_; clear H; intro p w8 hp H)
  refine WL_stepM rfl (R_as) ?_
  refine WL_nil ?_
  refine W_seq ?_
  refine W_seq ?_
  refine W_region_l ?_
  refine WL_stepM rfl (R_as) ?_
  refine WL_nil ?_
  refine W_block ?_
  refine W_loopS [(4, 4), (7, 32)] (fun (i : Nat) E w' => ∃ uv ins Mo, i ≤ xs.length ∧ i ≤ 4 ∧ E 4 = I i ∧ ins.map (·.2) = (xs.take i).map nrow ∧ OwnQ w.heap.size 69 uv (qVals ins) Mo ∧ (∀ x ∈ ins, w.heap.size ≤ x.1) ∧ Hp w (rBlks ins ++ (Mo ++ [(p, blk [uv] 105)])) w') (fun i => 4 - i) 0 ?e0 ?r0
  · exact ⟨nilS, [], [], by omega, by omega, rfl, rfl, OwnQ.nil _ _, (fun _ h => by cases h), H⟩
  · (clear H; rintro i E w1 ⟨uv, ins, Mo, hi, hi4, h0, hrows, hQ, hk, H⟩; refine W_kn h0 ?_; have hil : ins.length = i := (by have := congrArg List.length hrows; simp at this; omega); have hsm := rows_small hrows; have hbt := rows_bits hrows)
    refine W_seq ?_
    refine W_seq ?_
    refine W_region_l ?_
    refine WL_stepM rfl (R_mv) ?_
    refine WL_stepM rfl (R_mv) ?_
    refine WL_step rfl (R_len_slice Try.underlying22 rfl) ?_
    refine WL_step rfl (R_lt rfl rfl) ?_
    refine WL_stepM rfl (R_mv) ?_
    apply WL_andK 3 11 14 [(12, 14)] H
    case hc => rfl
    case h1 =>
      intro h27
      refine WL_guard_t rfl rfl ?_
      refine WL_stepM rfl (R_mv) ?_
      refine WL_guard_t rfl rfl ?_
      refine WL_step rfl (R_lt rfl rfl) ?_
      refine WL_stepM rfl (R_pk_t rfl) ?_
      refine WL_nil ?_
      exact ⟨(by repeat' first | with_reducible exact Same.refl | refine same_updo rfl ?_ | refine same_mov rfl ?_ | refine same_upd rfl ?_ | refine same_updn ?_ | refine same_know rfl ?_ | exact same_ovr | refine same_in rfl ?_ | exact Same.refl), rfl, H⟩
    case h0 =>
      intro h27
      refine WL_guard_f rfl rfl (by decide) ?_
      refine WL_guard_f rfl rfl (by decide) ?_
      refine WL_stepM rfl (R_pk_f rfl) ?_
      refine WL_nil ?_
      exact ⟨(by repeat' first | with_reducible exact Same.refl | refine same_updo rfl ?_ | refine same_mov rfl ?_ | refine same_upd rfl ?_ | refine same_updn ?_ | refine same_know rfl ?_ | exact same_ovr | refine same_in rfl ?_ | exact Same.refl), rfl, H⟩
    case h2 =>
      (clear H; intro E27 w27 H)
      refine WL_nil ?_
      refine W_if rfl (fun h41 => ?_) (fun h41 => ?_)
      · refine W_skip ?_
        refine W_seq ?_
        refine W_block ?_
        (obtain ⟨b2, o2, rfl, hc1⟩ := hl.cell (i := i) (u := I xs[i]) (by rw [List.getElem?_map, List.getElem?_eq_getElem (by omega)]; rfl); obtain ⟨ob2, hob2⟩ := obj_of hc1; replace H := H.foc hob2 (kApp (rBlks_keys hk) (kApp hQ.keys (kCons hp kNil))); obtain ⟨mx, hmx⟩ : ∃ mx, max xs[i] 0 = mx := ⟨_, rfl⟩; obtain ⟨n, hn, hn1⟩ : ∃ n : Nat, min mx 64 = (n : Int) ∧ n ≤ 64 := ⟨(min mx 64).toNat, by omega, by omega⟩; replace H := last_of H; refine W_draw (Kp [(p, blk [uv] 105), (b2, ob2)]) (fun i => Nat.ble 14 i) (by kernel_rfl) H ?_; clear H; intro w45 H)
        refine WA_takeM 0 rfl rfl rfl (by kernel_rfl) (by kernel_rfl) (H.kp.sub (by simp)) (fun _ hC => R_mv) ?_
        refine WA_takeM 1 rfl rfl rfl (by kernel_rfl) (by kernel_rfl) (H.kp.sub (by simp)) (fun _ hC => R_mv) ?_
        refine WA_take 2 rfl rfl rfl (by kernel_rfl) (by kernel_rfl) (H.kp.sub (by simp)) (fun _ hC => R_nilCheck rfl) ?_
        refine WA_take 3 rfl rfl rfl (by kernel_rfl) (by kernel_rfl) (H.kp.sub (by simp)) (fun _ hC => R_fieldAddr (off' := 0) Try.underlying105 rfl Try.sizeOf103 (by decide) rfl rfl) ?_
        refine WA_take 4 rfl rfl rfl (by kernel_rfl) (by kernel_rfl) (H.kp.sub (by simp)) (fun _ hC => R_load Try.isAgg103 rfl (hC (p, _) (.head _)) rfl) ?_
        refine WA_takeM 5 rfl rfl rfl (by kernel_rfl) (by kernel_rfl) (H.kp.sub (by simp)) (fun _ hC => R_mv) ?_
        refine WA_takeM 6 rfl rfl rfl (by kernel_rfl) (by kernel_rfl) (H.kp.sub (by simp)) (fun _ hC => R_mv) ?_
        refine WA_take 7 rfl rfl rfl (by kernel_rfl) (by kernel_rfl) (H.kp.sub (by simp)) (fun _ hC => R_indexAddr Try.underlying22 Try.sizeOf3 rfl rfl (by omega) (by omega) idx_cast1) ?_
        refine WA_take 8 rfl rfl rfl (by kernel_rfl) (by kernel_rfl) (H.kp.sub (by simp)) (fun _ hC => R_load_cell Try.isAgg3 rfl (cell_of hob2 (hC (b2, ob2) (.tail _ (.head _))) hc1)) ?_
        refine WA_take 9 rfl rfl rfl (by kernel_rfl) (by kernel_rfl) (H.kp.sub (by simp)) (fun _ hC => R_max rfl rfl hmx) ?_
        refine WA_take 10 rfl rfl rfl (by kernel_rfl) (by kernel_rfl) (H.kp.sub (by simp)) (fun _ hC => R_min rfl rfl hn) ?_
        refine WA_one (i := 11) (by kernel_rfl) ?_
        (refine WI_effn rfl (.inl rfl) (E_makeSlice H Try.underlying69 Try.sizeOf4 Try.typeInfo4 Try.zeroValue4 rfl rfl rfl (by omega) (by omega) (by omega) (by simp only [Try.t4]; omega)) (fun _ _ H => (by first | exact fun h => absurd h (by decide) | exact fun _ => H | exact fun _ => H.none (by repeat' first | exact kNil | apply kCons | apply kApp | assumption | exact OwnS.keys (by assumption)) | exact fun _ => H.dropN (by repeat' first | exact kNil | apply kCons | apply kApp | assumption | exact OwnS.keys (by assumption)) | exact fun _ => H.pop (by assumption) | exact fun _ => (H.pop (by assumption)).pop (by assumption) | exact fun _ => H.kp | exact fun _ => H.kp.tail | exact fun _ => H.kp.tail.tail | exact fun _ => H.kp.tail.tail.tail | exact fun _ => H.kp.sub (by simp) | exact fun _ => Kp.nil)) ?_; clear H; intro b58 w58 hb58 H)
        refine WA_one (i := 12) (by kernel_rfl) ?_
        (refine WI_effn rfl (.inl rfl) (E_buildOnes (vs := [(.slice _ _ _)]) H Try.underlying103 Try.sizeOf69 Try.zeroValue69 rfl rfl (by decide) rfl rfl (by simp [Value.oneCell'])) (fun _ _ H => (by first | exact fun h => absurd h (by decide) | exact fun _ => H | exact fun _ => H.none (by repeat' first | exact kNil | apply kCons | apply kApp | assumption | exact OwnS.keys (by assumption)) | exact fun _ => H.dropN (by repeat' first | exact kNil | apply kCons | apply kApp | assumption | exact OwnS.keys (by assumption)) | exact fun _ => H.pop (by assumption) | exact fun _ => (H.pop (by assumption)).pop (by assumption) | exact fun _ => H.kp | exact fun _ => H.kp.tail | exact fun _ => H.kp.tail.tail | exact fun _ => H.kp.tail.tail.tail | exact fun _ => H.kp.sub (by simp) | exact fun _ => Kp.nil)) ?_; clear H; intro b60 w60 hb60 H)
        refine WA_one (i := 13) (by kernel_rfl) ?_
        (refine WI_effm rfl (.inl rfl) (E_appendQ (m := 1) H (.there (.there atm_app)) hQ Try.underlying103 Try.typeInfo69 rfl rfl rfl rfl rfl rfl (src_one Try.underlying103 (H.get .here) rfl) (by simp [qVals]; omega) (by simp [qVals, Try.t69]; omega)) (fun _ _ H => (by first | exact fun h => absurd h (by decide) | exact fun _ => H | exact fun _ => H.none (by repeat' first | exact kNil | apply kCons | apply kApp | assumption | exact OwnS.keys (by assumption)) | exact fun _ => H.dropN (by repeat' first | exact kNil | apply kCons | apply kApp | assumption | exact OwnS.keys (by assumption)) | exact fun _ => H.pop (by assumption) | exact fun _ => (H.pop (by assumption)).pop (by assumption) | exact fun _ => H.kp | exact fun _ => H.kp.tail | exact fun _ => H.kp.tail.tail | exact fun _ => H.kp.tail.tail.tail | exact fun _ => H.kp.sub (by simp) | exact fun _ => Kp.nil)) ?_; clear H; intro v5 M5 w62 hQ5 H; obtain ⟨a5, c5, rfl⟩ := hQ5.form)
        refine WA_one (i := 14) (by kernel_rfl) ?_
        refine WI_value rfl (.inl rfl) (R_nilCheck rfl) (by first | exact fun h => absurd h (by decide) | exact fun _ => H | exact fun _ => H.none (by repeat' first | exact kNil | apply kCons | apply kApp | assumption | exact OwnS.keys (by assumption)) | exact fun _ => H.dropN (by repeat' first | exact kNil | apply kCons | apply kApp | assumption | exact OwnS.keys (by assumption)) | exact fun _ => H.pop (by assumption) | exact fun _ => (H.pop (by assumption)).pop (by assumption) | exact fun _ => H.kp | exact fun _ => H.kp.tail | exact fun _ => H.kp.tail.tail | exact fun _ => H.kp.tail.tail.tail | exact fun _ => H.kp.sub (by simp) | exact fun _ => Kp.nil) ?_
        refine WA_one (i := 15) (by kernel_rfl) ?_
        refine WI_value rfl (.inl rfl) (R_fieldAddr (off' := 0) Try.underlying105 rfl Try.sizeOf103 (by decide) rfl rfl) (by first | exact fun h => absurd h (by decide) | exact fun _ => H | exact fun _ => H.none (by repeat' first | exact kNil | apply kCons | apply kApp | assumption | exact OwnS.keys (by assumption)) | exact fun _ => H.dropN (by repeat' first | exact kNil | apply kCons | apply kApp | assumption | exact OwnS.keys (by assumption)) | exact fun _ => H.pop (by assumption) | exact fun _ => (H.pop (by assumption)).pop (by assumption) | exact fun _ => H.kp | exact fun _ => H.kp.tail | exact fun _ => H.kp.tail.tail | exact fun _ => H.kp.tail.tail.tail | exact fun _ => H.kp.sub (by simp) | exact fun _ => Kp.nil) ?_
        refine WA_one (i := 16) (by kernel_rfl) ?_
        (refine WI_effu rfl (.inl rfl) (E_store (v := (.slice _ _ _)) H Try.sizeOf103 rfl rfl rfl (.there (.there (.app _ (.app _ .here)))) (by simp)) (fun _ H => (by first | exact fun h => absurd h (by decide) | exact fun _ => H | exact fun _ => H.none (by repeat' first | exact kNil | apply kCons | apply kApp | assumption | exact OwnS.keys (by assumption)) | exact fun _ => H.dropN (by repeat' first | exact kNil | apply kCons | apply kApp | assumption | exact OwnS.keys (by assumption)) | exact fun _ => H.pop (by assumption) | exact fun _ => (H.pop (by assumption)).pop (by assumption) | exact fun _ => H.kp | exact fun _ => H.kp.tail | exact fun _ => H.kp.tail.tail | exact fun _ => H.kp.tail.tail.tail | exact fun _ => H.kp.sub (by simp) | exact fun _ => Kp.nil)) ?_; clear H; intro w68 H)
        refine WA_done (by kernel_rfl) ?_
        refine W_region_l ?_
        refine WL_stepM rfl (R_mv) ?_
        refine WL_step rfl (R_add rfl rfl (w_i64 (by omega))) ?_
        refine WL_stepM rfl (R_as) ?_
        refine WL_nil ?_
        (replace H := of_last (new_perm (H.pop hb60)) hob2; exact ⟨(by repeat' first | with_reducible exact Same.refl | refine same_updo rfl ?_ | refine same_mov rfl ?_ | refine same_upd rfl ?_ | refine same_updn ?_ | refine same_know rfl ?_ | exact same_ovr | refine same_in rfl ?_ | exact Same.refl), i + 1, by omega, _, ins ++ [(b58, nrow xs[i])], M5, by omega, by omega, rfl, rows_snoc hrows (by omega), (by rw [qVals_snoc (nrow_length (by rw [hmx]; exact hn))]; exact hQ5), keys_snoc hk hb58, (by rw [rBlks_snoc (nrow_length (by rw [hmx]; exact hn))]; exact H)⟩)
      · refine W_exit ?_
        refine (if_pos rfl).mpr ?_
        refine W_seq ?_
        refine W_region_l ?_
        refine WL_stepM rfl (R_mv) ?_
        refine WL_stepM rfl (R_as) ?_
        refine WL_nil ?_
        refine W_ret ?_
        (have ht : xs.take 4 = xs.take i := (by rcases Nat.lt_or_ge i 4 with h' | h'; rw [List.take_of_length_le (by omega), List.take_of_length_le (by omega)]; rw [show i = 4 by omega]); exact ⟨_, rfl, p, uv, ins, Mo, rfl, by rw [ht]; exact hrows, ⟨hQ, H, by omega, hsm, hbt⟩, hk, hp⟩)
end
end Go.Proofs.Ytjfcnmbalojehaa.Quota

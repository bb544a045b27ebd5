/-
  The plan that a law of the top makes out of its arguments.
-/
import Derived.Test.YtlpmfldijgdcoaaGreatDoorProg
import Derived.Test.YtlpmfldijgdcoaaGreatDoorSubS
import Derived.Test.YtlpmfldijgdcoaaGreatDoorFxO
import Derived.Test.YtlpmfldijgdcoaaGreatDoorFxZ
namespace Go.Proofs.YtlpmfldijgdcoaaGreatDoor.Top
open Go Go.Proofs Go.Proofs.YtlpmfldijgdcoaaGreatDoor.Fx
set_option maxRecDepth 100000
set_option linter.unusedVariables false
set_option linter.unusedSimpArgs false
set_option maxHeartbeats 16000000

/-- a bridge -/
def brC (b : Nat × Nat) : List Value := [I b.1, I b.2]
theorem brC_len (b : Nat × Nat) : (brC b).length = 2 := rfl
theorem brC_one (b : Nat × Nat) : ∀ u ∈ brC b, u.oneCell' = true := by simp [brC, Value.oneCell']
/-- a bridge between two of n members -/
def brOk (n : Nat) (b : Nat × Nat) : Prop := b.1 < n ∧ b.2 < n ∧ b.1 ≠ b.2
theorem br_ok {n A D B : Nat} (hA : A < n) (hD : D < n - 1) (hB : (A + 1 + D) % n = B) : brOk n (A, B) := by
  refine ⟨hA, by rw [← hB]; exact Nat.mod_lt _ (by omega), ?_⟩
  show A ≠ B
  rw [← hB]
  rcases Nat.lt_or_ge (A + 1 + D) n with h | h
  · rw [Nat.mod_eq_of_lt h]; omega
  · rw [Nat.mod_eq_sub_mod h, Nat.mod_eq_of_lt (by omega)]; omega
abbrev Bo (b : Bool) : Value := .bool b

theorem Plan_ret {xs : List Int} {lease : Int} {w : World} {v0 : Value} (h0 : RdS w v0 (xs.map fun x => I x)) (h0b : xs.length ≤ 9223372036854775807) :
    Ret Tryz.prog 8 #[v0, I lease] w fun v w' => ∃ (ms : List Bool) (bs : List (Nat × Nat)) (ls : Nat) (vm vb : Value) (M1 M2 : List (Nat × Obj)), v = .agg #[vm, vb, I ls] ∧
      (1 ≤ ms.length ∧ ms.length ≤ 4) ∧ bs.length ≤ 4 ∧ (∀ b ∈ bs, brOk ms.length b) ∧ (1 ≤ ls ∧ ls ≤ 8) ∧
      OwnS w.heap.size 4 1 vm ms.length (ms.map Bo) M1 ∧ OwnS w.heap.size 64 2 vb bs.length (rows brC bs) M2 ∧ Hp w (M2 ++ M1) w' := by
  refine Ret_of_WC (args := [_, _]) Tryz.func8 rfl Tryz.ntmps8 Tryz.results8 (by simp) ?_
  have H := Hp.refl w
  obtain ⟨ao, ac, rfl⟩ := h0.form
  rw [List.length_map]
  obtain ⟨G, hG, hG8⟩ : ∃ G : Nat, lease % 8 = (G : Int) ∧ G < 8 := ⟨(lease % 8).toNat, by omega, by omega⟩
  have hO1 := OwnS.nil w.heap.size 4 1
  have hO2 := OwnS.nil w.heap.size 64 2
  refine W_seq ?_
  refine W_region_l ?_
  (refine WL_effn rfl (E_alloc (vs := [nilS, nilS, I 0]) H Tryz.zeroValue27 (by kernel_rfl)) ?_; clear H; intro c4 w3 hc4 H)
  refine WL_nil ?_
  refine W_seq ?_
  refine W_region_l ?_
  refine WL_stepM rfl (R_mv) ?_
  refine WL_step rfl (R_bits (r := (G : Int)) rfl rfl (by simp) ((and_mask_i64 3 8 (by decide) rfl (by decide)).trans hG)) ?_
  refine WL_step rfl (R_add (r := ((G + 1 : Nat) : Int)) rfl rfl (by rw [w_i64 (by omega)]; omega)) ?_
  refine WL_step rfl (R_buildL (places := [(0, 1), (1, 1), (2, 1)]) (vs := [nilS, nilS, I ((G + 1 : Nat) : Int)]) Tryz.underlying27 Tryz.typeInfo27 rfl rfl (by kernel_rfl) rfl rfl rfl) ?_
  (refine WL_effn rfl (E_alloc (vs := [nilS, nilS, I 0]) H Tryz.zeroValue27 (by kernel_rfl)) ?_; clear H; intro c5 w11 hc5 H)
  (refine WL_effu rfl (E_storeA (vs := [nilS, nilS, I ((G + 1 : Nat) : Int)]) H Tryz.sizeOf27 rfl rfl (by simp [Value.oneCell']) .here (by simp)) ?_; clear H; intro w12 H; replace H : Hp w [(c5, blk [nilS, nilS, I ((G + 1 : Nat) : Int)] 27), (c4, blk [nilS, nilS, I 0] 27)] w12 := H)
  refine WL_nil ?_
  refine W_seq ?_
  refine W_region_l ?_
  refine WL_stepM rfl (R_as) ?_
  refine WL_nil ?_
  refine W_seqS [(6, 6), (16, 22)] (fun E w' => ∃ y : Nat, y < 16777216 ∧ E 6 = I y ∧ Hp w [(c5, blk [nilS, nilS, I ((G + 1 : Nat) : Int)] 27), (c4, blk [nilS, nilS, I 0] 27)] w') ?c3 ?k3
  · refine W_seq ?_
    refine W_region_l ?_
    refine WL_stepM rfl (R_mv) ?_
    refine WL_step rfl (R_len_slice Tryz.underlying22 rfl) ?_
    refine WL_step rfl (R_gt rfl rfl) ?_
    refine WL_nil ?_
    refine W_if rfl (fun h25 => ?_) (fun h25 => ?_)
    · ((obtain ⟨x0, hx0⟩ : ∃ x, xs[0]? = some x := ⟨_, List.getElem?_eq_getElem (by omega)⟩; obtain ⟨y, hy, hy4⟩ : ∃ y : Nat, x0 % 16777216 = (y : Int) ∧ y < 16777216 := ⟨(x0 % 16777216).toNat, by omega, by omega⟩; obtain ⟨b1, o1, rfl, hc1⟩ := h0.cell (i := 0) (u := I x0) (by rw [List.getElem?_map, hx0]; rfl))) <;> refine W_region_l ?_
      refine WL_stepM rfl (R_mv) ?_
      refine WL_step rfl (R_indexAddr (off' := o1 + 0) Tryz.underlying22 Tryz.sizeOf3 rfl rfl (by omega) (by omega) (by omega)) ?_
      refine WL_step rfl (R_load_cell Tryz.isAgg3 rfl (H.cellN hc1 kYs)) ?_
      refine WL_step rfl (R_bits (r := (y : Int)) rfl rfl (by simp) ((and_mask_i64 24 16777216 (by decide) rfl (by decide)).trans hy)) ?_
      refine WL_stepM rfl (R_as) ?_
      refine WL_nil ?_
      exact ⟨(same_mov rfl (same_updo rfl (same_updo rfl (same_updo rfl (same_mov rfl (same_know rfl (same_updo rfl (same_updo rfl (same_mov rfl Same.refl))))))))), y, hy4, rfl, H⟩
    · refine W_skip ?_
      exact ⟨(same_know rfl (same_updo rfl (same_updo rfl (same_mov rfl Same.refl)))), 0, by omega, rfl, H⟩
  · (clear H; rintro E w1 ⟨y, hy4, h6, H⟩; refine W_kn h6 ?_; obtain ⟨n, hn, hn1, hn4⟩ : ∃ n : Nat, y % 4 + 1 = n ∧ 1 ≤ n ∧ n ≤ 4 := ⟨_, rfl, by omega, by omega⟩)
    refine W_seq ?_
    refine W_region_l ?_
    refine WL_stepM rfl (R_mv) ?_
    refine WL_step rfl (R_rem (r := ((y % 4 : Nat) : Int)) rfl rfl (by decide) (by rw [Int.tmod_eq_emod_of_nonneg (by omega)]; omega)) ?_
    refine WL_step rfl (R_add (r := (n : Int)) rfl rfl (by rw [w_i64 (by omega)]; omega)) ?_
    refine WL_stepM rfl (R_as) ?_
    refine WL_nil ?_
    refine W_seq ?_
    refine W_seq ?_
    refine W_region_l ?_
    refine WL_stepM rfl (R_as) ?_
    refine WL_nil ?_
    refine W_block ?_
    refine W_loopS [(8, 8), (26, 41)] (fun (i : Nat) E w' => ∃ (ms : List Bool) (vm : Value) (M1 : List (Nat × Obj)), ms.length = i ∧ i ≤ n ∧ E 8 = I i ∧ OwnS w.heap.size 4 1 vm ms.length (ms.map Bo) M1 ∧ Hp w ((c5, blk [vm, nilS, I ((G + 1 : Nat) : Int)] 27) :: (c4, blk [nilS, nilS, I 0] 27) :: M1) w') (fun i => n - i) 0 ?e0 ?r0
    · exact ⟨[], _, [], rfl, by omega, rfl, hO1, H⟩
    · (clear H hO1; rintro i E w1 ⟨ms, vm, M1, hml, hi, h8, hO1, H⟩; obtain ⟨ma, mc, rfl⟩ := hO1.form; have hK1 := hO1.keys; refine W_kn h8 ?_)
      refine W_seq ?_
      refine W_seq ?_
      refine W_region_l ?_
      refine WL_stepM rfl (R_mv) ?_
      refine WL_stepM rfl (R_mv) ?_
      refine WL_step rfl (R_lt rfl rfl) ?_
      refine WL_nil ?_
      refine W_if rfl (fun h59 => ?_) (fun h59 => ?_)
      · refine W_skip ?_
        refine W_seq ?_
        refine W_block ?_
        (refine W_draw (Kp [(c5, blk [(.slice ma ms.length mc), nilS, I ((G + 1 : Nat) : Int)] 27)]) (fun j => Nat.ble 10 j) (by kernel_rfl) H ?_; clear H; intro w63 H)
        refine WA_take 0 rfl rfl rfl (by kernel_rfl) (by kernel_rfl) (H.kp.sub (by simp)) (fun _ hC => R_fieldAddr (off' := 0) Tryz.underlying27 rfl Tryz.sizeOf24 (by decide) rfl rfl) ?_
        refine WA_take 1 rfl rfl rfl (by kernel_rfl) (by kernel_rfl) (H.kp.sub (by simp)) (fun _ hC => R_load Tryz.isAgg24 rfl (hC.get .here) rfl) ?_
        refine WA_takeM 2 rfl rfl rfl (by kernel_rfl) (by kernel_rfl) (H.kp.sub (by simp)) (fun _ hC => R_mv) ?_
        refine WA_takeM 3 rfl rfl rfl (by kernel_rfl) (by kernel_rfl) (H.kp.sub (by simp)) (fun _ hC => R_mv) ?_
        refine WA_take 4 rfl rfl rfl (by kernel_rfl) (by kernel_rfl) (H.kp.sub (by simp)) (fun _ hC => R_add (r := ((3 + i : Nat) : Int)) rfl rfl (by rw [w_i64 (by omega)]; omega)) ?_
        refine WA_take 5 rfl rfl rfl (by kernel_rfl) (by kernel_rfl) (H.kp.sub (by simp)) (fun _ hC => R_shr rfl rfl (by omega) rfl) ?_
        refine WA_take 6 rfl rfl rfl (by kernel_rfl) (by kernel_rfl) (H.kp.sub (by simp)) (fun _ hC => R_bits rfl rfl (by simp) rfl) ?_
        refine WA_take 7 rfl rfl rfl (by kernel_rfl) (by kernel_rfl) (H.kp.sub (by simp)) (fun _ hC => R_eq rfl rfl) ?_
        refine WA_one (i := 8) (by kernel_rfl) ?_
        (refine WI_effn rfl (.inl rfl) (E_buildOnes (vs := [_]) H Tryz.underlying24 Tryz.sizeOf4 Tryz.zeroValue4 rfl rfl (by decide) rfl rfl (by simp [Value.oneCell'])) (fun _ _ H => (by first | exact fun h => absurd h (by decide) | exact fun _ => H | exact fun _ => H.none kYs | exact fun _ => H.dropN kYs | exact fun _ => H.pop (by assumption) | exact fun _ => (H.pop (by assumption)).pop (by assumption) | exact fun _ => H.kp | exact fun _ => H.kp.tail | exact fun _ => H.kp.tail.tail | exact fun _ => H.kp.tail.tail.tail | exact fun _ => H.kp.sub (by simp) | exact fun _ => Kp.nil | exact fun _ => H.kh (by simp) kYs)) ?_; clear H; intro b39 w73 hb39 H)
        refine WA_one (i := 9) (by kernel_rfl) ?_
        (have mkA : i < n := (by omega); refine WI_effm rfl (.inl rfl) (E_append (news := [_]) (m := 1) H (.there (.there (.there .last))) hO1 Tryz.underlying24 Tryz.typeInfo4 rfl rfl rfl rfl rfl rfl (src_one Tryz.underlying24 (H.get .here) rfl) (by omega) (by simp only [Tryz.t4]; omega)) (fun _ _ H => (by first | exact fun h => absurd h (by decide) | exact fun _ => H | exact fun _ => H.none kYs | exact fun _ => H.dropN kYs | exact fun _ => H.pop (by assumption) | exact fun _ => (H.pop (by assumption)).pop (by assumption) | exact fun _ => H.kp | exact fun _ => H.kp.tail | exact fun _ => H.kp.tail.tail | exact fun _ => H.kp.tail.tail.tail | exact fun _ => H.kp.sub (by simp) | exact fun _ => Kp.nil | exact fun _ => H.kh (by simp) kYs)) ?_; clear H; intro vN MN w75 hON H; obtain ⟨va, vc, rfl⟩ := hON.form)
        refine WA_one (i := 10) (by kernel_rfl) ?_
        refine WI_value rfl (.inl rfl) (R_fieldAddr (off' := 0) Tryz.underlying27 rfl Tryz.sizeOf24 (by decide) rfl rfl) (by first | exact fun h => absurd h (by decide) | exact fun _ => H | exact fun _ => H.none kYs | exact fun _ => H.dropN kYs | exact fun _ => H.pop (by assumption) | exact fun _ => (H.pop (by assumption)).pop (by assumption) | exact fun _ => H.kp | exact fun _ => H.kp.tail | exact fun _ => H.kp.tail.tail | exact fun _ => H.kp.tail.tail.tail | exact fun _ => H.kp.sub (by simp) | exact fun _ => Kp.nil | exact fun _ => H.kh (by simp) kYs) ?_
        refine WA_one (i := 11) (by kernel_rfl) ?_
        (have mkA2 := mkA; refine WI_effu rfl (.inl rfl) (E_store (v := .slice va (ms.length + 1) vc) H Tryz.sizeOf24 rfl rfl rfl (.there .here) (by simp)) (fun _ _ h => absurd h (by decide)) ?_; clear H; intro w79 H)
        refine WA_done (by kernel_rfl) ?_
        refine W_region_l ?_
        refine WL_stepM rfl (R_mv) ?_
        refine WL_step rfl (R_add rfl rfl (w_i64 (by omega))) ?_
        refine WL_stepM rfl (R_as) ?_
        refine WL_nil ?_
        (have mkA2 := mkA; exact ⟨(same_mov rfl (same_updo rfl (same_mov rfl (same_updn (same_updo rfl (same_updo rfl (same_updo rfl (same_updo rfl (same_updo rfl (same_updo rfl (same_updo rfl (same_mov rfl (same_mov rfl (same_updo rfl (same_updo rfl (same_know rfl (same_updo rfl (same_mov rfl (same_mov rfl same_ovr))))))))))))))))))), i + 1, by omega, ms ++ [_], _, MN, by rw [List.length_append, hml]; rfl, by omega, rfl, (by rw [List.length_append, List.map_append]; exact hON), H.pop (by assumption)⟩)
      · refine W_exit ?_
        refine (if_pos rfl).mpr ?_
        refine W_seq ?_
        refine W_seq ?_
        ((obtain rfl : i = n := (by omega))) <;> refine W_region_l ?_
        refine WL_stepM rfl (R_as) ?_
        refine WL_nil ?_
        refine W_block ?_
        refine W_loopS [(9, 11), (42, 80)] (fun (k : Nat) E w' => ∃ (bs : List (Nat × Nat)) (vb : Value) (M2 : List (Nat × Obj)), bs.length + 1 = k ∧ k ≤ 5 ∧ (∀ b ∈ bs, brOk i b) ∧ E 9 = I k ∧ OwnS w.heap.size 64 2 vb bs.length (rows brC bs) M2 ∧ Hp w ((c5, blk [.slice ma ms.length mc, vb, I ((G + 1 : Nat) : Int)] 27) :: (c4, blk [nilS, nilS, I 0] 27) :: (M2 ++ M1)) w') (fun k => 5 - k) 1 ?e2 ?r2
        · exact ⟨[], _, [], rfl, by omega, by simp, rfl, hO2, H⟩
        · (clear H hO2; rintro k E w1 ⟨bs, vb, M2, hbl, hk, hbo, h9, hO2, H⟩; obtain ⟨qa, qc, rfl⟩ := hO2.form; have hK2 := hO2.keys; refine W_kn h9 ?_)
          refine W_seq ?_
          refine W_seq ?_
          refine W_region_l ?_
          refine WL_stepM rfl (R_mv) ?_
          refine WL_stepM rfl (R_mv) ?_
          refine WL_step rfl (R_len_slice Tryz.underlying22 rfl) ?_
          refine WL_step rfl (R_lt rfl rfl) ?_
          refine WL_stepM rfl (R_mv) ?_
          apply WL_andK 3 46 49 [(47, 49)] H
          case hc => rfl
          case h1 =>
            intro h105
            refine WL_guard_t rfl rfl ?_
            refine WL_stepM rfl (R_mv) ?_
            refine WL_guard_t rfl rfl ?_
            refine WL_step rfl (R_lt rfl rfl) ?_
            refine WL_stepM rfl (R_pk_t rfl) ?_
            refine WL_nil ?_
            exact ⟨(same_mov rfl (same_updo rfl (same_mov rfl Same.refl))), rfl, H⟩
          case h0 =>
            intro h105
            refine WL_guard_f rfl rfl (by decide) ?_
            refine WL_guard_f rfl rfl (by decide) ?_
            refine WL_stepM rfl (R_pk_f rfl) ?_
            refine WL_nil ?_
            exact ⟨(same_mov rfl (same_updo rfl (same_updo rfl Same.refl))), rfl, H⟩
          case h2 =>
            (clear H; intro E105 w105 H)
            refine WL_stepM rfl (R_mv) ?_
            apply WL_andK 3 50 53 [(51, 53)] H
            case hc => rfl
            case h1 =>
              intro h119
              refine WL_guard_t rfl rfl ?_
              refine WL_stepM rfl (R_mv) ?_
              refine WL_guard_t rfl rfl ?_
              refine WL_step rfl (R_gt rfl rfl) ?_
              refine WL_stepM rfl (R_pk_t rfl) ?_
              refine WL_nil ?_
              exact ⟨(same_mov rfl (same_updo rfl (same_mov rfl Same.refl))), rfl, H⟩
            case h0 =>
              intro h119
              refine WL_guard_f rfl rfl (by decide) ?_
              refine WL_guard_f rfl rfl (by decide) ?_
              refine WL_stepM rfl (R_pk_f rfl) ?_
              refine WL_nil ?_
              exact ⟨(same_mov rfl (same_updo rfl (same_updo rfl Same.refl))), rfl, H⟩
            case h2 =>
              (clear H; intro E119 w119 H)
              refine WL_nil ?_
              refine W_if rfl (fun h133 => ?_) (fun h133 => ?_)
              · refine W_skip ?_
                refine W_seq ?_
                refine W_block ?_
                refine W_seq ?_
                ((obtain ⟨x0, hx0⟩ : ∃ x, xs[k]? = some x := ⟨_, List.getElem?_eq_getElem (by omega)⟩; obtain ⟨z, hz, hz4⟩ : ∃ z : Nat, x0 % 65536 = (z : Int) ∧ z < 65536 := ⟨(x0 % 65536).toNat, by omega, by omega⟩; obtain ⟨b1, o1, rfl, hc1⟩ := h0.cell (i := k) (u := I x0) (by rw [List.getElem?_map, hx0]; rfl); obtain ⟨A, hA, hAn⟩ : ∃ A, z % i = A ∧ A < i := ⟨_, rfl, Nat.mod_lt _ (by omega)⟩; obtain ⟨D, hD, hDn⟩ : ∃ D, z / 16 % (i - 1) = D ∧ D < i - 1 := ⟨_, rfl, Nat.mod_lt _ (by omega)⟩; obtain ⟨B, hB, hBn⟩ : ∃ B, (A + 1 + D) % i = B ∧ B < i := ⟨_, rfl, Nat.mod_lt _ (by omega)⟩; have hok : brOk i (A, B) := br_ok hAn hDn hB)) <;> refine W_region_l ?_
                refine WL_stepM rfl (R_mv) ?_
                refine WL_stepM rfl (R_mv) ?_
                refine WL_step rfl (R_indexAddr (off' := o1 + k) Tryz.underlying22 Tryz.sizeOf3 rfl rfl (by omega) (by omega) (by omega)) ?_
                refine WL_step rfl (R_load_cell Tryz.isAgg3 rfl (H.cellN hc1 kYs)) ?_
                refine WL_step rfl (R_bits (r := (z : Int)) rfl rfl (by simp) ((and_mask_i64 16 65536 (by decide) rfl (by decide)).trans hz)) ?_
                refine WL_stepM rfl (R_as) ?_
                refine WL_nil ?_
                refine W_seq ?_
                refine W_region_l ?_
                refine WL_stepM rfl (R_mv) ?_
                refine WL_stepM rfl (R_mv) ?_
                refine WL_step rfl (R_rem (r := (A : Int)) rfl rfl (by omega) (by rw [← hA]; rfl)) ?_
                refine WL_stepM rfl (R_as) ?_
                refine WL_nil ?_
                (refine W_draw (Kp [(c5, blk [.slice ma ms.length mc, .slice qa bs.length qc, I ((G + 1 : Nat) : Int)] 27)]) (fun j => Nat.ble 16 j) (by kernel_rfl) H ?_; clear H; intro w153 H)
                refine WA_take 0 rfl rfl rfl (by kernel_rfl) (by kernel_rfl) (H.kp.sub (by simp)) (fun _ hC => R_fieldAddr (off' := 1) Tryz.underlying27 rfl Tryz.sizeOf25 (by decide) rfl rfl) ?_
                refine WA_take 1 rfl rfl rfl (by kernel_rfl) (by kernel_rfl) (H.kp.sub (by simp)) (fun _ hC => R_load Tryz.isAgg25 rfl (hC.get .here) rfl) ?_
                refine WA_takeM 2 rfl rfl rfl (by kernel_rfl) (by kernel_rfl) (H.kp.sub (by simp)) (fun _ hC => R_mv) ?_
                refine WA_takeM 3 rfl rfl rfl (by kernel_rfl) (by kernel_rfl) (H.kp.sub (by simp)) (fun _ hC => R_mv) ?_
                refine WA_take 4 rfl rfl rfl (by kernel_rfl) (by kernel_rfl) (H.kp.sub (by simp)) (fun _ hC => R_add (r := ((A + 1 : Nat) : Int)) rfl rfl (by rw [w_i64 (by omega)]; omega)) ?_
                refine WA_takeM 5 rfl rfl rfl (by kernel_rfl) (by kernel_rfl) (H.kp.sub (by simp)) (fun _ hC => R_mv) ?_
                refine WA_take 6 rfl rfl rfl (by kernel_rfl) (by kernel_rfl) (H.kp.sub (by simp)) (fun _ hC => R_shr (r := ((z / 16 : Nat) : Int)) rfl rfl (by decide) (by show Int.fdiv (z : Int) 16 = _; rw [Int.fdiv_eq_ediv_of_nonneg _ (by decide)]; omega)) ?_
                refine WA_takeM 7 rfl rfl rfl (by kernel_rfl) (by kernel_rfl) (H.kp.sub (by simp)) (fun _ hC => R_mv) ?_
                refine WA_take 8 rfl rfl rfl (by kernel_rfl) (by kernel_rfl) (H.kp.sub (by simp)) (fun _ hC => R_sub (r := ((i - 1 : Nat) : Int)) rfl rfl (by rw [w_i64 (by omega)]; omega)) ?_
                refine WA_take 9 rfl rfl rfl (by kernel_rfl) (by kernel_rfl) (H.kp.sub (by simp)) (fun _ hC => R_rem (r := (D : Int)) rfl rfl (by omega) (by rw [← hD]; rfl)) ?_
                refine WA_take 10 rfl rfl rfl (by kernel_rfl) (by kernel_rfl) (H.kp.sub (by simp)) (fun _ hC => R_add (r := ((A + 1 + D : Nat) : Int)) rfl rfl (by rw [w_i64 (by omega)]; omega)) ?_
                refine WA_takeM 11 rfl rfl rfl (by kernel_rfl) (by kernel_rfl) (H.kp.sub (by simp)) (fun _ hC => R_mv) ?_
                refine WA_take 12 rfl rfl rfl (by kernel_rfl) (by kernel_rfl) (H.kp.sub (by simp)) (fun _ hC => R_rem (r := (B : Int)) rfl rfl (by omega) (by rw [← hB]; rfl)) ?_
                refine WA_take 13 rfl rfl rfl (by kernel_rfl) (by kernel_rfl) (H.kp.sub (by simp)) (fun _ hC => R_buildL (places := [(0, 1), (1, 1)]) (vs := brC (A, B)) Tryz.underlying64 Tryz.typeInfo64 rfl rfl (by kernel_rfl) rfl rfl rfl) ?_
                refine WA_one (i := 14) (by kernel_rfl) ?_
                (refine WI_effn rfl (.inl rfl) (E_buildRows (vss := [brC (A, B)]) H Tryz.underlying25 Tryz.sizeOf64 Tryz.zeroValue64 rfl rfl (by decide) rfl rfl (by simp [brC])) (fun _ _ H => (by first | exact fun h => absurd h (by decide) | exact fun _ => H | exact fun _ => H.none kYs | exact fun _ => H.dropN kYs | exact fun _ => H.pop (by assumption) | exact fun _ => (H.pop (by assumption)).pop (by assumption) | exact fun _ => H.kp | exact fun _ => H.kp.tail | exact fun _ => H.kp.tail.tail | exact fun _ => H.kp.tail.tail.tail | exact fun _ => H.kp.sub (by simp) | exact fun _ => Kp.nil | exact fun _ => H.kh (by simp) kYs)) ?_; clear H; intro b78 w169 hb78 H)
                refine WA_one (i := 15) (by kernel_rfl) ?_
                (have mkB : A < i := (by omega); refine WI_effm rfl (.inl rfl) (E_append (news := brC (A, B)) H (.there (.there (.there .here))) hO2 Tryz.underlying25 Tryz.typeInfo64 rfl rfl rfl rfl rfl rfl (src_blk (m := 1) (sp := []) Tryz.underlying25 (H.get .here) rfl (brC_one _)) (by omega) (by simp only [Tryz.t64]; omega)) (fun _ _ H => (by first | exact fun h => absurd h (by decide) | exact fun _ => H | exact fun _ => H.none kYs | exact fun _ => H.dropN kYs | exact fun _ => H.pop (by assumption) | exact fun _ => (H.pop (by assumption)).pop (by assumption) | exact fun _ => H.kp | exact fun _ => H.kp.tail | exact fun _ => H.kp.tail.tail | exact fun _ => H.kp.tail.tail.tail | exact fun _ => H.kp.sub (by simp) | exact fun _ => Kp.nil | exact fun _ => H.kh (by simp) kYs)) ?_; clear H; intro vN MN w171 hON H; obtain ⟨va, vc, rfl⟩ := hON.form)
                refine WA_one (i := 16) (by kernel_rfl) ?_
                refine WI_value rfl (.inl rfl) (R_fieldAddr (off' := 1) Tryz.underlying27 rfl Tryz.sizeOf25 (by decide) rfl rfl) (by first | exact fun h => absurd h (by decide) | exact fun _ => H | exact fun _ => H.none kYs | exact fun _ => H.dropN kYs | exact fun _ => H.pop (by assumption) | exact fun _ => (H.pop (by assumption)).pop (by assumption) | exact fun _ => H.kp | exact fun _ => H.kp.tail | exact fun _ => H.kp.tail.tail | exact fun _ => H.kp.tail.tail.tail | exact fun _ => H.kp.sub (by simp) | exact fun _ => Kp.nil | exact fun _ => H.kh (by simp) kYs) ?_
                refine WA_one (i := 17) (by kernel_rfl) ?_
                (have mkB2 := mkB; refine WI_effu rfl (.inl rfl) (E_store (v := .slice va (bs.length + 1) vc) H Tryz.sizeOf25 rfl rfl rfl (.there .here) (by simp)) (fun _ _ h => absurd h (by decide)) ?_; clear H; intro w175 H)
                refine WA_done (by kernel_rfl) ?_
                refine W_region_l ?_
                refine WL_stepM rfl (R_mv) ?_
                refine WL_step rfl (R_add rfl rfl (w_i64 (by omega))) ?_
                refine WL_stepM rfl (R_as) ?_
                refine WL_nil ?_
                (have mkB2 := mkB; exact ⟨(same_mov rfl (same_updo rfl (same_mov rfl (same_updn (same_updo rfl (same_updo rfl (same_updo rfl (same_updo rfl (same_updo rfl (same_mov rfl (same_updo rfl (same_updo rfl (same_updo rfl (same_mov rfl (same_updo rfl (same_mov rfl (same_updo rfl (same_mov rfl (same_mov rfl (same_updo rfl (same_updo rfl (same_mov rfl (same_updo rfl (same_mov rfl (same_mov rfl (same_mov rfl (same_updo rfl (same_updo rfl (same_updo rfl (same_mov rfl (same_mov rfl (same_know rfl (same_in rfl (same_mov rfl (same_in rfl (same_mov rfl (same_updo rfl (same_updo rfl (same_mov rfl (same_mov rfl same_ovr)))))))))))))))))))))))))))))))))))))))), k + 1, by omega, bs ++ [(A, B)], _, MN, by rw [List.length_append, ← hbl]; rfl, by omega, (by intro b hb; rcases List.mem_append.1 hb with hb | hb; exact hbo b hb; rw [List.mem_singleton.1 hb]; exact hok), rfl, (by rw [List.length_append, rows_append]; exact hON), H.pop (by assumption)⟩)
              · refine W_exit ?_
                refine (if_pos rfl).mpr ?_
                refine W_seq ?_
                refine W_region_l ?_
                refine WL_step rfl (R_loadA Tryz.isAgg27 Tryz.sizeOf27 rfl (H.get .here) rfl (by simp)) ?_
                (have hbx := hbo; refine WL_effu rfl (E_storeA (vs := [.slice ma ms.length mc, .slice qa bs.length qc, I ((G + 1 : Nat) : Int)]) H Tryz.sizeOf27 rfl rfl (by simp [Value.oneCell']) (.there .here) (by simp)) ?_; clear H; intro w188 H)
                refine WL_nil ?_
                refine W_ret ?_
                exact ⟨_, ⟨_, rfl, ldA Tryz.isAgg27 Tryz.sizeOf27 (H.get (.there .here)) rfl (by simp)⟩, ms, bs, G + 1, _, _, M1, M2, rfl, by omega, by omega, (by rw [hml]; exact hbo), by omega, hO1, hO2, (H.pop (by assumption)).pop (by assumption)⟩
end Go.Proofs.YtlpmfldijgdcoaaGreatDoor.Top

/-
  What the world checks of a plan.
-/
namespace Go.Proofs.YtlpmfldijgdcoaaGreatDoor.Top
open Go Go.Proofs Go.Proofs.YtlpmfldijgdcoaaGreatDoor.Fx
set_option maxRecDepth 100000
set_option linter.unusedVariables false
set_option linter.unusedSimpArgs false
set_option maxHeartbeats 16000000

/-- a plan that is read -/
structure PlanR (w : World) (v : Value) (ms : List Bool) (bs : List (Nat × Nat)) (ls : Nat) : Prop where
  ex : ∃ vm vb, v = .agg #[vm, vb, I ls] ∧ RdS w vm (ms.map Bo) ∧ RdR brC w vb bs
  m1 : 1 ≤ ms.length
  m4 : ms.length ≤ 4
  b4 : bs.length ≤ 4
  ok : ∀ b ∈ bs, brOk ms.length b
  l1 : 1 ≤ ls
  l8 : ls ≤ 8

theorem check_ret {ms : List Bool} {bs : List (Nat × Nat)} {ls : Nat} {w : World} {v : Value} (hp : PlanR w v ms bs ls) :
    Ret Tryz.prog 23 #[v] w fun v w' => v = I 0 ∧ Hp w [] w' := by
  refine Ret_of_W (args := [_]) Tryz.func23 rfl Tryz.ntmps23 Tryz.results23 (by simp) ?_
  have H := Hp.refl w
  obtain ⟨⟨vm, vb, rfl, hm, hb⟩, m1, m4, b4, hok, l1, l8⟩ := hp
  obtain ⟨ma, mc, rfl⟩ := hm.form
  obtain ⟨ba, bc, rfl⟩ := hb.form
  rw [List.length_map]
  refine W_seq ?_
  refine W_region_l ?_
  (refine WL_effn rfl (E_box (vs := [.slice ma ms.length mc, .slice ba bs.length bc, I ls]) H rfl rfl) ?_; clear H; intro c1 w3 hc1 H)
  refine WL_stepM rfl (R_as) ?_
  refine WL_nil ?_
  refine W_seq ?_
  refine W_region_l ?_
  refine WL_step rfl (R_fieldAddr (off' := 0) Tryz.underlying27 rfl Tryz.sizeOf24 (by decide) rfl rfl) ?_
  refine WL_step rfl (R_load Tryz.isAgg24 rfl (H.get .here) rfl) ?_
  refine WL_step rfl (R_len_slice Tryz.underlying24 rfl) ?_
  refine WL_stepM rfl (R_as) ?_
  refine WL_nil ?_
  refine W_seq ?_
  refine W_seq ?_
  refine W_region_l ?_
  refine WL_stepM rfl (R_mv) ?_
  refine WL_step rfl (R_lt_f rfl rfl (by omega)) ?_
  refine WL_stepM rfl (R_mv) ?_
  refine WL_guard_t rfl rfl ?_
  refine WL_stepM rfl (R_mv) ?_
  refine WL_guard_t rfl rfl ?_
  refine WL_step rfl (R_gt_f rfl rfl (by omega)) ?_
  refine WL_stepM rfl (R_pk_f rfl) ?_
  refine WL_stepM rfl (R_mv) ?_
  refine WL_guard_t rfl rfl ?_
  refine WL_step rfl (R_fieldAddr (off' := 1) Tryz.underlying27 rfl Tryz.sizeOf25 (by decide) rfl rfl) ?_
  refine WL_guard_t rfl rfl ?_
  refine WL_step rfl (R_load Tryz.isAgg25 rfl (H.get .here) rfl) ?_
  refine WL_guard_t rfl rfl ?_
  refine WL_step rfl (R_len_slice Tryz.underlying25 rfl) ?_
  refine WL_guard_t rfl rfl ?_
  refine WL_step rfl (R_gt_f rfl rfl (by omega)) ?_
  refine WL_stepM rfl (R_pk_f rfl) ?_
  refine WL_stepM rfl (R_mv) ?_
  refine WL_guard_t rfl rfl ?_
  refine WL_step rfl (R_fieldAddr (off' := 2) Tryz.underlying27 rfl Tryz.sizeOf3 (by decide) rfl rfl) ?_
  refine WL_guard_t rfl rfl ?_
  refine WL_step rfl (R_load Tryz.isAgg3 rfl (H.get .here) rfl) ?_
  refine WL_guard_t rfl rfl ?_
  refine WL_step rfl (R_lt_f rfl rfl (by omega)) ?_
  refine WL_stepM rfl (R_pk_f rfl) ?_
  refine WL_stepM rfl (R_mv) ?_
  refine WL_guard_t rfl rfl ?_
  refine WL_step rfl (R_fieldAddr (off' := 2) Tryz.underlying27 rfl Tryz.sizeOf3 (by decide) rfl rfl) ?_
  refine WL_guard_t rfl rfl ?_
  refine WL_step rfl (R_load Tryz.isAgg3 rfl (H.get .here) rfl) ?_
  refine WL_guard_t rfl rfl ?_
  refine WL_step rfl (R_gt_f rfl rfl (by omega)) ?_
  refine WL_stepM rfl (R_pk_f rfl) ?_
  refine WL_nil ?_
  refine W_cond_f rfl ?_
  refine W_skip ?_
  refine W_seq ?_
  refine W_seq ?_
  refine W_region_l ?_
  refine WL_step rfl (R_fieldAddr (off' := 1) Tryz.underlying27 rfl Tryz.sizeOf25 (by decide) rfl rfl) ?_
  refine WL_step rfl (R_load Tryz.isAgg25 rfl (H.get .here) rfl) ?_
  refine WL_step rfl (R_len_slice Tryz.underlying25 rfl) ?_
  refine WL_stepM rfl (R_mv) ?_
  refine WL_nil ?_
  refine W_block ?_
  refine W_loopS [(2, 2), (5, 5), (34, 65)] (fun (i : Nat) E w' => i ≤ bs.length ∧ E 34 = I i ∧ Hp w [(c1, blk [.slice ma ms.length mc, .slice ba bs.length bc, I ls] 27)] w') (fun i => bs.length - i) 0 ?e0 ?r0
  · exact ⟨by omega, rfl, H⟩
  · (clear H; rintro i E w1 ⟨hi, h34, H⟩; refine W_kn h34 ?_)
    refine W_seq ?_
    refine W_region_l ?_
    refine WL_step rfl (R_lt rfl rfl) ?_
    refine WL_nil ?_
    refine W_seq ?_
    refine W_if rfl (fun h69 => ?_) (fun h69 => ?_)
    · refine W_skip ?_
      refine W_seq ?_
      refine W_block ?_
      refine W_seq ?_
      ((obtain ⟨⟨A, B⟩, hr⟩ : ∃ r, bs[i]? = some r := ⟨_, List.getElem?_eq_getElem (by omega)⟩; obtain ⟨hA, hB, hAB⟩ := hok _ (List.mem_of_getElem? hr); simp only at hA hB hAB; obtain ⟨b1, o1, rfl, hc⟩ := hb.cell brC_len hr)) <;> refine W_region_l ?_
      refine WL_step rfl (R_indexAddr (off' := o1 + i * 2) Tryz.underlying25 Tryz.sizeOf64 rfl rfl (by omega) (by omega) (by omega)) ?_
      refine WL_step rfl (R_loadA_cell (vs := [I A, I B]) Tryz.isAgg64 Tryz.sizeOf64 rfl (fun j v hj => H.cellN (hc j v hj) kYs) rfl) ?_
      (refine WL_effn rfl (E_alloc (vs := [I 0, I 0]) H Tryz.zeroValue64 (by kernel_rfl)) ?_; clear H; intro c5 w77 hc5 H)
      (refine WL_effu rfl (E_storeA (vs := [(.int _ _), (.int _ _)]) H Tryz.sizeOf64 rfl rfl (by simp [Value.oneCell']) .here (by simp)) ?_; clear H; intro w78 H)
      refine WL_nil ?_
      refine W_seq ?_
      refine W_region_l ?_
      refine WL_step rfl (R_fieldAddr (off' := 0) Tryz.underlying64 rfl Tryz.sizeOf3 (by decide) rfl rfl) ?_
      refine WL_step rfl (R_load Tryz.isAgg3 rfl (H.get .here) rfl) ?_
      refine WL_step rfl (R_lt_f rfl rfl (by omega)) ?_
      refine WL_stepM rfl (R_mv) ?_
      refine WL_guard_t rfl rfl ?_
      refine WL_step rfl (R_fieldAddr (off' := 0) Tryz.underlying64 rfl Tryz.sizeOf3 (by decide) rfl rfl) ?_
      refine WL_guard_t rfl rfl ?_
      refine WL_step rfl (R_load Tryz.isAgg3 rfl (H.get .here) rfl) ?_
      refine WL_guard_t rfl rfl ?_
      refine WL_stepM rfl (R_mv) ?_
      refine WL_guard_t rfl rfl ?_
      refine WL_step rfl (R_ge_f rfl rfl (by omega)) ?_
      refine WL_stepM rfl (R_pk_f rfl) ?_
      refine WL_stepM rfl (R_mv) ?_
      refine WL_guard_t rfl rfl ?_
      refine WL_step rfl (R_fieldAddr (off' := 1) Tryz.underlying64 rfl Tryz.sizeOf3 (by decide) rfl rfl) ?_
      refine WL_guard_t rfl rfl ?_
      refine WL_step rfl (R_load Tryz.isAgg3 rfl (H.get .here) rfl) ?_
      refine WL_guard_t rfl rfl ?_
      refine WL_step rfl (R_lt_f rfl rfl (by omega)) ?_
      refine WL_stepM rfl (R_pk_f rfl) ?_
      refine WL_stepM rfl (R_mv) ?_
      refine WL_guard_t rfl rfl ?_
      refine WL_step rfl (R_fieldAddr (off' := 1) Tryz.underlying64 rfl Tryz.sizeOf3 (by decide) rfl rfl) ?_
      refine WL_guard_t rfl rfl ?_
      refine WL_step rfl (R_load Tryz.isAgg3 rfl (H.get .here) rfl) ?_
      refine WL_guard_t rfl rfl ?_
      refine WL_stepM rfl (R_mv) ?_
      refine WL_guard_t rfl rfl ?_
      refine WL_step rfl (R_ge_f rfl rfl (by omega)) ?_
      refine WL_stepM rfl (R_pk_f rfl) ?_
      refine WL_stepM rfl (R_mv) ?_
      refine WL_guard_t rfl rfl ?_
      refine WL_step rfl (R_fieldAddr (off' := 0) Tryz.underlying64 rfl Tryz.sizeOf3 (by decide) rfl rfl) ?_
      refine WL_guard_t rfl rfl ?_
      refine WL_step rfl (R_load Tryz.isAgg3 rfl (H.get .here) rfl) ?_
      refine WL_guard_t rfl rfl ?_
      refine WL_step rfl (R_fieldAddr (off' := 1) Tryz.underlying64 rfl Tryz.sizeOf3 (by decide) rfl rfl) ?_
      refine WL_guard_t rfl rfl ?_
      refine WL_step rfl (R_load Tryz.isAgg3 rfl (H.get .here) rfl) ?_
      refine WL_guard_t rfl rfl ?_
      refine WL_step rfl (R_eq_f rfl rfl (by omega)) ?_
      refine WL_stepM rfl (R_pk_f rfl) ?_
      refine WL_nil ?_
      refine W_cond_f rfl ?_
      refine W_skip ?_
      refine W_region_l ?_
      refine WL_step rfl (R_add rfl rfl (w_i64 (by omega))) ?_
      refine WL_stepM rfl (R_mv) ?_
      refine WL_nil ?_
      exact ⟨(same_mov rfl (same_updo rfl (same_mov rfl (same_updo rfl (same_updo rfl (same_updo rfl (same_updo rfl (same_updo rfl (same_mov rfl (same_mov rfl (same_updo rfl (same_mov rfl (same_updo rfl (same_updo rfl (same_mov rfl (same_mov rfl (same_updo rfl (same_updo rfl (same_updo rfl (same_mov rfl (same_mov rfl (same_updo rfl (same_mov rfl (same_updo rfl (same_updo rfl (same_mov rfl (same_updo rfl (same_updo rfl (same_updo rfl (same_updn (same_updo rfl (same_updo rfl (same_updo rfl (same_know rfl (same_updo rfl same_ovr))))))))))))))))))))))))))))))))))), i + 1, by omega, by omega, rfl, H.pop (by assumption)⟩
    · refine W_exit ?_
      refine (if_pos rfl).mpr ?_
      refine W_seq ?_
      refine W_region_l ?_
      refine WL_stepM rfl (R_as) ?_
      refine WL_nil ?_
      refine W_ret ?_
      exact ⟨_, rfl, rfl, H.none kYs⟩
end Go.Proofs.YtlpmfldijgdcoaaGreatDoor.Top

/-
  The closure that the program makes of a plan.
-/
namespace Go.Proofs.YtlpmfldijgdcoaaGreatDoor.Top
open Go Go.Proofs Go.Proofs.YtlpmfldijgdcoaaGreatDoor.Fx
set_option maxRecDepth 100000
set_option linter.unusedVariables false
set_option linter.unusedSimpArgs false
set_option maxHeartbeats 16000000

theorem PlanR.monoN {w w' : World} {L : List (Nat × Obj)} {v : Value} {ms : List Bool} {bs : List (Nat × Nat)} {ls : Nat} (h : PlanR w v ms bs ls) (H : Hp w L w') (hn : ∀ p ∈ L, w.heap.size ≤ p.1) : PlanR w' v ms bs ls := by
  obtain ⟨⟨vm, vb, e, hm, hb⟩, h1, h2, h3, h4, h5, h6⟩ := h
  exact ⟨⟨vm, vb, e, hm.monoN H hn, hb.monoN H hn⟩, h1, h2, h3, h4, h5, h6⟩

theorem cloneB_ret {xs : List Bool} {w : World} {l : Value} (hl : RdS w l (xs.map Bo)) (hb : xs.length ≤ 1000000) :
    Ret Tryz.prog 40 #[l] w fun v w' => ∃ M, OwnS w.heap.size 4 1 v xs.length (xs.map Bo) M ∧ Hp w M w' := by
  refine Ret_of_W (args := [_]) Tryz.func40 rfl Tryz.ntmps40 Tryz.results40 (by simp) ?_
  have H := Hp.refl w
  obtain ⟨ao, ca, rfl, hca, hra⟩ := id hl
  simp only [List.length_map] at hl ⊢
  cases ao with
  | none =>
    obtain rfl : xs = [] := by
      rcases hra with h | ⟨_, _, h, _⟩
      · simpa using h
      · cases h
    refine W_seq ?_
    refine W_region_l ?_
    refine WL_stepM rfl (R_as) ?_
    refine WL_nil ?_
    refine W_seq ?_
    refine W_seq ?_
    refine W_region_l ?_
    refine WL_stepM rfl (R_mv) ?_
    refine WL_step rfl (R_eq_nils Tryz.underlying24 rfl rfl) ?_
    refine WL_nil ?_
    refine W_cond_t rfl ?_
    refine W_seq ?_
    refine W_region_l ?_
    refine WL_stepM rfl (R_as) ?_
    refine WL_nil ?_
    refine W_ret ?_
    exact ⟨_, rfl, [], OwnS.nil _ _ _, H⟩
  | some a =>
    refine W_seq ?_
    refine W_region_l ?_
    refine WL_stepM rfl (R_as) ?_
    refine WL_nil ?_
    refine W_seq ?_
    refine W_seq ?_
    refine W_region_l ?_
    refine WL_stepM rfl (R_mv) ?_
    refine WL_step rfl (R_eq_sl Tryz.underlying24 rfl rfl) ?_
    refine WL_nil ?_
    refine W_cond_f rfl ?_
    refine W_skip ?_
    refine W_seq ?_
    refine W_region_l ?_
    (refine WL_effn rfl (E_buildSlice (vs := []) H Tryz.underlying24 Tryz.sizeOf4 Tryz.zeroValue4 rfl rfl (by decide) rfl rfl) ?_; clear H; intro b15 w15 hb15 H)
    refine WL_stepM rfl (R_mv) ?_
    (refine WL_effm rfl (E_append H .one (OwnS.new (xs := []) (sp := []) (by assumption) rfl rfl (by omega)) Tryz.underlying24 Tryz.typeInfo4 rfl rfl rfl rfl rfl rfl ((hl.monoN H (kCons (by assumption) kNil)).src Tryz.underlying24 (by intro u hu; obtain ⟨z, _, rfl⟩ := List.mem_map.1 hu; rfl)) (by simp; omega) (by simp [Tryz.t4]; omega)) ?_; clear H; intro vN MN w17 hO H; rw [List.length_map, Nat.zero_add, List.nil_append] at hO; rw [List.append_nil] at H)
    refine WL_stepM rfl (R_as) ?_
    refine WL_nil ?_
    refine W_ret ?_
    exact ⟨_, rfl, MN, hO, H⟩

/-- one bridge drawn -/
def stepB (R : List Bool) (b : Nat × Nat) : List Bool := if (R.getD b.1 false || R.getD b.2 false) = true then (R.set b.1 true).set b.2 true else R
theorem stepB_len (R : List Bool) (b : Nat × Nat) : (stepB R b).length = R.length := by unfold stepB; split <;> simp
def passTo (R : List Bool) (bs : List (Nat × Nat)) (k : Nat) : List Bool := (bs.take k).foldl stepB R
theorem passTo_succ {R : List Bool} {bs : List (Nat × Nat)} {k : Nat} {b : Nat × Nat} (h : bs[k]? = some b) : passTo R bs (k + 1) = stepB (passTo R bs k) b := by
  have hk := (List.getElem?_eq_some_iff.1 h).1
  unfold passTo
  rw [List.take_succ_eq_append_getElem hk, (List.getElem?_eq_some_iff.1 h).2, List.foldl_append]; rfl
theorem passTo_len {R : List Bool} {bs : List (Nat × Nat)} : ∀ {k : Nat}, k ≤ bs.length → (passTo R bs k).length = R.length
  | 0, _ => rfl
  | k + 1, h => by rw [passTo_succ (List.getElem?_eq_getElem (by omega)), stepB_len]; exact passTo_len (by omega)
/-- some rounds over all bridges -/
def cloTo (ms : List Bool) (bs : List (Nat × Nat)) : Nat → List Bool
  | 0 => ms
  | i + 1 => passTo (cloTo ms bs i) bs bs.length
theorem cloTo_len (ms : List Bool) (bs : List (Nat × Nat)) : ∀ i, (cloTo ms bs i).length = ms.length
  | 0 => rfl
  | i + 1 => by show (passTo _ _ _).length = _; rw [passTo_len (Nat.le_refl _), cloTo_len ms bs i]
theorem stepB_yes {R : List Bool} {A B : Nat} {x y : Bool} (hx : R[A]? = some x) (hy : R[B]? = some y) (h : (x || y) = true) : stepB R (A, B) = (R.set A true).set B true := by
  unfold stepB
  rw [List.getD_eq_getElem?_getD, List.getD_eq_getElem?_getD, hx, hy]
  exact if_pos h
theorem stepB_no {R : List Bool} {A B : Nat} (hx : R[A]? = some false) (hy : R[B]? = some false) : stepB R (A, B) = R := by
  unfold stepB
  rw [List.getD_eq_getElem?_getD, List.getD_eq_getElem?_getD, hx, hy]
  exact if_neg (by simp)
theorem set_Bo {R : List Bool} {sp : List Value} {A B : Nat} (hA : A < R.length) (hB : B < R.length) : ((R.map Bo ++ sp).set A (Bo true)).set B (Bo true) = ((R.set A true).set B true).map Bo ++ sp := by
  rw [List.set_append_left _ _ (by rw [List.length_map]; exact hA), List.set_append_left _ _ (by rw [List.length_set, List.length_map]; exact hB), List.map_set, List.map_set]

theorem closT_ret {ms : List Bool} {bs : List (Nat × Nat)} {ls : Nat} {w : World} {v : Value} (hp : PlanR w v ms bs ls) :
    Ret Tryz.prog 17 #[v] w fun v w' => ∃ M, OwnS w.heap.size 4 1 v ms.length ((cloTo ms bs ms.length).map Bo) M ∧ Hp w M w' := by
  refine Ret_of_W (args := [_]) Tryz.func17 rfl Tryz.ntmps17 Tryz.results17 (by simp) ?_
  have H := Hp.refl w
  have hp0 := hp
  obtain ⟨⟨vm, vb, rfl, hm, hb⟩, m1, m4, b4, hok, l1, l8⟩ := hp
  obtain ⟨ma, mc, rfl⟩ := hm.form
  obtain ⟨ba, bc, rfl⟩ := hb.form
  rw [List.length_map] at hp0 hm ⊢
  refine W_seq ?_
  refine W_region_l ?_
  (refine WL_effn rfl (E_box (vs := [.slice ma ms.length mc, .slice ba bs.length bc, I ls]) H rfl rfl) ?_; clear H; intro c1 w3 hc1 H)
  refine WL_stepM rfl (R_as) ?_
  refine WL_nil ?_
  refine W_seq ?_
  refine W_seq ?_
  refine W_region_l ?_
  refine WL_step rfl (R_loadA (vs := [.slice ma ms.length mc, .slice ba bs.length bc, I ls]) Tryz.isAgg27 Tryz.sizeOf27 rfl (H.get .here) rfl (by simp)) ?_
  (refine WL_call rfl (R_call rfl Tryz.call23 rfl) (check_ret (hp0.monoN H kYs)) ?_; rintro _ w10 ⟨rfl, H1⟩; replace H := H.seq0 H1; clear H1)
  refine WL_step rfl (R_ne_f rfl rfl (by omega)) ?_
  refine WL_nil ?_
  refine W_cond_f rfl ?_
  refine W_skip ?_
  refine W_seq ?_
  refine W_region_l ?_
  refine WL_step rfl (R_fieldAddr (off' := 0) Tryz.underlying27 rfl Tryz.sizeOf24 (by decide) rfl rfl) ?_
  refine WL_step rfl (R_load Tryz.isAgg24 rfl (H.get .here) rfl) ?_
  (refine WL_call rfl (R_call rfl Tryz.call40 rfl) (cloneB_ret (hm.monoN H kYs) (by omega)) ?_; rintro _ w19 ⟨M, hO, H1⟩; have h19 := H.seqO hO H1; clear H H1 hO; obtain ⟨hO, H⟩ := h19; obtain ⟨q, qc, sp, rfl, hq, rfl, hsp, hqc⟩ := OwnS.pos hO (by omega); clear hO; replace H : Hp w [(q, blk ((cloTo ms bs 0).map Bo ++ sp) 4), (c1, blk [.slice ma ms.length mc, .slice ba bs.length bc, I ls] 27)] _ := H)
  refine WL_stepM rfl (R_as) ?_
  refine WL_nil ?_
  refine W_seq ?_
  refine W_seq ?_
  refine W_region_l ?_
  refine WL_step rfl (R_fieldAddr (off' := 0) Tryz.underlying27 rfl Tryz.sizeOf24 (by decide) rfl rfl) ?_
  refine WL_step rfl (R_load Tryz.isAgg24 rfl (H.get (.there .here)) rfl) ?_
  refine WL_step rfl (R_len_slice Tryz.underlying24 rfl) ?_
  refine WL_stepM rfl (R_mv) ?_
  refine WL_nil ?_
  refine W_block ?_
  refine W_loopS [(5, 5), (15, 45)] (fun (i : Nat) E w' => i ≤ ms.length ∧ E 15 = I i ∧ Hp w [(q, blk ((cloTo ms bs i).map Bo ++ sp) 4), (c1, blk [.slice ma ms.length mc, .slice ba bs.length bc, I ls] 27)] w') (fun i => ms.length - i) 0 ?e0 ?r0
  · exact ⟨by omega, rfl, H⟩
  · (clear H; rintro i E w1 ⟨hi, h15, H⟩; refine W_kn h15 ?_)
    refine W_seq ?_
    refine W_region_l ?_
    refine WL_step rfl (R_lt rfl rfl) ?_
    refine WL_nil ?_
    refine W_seq ?_
    refine W_if rfl (fun h38 => ?_) (fun h38 => ?_)
    · refine W_skip ?_
      refine W_seq ?_
      refine W_block ?_
      refine W_seq ?_
      refine W_region_l ?_
      refine WL_step rfl (R_fieldAddr (off' := 1) Tryz.underlying27 rfl Tryz.sizeOf25 (by decide) rfl rfl) ?_
      refine WL_step rfl (R_load Tryz.isAgg25 rfl (H.get (.there .here)) rfl) ?_
      refine WL_step rfl (R_len_slice Tryz.underlying25 rfl) ?_
      refine WL_stepM rfl (R_mv) ?_
      refine WL_nil ?_
      refine W_block ?_
      refine W_loopS [(5, 5), (20, 44)] (fun (k : Nat) E w' => k ≤ bs.length ∧ E 20 = I k ∧ Hp w [(q, blk ((passTo (cloTo ms bs i) bs k).map Bo ++ sp) 4), (c1, blk [.slice ma ms.length mc, .slice ba bs.length bc, I ls] 27)] w') (fun k => bs.length - k) 0 ?e2 ?r2
      · exact ⟨by omega, rfl, H⟩
      · (clear H; rintro k E w1 ⟨hk, h20, H⟩; refine W_kn h20 ?_)
        refine W_seq ?_
        refine W_region_l ?_
        refine WL_step rfl (R_lt rfl rfl) ?_
        refine WL_nil ?_
        refine W_seq ?_
        refine W_if rfl (fun h57 => ?_) (fun h57 => ?_)
        · refine W_skip ?_
          refine W_seq ?_
          refine W_block ?_
          refine W_seq ?_
          ((obtain ⟨⟨A, B⟩, hr⟩ : ∃ r, bs[k]? = some r := ⟨_, List.getElem?_eq_getElem (by omega)⟩; have hps := passTo_succ (R := cloTo ms bs i) hr; obtain ⟨hA, hB, hAB⟩ := hok _ (List.mem_of_getElem? hr); simp only at hA hB hAB; obtain ⟨b1, o1, rfl, hc⟩ := hb.cell brC_len hr; have hRl : (passTo (cloTo ms bs i) bs k).length = ms.length := (by rw [passTo_len hk, cloTo_len]); obtain ⟨R, hR⟩ : ∃ R, passTo (cloTo ms bs i) bs k = R := ⟨_, rfl⟩; rw [hR] at H hps hRl; obtain ⟨x, hx⟩ : ∃ x, R[A]? = some x := ⟨_, List.getElem?_eq_getElem (by omega)⟩; obtain ⟨y, hy⟩ : ∃ y, R[B]? = some y := ⟨_, List.getElem?_eq_getElem (by omega)⟩; cases x <;> cases y)) <;> refine W_region_l ?_
          · refine WL_step rfl (R_indexAddr (off' := o1 + k * 2) Tryz.underlying25 Tryz.sizeOf64 rfl rfl (by omega) (by omega) (by omega)) ?_
            refine WL_step rfl (R_loadA_cell (vs := [I A, I B]) Tryz.isAgg64 Tryz.sizeOf64 rfl (fun j v hj => H.cellN (hc j v hj) kYs) rfl) ?_
            (refine WL_effn rfl (E_alloc (vs := [I 0, I 0]) H Tryz.zeroValue64 (by kernel_rfl)) ?_; clear H; intro c5 w65 hc5 H)
            (refine WL_effu rfl (E_storeA (vs := [(.int _ _), (.int _ _)]) H Tryz.sizeOf64 rfl rfl (by simp [Value.oneCell']) .here (by simp)) ?_; clear H; intro w66 H)
            refine WL_nil ?_
            refine W_seq ?_
            refine W_region_l ?_
            refine WL_stepM rfl (R_mv) ?_
            refine WL_step rfl (R_fieldAddr (off' := 0) Tryz.underlying64 rfl Tryz.sizeOf3 (by decide) rfl rfl) ?_
            refine WL_step rfl (R_load Tryz.isAgg3 rfl (H.get .here) rfl) ?_
            refine WL_step rfl (R_indexAddr (off' := A) Tryz.underlying24 Tryz.sizeOf4 rfl rfl (by omega) (by omega) (by omega)) ?_
            refine WL_step rfl (R_load (v := .bool false) Tryz.isAgg4 rfl (H.get (.there .here)) (by rw [List.getElem?_append_left (by rw [List.length_map]; omega), List.getElem?_map, hx]; rfl)) ?_
            refine WL_stepM rfl (R_mv) ?_
            refine WL_guard_t rfl rfl ?_
            refine WL_stepM rfl (R_mv) ?_
            refine WL_guard_t rfl rfl ?_
            refine WL_step rfl (R_fieldAddr (off' := 1) Tryz.underlying64 rfl Tryz.sizeOf3 (by decide) rfl rfl) ?_
            refine WL_guard_t rfl rfl ?_
            refine WL_step rfl (R_load Tryz.isAgg3 rfl (H.get .here) rfl) ?_
            refine WL_guard_t rfl rfl ?_
            refine WL_step rfl (R_indexAddr (off' := B) Tryz.underlying24 Tryz.sizeOf4 rfl rfl (by omega) (by omega) (by omega)) ?_
            refine WL_guard_t rfl rfl ?_
            refine WL_step rfl (R_load (v := .bool false) Tryz.isAgg4 rfl (H.get (.there .here)) (by rw [List.getElem?_append_left (by rw [List.length_map]; omega), List.getElem?_map, hy]; rfl)) ?_
            refine WL_stepM rfl (R_pk_f rfl) ?_
            refine WL_nil ?_
            refine W_cond_f rfl ?_
            refine W_skip ?_
            refine W_region_l ?_
            refine WL_step rfl (R_add rfl rfl (w_i64 (by omega))) ?_
            refine WL_stepM rfl (R_mv) ?_
            refine WL_nil ?_
            exact ⟨(same_mov rfl (same_updo rfl (same_mov rfl (same_updo rfl (same_updo rfl (same_updo rfl (same_updo rfl (same_mov rfl (same_mov rfl (same_updo rfl (same_updo rfl (same_updo rfl (same_updo rfl (same_mov rfl (same_updn (same_updo rfl (same_updo rfl (same_updo rfl (same_know rfl (same_updo rfl same_ovr)))))))))))))))))))), k + 1, by omega, by omega, rfl, (by rw [hps, stepB_no hx hy]; exact H.pop (by assumption))⟩
          · refine WL_step rfl (R_indexAddr (off' := o1 + k * 2) Tryz.underlying25 Tryz.sizeOf64 rfl rfl (by omega) (by omega) (by omega)) ?_
            refine WL_step rfl (R_loadA_cell (vs := [I A, I B]) Tryz.isAgg64 Tryz.sizeOf64 rfl (fun j v hj => H.cellN (hc j v hj) kYs) rfl) ?_
            (refine WL_effn rfl (E_alloc (vs := [I 0, I 0]) H Tryz.zeroValue64 (by kernel_rfl)) ?_; clear H; intro c5 w97 hc5 H)
            (refine WL_effu rfl (E_storeA (vs := [(.int _ _), (.int _ _)]) H Tryz.sizeOf64 rfl rfl (by simp [Value.oneCell']) .here (by simp)) ?_; clear H; intro w98 H)
            refine WL_nil ?_
            refine W_seq ?_
            refine W_region_l ?_
            refine WL_stepM rfl (R_mv) ?_
            refine WL_step rfl (R_fieldAddr (off' := 0) Tryz.underlying64 rfl Tryz.sizeOf3 (by decide) rfl rfl) ?_
            refine WL_step rfl (R_load Tryz.isAgg3 rfl (H.get .here) rfl) ?_
            refine WL_step rfl (R_indexAddr (off' := A) Tryz.underlying24 Tryz.sizeOf4 rfl rfl (by omega) (by omega) (by omega)) ?_
            refine WL_step rfl (R_load (v := .bool false) Tryz.isAgg4 rfl (H.get (.there .here)) (by rw [List.getElem?_append_left (by rw [List.length_map]; omega), List.getElem?_map, hx]; rfl)) ?_
            refine WL_stepM rfl (R_mv) ?_
            refine WL_guard_t rfl rfl ?_
            refine WL_stepM rfl (R_mv) ?_
            refine WL_guard_t rfl rfl ?_
            refine WL_step rfl (R_fieldAddr (off' := 1) Tryz.underlying64 rfl Tryz.sizeOf3 (by decide) rfl rfl) ?_
            refine WL_guard_t rfl rfl ?_
            refine WL_step rfl (R_load Tryz.isAgg3 rfl (H.get .here) rfl) ?_
            refine WL_guard_t rfl rfl ?_
            refine WL_step rfl (R_indexAddr (off' := B) Tryz.underlying24 Tryz.sizeOf4 rfl rfl (by omega) (by omega) (by omega)) ?_
            refine WL_guard_t rfl rfl ?_
            refine WL_step rfl (R_load (v := .bool true) Tryz.isAgg4 rfl (H.get (.there .here)) (by rw [List.getElem?_append_left (by rw [List.length_map]; omega), List.getElem?_map, hy]; rfl)) ?_
            refine WL_stepM rfl (R_pk_f rfl) ?_
            refine WL_nil ?_
            refine W_cond_t rfl ?_
            (refine W_draw (Kp [(c5, blk [I A, I B] 64)]) (fun _ => false) (by kernel_rfl) H ?_; clear H; intro w121 H)
            refine WA_takeM 0 rfl rfl rfl (by kernel_rfl) (by kernel_rfl) (H.kp.sub (by simp)) (fun _ hC => R_mv) ?_
            refine WA_take 1 rfl rfl rfl (by kernel_rfl) (by kernel_rfl) (H.kp.sub (by simp)) (fun _ hC => R_fieldAddr (off' := 0) Tryz.underlying64 rfl Tryz.sizeOf3 (by decide) rfl rfl) ?_
            refine WA_take 2 rfl rfl rfl (by kernel_rfl) (by kernel_rfl) (H.kp.sub (by simp)) (fun _ hC => R_load Tryz.isAgg3 rfl (hC.get .here) rfl) ?_
            refine WA_takeM 3 rfl rfl rfl (by kernel_rfl) (by kernel_rfl) (H.kp.sub (by simp)) (fun _ hC => R_mv) ?_
            refine WA_take 4 rfl rfl rfl (by kernel_rfl) (by kernel_rfl) (H.kp.sub (by simp)) (fun _ hC => R_fieldAddr (off' := 1) Tryz.underlying64 rfl Tryz.sizeOf3 (by decide) rfl rfl) ?_
            refine WA_take 5 rfl rfl rfl (by kernel_rfl) (by kernel_rfl) (H.kp.sub (by simp)) (fun _ hC => R_load Tryz.isAgg3 rfl (hC.get .here) rfl) ?_
            refine WA_take 6 rfl rfl rfl (by kernel_rfl) (by kernel_rfl) (H.kp.sub (by simp)) (fun _ hC => R_indexAddr (off' := A) Tryz.underlying24 Tryz.sizeOf4 rfl rfl (by omega) (by omega) (by omega)) ?_
            refine WA_one (i := 7) (by kernel_rfl) ?_
            (refine WI_effu rfl (.inl rfl) (E_store (off := A) (v := Bo true) H Tryz.sizeOf4 rfl rfl rfl (.there .here) (by rw [List.length_append, List.length_map]; omega)) (fun _ H => (by first | exact fun h => absurd h (by decide) | exact fun _ => H | exact fun _ => H.none kYs | exact fun _ => H.dropN kYs | exact fun _ => H.pop (by assumption) | exact fun _ => (H.pop (by assumption)).pop (by assumption) | exact fun _ => H.kp | exact fun _ => H.kp.tail | exact fun _ => H.kp.tail.tail | exact fun _ => H.kp.tail.tail.tail | exact fun _ => H.kp.sub (by simp) | exact fun _ => Kp.nil | exact fun _ => H.kh (by simp) kYs)) ?_; clear H; intro w130 H; have mkA : True := trivial)
            refine WA_take 8 rfl rfl rfl (by kernel_rfl) (by kernel_rfl) (H.kp.sub (by simp)) (fun _ hC => R_indexAddr (off' := B) Tryz.underlying24 Tryz.sizeOf4 rfl rfl (by omega) (by omega) (by omega)) ?_
            refine WA_one (i := 9) (by kernel_rfl) ?_
            (refine WI_effu rfl (.inl rfl) (E_store (off := B) (v := Bo true) H Tryz.sizeOf4 rfl rfl rfl (.there .here) (by rw [List.length_set, List.length_append, List.length_map]; omega)) (fun _ H => (by first | exact fun h => absurd h (by decide) | exact fun _ => H | exact fun _ => H.none kYs | exact fun _ => H.dropN kYs | exact fun _ => H.pop (by assumption) | exact fun _ => (H.pop (by assumption)).pop (by assumption) | exact fun _ => H.kp | exact fun _ => H.kp.tail | exact fun _ => H.kp.tail.tail | exact fun _ => H.kp.tail.tail.tail | exact fun _ => H.kp.sub (by simp) | exact fun _ => Kp.nil | exact fun _ => H.kh (by simp) kYs)) ?_; clear H; intro w133 H; rw [set_Bo (by omega) (by omega)] at H)
            refine WA_done (by kernel_rfl) ?_
            refine W_region_l ?_
            refine WL_step rfl (R_add rfl rfl (w_i64 (by omega))) ?_
            refine WL_stepM rfl (R_mv) ?_
            refine WL_nil ?_
            exact ⟨(same_mov rfl (same_updo rfl (same_updn (same_updo rfl (same_updn (same_updo rfl (same_updo rfl (same_updo rfl (same_mov rfl (same_updo rfl (same_updo rfl (same_mov rfl (same_mov rfl (same_updo rfl (same_updo rfl (same_updo rfl (same_updo rfl (same_mov rfl (same_mov rfl (same_updo rfl (same_updo rfl (same_updo rfl (same_updo rfl (same_mov rfl (same_updn (same_updo rfl (same_updo rfl (same_updo rfl (same_know rfl (same_updo rfl same_ovr)))))))))))))))))))))))))))))), k + 1, by omega, by omega, rfl, (by rw [hps, stepB_yes hx hy rfl]; exact H.pop (by assumption))⟩
          · refine WL_step rfl (R_indexAddr (off' := o1 + k * 2) Tryz.underlying25 Tryz.sizeOf64 rfl rfl (by omega) (by omega) (by omega)) ?_
            refine WL_step rfl (R_loadA_cell (vs := [I A, I B]) Tryz.isAgg64 Tryz.sizeOf64 rfl (fun j v hj => H.cellN (hc j v hj) kYs) rfl) ?_
            (refine WL_effn rfl (E_alloc (vs := [I 0, I 0]) H Tryz.zeroValue64 (by kernel_rfl)) ?_; clear H; intro c5 w142 hc5 H)
            (refine WL_effu rfl (E_storeA (vs := [(.int _ _), (.int _ _)]) H Tryz.sizeOf64 rfl rfl (by simp [Value.oneCell']) .here (by simp)) ?_; clear H; intro w143 H)
            refine WL_nil ?_
            refine W_seq ?_
            refine W_region_l ?_
            refine WL_stepM rfl (R_mv) ?_
            refine WL_step rfl (R_fieldAddr (off' := 0) Tryz.underlying64 rfl Tryz.sizeOf3 (by decide) rfl rfl) ?_
            refine WL_step rfl (R_load Tryz.isAgg3 rfl (H.get .here) rfl) ?_
            refine WL_step rfl (R_indexAddr (off' := A) Tryz.underlying24 Tryz.sizeOf4 rfl rfl (by omega) (by omega) (by omega)) ?_
            refine WL_step rfl (R_load (v := .bool true) Tryz.isAgg4 rfl (H.get (.there .here)) (by rw [List.getElem?_append_left (by rw [List.length_map]; omega), List.getElem?_map, hx]; rfl)) ?_
            refine WL_stepM rfl (R_mv) ?_
            refine WL_guard_f rfl rfl (by decide) ?_
            refine WL_guard_f rfl rfl (by decide) ?_
            refine WL_guard_f rfl rfl (by decide) ?_
            refine WL_guard_f rfl rfl (by decide) ?_
            refine WL_guard_f rfl rfl (by decide) ?_
            refine WL_stepM rfl (R_pk_t rfl) ?_
            refine WL_nil ?_
            refine W_cond_t rfl ?_
            (refine W_draw (Kp [(c5, blk [I A, I B] 64)]) (fun _ => false) (by kernel_rfl) H ?_; clear H; intro w161 H)
            refine WA_takeM 0 rfl rfl rfl (by kernel_rfl) (by kernel_rfl) (H.kp.sub (by simp)) (fun _ hC => R_mv) ?_
            refine WA_take 1 rfl rfl rfl (by kernel_rfl) (by kernel_rfl) (H.kp.sub (by simp)) (fun _ hC => R_fieldAddr (off' := 0) Tryz.underlying64 rfl Tryz.sizeOf3 (by decide) rfl rfl) ?_
            refine WA_take 2 rfl rfl rfl (by kernel_rfl) (by kernel_rfl) (H.kp.sub (by simp)) (fun _ hC => R_load Tryz.isAgg3 rfl (hC.get .here) rfl) ?_
            refine WA_takeM 3 rfl rfl rfl (by kernel_rfl) (by kernel_rfl) (H.kp.sub (by simp)) (fun _ hC => R_mv) ?_
            refine WA_take 4 rfl rfl rfl (by kernel_rfl) (by kernel_rfl) (H.kp.sub (by simp)) (fun _ hC => R_fieldAddr (off' := 1) Tryz.underlying64 rfl Tryz.sizeOf3 (by decide) rfl rfl) ?_
            refine WA_take 5 rfl rfl rfl (by kernel_rfl) (by kernel_rfl) (H.kp.sub (by simp)) (fun _ hC => R_load Tryz.isAgg3 rfl (hC.get .here) rfl) ?_
            refine WA_take 6 rfl rfl rfl (by kernel_rfl) (by kernel_rfl) (H.kp.sub (by simp)) (fun _ hC => R_indexAddr (off' := A) Tryz.underlying24 Tryz.sizeOf4 rfl rfl (by omega) (by omega) (by omega)) ?_
            refine WA_one (i := 7) (by kernel_rfl) ?_
            (refine WI_effu rfl (.inl rfl) (E_store (off := A) (v := Bo true) H Tryz.sizeOf4 rfl rfl rfl (.there .here) (by rw [List.length_append, List.length_map]; omega)) (fun _ H => (by first | exact fun h => absurd h (by decide) | exact fun _ => H | exact fun _ => H.none kYs | exact fun _ => H.dropN kYs | exact fun _ => H.pop (by assumption) | exact fun _ => (H.pop (by assumption)).pop (by assumption) | exact fun _ => H.kp | exact fun _ => H.kp.tail | exact fun _ => H.kp.tail.tail | exact fun _ => H.kp.tail.tail.tail | exact fun _ => H.kp.sub (by simp) | exact fun _ => Kp.nil | exact fun _ => H.kh (by simp) kYs)) ?_; clear H; intro w170 H; have mkA : True := trivial)
            refine WA_take 8 rfl rfl rfl (by kernel_rfl) (by kernel_rfl) (H.kp.sub (by simp)) (fun _ hC => R_indexAddr (off' := B) Tryz.underlying24 Tryz.sizeOf4 rfl rfl (by omega) (by omega) (by omega)) ?_
            refine WA_one (i := 9) (by kernel_rfl) ?_
            (refine WI_effu rfl (.inl rfl) (E_store (off := B) (v := Bo true) H Tryz.sizeOf4 rfl rfl rfl (.there .here) (by rw [List.length_set, List.length_append, List.length_map]; omega)) (fun _ H => (by first | exact fun h => absurd h (by decide) | exact fun _ => H | exact fun _ => H.none kYs | exact fun _ => H.dropN kYs | exact fun _ => H.pop (by assumption) | exact fun _ => (H.pop (by assumption)).pop (by assumption) | exact fun _ => H.kp | exact fun _ => H.kp.tail | exact fun _ => H.kp.tail.tail | exact fun _ => H.kp.tail.tail.tail | exact fun _ => H.kp.sub (by simp) | exact fun _ => Kp.nil | exact fun _ => H.kh (by simp) kYs)) ?_; clear H; intro w173 H; rw [set_Bo (by omega) (by omega)] at H)
            refine WA_done (by kernel_rfl) ?_
            refine W_region_l ?_
            refine WL_step rfl (R_add rfl rfl (w_i64 (by omega))) ?_
            refine WL_stepM rfl (R_mv) ?_
            refine WL_nil ?_
            exact ⟨(same_mov rfl (same_updo rfl (same_updn (same_updo rfl (same_updn (same_updo rfl (same_updo rfl (same_updo rfl (same_mov rfl (same_updo rfl (same_updo rfl (same_mov rfl (same_mov rfl (same_updo rfl (same_updo rfl (same_updo rfl (same_updo rfl (same_updo rfl (same_mov rfl (same_updo rfl (same_updo rfl (same_updo rfl (same_updo rfl (same_mov rfl (same_updn (same_updo rfl (same_updo rfl (same_updo rfl (same_know rfl (same_updo rfl same_ovr)))))))))))))))))))))))))))))), k + 1, by omega, by omega, rfl, (by rw [hps, stepB_yes hx hy rfl]; exact H.pop (by assumption))⟩
          · refine WL_step rfl (R_indexAddr (off' := o1 + k * 2) Tryz.underlying25 Tryz.sizeOf64 rfl rfl (by omega) (by omega) (by omega)) ?_
            refine WL_step rfl (R_loadA_cell (vs := [I A, I B]) Tryz.isAgg64 Tryz.sizeOf64 rfl (fun j v hj => H.cellN (hc j v hj) kYs) rfl) ?_
            (refine WL_effn rfl (E_alloc (vs := [I 0, I 0]) H Tryz.zeroValue64 (by kernel_rfl)) ?_; clear H; intro c5 w182 hc5 H)
            (refine WL_effu rfl (E_storeA (vs := [(.int _ _), (.int _ _)]) H Tryz.sizeOf64 rfl rfl (by simp [Value.oneCell']) .here (by simp)) ?_; clear H; intro w183 H)
            refine WL_nil ?_
            refine W_seq ?_
            refine W_region_l ?_
            refine WL_stepM rfl (R_mv) ?_
            refine WL_step rfl (R_fieldAddr (off' := 0) Tryz.underlying64 rfl Tryz.sizeOf3 (by decide) rfl rfl) ?_
            refine WL_step rfl (R_load Tryz.isAgg3 rfl (H.get .here) rfl) ?_
            refine WL_step rfl (R_indexAddr (off' := A) Tryz.underlying24 Tryz.sizeOf4 rfl rfl (by omega) (by omega) (by omega)) ?_
            refine WL_step rfl (R_load (v := .bool true) Tryz.isAgg4 rfl (H.get (.there .here)) (by rw [List.getElem?_append_left (by rw [List.length_map]; omega), List.getElem?_map, hx]; rfl)) ?_
            refine WL_stepM rfl (R_mv) ?_
            refine WL_guard_f rfl rfl (by decide) ?_
            refine WL_guard_f rfl rfl (by decide) ?_
            refine WL_guard_f rfl rfl (by decide) ?_
            refine WL_guard_f rfl rfl (by decide) ?_
            refine WL_guard_f rfl rfl (by decide) ?_
            refine WL_stepM rfl (R_pk_t rfl) ?_
            refine WL_nil ?_
            refine W_cond_t rfl ?_
            (refine W_draw (Kp [(c5, blk [I A, I B] 64)]) (fun _ => false) (by kernel_rfl) H ?_; clear H; intro w201 H)
            refine WA_takeM 0 rfl rfl rfl (by kernel_rfl) (by kernel_rfl) (H.kp.sub (by simp)) (fun _ hC => R_mv) ?_
            refine WA_take 1 rfl rfl rfl (by kernel_rfl) (by kernel_rfl) (H.kp.sub (by simp)) (fun _ hC => R_fieldAddr (off' := 0) Tryz.underlying64 rfl Tryz.sizeOf3 (by decide) rfl rfl) ?_
            refine WA_take 2 rfl rfl rfl (by kernel_rfl) (by kernel_rfl) (H.kp.sub (by simp)) (fun _ hC => R_load Tryz.isAgg3 rfl (hC.get .here) rfl) ?_
            refine WA_takeM 3 rfl rfl rfl (by kernel_rfl) (by kernel_rfl) (H.kp.sub (by simp)) (fun _ hC => R_mv) ?_
            refine WA_take 4 rfl rfl rfl (by kernel_rfl) (by kernel_rfl) (H.kp.sub (by simp)) (fun _ hC => R_fieldAddr (off' := 1) Tryz.underlying64 rfl Tryz.sizeOf3 (by decide) rfl rfl) ?_
            refine WA_take 5 rfl rfl rfl (by kernel_rfl) (by kernel_rfl) (H.kp.sub (by simp)) (fun _ hC => R_load Tryz.isAgg3 rfl (hC.get .here) rfl) ?_
            refine WA_take 6 rfl rfl rfl (by kernel_rfl) (by kernel_rfl) (H.kp.sub (by simp)) (fun _ hC => R_indexAddr (off' := A) Tryz.underlying24 Tryz.sizeOf4 rfl rfl (by omega) (by omega) (by omega)) ?_
            refine WA_one (i := 7) (by kernel_rfl) ?_
            (refine WI_effu rfl (.inl rfl) (E_store (off := A) (v := Bo true) H Tryz.sizeOf4 rfl rfl rfl (.there .here) (by rw [List.length_append, List.length_map]; omega)) (fun _ H => (by first | exact fun h => absurd h (by decide) | exact fun _ => H | exact fun _ => H.none kYs | exact fun _ => H.dropN kYs | exact fun _ => H.pop (by assumption) | exact fun _ => (H.pop (by assumption)).pop (by assumption) | exact fun _ => H.kp | exact fun _ => H.kp.tail | exact fun _ => H.kp.tail.tail | exact fun _ => H.kp.tail.tail.tail | exact fun _ => H.kp.sub (by simp) | exact fun _ => Kp.nil | exact fun _ => H.kh (by simp) kYs)) ?_; clear H; intro w210 H; have mkA : True := trivial)
            refine WA_take 8 rfl rfl rfl (by kernel_rfl) (by kernel_rfl) (H.kp.sub (by simp)) (fun _ hC => R_indexAddr (off' := B) Tryz.underlying24 Tryz.sizeOf4 rfl rfl (by omega) (by omega) (by omega)) ?_
            refine WA_one (i := 9) (by kernel_rfl) ?_
            (refine WI_effu rfl (.inl rfl) (E_store (off := B) (v := Bo true) H Tryz.sizeOf4 rfl rfl rfl (.there .here) (by rw [List.length_set, List.length_append, List.length_map]; omega)) (fun _ H => (by first | exact fun h => absurd h (by decide) | exact fun _ => H | exact fun _ => H.none kYs | exact fun _ => H.dropN kYs | exact fun _ => H.pop (by assumption) | exact fun _ => (H.pop (by assumption)).pop (by assumption) | exact fun _ => H.kp | exact fun _ => H.kp.tail | exact fun _ => H.kp.tail.tail | exact fun _ => H.kp.tail.tail.tail | exact fun _ => H.kp.sub (by simp) | exact fun _ => Kp.nil | exact fun _ => H.kh (by simp) kYs)) ?_; clear H; intro w213 H; rw [set_Bo (by omega) (by omega)] at H)
            refine WA_done (by kernel_rfl) ?_
            refine W_region_l ?_
            refine WL_step rfl (R_add rfl rfl (w_i64 (by omega))) ?_
            refine WL_stepM rfl (R_mv) ?_
            refine WL_nil ?_
            exact ⟨(same_mov rfl (same_updo rfl (same_updn (same_updo rfl (same_updn (same_updo rfl (same_updo rfl (same_updo rfl (same_mov rfl (same_updo rfl (same_updo rfl (same_mov rfl (same_mov rfl (same_updo rfl (same_updo rfl (same_updo rfl (same_updo rfl (same_updo rfl (same_mov rfl (same_updo rfl (same_updo rfl (same_updo rfl (same_updo rfl (same_mov rfl (same_updn (same_updo rfl (same_updo rfl (same_updo rfl (same_know rfl (same_updo rfl same_ovr)))))))))))))))))))))))))))))), k + 1, by omega, by omega, rfl, (by rw [hps, stepB_yes hx hy rfl]; exact H.pop (by assumption))⟩
        · refine W_exit ?_
          refine (if_pos rfl).mpr ?_
          ((obtain rfl : k = bs.length := (by omega))) <;> refine W_region_l ?_
          refine WL_step rfl (R_add rfl rfl (w_i64 (by omega))) ?_
          refine WL_stepM rfl (R_mv) ?_
          refine WL_nil ?_
          exact ⟨(same_mov rfl (same_updo rfl (same_know rfl (same_updo rfl (same_in rfl (same_mov rfl (same_updo rfl (same_updo rfl (same_updo rfl (same_know rfl (same_updo rfl same_ovr))))))))))), i + 1, by omega, by omega, rfl, H⟩
    · refine W_exit ?_
      refine (if_pos rfl).mpr ?_
      refine W_seq ?_
      ((obtain rfl : i = ms.length := (by omega))) <;> refine W_region_l ?_
      refine WL_stepM rfl (R_mv) ?_
      refine WL_stepM rfl (R_as) ?_
      refine WL_nil ?_
      refine W_ret ?_
      exact ⟨_, rfl, _, OwnS.new hq (by rw [List.length_map, cloTo_len]; omega) hsp hqc, Hp.dropMid (A := [_]) (M := [_]) (B := []) H kYs⟩
end Go.Proofs.YtlpmfldijgdcoaaGreatDoor.Top

/-
  The closure that the document makes of a plan.
-/
namespace Go.Proofs.YtlpmfldijgdcoaaGreatDoor.Top
open Go Go.Proofs Go.Proofs.YtlpmfldijgdcoaaGreatDoor.Fx
set_option maxRecDepth 100000
set_option linter.unusedVariables false
set_option linter.unusedSimpArgs false
set_option maxHeartbeats 16000000

/-- how many are not reached -/
def lacks : List Bool → Nat
  | [] => 0
  | b :: R => (if b then 0 else 1) + lacks R
theorem lacks_le : ∀ R : List Bool, lacks R ≤ R.length
  | [] => Nat.le_refl _
  | b :: R => by have := lacks_le R; simp only [lacks, List.length_cons]; split <;> omega
theorem set_same : ∀ {R : List Bool} {A : Nat}, R[A]? = some true → R.set A true = R
  | [], _, h => by simp at h
  | b :: R, 0, h => by simp at h; subst h; rfl
  | b :: R, A + 1, h => by rw [List.set_cons_succ, set_same (by simpa using h)]
theorem lacks_set : ∀ {R : List Bool} {A : Nat}, R[A]? = some false → lacks (R.set A true) + 1 = lacks R
  | [], _, h => by simp at h
  | b :: R, 0, h => by simp at h; subst h; simp [lacks]; omega
  | b :: R, A + 1, h => by
    have := lacks_set (R := R) (A := A) (by simpa using h)
    rw [List.set_cons_succ]; simp only [lacks]; omega
theorem step_tt {R : List Bool} {A B : Nat} (hx : R[A]? = some true) (hy : R[B]? = some true) : stepB R (A, B) = R := by
  rw [stepB_yes hx hy rfl, set_same hx, set_same hy]
theorem step_tf {R : List Bool} {A B : Nat} (hx : R[A]? = some true) (hy : R[B]? = some false) : lacks (stepB R (A, B)) < lacks R := by
  rw [stepB_yes hx hy rfl, set_same hx]; have := lacks_set hy; omega
theorem step_ft {R : List Bool} {A B : Nat} (hAB : A ≠ B) (hx : R[A]? = some false) (hy : R[B]? = some true) : lacks (stepB R (A, B)) < lacks R := by
  rw [stepB_yes hx hy rfl, set_same (by rw [List.getElem?_set_ne hAB]; exact hy)]; have := lacks_set hx; omega
/-- nothing more to draw -/
def fixed (R : List Bool) (bs : List (Nat × Nat)) : Prop := passTo R bs bs.length = R
theorem step_le (R : List Bool) (b : Nat × Nat) (hA : b.1 < R.length) (hB : b.2 < R.length) (hAB : b.1 ≠ b.2) : stepB R b = R ∨ lacks (stepB R b) < lacks R := by
  obtain ⟨A, B⟩ := b
  obtain ⟨x, hx⟩ : ∃ x, R[A]? = some x := ⟨_, List.getElem?_eq_getElem hA⟩
  obtain ⟨y, hy⟩ : ∃ y, R[B]? = some y := ⟨_, List.getElem?_eq_getElem hB⟩
  cases x <;> cases y
  · exact .inl (stepB_no hx hy)
  · exact .inr (step_ft hAB hx hy)
  · exact .inr (step_tf hx hy)
  · exact .inl (step_tt hx hy)
theorem pass_le {R : List Bool} {bs : List (Nat × Nat)} (hok : ∀ b ∈ bs, brOk R.length b) : ∀ {k : Nat}, k ≤ bs.length → passTo R bs k = R ∨ lacks (passTo R bs k) < lacks R
  | 0, _ => .inl rfl
  | k + 1, h => by
    have hb := List.getElem?_eq_getElem (show k < bs.length by omega)
    obtain ⟨h1, h2, h3⟩ := hok _ (List.mem_of_getElem? hb)
    have hl : (passTo R bs k).length = R.length := passTo_len (by omega)
    rw [passTo_succ hb]
    have hs := step_le (passTo R bs k) bs[k] (by omega) (by omega) h3
    rcases pass_le hok (k := k) (by omega) with e | e
    · rcases hs with e2 | e2
      · left; rw [e2, e]
      · right; rw [e] at e2 ⊢; exact e2
    · right
      rcases hs with e2 | e2
      · rw [e2]; exact e
      · omega
theorem clo_stays {ms : List Bool} {bs : List (Nat × Nat)} {j : Nat} (h : fixed (cloTo ms bs j) bs) : ∀ d, cloTo ms bs (j + d) = cloTo ms bs j
  | 0 => rfl
  | d + 1 => by
    have ih := clo_stays h d
    show passTo (cloTo ms bs (j + d)) bs bs.length = _
    rw [ih]; exact h
theorem clo_some {ms : List Bool} {bs : List (Nat × Nat)} (hok : ∀ b ∈ bs, brOk ms.length b) : ∀ i, (∃ j, j ≤ i ∧ fixed (cloTo ms bs j) bs) ∨ lacks (cloTo ms bs i) + i ≤ lacks ms
  | 0 => .inr (Nat.le_refl _)
  | i + 1 => by
    rcases clo_some hok i with ⟨j, hj, hf⟩ | h
    · exact .inl ⟨j, by omega, hf⟩
    · have hl := cloTo_len ms bs i
      rcases pass_le (R := cloTo ms bs i) (bs := bs) (by rw [hl]; exact hok) (Nat.le_refl _) with e | e
      · exact .inl ⟨i, by omega, e⟩
      · right
        show lacks (passTo (cloTo ms bs i) bs bs.length) + (i + 1) ≤ _
        omega
theorem clo_fixed {ms : List Bool} {bs : List (Nat × Nat)} (hok : ∀ b ∈ bs, brOk ms.length b) {j : Nat} (h : fixed (cloTo ms bs j) bs) : cloTo ms bs j = cloTo ms bs ms.length := by
  have h1 : ∃ q, q ≤ ms.length ∧ fixed (cloTo ms bs q) bs := by
    rcases clo_some hok ms.length with hh | hh
    · exact hh
    · have hz : lacks (cloTo ms bs ms.length) = 0 := by have := lacks_le ms; omega
      have hl := cloTo_len ms bs ms.length
      rcases pass_le (R := cloTo ms bs ms.length) (bs := bs) (by rw [hl]; exact hok) (Nat.le_refl _) with e | e
      · exact ⟨_, Nat.le_refl _, e⟩
      · omega
  obtain ⟨q, hq, hfq⟩ := h1
  have e1 : cloTo ms bs ms.length = cloTo ms bs q := by
    have := clo_stays hfq (ms.length - q)
    rwa [Nat.add_sub_cancel' hq] at this
  rw [e1]
  rcases Nat.le_total j q with hjq | hjq
  · have := clo_stays h (q - j); rw [Nat.add_sub_cancel' hjq] at this; exact this.symm
  · have := clo_stays hfq (j - q); rwa [Nat.add_sub_cancel' hjq] at this
end Go.Proofs.YtlpmfldijgdcoaaGreatDoor.Top

/-
  The closure that the document makes of a plan, walked.
-/
namespace Go.Proofs.YtlpmfldijgdcoaaGreatDoor.Top
open Go Go.Proofs Go.Proofs.YtlpmfldijgdcoaaGreatDoor.Fx
set_option maxRecDepth 100000
set_option linter.unusedVariables false
set_option linter.unusedSimpArgs false
set_option maxHeartbeats 16000000

theorem closD_ret {ms : List Bool} {bs : List (Nat × Nat)} {ls : Nat} {w : World} {v : Value} (hp : PlanR w v ms bs ls) :
    Ret Tryz.prog 18 #[v] w fun v w' => ∃ M, OwnS w.heap.size 4 1 v ms.length ((cloTo ms bs ms.length).map Bo) M ∧ Hp w M w' := by
  refine Ret_of_W (args := [_]) Tryz.func18 rfl Tryz.ntmps18 Tryz.results18 (by simp) ?_
  have H := Hp.refl w
  obtain ⟨⟨vm, vb, rfl, hm, hb⟩, m1, m4, b4, hok, l1, l8⟩ := hp
  obtain ⟨ma, mc, rfl⟩ := hm.form
  obtain ⟨ba, bc, rfl⟩ := hb.form
  rw [List.length_map] at hm ⊢
  refine W_seq ?_
  refine W_region_l ?_
  (refine WL_effn rfl (E_box (vs := [.slice ma ms.length mc, .slice ba bs.length bc, I ls]) H rfl rfl) ?_; clear H; intro c1 w3 hc1 H)
  refine WL_stepM rfl (R_as) ?_
  refine WL_nil ?_
  refine W_seq ?_
  refine W_region_l ?_
  (refine WL_effn rfl (E_buildSlice (vs := []) H Tryz.underlying24 Tryz.sizeOf4 Tryz.zeroValue4 rfl rfl (by decide) rfl rfl) ?_; clear H; intro b8 w8 hb8 H)
  refine WL_step rfl (R_fieldAddr (off' := 0) Tryz.underlying27 rfl Tryz.sizeOf24 (by decide) rfl rfl) ?_
  refine WL_step rfl (R_load Tryz.isAgg24 rfl (H.get (.there .here)) rfl) ?_
  (refine WL_effm rfl (E_append H .one (OwnS.new (xs := []) (sp := []) (by assumption) rfl rfl (by omega)) Tryz.underlying24 Tryz.typeInfo4 rfl rfl rfl rfl rfl rfl ((hm.monoN H kYs).src Tryz.underlying24 (by intro u hu; obtain ⟨z, _, rfl⟩ := List.mem_map.1 hu; rfl)) (by simp; omega) (by simp [Tryz.t4]; omega)) ?_; clear H; intro vN MN w11 hO H; rw [List.length_map, Nat.zero_add, List.nil_append] at hO; obtain ⟨q, qc, sp, rfl, hq, rfl, hsp, hqc⟩ := OwnS.pos hO (by omega); clear hO; replace H : Hp w [(q, blk ((cloTo ms bs 0).map Bo ++ sp) 4), (c1, blk [.slice ma ms.length mc, .slice ba bs.length bc, I ls] 27)] _ := H)
  refine WL_stepM rfl (R_as) ?_
  refine WL_nil ?_
  refine W_seq ?_
  refine W_seq ?_
  refine W_region_l ?_
  refine WL_stepM rfl (R_as) ?_
  refine WL_nil ?_
  refine W_block ?_
  refine W_loopS [(4, 6), (11, 42)] (fun (i : Nat) E w' => ∃ (j : Nat) (more : Bool), i = 2 * lacks (cloTo ms bs j) + (if more = true then 1 else 0) ∧ (more = false → fixed (cloTo ms bs j) bs) ∧ E 4 = .bool more ∧ Hp w [(q, blk ((cloTo ms bs j).map Bo ++ sp) 4), (c1, blk [.slice ma ms.length mc, .slice ba bs.length bc, I ls] 27)] w') (fun i => i) (2 * lacks ms + 1) ?e0 ?r0
  · exact ⟨0, true, rfl, (fun h => nomatch h), rfl, H⟩
  · (clear H; rintro i E w1 ⟨j, more, hi, hfx, h4, H⟩; refine W_kn h4 ?_; cases more)
    · refine W_seq ?_
      refine W_seq ?_
      refine W_region_l ?_
      refine WL_stepM rfl (R_mv) ?_
      refine WL_nil ?_
      refine W_cond_f rfl ?_
      refine W_exit ?_
      refine (if_pos rfl).mpr ?_
      refine W_seq ?_
      refine W_region_l ?_
      refine WL_stepM rfl (R_mv) ?_
      refine WL_stepM rfl (R_as) ?_
      refine WL_nil ?_
      refine W_ret ?_
      exact ⟨_, rfl, _, OwnS.new hq (by rw [List.length_map, cloTo_len]; omega) hsp hqc, (by rw [← clo_fixed hok (hfx rfl)]; exact Hp.dropMid (A := [_]) (M := [_]) (B := []) H kYs)⟩
    · refine W_seq ?_
      refine W_seq ?_
      refine W_region_l ?_
      refine WL_stepM rfl (R_mv) ?_
      refine WL_nil ?_
      refine W_cond_t rfl ?_
      refine W_skip ?_
      refine W_block ?_
      refine W_seq ?_
      ((replace hi : i = 2 * lacks (cloTo ms bs j) + 1 := hi)) <;> refine W_region_l ?_
      refine WL_stepM rfl (R_as) ?_
      refine WL_nil ?_
      refine W_seq ?_
      refine W_region_l ?_
      refine WL_stepM rfl (R_as) ?_
      refine WL_nil ?_
      refine W_block ?_
      refine W_loopS [(4, 6), (12, 42)] (fun (k : Nat) E w' => ∃ m : Bool, k ≤ bs.length ∧ E 5 = I k ∧ E 4 = .bool m ∧ (m = false → passTo (cloTo ms bs j) bs k = cloTo ms bs j) ∧ (m = true → lacks (passTo (cloTo ms bs j) bs k) < lacks (cloTo ms bs j)) ∧ Hp w [(q, blk ((passTo (cloTo ms bs j) bs k).map Bo ++ sp) 4), (c1, blk [.slice ma ms.length mc, .slice ba bs.length bc, I ls] 27)] w') (fun k => bs.length - k) 0 ?e2 ?r2
      · exact ⟨false, by omega, rfl, rfl, (fun _ => rfl), (fun h => nomatch h), H⟩
      · (clear H; rintro k E w1 ⟨m, hk, h5, h4, hm0, hm1, H⟩; refine W_kn2 h5 h4 ?_)
        refine W_seq ?_
        refine W_seq ?_
        refine W_region_l ?_
        refine WL_stepM rfl (R_mv) ?_
        refine WL_step rfl (R_fieldAddr (off' := 1) Tryz.underlying27 rfl Tryz.sizeOf25 (by decide) rfl rfl) ?_
        refine WL_step rfl (R_load Tryz.isAgg25 rfl (H.get (.there .here)) rfl) ?_
        refine WL_step rfl (R_len_slice Tryz.underlying25 rfl) ?_
        refine WL_step rfl (R_lt rfl rfl) ?_
        refine WL_nil ?_
        refine W_if rfl (fun h65 => ?_) (fun h65 => ?_)
        · refine W_skip ?_
          refine W_seq ?_
          refine W_block ?_
          refine W_seq ?_
          ((obtain ⟨⟨A, B⟩, hr⟩ : ∃ r, bs[k]? = some r := ⟨_, List.getElem?_eq_getElem (by omega)⟩; have hps := passTo_succ (R := cloTo ms bs j) hr; obtain ⟨hA, hB, hAB⟩ := hok _ (List.mem_of_getElem? hr); simp only at hA hB hAB; obtain ⟨b1, o1, rfl, hc⟩ := hb.cell brC_len hr; have hRl : (passTo (cloTo ms bs j) bs k).length = ms.length := (by rw [passTo_len hk, cloTo_len]); obtain ⟨R, hR⟩ : ∃ R, passTo (cloTo ms bs j) bs k = R := ⟨_, rfl⟩; rw [hR] at H hps hRl hm0 hm1; have hle : lacks R ≤ lacks (cloTo ms bs j) := (by cases m; exact Nat.le_of_eq (by rw [hm0 rfl]); exact Nat.le_of_lt (hm1 rfl)); obtain ⟨x, hx⟩ : ∃ x, R[A]? = some x := ⟨_, List.getElem?_eq_getElem (by omega)⟩; obtain ⟨y, hy⟩ : ∃ y, R[B]? = some y := ⟨_, List.getElem?_eq_getElem (by omega)⟩; cases x <;> cases y)) <;> refine W_region_l ?_
          · refine WL_step rfl (R_fieldAddr (off' := 1) Tryz.underlying27 rfl Tryz.sizeOf25 (by decide) rfl rfl) ?_
            refine WL_step rfl (R_load Tryz.isAgg25 rfl (H.get (.there .here)) rfl) ?_
            refine WL_stepM rfl (R_mv) ?_
            refine WL_step rfl (R_indexAddr (off' := o1 + k * 2) Tryz.underlying25 Tryz.sizeOf64 rfl rfl (by omega) (by omega) (by omega)) ?_
            refine WL_step rfl (R_loadA_cell (vs := [I A, I B]) Tryz.isAgg64 Tryz.sizeOf64 rfl (fun j v hj => H.cellN (hc j v hj) kYs) rfl) ?_
            (refine WL_effn rfl (E_alloc (vs := [I 0, I 0]) H Tryz.zeroValue64 (by kernel_rfl)) ?_; clear H; intro c5 w76 hc5 H)
            (refine WL_effu rfl (E_storeA (vs := [(.int _ _), (.int _ _)]) H Tryz.sizeOf64 rfl rfl (by simp [Value.oneCell']) .here (by simp)) ?_; clear H; intro w77 H)
            refine WL_nil ?_
            refine W_seq ?_
            (refine W_drawH (fun _ => false) (by kernel_rfl) H ?_; clear H; intro w80 H)
            refine WA_takeM 0 rfl rfl rfl (by kernel_rfl) (by kernel_rfl) H (fun _ hC => R_mv) ?_
            refine WA_take 1 rfl rfl rfl (by kernel_rfl) (by kernel_rfl) H (fun _ hC => R_fieldAddr (off' := 0) Tryz.underlying64 rfl Tryz.sizeOf3 (by decide) rfl rfl) ?_
            refine WA_take 2 rfl rfl rfl (by kernel_rfl) (by kernel_rfl) H (fun _ hC => R_load Tryz.isAgg3 rfl (hC.get .here) rfl) ?_
            refine WA_take 3 rfl rfl rfl (by kernel_rfl) (by kernel_rfl) H (fun _ hC => R_indexAddr (off' := A) Tryz.underlying24 Tryz.sizeOf4 rfl rfl (by omega) (by omega) (by omega)) ?_
            refine WA_take 4 rfl rfl rfl (by kernel_rfl) (by kernel_rfl) H (fun _ hC => R_load (v := .bool false) Tryz.isAgg4 rfl (hC.get (.there .here)) (by rw [List.getElem?_append_left (by rw [List.length_map]; omega), List.getElem?_map, hx]; rfl)) ?_
            refine WA_takeM 5 rfl rfl rfl (by kernel_rfl) (by kernel_rfl) H (fun _ hC => R_mv) ?_
            refine WA_take 6 rfl rfl rfl (by kernel_rfl) (by kernel_rfl) H (fun _ hC => R_fieldAddr (off' := 1) Tryz.underlying64 rfl Tryz.sizeOf3 (by decide) rfl rfl) ?_
            refine WA_take 7 rfl rfl rfl (by kernel_rfl) (by kernel_rfl) H (fun _ hC => R_load Tryz.isAgg3 rfl (hC.get .here) rfl) ?_
            refine WA_take 8 rfl rfl rfl (by kernel_rfl) (by kernel_rfl) H (fun _ hC => R_indexAddr (off' := B) Tryz.underlying24 Tryz.sizeOf4 rfl rfl (by omega) (by omega) (by omega)) ?_
            refine WA_take 9 rfl rfl rfl (by kernel_rfl) (by kernel_rfl) H (fun _ hC => R_load (v := .bool false) Tryz.isAgg4 rfl (hC.get (.there .here)) (by rw [List.getElem?_append_left (by rw [List.length_map]; omega), List.getElem?_map, hy]; rfl)) ?_
            refine WA_take 10 rfl rfl rfl (by kernel_rfl) (by kernel_rfl) H (fun _ hC => R_ne_bool_f Tryz.underlying4 rfl rfl (by decide)) ?_
            refine WA_done (by kernel_rfl) ?_
            refine W_cond_f rfl ?_
            refine W_skip ?_
            refine W_region_l ?_
            refine WL_stepM rfl (R_mv) ?_
            refine WL_step rfl (R_add rfl rfl (w_i64 (by omega))) ?_
            refine WL_stepM rfl (R_as) ?_
            refine WL_nil ?_
            exact ⟨(same_mov rfl (same_updo rfl (same_mov rfl (same_updo rfl (same_updo rfl (same_updo rfl (same_updo rfl (same_updo rfl (same_mov rfl (same_updo rfl (same_updo rfl (same_updo rfl (same_updo rfl (same_mov rfl (same_updn (same_updo rfl (same_updo rfl (same_updo rfl (same_mov rfl (same_updo rfl (same_updo rfl (same_know rfl (same_updo rfl (same_updo rfl (same_updo rfl (same_updo rfl (same_mov rfl same_ovr))))))))))))))))))))))))))), k + 1, by omega, m, by omega, rfl, rfl, (fun h => by rw [hps, stepB_no hx hy]; exact hm0 h), (fun h => by rw [hps, stepB_no hx hy]; exact hm1 h), (by rw [hps, stepB_no hx hy]; exact H.pop (by assumption))⟩
          · refine WL_step rfl (R_fieldAddr (off' := 1) Tryz.underlying27 rfl Tryz.sizeOf25 (by decide) rfl rfl) ?_
            refine WL_step rfl (R_load Tryz.isAgg25 rfl (H.get (.there .here)) rfl) ?_
            refine WL_stepM rfl (R_mv) ?_
            refine WL_step rfl (R_indexAddr (off' := o1 + k * 2) Tryz.underlying25 Tryz.sizeOf64 rfl rfl (by omega) (by omega) (by omega)) ?_
            refine WL_step rfl (R_loadA_cell (vs := [I A, I B]) Tryz.isAgg64 Tryz.sizeOf64 rfl (fun j v hj => H.cellN (hc j v hj) kYs) rfl) ?_
            (refine WL_effn rfl (E_alloc (vs := [I 0, I 0]) H Tryz.zeroValue64 (by kernel_rfl)) ?_; clear H; intro c5 w106 hc5 H)
            (refine WL_effu rfl (E_storeA (vs := [(.int _ _), (.int _ _)]) H Tryz.sizeOf64 rfl rfl (by simp [Value.oneCell']) .here (by simp)) ?_; clear H; intro w107 H)
            refine WL_nil ?_
            refine W_seq ?_
            (refine W_drawH (fun _ => false) (by kernel_rfl) H ?_; clear H; intro w110 H)
            refine WA_takeM 0 rfl rfl rfl (by kernel_rfl) (by kernel_rfl) H (fun _ hC => R_mv) ?_
            refine WA_take 1 rfl rfl rfl (by kernel_rfl) (by kernel_rfl) H (fun _ hC => R_fieldAddr (off' := 0) Tryz.underlying64 rfl Tryz.sizeOf3 (by decide) rfl rfl) ?_
            refine WA_take 2 rfl rfl rfl (by kernel_rfl) (by kernel_rfl) H (fun _ hC => R_load Tryz.isAgg3 rfl (hC.get .here) rfl) ?_
            refine WA_take 3 rfl rfl rfl (by kernel_rfl) (by kernel_rfl) H (fun _ hC => R_indexAddr (off' := A) Tryz.underlying24 Tryz.sizeOf4 rfl rfl (by omega) (by omega) (by omega)) ?_
            refine WA_take 4 rfl rfl rfl (by kernel_rfl) (by kernel_rfl) H (fun _ hC => R_load (v := .bool false) Tryz.isAgg4 rfl (hC.get (.there .here)) (by rw [List.getElem?_append_left (by rw [List.length_map]; omega), List.getElem?_map, hx]; rfl)) ?_
            refine WA_takeM 5 rfl rfl rfl (by kernel_rfl) (by kernel_rfl) H (fun _ hC => R_mv) ?_
            refine WA_take 6 rfl rfl rfl (by kernel_rfl) (by kernel_rfl) H (fun _ hC => R_fieldAddr (off' := 1) Tryz.underlying64 rfl Tryz.sizeOf3 (by decide) rfl rfl) ?_
            refine WA_take 7 rfl rfl rfl (by kernel_rfl) (by kernel_rfl) H (fun _ hC => R_load Tryz.isAgg3 rfl (hC.get .here) rfl) ?_
            refine WA_take 8 rfl rfl rfl (by kernel_rfl) (by kernel_rfl) H (fun _ hC => R_indexAddr (off' := B) Tryz.underlying24 Tryz.sizeOf4 rfl rfl (by omega) (by omega) (by omega)) ?_
            refine WA_take 9 rfl rfl rfl (by kernel_rfl) (by kernel_rfl) H (fun _ hC => R_load (v := .bool true) Tryz.isAgg4 rfl (hC.get (.there .here)) (by rw [List.getElem?_append_left (by rw [List.length_map]; omega), List.getElem?_map, hy]; rfl)) ?_
            refine WA_take 10 rfl rfl rfl (by kernel_rfl) (by kernel_rfl) H (fun _ hC => R_ne_bool_t Tryz.underlying4 rfl rfl (by decide)) ?_
            refine WA_done (by kernel_rfl) ?_
            refine W_cond_t rfl ?_
            refine W_seq ?_
            (refine W_draw (Kp [(c5, blk [I A, I B] 64)]) (fun _ => false) (by kernel_rfl) H ?_; clear H; intro w125 H)
            refine WA_takeM 0 rfl rfl rfl (by kernel_rfl) (by kernel_rfl) (H.kp.sub (by simp)) (fun _ hC => R_mv) ?_
            refine WA_take 1 rfl rfl rfl (by kernel_rfl) (by kernel_rfl) (H.kp.sub (by simp)) (fun _ hC => R_fieldAddr (off' := 0) Tryz.underlying64 rfl Tryz.sizeOf3 (by decide) rfl rfl) ?_
            refine WA_take 2 rfl rfl rfl (by kernel_rfl) (by kernel_rfl) (H.kp.sub (by simp)) (fun _ hC => R_load Tryz.isAgg3 rfl (hC.get .here) rfl) ?_
            refine WA_takeM 3 rfl rfl rfl (by kernel_rfl) (by kernel_rfl) (H.kp.sub (by simp)) (fun _ hC => R_mv) ?_
            refine WA_take 4 rfl rfl rfl (by kernel_rfl) (by kernel_rfl) (H.kp.sub (by simp)) (fun _ hC => R_fieldAddr (off' := 1) Tryz.underlying64 rfl Tryz.sizeOf3 (by decide) rfl rfl) ?_
            refine WA_take 5 rfl rfl rfl (by kernel_rfl) (by kernel_rfl) (H.kp.sub (by simp)) (fun _ hC => R_load Tryz.isAgg3 rfl (hC.get .here) rfl) ?_
            refine WA_take 6 rfl rfl rfl (by kernel_rfl) (by kernel_rfl) (H.kp.sub (by simp)) (fun _ hC => R_indexAddr (off' := A) Tryz.underlying24 Tryz.sizeOf4 rfl rfl (by omega) (by omega) (by omega)) ?_
            refine WA_one (i := 7) (by kernel_rfl) ?_
            (refine WI_effu rfl (.inl rfl) (E_store (off := A) (v := Bo true) H Tryz.sizeOf4 rfl rfl rfl (.there .here) (by rw [List.length_append, List.length_map]; omega)) (fun _ H => (by first | exact fun h => absurd h (by decide) | exact fun _ => H | exact fun _ => H.none kYs | exact fun _ => H.dropN kYs | exact fun _ => H.pop (by assumption) | exact fun _ => (H.pop (by assumption)).pop (by assumption) | exact fun _ => H.kp | exact fun _ => H.kp.tail | exact fun _ => H.kp.tail.tail | exact fun _ => H.kp.tail.tail.tail | exact fun _ => H.kp.sub (by simp) | exact fun _ => Kp.nil | exact fun _ => H.kh (by simp) kYs)) ?_; clear H; intro w134 H)
            refine WA_take 8 rfl rfl rfl (by kernel_rfl) (by kernel_rfl) (H.kp.sub (by simp)) (fun _ hC => R_indexAddr (off' := B) Tryz.underlying24 Tryz.sizeOf4 rfl rfl (by omega) (by omega) (by omega)) ?_
            refine WA_one (i := 9) (by kernel_rfl) ?_
            (refine WI_effu rfl (.inl rfl) (E_store (off := B) (v := Bo true) H Tryz.sizeOf4 rfl rfl rfl (.there .here) (by rw [List.length_set, List.length_append, List.length_map]; omega)) (fun _ H => (by first | exact fun h => absurd h (by decide) | exact fun _ => H | exact fun _ => H.none kYs | exact fun _ => H.dropN kYs | exact fun _ => H.pop (by assumption) | exact fun _ => (H.pop (by assumption)).pop (by assumption) | exact fun _ => H.kp | exact fun _ => H.kp.tail | exact fun _ => H.kp.tail.tail | exact fun _ => H.kp.tail.tail.tail | exact fun _ => H.kp.sub (by simp) | exact fun _ => Kp.nil | exact fun _ => H.kh (by simp) kYs)) ?_; clear H; intro w137 H; rw [set_Bo (by omega) (by omega)] at H)
            refine WA_done (by kernel_rfl) ?_
            refine W_region_l ?_
            refine WL_stepM rfl (R_as) ?_
            refine WL_nil ?_
            refine W_region_l ?_
            refine WL_stepM rfl (R_mv) ?_
            refine WL_step rfl (R_add rfl rfl (w_i64 (by omega))) ?_
            refine WL_stepM rfl (R_as) ?_
            refine WL_nil ?_
            exact ⟨(same_mov rfl (same_updo rfl (same_mov rfl (same_mov rfl (same_updn (same_updo rfl (same_updn (same_updo rfl (same_updo rfl (same_updo rfl (same_mov rfl (same_updo rfl (same_updo rfl (same_mov rfl (same_updo rfl (same_updo rfl (same_updo rfl (same_updo rfl (same_updo rfl (same_mov rfl (same_updo rfl (same_updo rfl (same_updo rfl (same_updo rfl (same_mov rfl (same_updn (same_updo rfl (same_updo rfl (same_updo rfl (same_mov rfl (same_updo rfl (same_updo rfl (same_know rfl (same_updo rfl (same_updo rfl (same_updo rfl (same_updo rfl (same_mov rfl same_ovr)))))))))))))))))))))))))))))))))))))), k + 1, by omega, true, by omega, rfl, rfl, (fun h => nomatch h), (fun _ => by rw [hps]; have := step_ft hAB hx hy; omega), (by rw [hps, stepB_yes hx hy rfl]; exact H.pop (by assumption))⟩
          · refine WL_step rfl (R_fieldAddr (off' := 1) Tryz.underlying27 rfl Tryz.sizeOf25 (by decide) rfl rfl) ?_
            refine WL_step rfl (R_load Tryz.isAgg25 rfl (H.get (.there .here)) rfl) ?_
            refine WL_stepM rfl (R_mv) ?_
            refine WL_step rfl (R_indexAddr (off' := o1 + k * 2) Tryz.underlying25 Tryz.sizeOf64 rfl rfl (by omega) (by omega) (by omega)) ?_
            refine WL_step rfl (R_loadA_cell (vs := [I A, I B]) Tryz.isAgg64 Tryz.sizeOf64 rfl (fun j v hj => H.cellN (hc j v hj) kYs) rfl) ?_
            (refine WL_effn rfl (E_alloc (vs := [I 0, I 0]) H Tryz.zeroValue64 (by kernel_rfl)) ?_; clear H; intro c5 w153 hc5 H)
            (refine WL_effu rfl (E_storeA (vs := [(.int _ _), (.int _ _)]) H Tryz.sizeOf64 rfl rfl (by simp [Value.oneCell']) .here (by simp)) ?_; clear H; intro w154 H)
            refine WL_nil ?_
            refine W_seq ?_
            (refine W_drawH (fun _ => false) (by kernel_rfl) H ?_; clear H; intro w157 H)
            refine WA_takeM 0 rfl rfl rfl (by kernel_rfl) (by kernel_rfl) H (fun _ hC => R_mv) ?_
            refine WA_take 1 rfl rfl rfl (by kernel_rfl) (by kernel_rfl) H (fun _ hC => R_fieldAddr (off' := 0) Tryz.underlying64 rfl Tryz.sizeOf3 (by decide) rfl rfl) ?_
            refine WA_take 2 rfl rfl rfl (by kernel_rfl) (by kernel_rfl) H (fun _ hC => R_load Tryz.isAgg3 rfl (hC.get .here) rfl) ?_
            refine WA_take 3 rfl rfl rfl (by kernel_rfl) (by kernel_rfl) H (fun _ hC => R_indexAddr (off' := A) Tryz.underlying24 Tryz.sizeOf4 rfl rfl (by omega) (by omega) (by omega)) ?_
            refine WA_take 4 rfl rfl rfl (by kernel_rfl) (by kernel_rfl) H (fun _ hC => R_load (v := .bool true) Tryz.isAgg4 rfl (hC.get (.there .here)) (by rw [List.getElem?_append_left (by rw [List.length_map]; omega), List.getElem?_map, hx]; rfl)) ?_
            refine WA_takeM 5 rfl rfl rfl (by kernel_rfl) (by kernel_rfl) H (fun _ hC => R_mv) ?_
            refine WA_take 6 rfl rfl rfl (by kernel_rfl) (by kernel_rfl) H (fun _ hC => R_fieldAddr (off' := 1) Tryz.underlying64 rfl Tryz.sizeOf3 (by decide) rfl rfl) ?_
            refine WA_take 7 rfl rfl rfl (by kernel_rfl) (by kernel_rfl) H (fun _ hC => R_load Tryz.isAgg3 rfl (hC.get .here) rfl) ?_
            refine WA_take 8 rfl rfl rfl (by kernel_rfl) (by kernel_rfl) H (fun _ hC => R_indexAddr (off' := B) Tryz.underlying24 Tryz.sizeOf4 rfl rfl (by omega) (by omega) (by omega)) ?_
            refine WA_take 9 rfl rfl rfl (by kernel_rfl) (by kernel_rfl) H (fun _ hC => R_load (v := .bool false) Tryz.isAgg4 rfl (hC.get (.there .here)) (by rw [List.getElem?_append_left (by rw [List.length_map]; omega), List.getElem?_map, hy]; rfl)) ?_
            refine WA_take 10 rfl rfl rfl (by kernel_rfl) (by kernel_rfl) H (fun _ hC => R_ne_bool_t Tryz.underlying4 rfl rfl (by decide)) ?_
            refine WA_done (by kernel_rfl) ?_
            refine W_cond_t rfl ?_
            refine W_seq ?_
            (refine W_draw (Kp [(c5, blk [I A, I B] 64)]) (fun _ => false) (by kernel_rfl) H ?_; clear H; intro w172 H)
            refine WA_takeM 0 rfl rfl rfl (by kernel_rfl) (by kernel_rfl) (H.kp.sub (by simp)) (fun _ hC => R_mv) ?_
            refine WA_take 1 rfl rfl rfl (by kernel_rfl) (by kernel_rfl) (H.kp.sub (by simp)) (fun _ hC => R_fieldAddr (off' := 0) Tryz.underlying64 rfl Tryz.sizeOf3 (by decide) rfl rfl) ?_
            refine WA_take 2 rfl rfl rfl (by kernel_rfl) (by kernel_rfl) (H.kp.sub (by simp)) (fun _ hC => R_load Tryz.isAgg3 rfl (hC.get .here) rfl) ?_
            refine WA_takeM 3 rfl rfl rfl (by kernel_rfl) (by kernel_rfl) (H.kp.sub (by simp)) (fun _ hC => R_mv) ?_
            refine WA_take 4 rfl rfl rfl (by kernel_rfl) (by kernel_rfl) (H.kp.sub (by simp)) (fun _ hC => R_fieldAddr (off' := 1) Tryz.underlying64 rfl Tryz.sizeOf3 (by decide) rfl rfl) ?_
            refine WA_take 5 rfl rfl rfl (by kernel_rfl) (by kernel_rfl) (H.kp.sub (by simp)) (fun _ hC => R_load Tryz.isAgg3 rfl (hC.get .here) rfl) ?_
            refine WA_take 6 rfl rfl rfl (by kernel_rfl) (by kernel_rfl) (H.kp.sub (by simp)) (fun _ hC => R_indexAddr (off' := A) Tryz.underlying24 Tryz.sizeOf4 rfl rfl (by omega) (by omega) (by omega)) ?_
            refine WA_one (i := 7) (by kernel_rfl) ?_
            (refine WI_effu rfl (.inl rfl) (E_store (off := A) (v := Bo true) H Tryz.sizeOf4 rfl rfl rfl (.there .here) (by rw [List.length_append, List.length_map]; omega)) (fun _ H => (by first | exact fun h => absurd h (by decide) | exact fun _ => H | exact fun _ => H.none kYs | exact fun _ => H.dropN kYs | exact fun _ => H.pop (by assumption) | exact fun _ => (H.pop (by assumption)).pop (by assumption) | exact fun _ => H.kp | exact fun _ => H.kp.tail | exact fun _ => H.kp.tail.tail | exact fun _ => H.kp.tail.tail.tail | exact fun _ => H.kp.sub (by simp) | exact fun _ => Kp.nil | exact fun _ => H.kh (by simp) kYs)) ?_; clear H; intro w181 H)
            refine WA_take 8 rfl rfl rfl (by kernel_rfl) (by kernel_rfl) (H.kp.sub (by simp)) (fun _ hC => R_indexAddr (off' := B) Tryz.underlying24 Tryz.sizeOf4 rfl rfl (by omega) (by omega) (by omega)) ?_
            refine WA_one (i := 9) (by kernel_rfl) ?_
            (refine WI_effu rfl (.inl rfl) (E_store (off := B) (v := Bo true) H Tryz.sizeOf4 rfl rfl rfl (.there .here) (by rw [List.length_set, List.length_append, List.length_map]; omega)) (fun _ H => (by first | exact fun h => absurd h (by decide) | exact fun _ => H | exact fun _ => H.none kYs | exact fun _ => H.dropN kYs | exact fun _ => H.pop (by assumption) | exact fun _ => (H.pop (by assumption)).pop (by assumption) | exact fun _ => H.kp | exact fun _ => H.kp.tail | exact fun _ => H.kp.tail.tail | exact fun _ => H.kp.tail.tail.tail | exact fun _ => H.kp.sub (by simp) | exact fun _ => Kp.nil | exact fun _ => H.kh (by simp) kYs)) ?_; clear H; intro w184 H; rw [set_Bo (by omega) (by omega)] at H)
            refine WA_done (by kernel_rfl) ?_
            refine W_region_l ?_
            refine WL_stepM rfl (R_as) ?_
            refine WL_nil ?_
            refine W_region_l ?_
            refine WL_stepM rfl (R_mv) ?_
            refine WL_step rfl (R_add rfl rfl (w_i64 (by omega))) ?_
            refine WL_stepM rfl (R_as) ?_
            refine WL_nil ?_
            exact ⟨(same_mov rfl (same_updo rfl (same_mov rfl (same_mov rfl (same_updn (same_updo rfl (same_updn (same_updo rfl (same_updo rfl (same_updo rfl (same_mov rfl (same_updo rfl (same_updo rfl (same_mov rfl (same_updo rfl (same_updo rfl (same_updo rfl (same_updo rfl (same_updo rfl (same_mov rfl (same_updo rfl (same_updo rfl (same_updo rfl (same_updo rfl (same_mov rfl (same_updn (same_updo rfl (same_updo rfl (same_updo rfl (same_mov rfl (same_updo rfl (same_updo rfl (same_know rfl (same_updo rfl (same_updo rfl (same_updo rfl (same_updo rfl (same_mov rfl same_ovr)))))))))))))))))))))))))))))))))))))), k + 1, by omega, true, by omega, rfl, rfl, (fun h => nomatch h), (fun _ => by rw [hps]; have := step_tf hx hy; omega), (by rw [hps, stepB_yes hx hy rfl]; exact H.pop (by assumption))⟩
          · refine WL_step rfl (R_fieldAddr (off' := 1) Tryz.underlying27 rfl Tryz.sizeOf25 (by decide) rfl rfl) ?_
            refine WL_step rfl (R_load Tryz.isAgg25 rfl (H.get (.there .here)) rfl) ?_
            refine WL_stepM rfl (R_mv) ?_
            refine WL_step rfl (R_indexAddr (off' := o1 + k * 2) Tryz.underlying25 Tryz.sizeOf64 rfl rfl (by omega) (by omega) (by omega)) ?_
            refine WL_step rfl (R_loadA_cell (vs := [I A, I B]) Tryz.isAgg64 Tryz.sizeOf64 rfl (fun j v hj => H.cellN (hc j v hj) kYs) rfl) ?_
            (refine WL_effn rfl (E_alloc (vs := [I 0, I 0]) H Tryz.zeroValue64 (by kernel_rfl)) ?_; clear H; intro c5 w200 hc5 H)
            (refine WL_effu rfl (E_storeA (vs := [(.int _ _), (.int _ _)]) H Tryz.sizeOf64 rfl rfl (by simp [Value.oneCell']) .here (by simp)) ?_; clear H; intro w201 H)
            refine WL_nil ?_
            refine W_seq ?_
            (refine W_drawH (fun _ => false) (by kernel_rfl) H ?_; clear H; intro w204 H)
            refine WA_takeM 0 rfl rfl rfl (by kernel_rfl) (by kernel_rfl) H (fun _ hC => R_mv) ?_
            refine WA_take 1 rfl rfl rfl (by kernel_rfl) (by kernel_rfl) H (fun _ hC => R_fieldAddr (off' := 0) Tryz.underlying64 rfl Tryz.sizeOf3 (by decide) rfl rfl) ?_
            refine WA_take 2 rfl rfl rfl (by kernel_rfl) (by kernel_rfl) H (fun _ hC => R_load Tryz.isAgg3 rfl (hC.get .here) rfl) ?_
            refine WA_take 3 rfl rfl rfl (by kernel_rfl) (by kernel_rfl) H (fun _ hC => R_indexAddr (off' := A) Tryz.underlying24 Tryz.sizeOf4 rfl rfl (by omega) (by omega) (by omega)) ?_
            refine WA_take 4 rfl rfl rfl (by kernel_rfl) (by kernel_rfl) H (fun _ hC => R_load (v := .bool true) Tryz.isAgg4 rfl (hC.get (.there .here)) (by rw [List.getElem?_append_left (by rw [List.length_map]; omega), List.getElem?_map, hx]; rfl)) ?_
            refine WA_takeM 5 rfl rfl rfl (by kernel_rfl) (by kernel_rfl) H (fun _ hC => R_mv) ?_
            refine WA_take 6 rfl rfl rfl (by kernel_rfl) (by kernel_rfl) H (fun _ hC => R_fieldAddr (off' := 1) Tryz.underlying64 rfl Tryz.sizeOf3 (by decide) rfl rfl) ?_
            refine WA_take 7 rfl rfl rfl (by kernel_rfl) (by kernel_rfl) H (fun _ hC => R_load Tryz.isAgg3 rfl (hC.get .here) rfl) ?_
            refine WA_take 8 rfl rfl rfl (by kernel_rfl) (by kernel_rfl) H (fun _ hC => R_indexAddr (off' := B) Tryz.underlying24 Tryz.sizeOf4 rfl rfl (by omega) (by omega) (by omega)) ?_
            refine WA_take 9 rfl rfl rfl (by kernel_rfl) (by kernel_rfl) H (fun _ hC => R_load (v := .bool true) Tryz.isAgg4 rfl (hC.get (.there .here)) (by rw [List.getElem?_append_left (by rw [List.length_map]; omega), List.getElem?_map, hy]; rfl)) ?_
            refine WA_take 10 rfl rfl rfl (by kernel_rfl) (by kernel_rfl) H (fun _ hC => R_ne_bool_f Tryz.underlying4 rfl rfl (by decide)) ?_
            refine WA_done (by kernel_rfl) ?_
            refine W_cond_f rfl ?_
            refine W_skip ?_
            refine W_region_l ?_
            refine WL_stepM rfl (R_mv) ?_
            refine WL_step rfl (R_add rfl rfl (w_i64 (by omega))) ?_
            refine WL_stepM rfl (R_as) ?_
            refine WL_nil ?_
            exact ⟨(same_mov rfl (same_updo rfl (same_mov rfl (same_updo rfl (same_updo rfl (same_updo rfl (same_updo rfl (same_updo rfl (same_mov rfl (same_updo rfl (same_updo rfl (same_updo rfl (same_updo rfl (same_mov rfl (same_updn (same_updo rfl (same_updo rfl (same_updo rfl (same_mov rfl (same_updo rfl (same_updo rfl (same_know rfl (same_updo rfl (same_updo rfl (same_updo rfl (same_updo rfl (same_mov rfl same_ovr))))))))))))))))))))))))))), k + 1, by omega, m, by omega, rfl, rfl, (fun h => by rw [hps, step_tt hx hy]; exact hm0 h), (fun h => by rw [hps, step_tt hx hy]; exact hm1 h), (by rw [hps, step_tt hx hy]; exact H.pop (by assumption))⟩
        · refine W_exit ?_
          refine (if_pos rfl).mpr ?_
          (obtain rfl : k = bs.length := (by omega); exact ⟨(same_know rfl (same_updo rfl (same_updo rfl (same_updo rfl (same_updo rfl (same_mov rfl (same_in rfl (same_mov rfl (same_mov rfl (same_mov rfl same_ovr)))))))))), 2 * lacks (cloTo ms bs (j + 1)) + (if m = true then 1 else 0), (by cases m; have e := hm0 rfl; show 2 * lacks (passTo (cloTo ms bs j) bs bs.length) + 0 < i; rw [e]; omega; have e := hm1 rfl; show 2 * lacks (passTo (cloTo ms bs j) bs bs.length) + 1 < i; omega), j + 1, m, rfl, (by intro h; have e := hm0 h; show passTo (passTo (cloTo ms bs j) bs bs.length) bs bs.length = passTo (cloTo ms bs j) bs bs.length; rw [e]; exact e), rfl, H⟩)
end Go.Proofs.YtlpmfldijgdcoaaGreatDoor.Top

/-
  Programs made of numbers; the law PredEnds.
-/
import Derived.Test.YtaclingiedmpbaaPredD
namespace Go.Proofs.Ytaclingiedmpbaa.Pred
open Go Go.Proofs Go.Proofs.Ytaclingiedmpbaa.Fx
set_option maxRecDepth 100000
set_option linter.unusedVariables false
set_option linter.unusedSimpArgs false
set_option maxHeartbeats 1000000

/-- an instruction made of a number, the i-th one of n -/
def tameI (n i : Nat) (x : Int) : In :=
  ⟨x % 16777216 % 7 + 1,
    if x % 16777216 % 7 + 1 = 1 then x % 16777216 / 16 % 32
    else if x % 16777216 % 7 + 1 = 3 ∨ x % 16777216 % 7 + 1 = 4 then x % 16777216 / 16 % 256
    else if x % 16777216 % 7 + 1 = 5 then min (x % 16777216 / 16 % 4) (n - 1 - i) else 0, 0⟩
def tameL (xs : List Int) : List In := tab (min xs.length 20) fun i => tameI (min xs.length 20) i (xs.getD i 0)

theorem tameL_length (xs : List Int) : (tameL xs).length = min xs.length 20 := tab_length _ _

theorem tame_ok {n i : Nat} (h : i < n) (x : Int) : okP (tameI n i x) ((n : Int) - 1 - i) := by
  unfold okP tameI
  simp only
  have h0 : 0 ≤ x % 16777216 := Int.emod_nonneg _ (by decide)
  generalize x % 16777216 = y at *
  by_cases h1 : y % 7 + 1 = 1
  · rw [if_pos h1]
    refine ⟨⟨by omega, by omega, by omega, by omega, by omega, trivial⟩, by omega⟩
  · rw [if_neg h1]
    by_cases h2 : y % 7 + 1 = 3 ∨ y % 7 + 1 = 4
    · rw [if_pos h2]
      refine ⟨⟨by omega, by omega, by omega, by omega, by omega, trivial⟩, by omega⟩
    · rw [if_neg h2]
      by_cases h3 : y % 7 + 1 = 5
      · rw [if_pos h3]
        refine ⟨⟨by omega, by omega, by omega, by omega, by omega, trivial⟩, by omega⟩
      · rw [if_neg h3]
        refine ⟨⟨by omega, by omega, by omega, by omega, by omega, trivial⟩, by omega⟩

theorem allOk_of : ∀ {l : List In}, (∀ (k : Nat) (i : In), l[k]? = some i → okP i ((l.length : Int) - 1 - k)) → allOk l = true
  | [], _ => rfl
  | a :: l, h => by
    unfold allOk
    have h0 := h 0 a rfl
    rw [List.length_cons, show (((l.length + 1 : Nat) : Int) - 1 - ((0 : Nat) : Int)) = (l.length : Int) from by omega] at h0
    rw [decide_eq_true h0, Bool.true_and]
    refine allOk_of fun k i hi => ?_
    have := h (k + 1) i hi
    rw [List.length_cons, show (((l.length + 1 : Nat) : Int) - 1 - ((k + 1 : Nat) : Int)) = (l.length : Int) - 1 - k from by omega] at this
    exact this

theorem tameL_chk (xs : List Int) : chk (tameL xs) = 0 := by
  unfold chk
  have hl := tameL_length xs
  rw [if_neg (by omega), if_pos]
  refine allOk_of fun k i hi => ?_
  obtain ⟨hk, rfl⟩ := tab_get_iff hi
  rw [hl]
  exact tame_ok hk _

section
variable {w : World} {l : List In} {v lv : Value}

theorem tame_ret {xs : List Int} (hx : RdS w v (xs.map I)) (hb : xs.length ≤ 9223372036854775807) :
    Ret Try.prog 27 #[v] w fun r w' => ∃ M, OwnS w.heap.size 44 3 r (tameL xs).length (rows insC (tameL xs)) M ∧ Hp w M w' := by
  refine Ret_of_W (args := [_]) Try.func27 rfl Try.ntmps27 Try.results27 (by simp) ?_
  obtain ⟨ao, ca, rfl⟩ := hx.form
  simp only [List.length_map] at hx ⊢
  have H := Hp.refl w
  have hO := OwnS.nil w.heap.size 44 3
  obtain ⟨n, hn, hn2⟩ : ∃ n : Nat, min (xs.length : Int) 20 = (n : Int) ∧ min xs.length 20 = n := ⟨min xs.length 20, by omega, rfl⟩
  unfold tameL
  rw [hn2]
  refine W_seq ?_
  refine W_region_l ?_
  refine WL_stepM rfl (R_as) ?_
  refine WL_nil ?_
  refine W_seq ?_
  refine W_region_l ?_
  refine WL_stepM rfl (R_as) ?_
  refine WL_nil ?_
  refine W_seq ?_
  refine W_region_l ?_
  refine WL_stepM rfl (R_mv) ?_
  refine WL_step rfl (R_len_slice Try.underlying22 rfl) ?_
  refine WL_step rfl (R_min rfl rfl hn) ?_
  refine WL_stepM rfl (R_as) ?_
  refine WL_nil ?_
  refine W_seq ?_
  refine W_seq ?_
  refine W_region_l ?_
  refine WL_stepM rfl (R_as) ?_
  refine WL_nil ?_
  refine W_block ?_
  refine W_loopS [(3, 3), (5, 7), (11, 54)] (fun (k : Nat) E w' => ∃ v M, k ≤ n ∧ E 3 = v ∧ E 5 = I k ∧ OwnS w.heap.size 44 3 v k (rows insC (tab k fun i => tameI n i (xs.getD i 0))) M ∧ Hp w M w') (fun k => n - k) 0 ?e0 ?r0
  · exact ⟨_, [], by omega, rfl, rfl, hO, H⟩
  · (clear H hO; rintro k E w1 ⟨v, M, hk, h0, h1, hO, H⟩; obtain ⟨a1, c1, rfl⟩ := hO.form; refine W_kn2 h0 h1 ?_)
    refine W_seq ?_
    refine W_seq ?_
    refine W_region_l ?_
    refine WL_stepM rfl (R_mv) ?_
    refine WL_stepM rfl (R_mv) ?_
    refine WL_step rfl (R_lt rfl rfl) ?_
    refine WL_nil ?_
    refine W_if rfl (fun h31 => ?_) (fun h31 => ?_)
    · refine W_skip ?_
      refine W_seq ?_
      refine W_block ?_
      refine W_seq ?_
      (obtain ⟨b1, o1, rfl, hc1⟩ := hx.cell (i := k) (u := I xs[k]) (by rw [List.getElem?_map, List.getElem?_eq_getElem (by omega)]; rfl); have hge : xs.getD k 0 = xs[k] := (by rw [List.getD_eq_getElem?_getD, List.getElem?_eq_getElem (by omega)]; rfl)) <;> refine W_region_l ?_
      refine WL_stepM rfl (R_mv) ?_
      refine WL_stepM rfl (R_mv) ?_
      refine WL_step rfl (R_indexAddr Try.underlying22 Try.sizeOf3 rfl rfl (by omega) (by omega) idx_cast1) ?_
      refine WL_step rfl (R_load_cell Try.isAgg3 rfl (H.cellN hc1 (by repeat' first | exact kNil | apply kCons | apply kApp | assumption | exact OwnS.keys (by assumption)))) ?_
      refine WL_step rfl (R_bits rfl rfl (by simp) (and_mask_i64 24 16777216 (by decide) rfl (by decide))) ?_
      refine WL_stepM rfl (R_as) ?_
      refine WL_nil ?_
      refine W_seq ?_
      refine W_region_l ?_
      refine WL_stepM rfl (R_mv) ?_
      refine WL_step rfl (R_rem rfl rfl (by omega) (rem_pos (by omega))) ?_
      refine WL_step rfl (R_add rfl rfl (w_i64 (by omega))) ?_
      refine WL_step rfl (R_build (vs := [(.int _ _), (.int _ _), (.int _ _)]) rfl rfl) ?_
      (refine WL_effn rfl (E_alloc H Try.zeroValue44 rfl) ?_; clear H; intro b7 w50 hb7 H)
      (refine WL_effu rfl (E_storeA (vs := [(.int _ _), (.int _ _), (.int _ _)]) H Try.sizeOf44 rfl rfl (by simp [Value.oneCell']) .here (by simp)) ?_; clear H; intro w51 H)
      refine WL_nil ?_
      refine W_seq ?_
      refine W_seq ?_
      refine W_region_l ?_
      refine WL_step rfl (R_fieldAddr (off' := 0) Try.underlying44 rfl Try.sizeOf3 (by decide) rfl rfl) ?_
      refine WL_step rfl (R_load Try.isAgg3 rfl (H.get .here) rfl) ?_
      refine WL_nil ?_
      refine W_blockS [(27, 50)] (fun E w' => Hp w ((b7, blk (insC (tameI n k xs[k])) 44) :: M) w') ?b2 ?k2
      · refine W_seq ?_
        refine W_region_l ?_
        refine WL_step rfl (R_eq rfl rfl) ?_
        refine WL_stepM rfl (R_as) ?_
        refine WL_nil ?_
        refine W_if rfl (fun h65 => ?_) (fun h65 => ?_)
        · refine W_region_l ?_
          refine WL_stepM rfl (R_mv) ?_
          refine WL_step rfl (R_shr rfl rfl (by decide) (shr_any 16 (by decide))) ?_
          refine WL_step rfl (R_bits rfl rfl (by simp) (and_mask_i64 5 32 (by decide) rfl (by decide))) ?_
          refine WL_step rfl (R_fieldAddr (off' := 1) Try.underlying44 rfl Try.sizeOf3 (by decide) rfl rfl) ?_
          (refine WL_effu rfl (E_store (v := (.int _ _)) H Try.sizeOf3 rfl rfl rfl .here (by simp)) ?_; clear H; intro w71 H)
          refine WL_nil ?_
          exact ⟨(by repeat' first | refine same_updo rfl ?_ | refine same_mov rfl ?_ | refine same_upd rfl ?_ | refine same_updn ?_ | refine same_know rfl ?_ | exact same_ovr | refine same_in rfl ?_ | exact Same.refl), by unfold tameI; (repeat' first | rw [if_pos (by omega)] | rw [if_neg (by omega)] | fail); exact H⟩
        · refine W_seq ?_
          refine W_seq ?_
          refine W_region_l ?_
          refine WL_step rfl (R_eq rfl rfl) ?_
          refine WL_stepM rfl (R_as) ?_
          refine WL_nil ?_
          refine W_if rfl (fun h80 => ?_) (fun h80 => ?_)
          · refine W_skip ?_
            refine W_cond_t rfl ?_
            refine W_region_l ?_
            refine WL_stepM rfl (R_mv) ?_
            refine WL_step rfl (R_shr rfl rfl (by decide) (shr_any 16 (by decide))) ?_
            refine WL_step rfl (R_bits rfl rfl (by simp) (and_mask_i64 8 256 (by decide) rfl (by decide))) ?_
            refine WL_step rfl (R_fieldAddr (off' := 1) Try.underlying44 rfl Try.sizeOf3 (by decide) rfl rfl) ?_
            (refine WL_effu rfl (E_store (v := (.int _ _)) H Try.sizeOf3 rfl rfl rfl .here (by simp)) ?_; clear H; intro w88 H)
            refine WL_nil ?_
            exact ⟨(by repeat' first | refine same_updo rfl ?_ | refine same_mov rfl ?_ | refine same_upd rfl ?_ | refine same_updn ?_ | refine same_know rfl ?_ | exact same_ovr | refine same_in rfl ?_ | exact Same.refl), by unfold tameI; (repeat' first | rw [if_pos (by omega)] | rw [if_neg (by omega)] | fail); exact H⟩
          · refine W_region_l ?_
            refine WL_step rfl (R_eq rfl rfl) ?_
            refine WL_stepM rfl (R_as) ?_
            refine WL_nil ?_
            refine W_if rfl (fun h95 => ?_) (fun h95 => ?_)
            · refine W_region_l ?_
              refine WL_stepM rfl (R_mv) ?_
              refine WL_step rfl (R_shr rfl rfl (by decide) (shr_any 16 (by decide))) ?_
              refine WL_step rfl (R_bits rfl rfl (by simp) (and_mask_i64 8 256 (by decide) rfl (by decide))) ?_
              refine WL_step rfl (R_fieldAddr (off' := 1) Try.underlying44 rfl Try.sizeOf3 (by decide) rfl rfl) ?_
              (refine WL_effu rfl (E_store (v := (.int _ _)) H Try.sizeOf3 rfl rfl rfl .here (by simp)) ?_; clear H; intro w101 H)
              refine WL_nil ?_
              exact ⟨(by repeat' first | refine same_updo rfl ?_ | refine same_mov rfl ?_ | refine same_upd rfl ?_ | refine same_updn ?_ | refine same_know rfl ?_ | exact same_ovr | refine same_in rfl ?_ | exact Same.refl), by unfold tameI; (repeat' first | rw [if_pos (by omega)] | rw [if_neg (by omega)] | fail); exact H⟩
            · refine W_seq ?_
              refine W_region_l ?_
              refine WL_step rfl (R_eq rfl rfl) ?_
              refine WL_stepM rfl (R_as) ?_
              refine WL_nil ?_
              refine W_if rfl (fun h109 => ?_) (fun h109 => ?_)
              · refine W_region_l ?_
                refine WL_stepM rfl (R_mv) ?_
                refine WL_step rfl (R_shr rfl rfl (by decide) (shr_any 16 (by decide))) ?_
                refine WL_step rfl (R_bits rfl rfl (by simp) (and_mask_i64 2 4 (by decide) rfl (by decide))) ?_
                refine WL_stepM rfl (R_mv) ?_
                refine WL_step rfl (R_sub rfl rfl (w_i64 (by omega))) ?_
                refine WL_stepM rfl (R_mv) ?_
                refine WL_step rfl (R_sub rfl rfl (w_i64 (by omega))) ?_
                refine WL_step rfl (R_min rfl rfl rfl) ?_
                refine WL_step rfl (R_fieldAddr (off' := 1) Try.underlying44 rfl Try.sizeOf3 (by decide) rfl rfl) ?_
                (refine WL_effu rfl (E_store (v := (.int _ _)) H Try.sizeOf3 rfl rfl rfl .here (by simp)) ?_; clear H; intro w120 H)
                refine WL_nil ?_
                exact ⟨(by repeat' first | refine same_updo rfl ?_ | refine same_mov rfl ?_ | refine same_upd rfl ?_ | refine same_updn ?_ | refine same_know rfl ?_ | exact same_ovr | refine same_in rfl ?_ | exact Same.refl), by unfold tameI; (repeat' first | rw [if_pos (by omega)] | rw [if_neg (by omega)] | fail); exact H⟩
              · refine W_skip ?_
                exact ⟨(by repeat' first | refine same_updo rfl ?_ | refine same_mov rfl ?_ | refine same_upd rfl ?_ | refine same_updn ?_ | refine same_know rfl ?_ | exact same_ovr | refine same_in rfl ?_ | exact Same.refl), by unfold tameI; (repeat' first | rw [if_pos (by omega)] | rw [if_neg (by omega)] | fail); exact H⟩
      · (clear H; intro E w1 H)
        refine W_region_l ?_
        refine WL_stepM rfl (R_mv) ?_
        refine WL_step rfl (R_loadA (c := insC (tameI n k xs[k])) (vs := insC (tameI n k xs[k])) Try.isAgg44 Try.sizeOf44 rfl (H.get .here) rfl (by simp [insC_len])) ?_
        (refine WL_effn rfl (E_buildRows (vss := [insC (tameI n k xs[k])]) H Try.underlying45 Try.sizeOf44 Try.zeroValue44 rfl rfl (by decide) rfl rfl (by simp [insC_len])) ?_; clear H; intro b129 w129 hb129 H)
        (refine WL_effm rfl (E_append (news := insC (tameI n k xs[k])) H (.there (.there .last)) hO Try.underlying45 Try.typeInfo44 rfl rfl rfl rfl rfl rfl (src_blk (m := 1) (sp := []) Try.underlying45 (by rw [List.append_nil]; exact H.get .here) rfl (by simp [insC, Value.oneCell'])) (by omega) (by simp only [Try.t44]; omega)) ?_; clear H hO; intro vN MN w130 hO H; replace H := (H.pop (by assumption)).pop (by assumption))
        refine WL_stepM rfl (R_as) ?_
        refine WL_nil ?_
        refine W_region_l ?_
        refine WL_stepM rfl (R_mv) ?_
        refine WL_step rfl (R_add rfl rfl (w_i64 (by omega))) ?_
        refine WL_stepM rfl (R_as) ?_
        refine WL_nil ?_
        exact ⟨(by repeat' first | refine same_updo rfl ?_ | refine same_mov rfl ?_ | refine same_upd rfl ?_ | refine same_updn ?_ | refine same_know rfl ?_ | exact same_ovr | refine same_in rfl ?_ | exact Same.refl), k + 1, by omega, vN, MN, by omega, rfl, rfl, (by rw [tab_succ, rows_append, hge]; simpa [rows] using hO), H⟩
    · refine W_exit ?_
      refine (if_pos rfl).mpr ?_
      refine W_seq ?_
      refine W_region_l ?_
      refine WL_stepM rfl (R_mv) ?_
      refine WL_stepM rfl (R_as) ?_
      refine WL_nil ?_
      refine W_ret ?_
      (obtain rfl : k = n := (by omega); exact ⟨_, rfl, M, (by rw [tab_length]; exact hO), H⟩)
end
end Go.Proofs.Ytaclingiedmpbaa.Pred

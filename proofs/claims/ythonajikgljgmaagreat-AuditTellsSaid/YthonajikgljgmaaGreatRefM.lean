/-
  Sums and blank rows, as the document has them.
-/
import Derived.Test.YthonajikgljgmaaGreatBytM
import Derived.Test.YthonajikgljgmaaGreatFxO
namespace Go.Proofs.YthonajikgljgmaaGreat.Codec
open Go Go.Proofs Go.Proofs.YthonajikgljgmaaGreat.Fx
set_option maxRecDepth 100000
set_option linter.unusedVariables false
set_option linter.unusedSimpArgs false
set_option maxHeartbeats 1000000

def sumN (n : Nat) (l : List UInt8) : Nat := l.foldl (fun a y => a + y.toNat) n

theorem sumN_le (l : List UInt8) : ∀ n, sumN n l ≤ n + 255 * l.length := by
  induction l with
  | nil => intro n; simp [sumN]
  | cons y l ih =>
    intro n
    have := ih (n + y.toNat)
    have hy := y.toNat_lt
    unfold sumN at this ⊢
    rw [List.foldl_cons, List.length_cons]
    omega

theorem sumN_ofNat (l : List UInt8) : ∀ n, UInt8.ofNat (sumN n l) = l.foldl (· + ·) (UInt8.ofNat n) := by
  induction l with
  | nil => intro n; rfl
  | cons y l ih =>
    intro n
    have := ih (n + y.toNat)
    unfold sumN at this ⊢
    rw [List.foldl_cons, List.foldl_cons, this, UInt8.ofNat_add, UInt8.ofNat_toNat]

theorem sumN_take {l : List UInt8} {n i : Nat} (h : i < l.length) : sumN n (l.take (i + 1)) = sumN n (l.take i) + l[i].toNat := by
  unfold sumN
  rw [List.take_succ_eq_append_getElem h, List.foldl_append]; rfl

theorem refSum_ret {xs : List UInt8} (w : World) (hb : xs.length ≤ 100000) :
    Ret Tryz.prog 39 #[S xs] w fun v w' => v = U (sumB xs) ∧ Hp w [] w' := by
  refine Ret_of_W (args := [_]) Tryz.func39 rfl Tryz.ntmps39 Tryz.results39 (by simp) ?_
  have H := Hp.refl w
  refine W_seq ?_
  refine W_region_l ?_
  refine WL_stepM rfl (R_as) ?_
  refine WL_nil ?_
  refine W_seq ?_
  refine W_region_l ?_
  refine WL_stepM rfl (R_mv) ?_
  refine WL_step rfl (R_len_S Tryz.underlying9 rfl) ?_
  refine WL_stepM rfl (R_as) ?_
  refine WL_nil ?_
  refine W_seq ?_
  refine W_seq ?_
  refine W_region_l ?_
  refine WL_stepM rfl (R_as) ?_
  refine WL_nil ?_
  refine W_block ?_
  refine W_loop (fun (i : Nat) E w' => i ≤ xs.length ∧ E 0 = S xs ∧ E 3 = I (sumN xs.length (xs.take i) : Nat) ∧ E 4 = I i ∧ Hp w [] w') (fun i => xs.length - i) 0 ?_ ?_
  · exact ⟨by omega, rfl, rfl, rfl, H⟩
  · (clear H; rintro i E w1 ⟨hi, h0, h1, h2, H⟩; refine W_know3 h0 h1 h2 ?_; by_cases hlt : i < xs.length)
    · refine W_seq ?_
      refine W_seq ?_
      refine W_region_l ?_
      refine WL_stepM rfl (R_mv) ?_
      refine WL_stepM rfl (R_mv) ?_
      refine WL_step rfl (R_len_S Tryz.underlying9 rfl) ?_
      refine WL_step rfl (R_lt_t rfl rfl (by omega)) ?_
      refine WL_nil ?_
      refine W_cond_t rfl ?_
      refine W_skip ?_
      refine W_seq ?_
      refine W_block ?_
      (have hsl := sumN_le (xs.take i) xs.length; rw [List.length_take, Nat.min_eq_left hi] at hsl; have hx8 := xs[i].toNat_lt; refine W_region_l ?_)
      refine WL_stepM rfl (R_mv) ?_
      refine WL_stepM rfl (R_mv) ?_
      refine WL_stepM rfl (R_mv) ?_
      refine WL_step rfl (R_index_S (u := xs[i]) (i := (i : Int)) Tryz.underlying9 rfl rfl (by omega) (by rw [Int.toNat_natCast, List.getElem?_eq_getElem hlt])) ?_
      refine WL_step rfl (R_conv_int Tryz.underlying5 Tryz.underlying3 rfl u8_in_i64) ?_
      refine WL_step rfl (R_add (r := (sumN xs.length (xs.take (i + 1)) : Nat)) rfl rfl (by rw [w_i64 (by omega), sumN_take hlt]; omega)) ?_
      refine WL_stepM rfl (R_as) ?_
      refine WL_nil ?_
      refine W_region_l ?_
      refine WL_stepM rfl (R_mv) ?_
      refine WL_step rfl (R_add rfl rfl (w_i64 (by omega))) ?_
      refine WL_stepM rfl (R_as) ?_
      refine WL_nil ?_
      exact ⟨i + 1, by omega, by omega, rfl, rfl, rfl, H⟩
    · refine W_seq ?_
      refine W_seq ?_
      refine W_region_l ?_
      refine WL_stepM rfl (R_mv) ?_
      refine WL_stepM rfl (R_mv) ?_
      refine WL_step rfl (R_len_S Tryz.underlying9 rfl) ?_
      refine WL_step rfl (R_lt_f rfl rfl (by omega)) ?_
      refine WL_nil ?_
      refine W_cond_f rfl ?_
      refine W_exit ?_
      refine (if_pos rfl).mpr ?_
      refine W_seq ?_
      refine W_region_l ?_
      refine WL_stepM rfl (R_mv) ?_
      refine WL_step rfl (R_conv_int Tryz.underlying3 Tryz.underlying5 rfl u8_ofNat) ?_
      refine WL_stepM rfl (R_as) ?_
      refine WL_nil ?_
      refine W_ret ?_
      exact ⟨_, rfl, congrArg U (by rw [sumN_ofNat, List.take_of_length_le (l := xs) (by omega)]; rfl), H⟩

theorem refBlank_ret {xs : List UInt8} (w : World) (hb : xs.length ≤ 100000) :
    Ret Tryz.prog 60 #[S xs] w fun v w' => v = .bool (decide (∀ x ∈ xs, x = 0)) ∧ Hp w [] w' := by
  refine Ret_of_W (args := [_]) Tryz.func60 rfl Tryz.ntmps60 Tryz.results60 (by simp) ?_
  have H := Hp.refl w
  refine W_seq ?_
  refine W_region_l ?_
  refine WL_stepM rfl (R_as) ?_
  refine WL_nil ?_
  refine W_seq ?_
  refine W_seq ?_
  refine W_region_l ?_
  refine WL_stepM rfl (R_as) ?_
  refine WL_nil ?_
  refine W_block ?_
  refine W_loop (fun (i : Nat) E w' => i ≤ xs.length ∧ E 0 = S xs ∧ E 3 = I i ∧ (∀ x ∈ xs.take i, x = 0) ∧ Hp w [] w') (fun i => xs.length - i) 0 ?_ ?_
  · exact ⟨by omega, rfl, rfl, (by simp), H⟩
  · (clear H; rintro i E w1 ⟨hi, h0, h1, hz, H⟩; refine W_know2 h0 h1 ?_; by_cases hlt : i < xs.length)
    · refine W_seq ?_
      refine W_seq ?_
      refine W_region_l ?_
      refine WL_stepM rfl (R_mv) ?_
      refine WL_stepM rfl (R_mv) ?_
      refine WL_step rfl (R_len_S Tryz.underlying9 rfl) ?_
      refine WL_step rfl (R_lt_t rfl rfl (by omega)) ?_
      refine WL_nil ?_
      refine W_cond_t rfl ?_
      refine W_skip ?_
      refine W_seq ?_
      refine W_block ?_
      refine W_seq ?_
      (by_cases hne : xs[i] = 0 <;> refine W_region_l ?_)
      · refine WL_stepM rfl (R_mv) ?_
        refine WL_stepM rfl (R_mv) ?_
        refine WL_step rfl (R_index_S (u := xs[i]) (i := (i : Int)) Tryz.underlying9 rfl rfl (by omega) (by rw [Int.toNat_natCast, List.getElem?_eq_getElem hlt])) ?_
        refine WL_step rfl (R_ne_f rfl rfl (by rw [hne]; rfl)) ?_
        refine WL_nil ?_
        refine W_cond_f rfl ?_
        refine W_skip ?_
        refine W_region_l ?_
        refine WL_stepM rfl (R_mv) ?_
        refine WL_step rfl (R_add rfl rfl (w_i64 (by omega))) ?_
        refine WL_stepM rfl (R_as) ?_
        refine WL_nil ?_
        exact ⟨i + 1, by omega, by omega, rfl, rfl, (by intro x hx; rw [List.take_succ_eq_append_getElem hlt] at hx; rcases List.mem_append.1 hx with hx | hx; exact hz x hx; rw [List.mem_singleton.1 hx]; exact hne), H⟩
      · refine WL_stepM rfl (R_mv) ?_
        refine WL_stepM rfl (R_mv) ?_
        refine WL_step rfl (R_index_S (u := xs[i]) (i := (i : Int)) Tryz.underlying9 rfl rfl (by omega) (by rw [Int.toNat_natCast, List.getElem?_eq_getElem hlt])) ?_
        refine WL_step rfl (R_ne_t rfl rfl (by intro h; exact u8_ne.2 hne h)) ?_
        refine WL_nil ?_
        refine W_cond_t rfl ?_
        refine W_seq ?_
        refine W_region_l ?_
        refine WL_stepM rfl (R_as) ?_
        refine WL_nil ?_
        refine W_ret ?_
        exact ⟨_, rfl, congrArg Value.bool (decide_eq_false (fun h => hne (h _ (List.getElem_mem hlt)))).symm, H⟩
    · refine W_seq ?_
      refine W_seq ?_
      refine W_region_l ?_
      refine WL_stepM rfl (R_mv) ?_
      refine WL_stepM rfl (R_mv) ?_
      refine WL_step rfl (R_len_S Tryz.underlying9 rfl) ?_
      refine WL_step rfl (R_lt_f rfl rfl (by omega)) ?_
      refine WL_nil ?_
      refine W_cond_f rfl ?_
      refine W_exit ?_
      refine (if_pos rfl).mpr ?_
      refine W_seq ?_
      refine W_region_l ?_
      refine WL_stepM rfl (R_as) ?_
      refine WL_nil ?_
      refine W_ret ?_
      exact ⟨_, rfl, congrArg Value.bool (decide_eq_true (fun x hx => hz x (by rw [List.take_of_length_le (by omega)]; exact hx))).symm, H⟩

end Go.Proofs.YthonajikgljgmaaGreat.Codec

/-
  Numbers in two bytes, as the document has them.
-/
namespace Go.Proofs.YthonajikgljgmaaGreat.Codec
open Go Go.Proofs Go.Proofs.YthonajikgljgmaaGreat.Fx
set_option maxRecDepth 100000
set_option linter.unusedVariables false
set_option linter.unusedSimpArgs false
set_option maxHeartbeats 1000000

theorem two_ret (n : Nat) (w : World) :
    Ret Tryz.prog 38 #[I n] w fun v w' => v = S [UInt8.ofNat (n / 256), UInt8.ofNat n] ∧ Hp w [] w' := by
  refine Ret_of_W (args := [_]) Tryz.func38 rfl Tryz.ntmps38 Tryz.results38 (by simp) ?_
  have H := Hp.refl w
  refine W_seq ?_
  refine W_region_l ?_
  refine WL_stepM rfl (R_as) ?_
  refine WL_nil ?_
  refine W_seq ?_
  refine W_region_l ?_
  refine WL_stepM rfl (R_mv) ?_
  refine WL_step rfl (R_shr (r := ((n / 256 : Nat) : Int)) rfl rfl (by decide) ((shr_any 256 (by decide)).trans (by omega))) ?_
  refine WL_step rfl (R_conv_int Tryz.underlying3 Tryz.underlying5 rfl u8_ofNat) ?_
  refine WL_stepM rfl (R_mv) ?_
  refine WL_step rfl (R_conv_int Tryz.underlying3 Tryz.underlying5 rfl u8_ofNat) ?_
  (refine WL_effn rfl (E_buildOnes (vs := [(.int _ _), (.int _ _)]) H Tryz.underlying22 Tryz.sizeOf5 Tryz.zeroValue5 rfl rfl (by decide) rfl rfl (by simp [Value.oneCell'])) ?_; clear H; intro b12 w12 hb12 H)
  refine WL_step rfl (R_conv_bs (xs := [UInt8.ofNat (n / 256), UInt8.ofNat n]) Tryz.underlying22 Tryz.underlying5 Tryz.underlying9 rfl (RdS.blk (H.get .here) rfl (by simp) (by simp))) ?_
  refine WL_stepM rfl (R_as) ?_
  refine WL_nil ?_
  refine W_ret ?_
  exact ⟨_, rfl, rfl, H.pop (by assumption)⟩
end Go.Proofs.YthonajikgljgmaaGreat.Codec

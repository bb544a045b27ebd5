/-
  Words and frames of package mem.
-/
import Derived.Test.YtjkkfahjgaidbaaMemA
namespace Go.Proofs.Ytjkkfahjgaidbaa.Mem
open Go Go.Proofs Go.Proofs.Ytjkkfahjgaidbaa.Fx
set_option maxRecDepth 100000
set_option linter.unusedVariables false
set_option maxHeartbeats 1000000

/-- the number that bytes are, the highest first -/
def wordOf (l : List UInt8) : Nat := l.foldl (fun a y => a * 256 + y.toNat) 0

theorem wordOf_lt (l : List UInt8) : ∀ a, l.foldl (fun a y => a * 256 + y.toNat) a < (a + 1) * 256 ^ l.length := by
  induction l with
  | nil => intro a; simp
  | cons y l ih =>
    intro a
    have := ih (a * 256 + y.toNat)
    have hy := y.toNat_lt
    rw [List.foldl_cons, List.length_cons, Nat.pow_succ]
    refine Nat.lt_of_lt_of_le this ?_
    rw [Nat.mul_comm (256 ^ l.length) 256, ← Nat.mul_assoc]
    exact Nat.mul_le_mul_right _ (by omega)

theorem wordOf_take {l : List UInt8} {i : Nat} (h : i < l.length) : wordOf (l.take (i + 1)) = wordOf (l.take i) * 256 + l[i].toNat := by
  unfold wordOf
  rw [List.take_succ_eq_append_getElem h, List.foldl_append]; rfl

theorem wordOf_small {l : List UInt8} {i : Nat} (h : i ≤ 3) : wordOf (l.take i) < 16777216 := by
  have h1 := wordOf_lt (l.take i) 0
  have h2 : (l.take i).length ≤ 3 := by simp; omega
  have h3 : 256 ^ (l.take i).length ≤ 256 ^ 3 := Nat.pow_le_pow_right (by omega) h2
  have h4 : wordOf (l.take i) < (0 + 1) * 256 ^ (l.take i).length := h1
  omega

theorem shl8_u32 (k : Nat) (h : k < 16777216) : IntKind.u32.wrap ((k : Int) * 2 ^ (min (8 : Int).toNat IntKind.u32.bits)) = ((k * 256 : Nat) : Int) := by
  rw [show min (8 : Int).toNat IntKind.u32.bits = 8 from rfl, show (2 : Int) ^ 8 = 256 from rfl, w_u32 ⟨by omega, by omega⟩]; omega

theorem or_lo (k : Nat) (x : UInt8) (h : k < 16777216) : bitsOf .or .u32 ((k * 256 : Nat) : Int) (x.toNat : Int) = ((k * 256 + x.toNat : Nat) : Int) := by
  have hx := x.toNat_lt
  have h1 : (BitVec.ofInt 32 ((k * 256 : Nat) : Int)).toNat = k * 256 := by simp; omega
  have h2 : (BitVec.ofInt 32 (x.toNat : Int)).toNat = x.toNat := by simp
  show IntKind.u32.wrap ((BitVec.ofInt 32 ((k * 256 : Nat) : Int) ||| BitVec.ofInt 32 (x.toNat : Int)).toNat : Int) = _
  rw [BitVec.toNat_or, h1, h2]
  have h3 : k * 256 ||| x.toNat = k * 256 + x.toNat := by
    have := Nat.two_pow_add_eq_or_of_lt (i := 8) (b := x.toNat) (by omega) k
    rw [Nat.mul_comm]; exact this.symm
  rw [h3, w_u32 ⟨by omega, by omega⟩]

section
variable {w : World} {p b : Nat} {xs : List UInt8} {N : Nat}

theorem word_no (at_ : Int) (hp : w.heap[p]? = some (blk [sl b 0 N N] 88)) (hx : xs.length = N) (hN : xs.length ≤ 16384) (h : ¬ (0 ≤ at_ ∧ at_ + 4 ≤ xs.length)) :
    Ret Try.prog 16 #[ptr p 0, I at_] w fun v w' => v = .tuple #[.int .u32 0, I 1] ∧ Hp w [] w' := by
  subst hx
  refine Ret_of_W (args := [_, _]) Try.func16 rfl Try.ntmps16 Try.results16 (by simp) ?_
  have H := Hp.refl w
  refine W_seq ?_
  refine W_region_l ?_
  refine WL_stepM rfl (R_as) ?_
  refine WL_stepM rfl (R_as) ?_
  refine WL_nil ?_
  refine W_seq ?_
  refine W_region_l ?_
  refine WL_stepM rfl (R_mv) ?_
  refine WL_stepM rfl (R_mv) ?_
  (refine WL_call rfl (R_call rfl Try.call15 rfl) (load_no _ _ hp rfl hN (by omega)) ?_; rintro _ w10 ⟨rfl, H1⟩; replace H := H.seq0 H1; clear H1)
  refine WL_stepM rfl (R_mv) ?_
  refine WL_step rfl (R_extract rfl rfl) ?_
  refine WL_step rfl (R_extract rfl rfl) ?_
  refine WL_stepM rfl (R_as) ?_
  refine WL_stepM rfl (R_as) ?_
  refine WL_nil ?_
  refine W_seq ?_
  refine W_region_l ?_
  refine WL_stepM rfl (R_as) ?_
  refine WL_nil ?_
  refine W_seq ?_
  refine W_seq ?_
  refine W_region_l ?_
  refine WL_stepM rfl (R_mv) ?_
  refine WL_step rfl (R_len_slice Try.underlying26 rfl) ?_
  refine WL_stepM rfl (R_mv) ?_
  refine WL_nil ?_
  refine W_block ?_
  refine W_rounds 0 ?_
  refine W_seq ?_
  refine W_region_l ?_
  refine WL_step rfl (R_lt_f rfl rfl (by omega)) ?_
  refine WL_nil ?_
  refine W_seq ?_
  refine W_cond_f rfl ?_
  refine W_exit ?_
  refine (if_pos rfl).mpr ?_
  refine W_seq ?_
  refine W_region_l ?_
  refine WL_stepM rfl (R_mv) ?_
  refine WL_stepM rfl (R_mv) ?_
  refine WL_stepM rfl (R_as) ?_
  refine WL_stepM rfl (R_as) ?_
  refine WL_nil ?_
  refine W_ret ?_
  exact ⟨_, rfl, rfl, H⟩

theorem word_yes (at_ : Nat) (hp : w.heap[p]? = some (blk [sl b 0 N N] 88)) (hb : w.heap[b]? = some (blk (xs.map U) 5)) (hx : xs.length = N) (hN : xs.length ≤ 16384) (h : at_ + 4 ≤ xs.length) :
    Ret Try.prog 16 #[ptr p 0, I at_] w fun v w' => v = .tuple #[.int .u32 (wordOf ((xs.drop at_).take 4) : Nat), I 0] ∧ Hp w [] w' := by
  subst hx
  refine Ret_of_W (args := [_, _]) Try.func16 rfl Try.ntmps16 Try.results16 (by simp) ?_
  have H := Hp.refl w
  obtain ⟨l, hl⟩ : ∃ l, l = (xs.drop at_).take 4 := ⟨_, rfl⟩
  have hll : l.length = 4 := by subst hl; simp; omega
  rw [← hl]
  refine W_seq ?_
  refine W_region_l ?_
  refine WL_stepM rfl (R_as) ?_
  refine WL_stepM rfl (R_as) ?_
  refine WL_nil ?_
  refine W_seq ?_
  refine W_region_l ?_
  refine WL_stepM rfl (R_mv) ?_
  refine WL_stepM rfl (R_mv) ?_
  (refine WL_call rfl (R_call rfl Try.call15 rfl) (load_yes at_ 4 hp hb rfl hN h) ?_; rintro _ w10 ⟨v2, M, rfl, hO, H1⟩; rw [← hl] at hO; have h10 := H.seqO hO H1; clear H H1 hO; obtain ⟨hO, H⟩ := h10; rw [List.append_nil] at H; obtain ⟨b3, cap3, sp3, rfl, hb3, rfl, hsp3, hcap3⟩ := OwnS.pos hO (by omega))
  refine WL_stepM rfl (R_mv) ?_
  refine WL_step rfl (R_extract rfl rfl) ?_
  refine WL_step rfl (R_extract rfl rfl) ?_
  refine WL_stepM rfl (R_as) ?_
  refine WL_stepM rfl (R_as) ?_
  refine WL_nil ?_
  refine W_seq ?_
  refine W_region_l ?_
  refine WL_stepM rfl (R_as) ?_
  refine WL_nil ?_
  refine W_seq ?_
  refine W_seq ?_
  refine W_region_l ?_
  refine WL_stepM rfl (R_mv) ?_
  refine WL_step rfl (R_len_slice Try.underlying26 rfl) ?_
  refine WL_stepM rfl (R_mv) ?_
  refine WL_nil ?_
  refine W_block ?_
  refine W_loop (fun (i : Nat) E w' => i ≤ 4 ∧ E 17 = sl b3 0 4 cap3 ∧ E 18 = I 4 ∧ E 19 = I i ∧ E 7 = I 0 ∧ E 8 = .int .u32 (wordOf (l.take i) : Nat) ∧ Hp w [(b3, blk (l.map U ++ sp3) 5)] w') (fun i => 4 - i) 0 ?_ ?_
  · exact ⟨by omega, rfl, rfl, rfl, rfl, rfl, H⟩
  · (clear H; rintro i E w1 ⟨hi, h0, h1, h2, h3, h4, H⟩; refine W_know5 h0 h1 h2 h3 h4 ?_; by_cases hlt : i < 4)
    · refine W_seq ?_
      refine W_region_l ?_
      refine WL_step rfl (R_lt_t rfl rfl (by omega)) ?_
      refine WL_nil ?_
      refine W_seq ?_
      refine W_cond_t rfl ?_
      refine W_skip ?_
      refine W_seq ?_
      refine W_block ?_
      refine W_seq ?_
      (have hil : i < l.length := (by omega); have hb8 := l[i].toNat_lt; refine W_region_l ?_)
      refine WL_step rfl (R_indexAddr Try.underlying26 Try.sizeOf5 rfl rfl (by omega) (by omega) idx0_cast) ?_
      refine WL_step rfl (R_load Try.isAgg5 rfl (H.get .here) (get_map (j := i) hil)) ?_
      refine WL_stepM rfl (R_as) ?_
      refine WL_nil ?_
      refine W_region_l ?_
      refine WL_stepM rfl (R_mv) ?_
      refine WL_step rfl (R_shl rfl rfl (by decide) (shl8_u32 _ (wordOf_small (by omega)))) ?_
      refine WL_stepM rfl (R_mv) ?_
      refine WL_step rfl (R_conv_int Try.underlying5 Try.underlying29 rfl u8_in_u32) ?_
      refine WL_step rfl (R_bits rfl rfl (by simp) (or_lo (wordOf (l.take i)) l[i] (wordOf_small (by omega)))) ?_
      refine WL_stepM rfl (R_as) ?_
      refine WL_nil ?_
      refine W_region_l ?_
      refine WL_step rfl (R_add rfl rfl (w_i64 (by omega))) ?_
      refine WL_stepM rfl (R_mv) ?_
      refine WL_nil ?_
      exact ⟨i + 1, by omega, by omega, rfl, rfl, rfl, rfl, by rw [wordOf_take (by omega)]; rfl, H⟩
    · refine W_seq ?_
      refine W_region_l ?_
      refine WL_step rfl (R_lt_f rfl rfl (by omega)) ?_
      refine WL_nil ?_
      refine W_seq ?_
      refine W_cond_f rfl ?_
      refine W_exit ?_
      refine (if_pos rfl).mpr ?_
      refine W_seq ?_
      refine W_region_l ?_
      refine WL_stepM rfl (R_mv) ?_
      refine WL_stepM rfl (R_mv) ?_
      refine WL_stepM rfl (R_as) ?_
      refine WL_stepM rfl (R_as) ?_
      refine WL_nil ?_
      refine W_ret ?_
      exact ⟨_, rfl, by rw [List.take_of_length_le (l := l) (by omega)]; rfl, H.none (by repeat' first | exact kNil | apply kCons | apply kApp | assumption | exact OwnS.keys (by assumption))⟩
end
end Go.Proofs.Ytjkkfahjgaidbaa.Mem

/-
  The law MemWords: what its calls come to.
-/
import Derived.Test.YtjkkfahjgaidbaaMemE
import Derived.Test.YtjkkfahjgaidbaaMemP
namespace Go.Proofs.Ytjkkfahjgaidbaa.Mem
open Go Go.Proofs Go.Proofs.Ytjkkfahjgaidbaa.Fx
set_option maxRecDepth 100000
set_option linter.unusedVariables false
set_option linter.unusedSimpArgs false
set_option maxHeartbeats 2000000

theorem wordOf_bytes4 (n : Nat) (h : n < 4294967296) : wordOf (bytes4 n) = n := by
  unfold wordOf bytes4
  simp only [List.foldl_cons, List.foldl_nil, UInt8.toNat_ofNat']
  omega

theorem and_high (m : Nat) (h : m < 4294967296) : m &&& 4294901760 = m / 65536 * 65536 := by
  apply Nat.eq_of_testBit_eq
  intro i
  rw [show (4294901760 : Nat) = (2 ^ 16 - 1) * 2 ^ 16 from by decide, show (65536 : Nat) = 2 ^ 16 from by decide, Nat.testBit_and, Nat.testBit_mul_two_pow, Nat.testBit_mul_two_pow, Nat.testBit_div_two_pow, Nat.testBit_two_pow_sub_one]
  by_cases h1 : 16 ≤ i
  · rw [show i - 16 + 16 = i from by omega]
    by_cases h2 : i - 16 < 16
    · simp [h1, h2]
    · have : m.testBit i = false := Nat.testBit_lt_two_pow (Nat.lt_of_lt_of_le h (by
        have : (2 : Nat) ^ 32 ≤ 2 ^ i := Nat.pow_le_pow_right (by omega) (by omega)
        omega))
      simp [this]
  · simp [h1]

theorem and_high_u32 (m : Nat) (h : m < 4294967296) : bitsOf .and .u32 (m : Int) 4294901760 = ((m / 65536 * 65536 : Nat) : Int) := by
  have h1 : (BitVec.ofInt 32 (m : Int)).toNat = m := by simp; omega
  have h2 : (BitVec.ofInt 32 4294901760).toNat = 4294901760 := by decide
  show IntKind.u32.wrap ((BitVec.ofInt 32 (m : Int) &&& BitVec.ofInt 32 4294901760).toNat : Int) = _
  rw [BitVec.toNat_and, h1, h2, and_high m h, w_u32 ⟨by omega, by omega⟩]

theorem or_high_u32 (k r : Nat) (hk : k < 65536) (hr : r < 65536) : bitsOf .or .u32 ((k * 65536 : Nat) : Int) (r : Int) = ((k * 65536 + r : Nat) : Int) := by
  have h1 : (BitVec.ofInt 32 ((k * 65536 : Nat) : Int)).toNat = k * 65536 := by simp; omega
  have h2 : (BitVec.ofInt 32 (r : Int)).toNat = r := by simp; omega
  show IntKind.u32.wrap ((BitVec.ofInt 32 ((k * 65536 : Nat) : Int) ||| BitVec.ofInt 32 (r : Int)).toNat : Int) = _
  rw [BitVec.toNat_or, h1, h2]
  have h3 : k * 65536 ||| r = k * 65536 + r := by
    have := Nat.two_pow_add_eq_or_of_lt (i := 16) (b := r) (by omega) k
    rw [Nat.mul_comm]; exact this.symm
  rw [h3, w_u32 ⟨by omega, by omega⟩]

theorem words_meet {zs : List UInt8} {m n i : Nat} (hz : i + 6 ≤ zs.length) :
    ((put (put zs (bytes4 m) i) (bytes4 n) (i + 2)).drop i).take 4 = [UInt8.ofNat (m / 16777216), UInt8.ofNat (m / 65536), UInt8.ofNat (n / 16777216), UInt8.ofNat (n / 65536)] := by
  have hl : (bytes4 m).length = 4 := rfl
  have hl2 : (bytes4 n).length = 4 := rfl
  have hp : (put zs (bytes4 m) i).length = zs.length := put_length (by omega)
  have h1 : ((put (put zs (bytes4 m) i) (bytes4 n) (i + 2)).drop i).take 2 = (bytes4 m).take 2 := by
    rw [put_far (by omega) (by omega)]
    have := put_get (xs := zs) (ys := bytes4 m) (i := i) (by omega)
    rw [hl] at this
    have h := congrArg (List.take 2) this
    rw [List.take_take] at h
    exact h
  have h2 : ((put (put zs (bytes4 m) i) (bytes4 n) (i + 2)).drop (i + 2)).take 2 = (bytes4 n).take 2 := by
    have := put_get (xs := put zs (bytes4 m) i) (ys := bytes4 n) (i := i + 2) (by omega)
    rw [hl2] at this
    have h := congrArg (List.take 2) this
    rw [List.take_take] at h
    exact h
  have h3 : ∀ l : List UInt8, l.take 4 = l.take 2 ++ (l.drop 2).take 2 := by
    intro l
    rw [← List.take_add]
  rw [h3, List.drop_drop, h1, h2]; rfl

theorem wordOf_four (m n : Nat) (hm : m < 4294967296) (hn : n < 4294967296) : wordOf [UInt8.ofNat (m / 16777216), UInt8.ofNat (m / 65536), UInt8.ofNat (n / 16777216), UInt8.ofNat (n / 65536)] = m / 65536 * 65536 + n / 65536 := by
  unfold wordOf
  simp only [List.foldl_cons, List.foldl_nil, UInt8.toNat_ofNat']
  omega

theorem words_ret (m n : Nat) (a : Int) (hm : m < 4294967296) (hn : n < 4294967296) (w : World) :
    Ret Try.prog 7 #[.int .u32 m, .int .u32 n, I a] w fun v w' => v = .bool true ∧ Hp w [] w' := by
  refine Ret_of_W (args := [_, _, _]) Try.func7 rfl Try.ntmps7 Try.results7 (by simp) ?_
  have H := Hp.refl w
  obtain ⟨i, hi, hi2⟩ : ∃ i : Nat, a % 64 = (i : Int) ∧ i < 64 := ⟨(a % 64).toNat, by omega, by omega⟩
  obtain ⟨zs, hzs, hzl⟩ : ∃ zs : List UInt8, zs = List.replicate 128 0 ∧ zs.length = 128 := ⟨_, rfl, by simp⟩
  have hN : zs.length ≤ 16384 := by omega
  have hl4 : (bytes4 m).length = 4 := rfl
  have hn4 : (bytes4 n).length = 4 := rfl
  obtain ⟨us, hus, hul⟩ : ∃ us : List UInt8, us = put zs (bytes4 m) i ∧ us.length = 128 := ⟨_, rfl, by rw [put_length (by omega), hzl]⟩
  have hM : us.length ≤ 16384 := by omega
  obtain ⟨vs, hvs, hvl⟩ : ∃ vs : List UInt8, vs = put us (bytes4 n) (i + 2) ∧ vs.length = 128 := ⟨_, rfl, by rw [put_length (by omega), hul]⟩
  have hL : vs.length ≤ 16384 := by omega
  have hg1 : (us.drop i).take 4 = bytes4 m := by rw [hus]; exact put_get (ys := bytes4 m) (by omega)
  have hg2 : wordOf ((vs.drop i).take 4) = m / 65536 * 65536 + n / 65536 := by rw [hvs, hus, words_meet (by omega), wordOf_four m n hm hn]
  have hg3 : wordOf ((vs.drop (i + 2)).take 4) = n := by
    have := put_get (xs := us) (ys := bytes4 n) (i := i + 2) (by omega)
    rw [← hvs, hn4] at this
    rw [this, wordOf_bytes4 n hn]
  refine W_seq ?_
  refine W_region_l ?_
  refine WL_stepM rfl (R_as) ?_
  refine WL_nil ?_
  refine W_seq ?_
  refine W_region_l ?_
  (refine WL_call rfl (R_call rfl Try.call13 rfl) (new_ret 2 _) ?_; rintro _ w7 ⟨p, b, rfl, H1, hp, hb⟩; rw [show szOf 2 = 128 from rfl, ← zmap, ← hzs] at H1; replace H := H.seq H1 (okSeq_new hp (okSeq_new hb okSeq_nil)); clear H1)
  refine WL_stepM rfl (R_as) ?_
  refine WL_nil ?_
  refine W_seq ?_
  refine W_seq ?_
  refine W_region_l ?_
  refine WL_stepM rfl (R_mv) ?_
  refine WL_step rfl (R_eq_ptr_nil Try.underlying22 rfl rfl) ?_
  refine WL_nil ?_
  refine W_cond_f rfl ?_
  refine W_skip ?_
  refine W_seq ?_
  refine W_region_l ?_
  refine WL_stepM rfl (R_mv) ?_
  (refine WL_step rfl (R_bits rfl rfl (by simp) ((and_mask_i64 6 64 (by decide) rfl (by decide)).trans hi)) ?_)
  refine WL_stepM rfl (R_as) ?_
  refine WL_nil ?_
  refine W_seq ?_
  refine W_region_l ?_
  refine WL_stepM rfl (R_mv) ?_
  refine WL_stepM rfl (R_mv) ?_
  refine WL_stepM rfl (R_mv) ?_
  (refine WL_call rfl (R_call rfl Try.call21 rfl) (setWord_yes (xs := zs) i m (H.get (.there .here)) (H.get .here) hzl hN (by omega) hm) ?_; rintro _ w29 ⟨rfl, H1⟩; rw [← hus] at H1; replace H := H.seq H1 (okSeq_set .here okSeq_nil); clear H1)
  refine WL_stepM rfl (R_as) ?_
  refine WL_nil ?_
  refine W_seq ?_
  refine W_region_l ?_
  refine WL_stepM rfl (R_mv) ?_
  refine WL_stepM rfl (R_mv) ?_
  (refine WL_call rfl (R_call rfl Try.call15 rfl) (load_yes (xs := us) i 4 (H.get (.there .here)) (H.get .here) hul hM (by omega)) ?_; rintro _ w36 ⟨u4, M4, rfl, hO4, H1⟩; rw [hg1] at hO4; have h36 := H.seqO hO4 H1; clear H H1 hO4; obtain ⟨hO4, H⟩ := h36; obtain ⟨b4, cap4, sp4, rfl, hb4, rfl, hsp4, hcap4⟩ := OwnS.pos hO4 (by omega); rw [List.cons_append, List.nil_append] at H)
  refine WL_stepM rfl (R_mv) ?_
  refine WL_step rfl (R_extract rfl rfl) ?_
  refine WL_step rfl (R_extract rfl rfl) ?_
  refine WL_stepM rfl (R_as) ?_
  refine WL_stepM rfl (R_as) ?_
  refine WL_nil ?_
  refine W_seq ?_
  refine W_region_l ?_
  refine WL_stepM rfl (R_mv) ?_
  refine WL_stepM rfl (R_mv) ?_
  refine WL_step rfl (R_add (r := ((i + 2 : Nat) : Int)) rfl rfl (by rw [w_i64 (by omega)]; omega)) ?_
  refine WL_stepM rfl (R_mv) ?_
  (refine WL_call rfl (R_call rfl Try.call21 rfl) (setWord_yes (xs := us) (i + 2) n (H.get (.there (.there .here))) (H.get (.there .here)) hul hM (by omega) hn) ?_; rintro _ w49 ⟨rfl, H1⟩; rw [← hvs] at H1; replace H := H.seq H1 (okSeq_set (.there .here) okSeq_nil); clear H1)
  refine WL_stepM rfl (R_as) ?_
  refine WL_nil ?_
  refine W_seq ?_
  refine W_region_l ?_
  refine WL_stepM rfl (R_mv) ?_
  refine WL_stepM rfl (R_mv) ?_
  (refine WL_call rfl (R_call rfl Try.call16 rfl) (word_yes (xs := vs) i (H.get (.there (.there .here))) (H.get (.there .here)) hvl hL (by omega)) ?_; rintro _ w56 ⟨rfl, H1⟩; rw [hg2]; replace H := H.seq0 H1; clear H1)
  refine WL_stepM rfl (R_mv) ?_
  refine WL_step rfl (R_extract rfl rfl) ?_
  refine WL_step rfl (R_extract rfl rfl) ?_
  refine WL_stepM rfl (R_as) ?_
  refine WL_stepM rfl (R_as) ?_
  refine WL_nil ?_
  refine W_seq ?_
  refine W_region_l ?_
  refine WL_stepM rfl (R_mv) ?_
  refine WL_stepM rfl (R_mv) ?_
  refine WL_step rfl (R_add (r := ((i + 2 : Nat) : Int)) rfl rfl (by rw [w_i64 (by omega)]; omega)) ?_
  (refine WL_call rfl (R_call rfl Try.call16 rfl) (word_yes (xs := vs) (i + 2) (H.get (.there (.there .here))) (H.get (.there .here)) hvl hL (by omega)) ?_; rintro _ w68 ⟨rfl, H1⟩; rw [hg3]; replace H := H.seq0 H1; clear H1)
  refine WL_stepM rfl (R_mv) ?_
  refine WL_step rfl (R_extract rfl rfl) ?_
  refine WL_step rfl (R_extract rfl rfl) ?_
  refine WL_stepM rfl (R_as) ?_
  refine WL_stepM rfl (R_as) ?_
  refine WL_nil ?_
  refine W_seq ?_
  refine W_region_l ?_
  refine WL_stepM rfl (R_mv) ?_
  refine WL_step rfl (R_eq_t rfl rfl (by omega)) ?_
  refine WL_stepM rfl (R_mv) ?_
  refine WL_guard_t rfl rfl ?_
  refine WL_stepM rfl (R_mv) ?_
  refine WL_guard_t rfl rfl ?_
  refine WL_step rfl (R_eq_t rfl rfl (by omega)) ?_
  refine WL_stepM rfl (R_pk_t rfl) ?_
  refine WL_stepM rfl (R_mv) ?_
  refine WL_guard_t rfl rfl ?_
  refine WL_stepM rfl (R_mv) ?_
  refine WL_guard_t rfl rfl ?_
  refine WL_step rfl (R_eq_t rfl rfl (by omega)) ?_
  refine WL_stepM rfl (R_pk_t rfl) ?_
  refine WL_stepM rfl (R_mv) ?_
  refine WL_guard_t rfl rfl ?_
  refine WL_stepM rfl (R_mv) ?_
  refine WL_guard_t rfl rfl ?_
  refine WL_step rfl (R_eq_t rfl rfl (by omega)) ?_
  refine WL_stepM rfl (R_pk_t rfl) ?_
  refine WL_stepM rfl (R_mv) ?_
  refine WL_guard_t rfl rfl ?_
  refine WL_stepM rfl (R_mv) ?_
  refine WL_guard_t rfl rfl ?_
  refine WL_step rfl (R_eq_t rfl rfl (by omega)) ?_
  refine WL_stepM rfl (R_pk_t rfl) ?_
  refine WL_stepM rfl (R_mv) ?_
  refine WL_guard_t rfl rfl ?_
  refine WL_stepM rfl (R_mv) ?_
  refine WL_guard_t rfl rfl ?_
  refine WL_step rfl (R_len_slice Try.underlying26 rfl) ?_
  refine WL_guard_t rfl rfl ?_
  refine WL_step rfl (R_eq_t rfl rfl (by omega)) ?_
  refine WL_stepM rfl (R_pk_t rfl) ?_
  refine WL_stepM rfl (R_mv) ?_
  refine WL_guard_t rfl rfl ?_
  refine WL_stepM rfl (R_mv) ?_
  refine WL_guard_t rfl rfl ?_
  refine WL_step rfl (R_indexAddr (off' := 0) Try.underlying26 Try.sizeOf5 rfl rfl (by omega) (by omega) rfl) ?_
  refine WL_guard_t rfl rfl ?_
  refine WL_step rfl (R_load (v := U (UInt8.ofNat (m / 16777216))) Try.isAgg5 rfl (H.get .here) rfl) ?_
  refine WL_guard_t rfl rfl ?_
  refine WL_stepM rfl (R_mv) ?_
  refine WL_guard_t rfl rfl ?_
  refine WL_step rfl (R_shr (r := ((m / 16777216 : Nat) : Int)) rfl rfl (by decide) ((shr_any 16777216 (by decide)).trans (by omega))) ?_
  refine WL_guard_t rfl rfl ?_
  refine WL_step rfl (R_conv_int Try.underlying29 Try.underlying5 rfl u8_ofNat) ?_
  refine WL_guard_t rfl rfl ?_
  refine WL_step rfl (R_eq_t rfl rfl (by omega)) ?_
  refine WL_stepM rfl (R_pk_t rfl) ?_
  refine WL_stepM rfl (R_mv) ?_
  refine WL_guard_t rfl rfl ?_
  refine WL_stepM rfl (R_mv) ?_
  refine WL_guard_t rfl rfl ?_
  refine WL_step rfl (R_indexAddr (off' := 3) Try.underlying26 Try.sizeOf5 rfl rfl (by omega) (by omega) rfl) ?_
  refine WL_guard_t rfl rfl ?_
  refine WL_step rfl (R_load (v := U (UInt8.ofNat m)) Try.isAgg5 rfl (H.get .here) rfl) ?_
  refine WL_guard_t rfl rfl ?_
  refine WL_stepM rfl (R_mv) ?_
  refine WL_guard_t rfl rfl ?_
  refine WL_step rfl (R_conv_int Try.underlying29 Try.underlying5 rfl u8_ofNat) ?_
  refine WL_guard_t rfl rfl ?_
  refine WL_step rfl (R_eq_t rfl rfl (by omega)) ?_
  refine WL_stepM rfl (R_pk_t rfl) ?_
  refine WL_stepM rfl (R_mv) ?_
  refine WL_guard_t rfl rfl ?_
  refine WL_stepM rfl (R_mv) ?_
  refine WL_guard_t rfl rfl ?_
  refine WL_stepM rfl (R_mv) ?_
  refine WL_guard_t rfl rfl ?_
  refine WL_step rfl (R_bits rfl rfl (by simp) (and_high_u32 m hm)) ?_
  refine WL_guard_t rfl rfl ?_
  refine WL_stepM rfl (R_mv) ?_
  refine WL_guard_t rfl rfl ?_
  refine WL_step rfl (R_shr (r := ((n / 65536 : Nat) : Int)) rfl rfl (by decide) ((shr_any 65536 (by decide)).trans (by omega))) ?_
  refine WL_guard_t rfl rfl ?_
  refine WL_step rfl (R_bits rfl rfl (by simp) (or_high_u32 (m / 65536) (n / 65536) (by omega) (by omega))) ?_
  refine WL_guard_t rfl rfl ?_
  refine WL_step rfl (R_eq_t rfl rfl (by omega)) ?_
  refine WL_stepM rfl (R_pk_t rfl) ?_
  refine WL_stepM rfl (R_mv) ?_
  refine WL_guard_t rfl rfl ?_
  refine WL_stepM rfl (R_mv) ?_
  refine WL_guard_t rfl rfl ?_
  refine WL_stepM rfl (R_mv) ?_
  refine WL_guard_t rfl rfl ?_
  refine WL_step rfl (R_eq_t rfl rfl (by omega)) ?_
  refine WL_stepM rfl (R_pk_t rfl) ?_
  refine WL_stepM rfl (R_mv) ?_
  refine WL_guard_t rfl rfl ?_
  (refine WL_call rfl (R_call rfl Try.call18 rfl) (awake_ret _) ?_; rintro _ w167 ⟨rfl, H1⟩; replace H := H.seq0 H1; clear H1)
  refine WL_stepM rfl (R_pk_t rfl) ?_
  refine WL_stepM rfl (R_as) ?_
  refine WL_nil ?_
  refine W_ret ?_
  exact ⟨_, rfl, rfl, H.none (by repeat' first | exact kNil | apply kCons | apply kApp | assumption | exact OwnS.keys (by assumption))⟩
end Go.Proofs.Ytjkkfahjgaidbaa.Mem

/-
  Slots got of bytes.
-/
import Derived.Test.YthonajikgljgmaaGreatSlotC
namespace Go.Proofs.YthonajikgljgmaaGreat.Slot
open Go Go.Proofs Go.Proofs.YthonajikgljgmaaGreat.Fx Go.Proofs.YthonajikgljgmaaGreat.Codec
set_option maxRecDepth 100000
set_option linter.unusedVariables false
set_option linter.unusedSimpArgs false
set_option maxHeartbeats 2000000

/-- a byte, as a number -/
def nb (xs : List UInt8) (i : Nat) : Nat := (xs[i]?.getD 0).toNat
theorem nb_lt (xs : List UInt8) (i : Nat) : nb xs i < 256 := (xs[i]?.getD 0).toNat_lt
theorem nb_get {xs : List UInt8} {i : Nat} (h : i < xs.length) : nb xs i = xs[i].toNat := by unfold nb; rw [List.getElem?_eq_getElem h]; rfl
/-- the slot that bytes would be -/
def ofB (xs : List UInt8) : Pi := ⟨nb xs 0, nb xs 1, nb xs 2, nb xs 3, BitVec.ofNat 64 (nb xs 4 * 256 + nb xs 5), BitVec.ofNat 64 (nb xs 6 * 256 + nb xs 7), BitVec.ofNat 64 (nb xs 8 * 256 + nb xs 9), BitVec.ofNat 64 (nb xs 10 * 256 + nb xs 11), (List.range 8).map fun i => (nb xs (12 + i) : Int), by simp⟩
theorem ofB_f {xs : List UInt8} {i : Nat} (h : i < (ofB xs).f.length) : (ofB xs).f[i] = (nb xs (12 + i) : Int) := by
  have h8 : i < 8 := by rw [(ofB xs).hf] at h; exact h
  have e : (ofB xs).f[i]? = some (nb xs (12 + i) : Int) := by
    show ((List.range 8).map fun i => (nb xs (12 + i) : Int))[i]? = _
    rw [List.getElem?_map, List.getElem?_range h8]
    rfl
  exact (List.getElem?_eq_some_iff.1 e).2
def good (xs : List UInt8) : Prop := xs.length = 24 ∧ okP (ofB xs) ∧ bytesP (ofB xs) = xs
instance (xs : List UInt8) : Decidable (good xs) := by unfold good; infer_instance
/-- what bytes are -/
def decP (xs : List UInt8) : Pi × Int := if xs.length = 24 ∧ ∀ x ∈ xs, x = 0 then (zeroP, 0) else if good xs then (ofB xs, 1) else (zeroP, 2)

theorem decP_free {xs : List UInt8} (h8 : xs.length = 24) (hz : ∀ x ∈ xs, x = 0) : decP xs = (zeroP, 0) := if_pos ⟨h8, hz⟩
theorem good_not_free {xs : List UInt8} (h : good xs) : ¬ (xs.length = 24 ∧ ∀ x ∈ xs, x = 0) := by
  rintro ⟨h8, hz⟩
  have h1 := h.2.2
  have : (167 : UInt8) ∈ xs := by rw [← h1]; exact List.mem_of_getElem? (bytes_20 _)
  exact absurd (hz 167 this) (by decide)
theorem decP_good {xs : List UInt8} (h : good xs) : decP xs = (ofB xs, 1) := by
  unfold decP; rw [if_neg (good_not_free h), if_pos h]
theorem decP_bad {xs : List UInt8} (h : ¬ good xs) (hf : ¬ (xs.length = 24 ∧ ∀ x ∈ xs, x = 0)) : decP xs = (zeroP, 2) := by
  unfold decP; rw [if_neg hf, if_neg h]
theorem b8_n (k : Int) (h0 : 0 ≤ k) (h1 : k ≤ 255) : (((b8 k).toNat : Nat) : Int) = k := by
  unfold b8
  rw [UInt8.toNat_ofNat']
  omega
theorem two_n (x : BitVec 64) (h : okB x) : BitVec.ofNat 64 ((UInt8.ofNat (x.toNat / 256)).toNat * 256 + (UInt8.ofNat x.toNat).toNat) = x := by
  have := okB_lt h
  apply BitVec.eq_of_toNat_eq
  rw [BitVec.toNat_ofNat, UInt8.toNat_ofNat', UInt8.toNat_ofNat']
  omega
theorem ofB_bytes {f : Pi} (h : okP f) : ofB (bytesP f) = f := by
  have hf := f.hf
  have h0 := h
  obtain ⟨hr, ⟨⟨ha, hb, hc, hd⟩, _, _⟩, hz, _⟩ := h
  refine pi_ext ?_ ?_ ?_ ?_ ?_ ?_ ?_ ?_ ?_
  · exact b8_n f.s (by omega) (by omega)
  · exact b8_n f.p (by omega) (by omega)
  · exact b8_n f.g (by omega) (by omega)
  · exact b8_n f.e (by omega) (by omega)
  · exact two_n f.a ha
  · exact two_n f.b hb
  · exact two_n f.c hc
  · exact two_n f.d hd
  · apply List.ext_getElem
    · show ((List.range 8).map _).length = _; simp [hf]
    · intro i h1 h2
      have hi : i < 8 := by omega
      obtain ⟨z, hz1, hz2, hz0⟩ := pickF h0 hi
      rw [ofB_f]
      unfold nb
      rw [hz2]
      rw [List.getElem?_map, List.getElem?_eq_getElem h2] at hz1
      simp only [Option.map_some, Option.some.injEq, Value.int.injEq, true_and] at hz1
      subst hz1
      have := hz _ (List.getElem_mem h2)
      exact b8_n _ (by omega) (by omega)
theorem good_bytes {f : Pi} (h : okP f) : good (bytesP f) := ⟨bytes_len f, by rw [ofB_bytes h]; exact h, by rw [ofB_bytes h]⟩
theorem decP_bytes {f : Pi} (h : okP f) : decP (bytesP f) = (f, 1) := by rw [decP_good (good_bytes h), ofB_bytes h]

/-- one cell more of those that come -/
theorem fillV {V : List Value} {k n : Nat} {v z : Value} (hV : V.length = n) (hx : V[k]? = some v) : (V.take k ++ List.replicate (n - k) z).set k v = V.take (k + 1) ++ List.replicate (n - (k + 1)) z := by
  obtain ⟨hk, rfl⟩ := List.getElem?_eq_some_iff.1 hx
  have hl : (V.take k).length = k := by simp; omega
  rw [List.set_append_right _ _ (by omega), hl, Nat.sub_self, show n - k = (n - (k + 1)) + 1 by omega, List.replicate_succ, List.set_cons_zero, List.take_succ_eq_append_getElem hk, List.append_assoc]
  rfl
theorem bv_16 {n : Nat} (h : n < 65536) : (BitVec.ofNat 64 n).toInt = (n : Int) := by
  have e : (BitVec.ofNat 64 n).toNat = n := by rw [BitVec.toNat_ofNat]; omega
  rw [bv_small (by omega), e]
theorem pickV {xs : List UInt8} (h : xs.length = 24) {i : Nat} (hi : i < 4) : (piC (ofB xs))[4 + i]? = some (I ((xs[4 + 2 * i]'(by omega)).toNat * 256 + (xs[4 + 2 * i + 1]'(by omega)).toNat)) := by
  have key : ∀ k (hk : k + 1 < 24), (BitVec.ofNat 64 (nb xs k * 256 + nb xs (k + 1))).toInt = ((xs[k]'(by omega)).toNat * 256 + (xs[k + 1]'(by omega)).toNat : Int) := fun k hk => by
    have h1 := nb_lt xs k
    have h2 := nb_lt xs (k + 1)
    rw [bv_16 (by omega), nb_get (by omega), nb_get (by omega)]
    omega
  match i, hi with
  | 0, _ => exact congrArg (fun v => some (I v)) (key 4 (by decide))
  | 1, _ => exact congrArg (fun v => some (I v)) (key 6 (by decide))
  | 2, _ => exact congrArg (fun v => some (I v)) (key 8 (by decide))
  | 3, _ => exact congrArg (fun v => some (I v)) (key 10 (by decide))
theorem pickW {xs : List UInt8} (h : xs.length = 24) {i : Nat} (hi : i < 8) : (piC (ofB xs))[8 + i]? = some (I (xs[12 + i]'(by omega)).toNat) := by
  rw [pi_fd hi, ofB_f, nb_get (by omega)]
theorem pickB {b i : Nat} (hi : i < 4) : [ptr b 4, ptr b 5, ptr b 6, ptr b 7][i]? = some (ptr b (4 + i)) := by
  match i, hi with
  | 0, _ => rfl
  | 1, _ => rfl
  | 2, _ => rfl
  | 3, _ => rfl
theorem first4 {xs : List UInt8} (h : xs.length = 24) : (piC (ofB xs)).take 4 = [I (xs[0]'(by omega)).toNat, I (xs[1]'(by omega)).toNat, I (xs[2]'(by omega)).toNat, I (xs[3]'(by omega)).toNat] := by
  rw [← nb_get, ← nb_get, ← nb_get, ← nb_get]
  rfl

theorem get_ret {xs : List UInt8} {w : World} {l : Value} (hl : RdS w l (xs.map U)) (h8 : xs.length = 24) :
    Ret Tryz.prog 86 #[l] w fun v w' => v = .tuple #[vP (ofB xs), .bool (decide (okP (ofB xs) ∧ bytesP (ofB xs) = xs))] ∧ Hp w [] w' := by
  refine Ret_of_WC (args := [_]) Tryz.func86 rfl Tryz.ntmps86 Tryz.results86 (by simp) ?_
  have H := Hp.refl w
  have hl0 := hl
  obtain ⟨ao, ca, hlca, hra, rfl⟩ : ∃ ao ca, xs.length ≤ ca ∧ (xs.map U = [] ∨ ∃ b off, ao = some ⟨b, off, none⟩ ∧ ∀ j u, (xs.map U)[j]? = some u → w.cell? ⟨b, off + j, none⟩ = some u) ∧ l = .slice ao xs.length ca := by
    obtain ⟨ao, ca, h1, h2, h3⟩ := hl
    rw [List.length_map] at h1 h2
    exact ⟨ao, ca, h2, h3, h1⟩
  obtain ⟨bz, oz, rfl, hcell⟩ : ∃ b off, ao = some ⟨b, off, none⟩ ∧ ∀ j u, (xs.map U)[j]? = some u → w.cell? ⟨b, off + j, none⟩ = some u := by
    rcases hra with h | h
    · have := congrArg List.length h; rw [List.length_map, List.length_nil] at this; omega
    · exact h
  have hm : ∀ {i : Nat} (hi : i < xs.length), w.cell? ⟨bz, oz + i, none⟩ = some (U xs[i]) := fun {i} hi => hcell i _ (by rw [List.getElem?_map, List.getElem?_eq_getElem hi]; rfl)
  have h0 := hm (i := 0) (by omega)
  have h1 := hm (i := 1) (by omega)
  have h2 := hm (i := 2) (by omega)
  have h3 := hm (i := 3) (by omega)
  rw [h8] at hl0 hlca ⊢
  have hVl := piC_len (ofB xs)
  have hV4 := first4 h8
  obtain ⟨ff, hff⟩ : ∃ ff : Pi, ff = ofB xs := ⟨_, rfl⟩
  rw [← hff]
  rw [← hff] at hVl hV4
  obtain ⟨p0, hp0⟩ : ∃ p0 : Pi, p0 = ⟨(xs[0]'(by omega)).toNat, (xs[1]'(by omega)).toNat, (xs[2]'(by omega)).toNat, (xs[3]'(by omega)).toNat, 0, 0, 0, 0, List.replicate 8 0, rfl⟩ := ⟨_, rfl⟩
  have hp0v : piC p0 = [I (xs[0]'(by omega)).toNat, I (xs[1]'(by omega)).toNat, I (xs[2]'(by omega)).toNat, I (xs[3]'(by omega)).toNat] ++ List.replicate 12 (I 0) := by rw [hp0]; rfl
  have hp04 : piC p0 = (piC ff).take (4 + 0) ++ List.replicate (16 - (4 + 0)) (I 0) := by rw [hp0v, hV4]
  refine W_seq ?_
  refine W_region_l ?_
  (refine WL_effn rfl (E_allocP H) ?_; clear H; intro b2 w3 hb2 H)
  refine WL_stepM rfl (R_as) ?_
  refine WL_nil ?_
  refine W_seq ?_
  (refine W_draw (KH w [(b2, blk (piC zeroP) 36)]) (fun _ => false) (by kernel_rfl) H ?_; clear H; intro w7 H)
  refine WA_takeM 0 rfl rfl rfl (by kernel_rfl) (by kernel_rfl) (H.kh (by simp) (by repeat' first | exact kNil | apply kCons | apply kApp | assumption | exact OwnS.keys (by assumption))) (fun _ hC => R_mv) ?_
  refine WA_take 1 rfl rfl rfl (by kernel_rfl) (by kernel_rfl) (H.kh (by simp) (by repeat' first | exact kNil | apply kCons | apply kApp | assumption | exact OwnS.keys (by assumption))) (fun _ hC => R_indexAddr Tryz.underlying22 Tryz.sizeOf5 rfl rfl (by omega) (by omega) idx_cast1) ?_
  refine WA_take 2 rfl rfl rfl (by kernel_rfl) (by kernel_rfl) (H.kh (by simp) (by repeat' first | exact kNil | apply kCons | apply kApp | assumption | exact OwnS.keys (by assumption))) (fun _ hC => R_load_cell Tryz.isAgg5 rfl (hC.old.cell h0 (by simp))) ?_
  refine WA_take 3 rfl rfl rfl (by kernel_rfl) (by kernel_rfl) (H.kh (by simp) (by repeat' first | exact kNil | apply kCons | apply kApp | assumption | exact OwnS.keys (by assumption))) (fun _ hC => R_conv_int Tryz.underlying5 Tryz.underlying3 rfl u8_in_i64) ?_
  refine WA_takeM 4 rfl rfl rfl (by kernel_rfl) (by kernel_rfl) (H.kh (by simp) (by repeat' first | exact kNil | apply kCons | apply kApp | assumption | exact OwnS.keys (by assumption))) (fun _ hC => R_mv) ?_
  refine WA_take 5 rfl rfl rfl (by kernel_rfl) (by kernel_rfl) (H.kh (by simp) (by repeat' first | exact kNil | apply kCons | apply kApp | assumption | exact OwnS.keys (by assumption))) (fun _ hC => R_indexAddr Tryz.underlying22 Tryz.sizeOf5 rfl rfl (by omega) (by omega) idx_cast1) ?_
  refine WA_take 6 rfl rfl rfl (by kernel_rfl) (by kernel_rfl) (H.kh (by simp) (by repeat' first | exact kNil | apply kCons | apply kApp | assumption | exact OwnS.keys (by assumption))) (fun _ hC => R_load_cell Tryz.isAgg5 rfl (hC.old.cell h1 (by simp))) ?_
  refine WA_take 7 rfl rfl rfl (by kernel_rfl) (by kernel_rfl) (H.kh (by simp) (by repeat' first | exact kNil | apply kCons | apply kApp | assumption | exact OwnS.keys (by assumption))) (fun _ hC => R_conv_int Tryz.underlying5 Tryz.underlying3 rfl u8_in_i64) ?_
  refine WA_takeM 8 rfl rfl rfl (by kernel_rfl) (by kernel_rfl) (H.kh (by simp) (by repeat' first | exact kNil | apply kCons | apply kApp | assumption | exact OwnS.keys (by assumption))) (fun _ hC => R_mv) ?_
  refine WA_take 9 rfl rfl rfl (by kernel_rfl) (by kernel_rfl) (H.kh (by simp) (by repeat' first | exact kNil | apply kCons | apply kApp | assumption | exact OwnS.keys (by assumption))) (fun _ hC => R_indexAddr Tryz.underlying22 Tryz.sizeOf5 rfl rfl (by omega) (by omega) idx_cast1) ?_
  refine WA_take 10 rfl rfl rfl (by kernel_rfl) (by kernel_rfl) (H.kh (by simp) (by repeat' first | exact kNil | apply kCons | apply kApp | assumption | exact OwnS.keys (by assumption))) (fun _ hC => R_load_cell Tryz.isAgg5 rfl (hC.old.cell h2 (by simp))) ?_
  refine WA_take 11 rfl rfl rfl (by kernel_rfl) (by kernel_rfl) (H.kh (by simp) (by repeat' first | exact kNil | apply kCons | apply kApp | assumption | exact OwnS.keys (by assumption))) (fun _ hC => R_conv_int Tryz.underlying5 Tryz.underlying3 rfl u8_in_i64) ?_
  refine WA_takeM 12 rfl rfl rfl (by kernel_rfl) (by kernel_rfl) (H.kh (by simp) (by repeat' first | exact kNil | apply kCons | apply kApp | assumption | exact OwnS.keys (by assumption))) (fun _ hC => R_mv) ?_
  refine WA_take 13 rfl rfl rfl (by kernel_rfl) (by kernel_rfl) (H.kh (by simp) (by repeat' first | exact kNil | apply kCons | apply kApp | assumption | exact OwnS.keys (by assumption))) (fun _ hC => R_indexAddr Tryz.underlying22 Tryz.sizeOf5 rfl rfl (by omega) (by omega) idx_cast1) ?_
  refine WA_take 14 rfl rfl rfl (by kernel_rfl) (by kernel_rfl) (H.kh (by simp) (by repeat' first | exact kNil | apply kCons | apply kApp | assumption | exact OwnS.keys (by assumption))) (fun _ hC => R_load_cell Tryz.isAgg5 rfl (hC.old.cell h3 (by simp))) ?_
  refine WA_take 15 rfl rfl rfl (by kernel_rfl) (by kernel_rfl) (H.kh (by simp) (by repeat' first | exact kNil | apply kCons | apply kApp | assumption | exact OwnS.keys (by assumption))) (fun _ hC => R_conv_int Tryz.underlying5 Tryz.underlying3 rfl u8_in_i64) ?_
  refine WA_take 16 rfl rfl rfl (by kernel_rfl) (by kernel_rfl) (H.kh (by simp) (by repeat' first | exact kNil | apply kCons | apply kApp | assumption | exact OwnS.keys (by assumption))) (fun _ hC => R_buildL (places := [(0, 1), (1, 1), (2, 1), (3, 1), (4, 1), (5, 1), (6, 1), (7, 1), (8, 8)]) (vs := [I (xs[0]'(by omega)).toNat, I (xs[1]'(by omega)).toNat, I (xs[2]'(by omega)).toNat, I (xs[3]'(by omega)).toNat] ++ List.replicate 12 (I 0)) Tryz.underlying36 Tryz.typeInfo36 rfl rfl (by kernel_rfl) rfl rfl rfl) ?_
  refine WA_one (i := 17) (by kernel_rfl) ?_
  (refine WI_effnA rfl (.inl rfl) (E_allocP H) (fun _ _ _ H => (by first | exact fun h => absurd h (by decide) | exact fun _ => H | exact fun _ => H.none (by repeat' first | exact kNil | apply kCons | apply kApp | assumption | exact OwnS.keys (by assumption)) | exact fun _ => H.dropN (by repeat' first | exact kNil | apply kCons | apply kApp | assumption | exact OwnS.keys (by assumption)) | exact fun _ => H.pop (by assumption) | exact fun _ => (H.pop (by assumption)).pop (by assumption) | exact fun _ => H.kp | exact fun _ => H.kp.tail | exact fun _ => H.kp.tail.tail | exact fun _ => H.kp.tail.tail.tail | exact fun _ => H.kp.sub (by simp) | exact fun _ => Kp.nil | exact fun _ => H.kh (by simp) (by repeat' first | exact kNil | apply kCons | apply kApp | assumption | exact OwnS.keys (by assumption)))) ?_; clear H; intro b4 w26 hb4 H)
  refine WA_one (i := 18) (by kernel_rfl) ?_
  (refine WI_effu rfl (.inl rfl) (E_storeP (q := p0) H rfl (congrArg (fun l => Value.agg (List.toArray l)) hp0v.symm) .here) (fun _ H => (by first | exact fun h => absurd h (by decide) | exact fun _ => H | exact fun _ => H.none (by repeat' first | exact kNil | apply kCons | apply kApp | assumption | exact OwnS.keys (by assumption)) | exact fun _ => H.dropN (by repeat' first | exact kNil | apply kCons | apply kApp | assumption | exact OwnS.keys (by assumption)) | exact fun _ => H.pop (by assumption) | exact fun _ => (H.pop (by assumption)).pop (by assumption) | exact fun _ => H.kp | exact fun _ => H.kp.tail | exact fun _ => H.kp.tail.tail | exact fun _ => H.kp.tail.tail.tail | exact fun _ => H.kp.sub (by simp) | exact fun _ => Kp.nil | exact fun _ => H.kh (by simp) (by repeat' first | exact kNil | apply kCons | apply kApp | assumption | exact OwnS.keys (by assumption)))) ?_; clear H; intro w28 H)
  refine WA_done (by kernel_rfl) ?_
  refine W_seq ?_
  refine W_seq ?_
  refine W_region_l ?_
  refine WL_step rfl (R_fieldAddr (off' := 4) Tryz.underlying36 rfl Tryz.sizeOf3 (by decide) rfl rfl) ?_
  refine WL_step rfl (R_fieldAddr (off' := 5) Tryz.underlying36 rfl Tryz.sizeOf3 (by decide) rfl rfl) ?_
  refine WL_step rfl (R_fieldAddr (off' := 6) Tryz.underlying36 rfl Tryz.sizeOf3 (by decide) rfl rfl) ?_
  refine WL_step rfl (R_fieldAddr (off' := 7) Tryz.underlying36 rfl Tryz.sizeOf3 (by decide) rfl rfl) ?_
  (refine WL_effn rfl (E_buildOnes (vs := [ptr b4 4, ptr b4 5, ptr b4 6, ptr b4 7]) H Tryz.underlying155 Tryz.sizeOf154 Tryz.zeroValue154 rfl rfl (by decide) rfl rfl (by simp [Value.oneCell'])) ?_; clear H; intro b31 w37 hb31 H)
  refine WL_step rfl (R_len_slice Tryz.underlying155 rfl) ?_
  refine WL_stepM rfl (R_mv) ?_
  refine WL_nil ?_
  refine W_block ?_
  refine W_loopS [(5, 6), (33, 48)] (fun (i : Nat) E w' => i ≤ 4 ∧ E 33 = I i ∧ Hp w [(b31, blk [ptr b4 4, ptr b4 5, ptr b4 6, ptr b4 7] 154), (b4, blk ((piC ff).take (4 + i) ++ List.replicate (16 - (4 + i)) (I 0)) 36), (b2, blk (piC zeroP) 36)] w') (fun i => 4 - i) 0 ?e0 ?r0
  · exact ⟨by omega, rfl, by rw [← hp04]; exact H⟩
  · (clear H; rintro i E w1 ⟨hi, h9, H⟩; refine W_kn h9 ?_; by_cases hlt : i < 4)
    · refine W_seq ?_
      refine W_region_l ?_
      refine WL_step rfl (R_lt_t rfl rfl (by omega)) ?_
      refine WL_nil ?_
      refine W_seq ?_
      refine W_cond_t rfl ?_
      refine W_skip ?_
      refine W_seq ?_
      refine W_block ?_
      refine W_seq ?_
      refine W_region_l ?_
      refine WL_stepM rfl (R_mv) ?_
      refine WL_step rfl (R_indexAddr Tryz.underlying155 Tryz.sizeOf154 rfl rfl (by omega) (by omega) idx0_cast) ?_
      refine WL_step rfl (R_load (v := ptr b4 (4 + i)) Tryz.isAgg154 rfl (H.get .here) (pickB hlt)) ?_
      refine WL_stepM rfl (R_as) ?_
      refine WL_stepM rfl (R_as) ?_
      refine WL_nil ?_
      refine W_region_l ?_
      refine WL_stepM rfl (R_mv) ?_
      refine WL_stepM rfl (R_mv) ?_
      refine WL_stepM rfl (R_mv) ?_
      refine WL_step rfl (R_mul (r := ((2 * i : Nat) : Int)) rfl rfl (by rw [w_i64 (by omega)]; omega)) ?_
      refine WL_step rfl (R_add (r := ((4 + 2 * i : Nat) : Int)) rfl rfl (by rw [w_i64 (by omega)]; omega)) ?_
      (refine WL_call rfl (R_call rfl Tryz.call96 rfl) (get2_yes (xs := xs) (k := 4 + 2 * i) (hl0.monoN H (by repeat' first | exact kNil | apply kCons | apply kApp | assumption | exact OwnS.keys (by assumption))) (by omega) (by omega)) ?_; rintro _ w67 ⟨rfl, H1⟩; replace H := H.seq0 H1; clear H1)
      refine WL_stepM rfl (R_mv) ?_
      refine WL_step rfl (R_extract rfl rfl) ?_
      refine WL_step rfl (R_extract rfl rfl) ?_
      refine WL_step rfl (R_nilCheck rfl) ?_
      (have _g := hlt; refine WL_effu rfl (E_store (v := I (xs[4 + 2 * i].toNat * 256 + xs[4 + 2 * i + 1].toNat)) H Tryz.sizeOf3 rfl rfl rfl (.there .here) (by simp [hVl]; omega)) ?_; clear H; intro w72 H; rw [fillV hVl (by rw [hff]; exact pickV h8 hlt)] at H)
      refine WL_nil ?_
      refine W_region_l ?_
      refine WL_step rfl (R_add rfl rfl (w_i64 (by omega))) ?_
      refine WL_stepM rfl (R_mv) ?_
      refine WL_nil ?_
      exact ⟨(same_mov rfl (same_updo rfl (same_updn (same_updo rfl (same_updo rfl (same_updo rfl (same_mov rfl (same_updo rfl (same_updo rfl (same_updo rfl (same_mov rfl (same_mov rfl (same_mov rfl (same_mov rfl (same_mov rfl (same_updo rfl (same_updo rfl (same_mov rfl (same_updo rfl same_ovr))))))))))))))))))), i + 1, by omega, by omega, rfl, H⟩
    · refine W_seq ?_
      refine W_region_l ?_
      refine WL_step rfl (R_lt_f rfl rfl (by omega)) ?_
      refine WL_nil ?_
      refine W_seq ?_
      refine W_cond_f rfl ?_
      refine W_exit ?_
      refine (if_pos rfl).mpr ?_
      refine W_seq ?_
      refine W_seq ?_
      refine W_region_l ?_
      refine WL_stepM rfl (R_mv) ?_
      refine WL_nil ?_
      refine W_block ?_
      refine W_loopS [(7, 7), (49, 61)] (fun (m : Nat) E w' => m ≤ 8 ∧ E 49 = I m ∧ Hp w [(b31, blk [ptr b4 4, ptr b4 5, ptr b4 6, ptr b4 7] 154), (b4, blk ((piC ff).take (8 + m) ++ List.replicate (16 - (8 + m)) (I 0)) 36), (b2, blk (piC zeroP) 36)] w') (fun m => 8 - m) 0 ?e2 ?r2
      · (obtain rfl : i = 4 := (by omega); exact ⟨by omega, rfl, H⟩)
      · (clear H; rintro m E w1 ⟨hmm, h9, H⟩; refine W_kn h9 ?_; by_cases hlm : m < 8)
        · refine W_seq ?_
          refine W_region_l ?_
          refine WL_step rfl (R_lt_t rfl rfl (by omega)) ?_
          refine WL_nil ?_
          refine W_seq ?_
          refine W_cond_t rfl ?_
          refine W_skip ?_
          refine W_seq ?_
          refine W_block ?_
          refine W_seq ?_
          refine W_region_l ?_
          refine WL_stepM rfl (R_mv) ?_
          refine WL_stepM rfl (R_as) ?_
          refine WL_nil ?_
          refine W_region_l ?_
          refine WL_stepM rfl (R_mv) ?_
          refine WL_stepM rfl (R_mv) ?_
          refine WL_stepM rfl (R_mv) ?_
          refine WL_step rfl (R_add (r := ((12 + m : Nat) : Int)) rfl rfl (by rw [w_i64 (by omega)]; omega)) ?_
          refine WL_step rfl (R_indexAddr Tryz.underlying22 Tryz.sizeOf5 rfl rfl (by omega) (by omega) idx_cast1) ?_
          refine WL_step rfl (R_load_cell (v := U xs[12 + m]) Tryz.isAgg5 rfl (H.cellN (hm (i := 12 + m) (by omega)) (by repeat' first | exact kNil | apply kCons | apply kApp | assumption | exact OwnS.keys (by assumption)))) ?_
          refine WL_step rfl (R_conv_int Tryz.underlying5 Tryz.underlying3 rfl u8_in_i64) ?_
          refine WL_step rfl (R_fieldAddr (off' := 8) Tryz.underlying36 rfl Tryz.sizeOf34 (by decide) rfl rfl) ?_
          refine WL_step rfl (R_indexAddrA (off' := 8 + m) Tryz.underlying34 Tryz.sizeOf3 rfl rfl (by omega) (by omega) (by omega)) ?_
          (have _g := hlm; refine WL_effu rfl (E_store (v := I xs[12 + m].toNat) H Tryz.sizeOf3 rfl rfl rfl (.there .here) (by simp [hVl]; omega)) ?_; clear H; intro w119 H; rw [fillV hVl (by rw [hff]; exact pickW h8 hlm)] at H)
          refine WL_nil ?_
          refine W_region_l ?_
          refine WL_step rfl (R_add rfl rfl (w_i64 (by omega))) ?_
          refine WL_stepM rfl (R_mv) ?_
          refine WL_nil ?_
          exact ⟨(same_mov rfl (same_updo rfl (same_updn (same_updo rfl (same_updo rfl (same_updo rfl (same_updo rfl (same_updo rfl (same_updo rfl (same_mov rfl (same_mov rfl (same_mov rfl (same_mov rfl (same_mov rfl (same_updo rfl same_ovr))))))))))))))), m + 1, by omega, by omega, rfl, H⟩
        · refine W_seq ?_
          refine W_region_l ?_
          refine WL_step rfl (R_lt_f rfl rfl (by omega)) ?_
          refine WL_nil ?_
          refine W_seq ?_
          refine W_cond_f rfl ?_
          refine W_exit ?_
          refine (if_pos rfl).mpr ?_
          refine W_seq ?_
          ((obtain rfl : m = 8 := (by omega); replace H := H.pop hb31; rw [List.take_of_length_le (l := piC ff) (i := 8 + 8) (by omega), show 16 - (8 + 8) = 0 from rfl, List.replicate_zero, List.append_nil] at H)) <;> refine W_region_l ?_
          refine WL_step rfl (R_loadP rfl (H.get .here)) ?_
          (refine WL_call rfl (R_call rfl Tryz.call97 rfl) (enc_ret ff _) ?_; rintro _ w137 (⟨hok, b9, rfl, hb9, H1⟩ | ⟨hok, rfl, H1⟩); (have hsz := H.size; replace H := H.seqN H1 (kCons hb9 kNil); replace hb9 := Nat.le_trans hsz hb9; clear H1 hsz); rotate_left; (replace H := H.seq0 H1; clear H1))
          · refine WL_stepM rfl (R_mv) ?_
            refine WL_step rfl (R_extract rfl rfl) ?_
            refine WL_step rfl (R_extract rfl rfl) ?_
            refine WL_stepM rfl (R_as) ?_
            refine WL_stepM rfl (R_as) ?_
            refine WL_nil ?_
            refine W_seq ?_
            (refine W_draw (KH w [(b4, blk (piC ff) 36)]) (fun _ => false) (by kernel_rfl) H ?_; clear H; intro w145 H)
            refine WA_take 0 rfl rfl rfl (by kernel_rfl) (by kernel_rfl) (H.kh (by simp) (by repeat' first | exact kNil | apply kCons | apply kApp | assumption | exact OwnS.keys (by assumption))) (fun _ hC => R_loadP rfl (hC.get .here)) ?_
            refine WA_takeM 1 rfl rfl rfl (by kernel_rfl) (by kernel_rfl) (H.kh (by simp) (by repeat' first | exact kNil | apply kCons | apply kApp | assumption | exact OwnS.keys (by assumption))) (fun _ hC => R_mv) ?_
            refine WA_takeM 2 rfl rfl rfl (by kernel_rfl) (by kernel_rfl) (H.kh (by simp) (by repeat' first | exact kNil | apply kCons | apply kApp | assumption | exact OwnS.keys (by assumption))) (fun _ hC => R_mv) ?_
            refine WA_pass 3 rfl rfl rfl (fun h => nomatch h) (by kernel_rfl) (by kernel_rfl) (H.kh (by simp) (by repeat' first | exact kNil | apply kCons | apply kApp | assumption | exact OwnS.keys (by assumption))) ?_
            refine WA_pass 4 rfl rfl rfl (fun h => nomatch h) (by kernel_rfl) (by kernel_rfl) (H.kh (by simp) (by repeat' first | exact kNil | apply kCons | apply kApp | assumption | exact OwnS.keys (by assumption))) ?_
            refine WA_pass 5 rfl rfl rfl (fun h => nomatch h) (by kernel_rfl) (by kernel_rfl) (H.kh (by simp) (by repeat' first | exact kNil | apply kCons | apply kApp | assumption | exact OwnS.keys (by assumption))) ?_
            refine WA_takeM 6 rfl rfl rfl (by kernel_rfl) (by kernel_rfl) (H.kh (by simp) (by repeat' first | exact kNil | apply kCons | apply kApp | assumption | exact OwnS.keys (by assumption))) (fun _ hC => R_pk_f rfl) ?_
            refine WA_one (i := 7) (by kernel_rfl) ?_
            (refine WI_effu rfl (.inl rfl) (E_storeP (q := ff) H rfl rfl (.there .here)) (fun _ H => (by first | exact fun h => absurd h (by decide) | exact fun _ => H | exact fun _ => H.none (by repeat' first | exact kNil | apply kCons | apply kApp | assumption | exact OwnS.keys (by assumption)) | exact fun _ => H.dropN (by repeat' first | exact kNil | apply kCons | apply kApp | assumption | exact OwnS.keys (by assumption)) | exact fun _ => H.pop (by assumption) | exact fun _ => (H.pop (by assumption)).pop (by assumption) | exact fun _ => H.kp | exact fun _ => H.kp.tail | exact fun _ => H.kp.tail.tail | exact fun _ => H.kp.tail.tail.tail | exact fun _ => H.kp.sub (by simp) | exact fun _ => Kp.nil | exact fun _ => H.kh (by simp) (by repeat' first | exact kNil | apply kCons | apply kApp | assumption | exact OwnS.keys (by assumption)))) ?_; clear H; intro w154 H)
            refine WA_takeM 8 rfl rfl rfl (by kernel_rfl) (by kernel_rfl) (H.kh (by simp) (by repeat' first | exact kNil | apply kCons | apply kApp | assumption | exact OwnS.keys (by assumption))) (fun _ hC => R_as) ?_
            refine WA_done (by kernel_rfl) ?_
            refine W_ret ?_
            exact ⟨_, ⟨_, _, rfl, ldP (p := ff) (H.get (.there .here)), rfl⟩, congrArg (fun b => Value.tuple #[vP ff, .bool b]) (decide_eq_false (fun h => hok h.1)).symm, H.none (by repeat' first | exact kNil | apply kCons | apply kApp | assumption | exact OwnS.keys (by assumption))⟩
          · refine WL_stepM rfl (R_mv) ?_
            refine WL_step rfl (R_extract rfl rfl) ?_
            refine WL_step rfl (R_extract rfl rfl) ?_
            refine WL_stepM rfl (R_as) ?_
            refine WL_stepM rfl (R_as) ?_
            refine WL_nil ?_
            refine W_seq ?_
            (refine W_draw (KH w [(b9, blk ((bytesP ff).map U) 5), (b4, blk (piC ff) 36)]) (fun _ => false) (by kernel_rfl) H ?_; clear H; intro w166 H)
            refine WA_take 0 rfl rfl rfl (by kernel_rfl) (by kernel_rfl) (H.kh (by simp) (by repeat' first | exact kNil | apply kCons | apply kApp | assumption | exact OwnS.keys (by assumption))) (fun _ hC => R_loadP rfl (hC.get (.there .here))) ?_
            refine WA_takeM 1 rfl rfl rfl (by kernel_rfl) (by kernel_rfl) (H.kh (by simp) (by repeat' first | exact kNil | apply kCons | apply kApp | assumption | exact OwnS.keys (by assumption))) (fun _ hC => R_mv) ?_
            refine WA_takeM 2 rfl rfl rfl (by kernel_rfl) (by kernel_rfl) (H.kh (by simp) (by repeat' first | exact kNil | apply kCons | apply kApp | assumption | exact OwnS.keys (by assumption))) (fun _ hC => R_mv) ?_
            refine WA_takeGM 3 rfl rfl rfl rfl (by kernel_rfl) (by kernel_rfl) (H.kh (by simp) (by repeat' first | exact kNil | apply kCons | apply kApp | assumption | exact OwnS.keys (by assumption))) (fun _ hC => R_mv) ?_
            refine WA_takeGM 4 rfl rfl rfl rfl (by kernel_rfl) (by kernel_rfl) (H.kh (by simp) (by repeat' first | exact kNil | apply kCons | apply kApp | assumption | exact OwnS.keys (by assumption))) (fun _ hC => R_mv) ?_
            refine WA_one (i := 5) (by kernel_rfl) ?_
            (refine WI_call rfl (.inr ⟨_, _, rfl, rfl⟩) (R_call rfl Tryz.call92 rfl) (equal_ret (xs := bytesP ff) (ys := xs) (RdS.blk (c := (bytesP ff).map U) (off := 0) (H.get .here) (by rw [List.drop_zero, List.take_of_length_le (by rw [List.length_map, bytes_len]; decide)]) (by rw [List.length_map, bytes_len]; decide) (by decide)) (hl0.monoN H (by repeat' first | exact kNil | apply kCons | apply kApp | assumption | exact OwnS.keys (by assumption))) (by rw [bytes_len]; decide) (by omega)) (fun _ _ hR _ => (H.seq0 hR.2).kh (by simp) (by repeat' first | exact kNil | apply kCons | apply kApp | assumption | exact OwnS.keys (by assumption))) ?_; rintro _ w173 ⟨rfl, H1⟩; replace H := H.seq0 H1; clear H1)
            refine WA_takeM 6 rfl rfl rfl (by kernel_rfl) (by kernel_rfl) (H.kh (by simp) (by repeat' first | exact kNil | apply kCons | apply kApp | assumption | exact OwnS.keys (by assumption))) (fun _ hC => R_pk_t rfl) ?_
            refine WA_one (i := 7) (by kernel_rfl) ?_
            (refine WI_effu rfl (.inl rfl) (E_storeP (q := ff) H rfl rfl (.there (.there .here))) (fun _ H => (by first | exact fun h => absurd h (by decide) | exact fun _ => H | exact fun _ => H.none (by repeat' first | exact kNil | apply kCons | apply kApp | assumption | exact OwnS.keys (by assumption)) | exact fun _ => H.dropN (by repeat' first | exact kNil | apply kCons | apply kApp | assumption | exact OwnS.keys (by assumption)) | exact fun _ => H.pop (by assumption) | exact fun _ => (H.pop (by assumption)).pop (by assumption) | exact fun _ => H.kp | exact fun _ => H.kp.tail | exact fun _ => H.kp.tail.tail | exact fun _ => H.kp.tail.tail.tail | exact fun _ => H.kp.sub (by simp) | exact fun _ => Kp.nil | exact fun _ => H.kh (by simp) (by repeat' first | exact kNil | apply kCons | apply kApp | assumption | exact OwnS.keys (by assumption)))) ?_; clear H; intro w176 H)
            refine WA_takeM 8 rfl rfl rfl (by kernel_rfl) (by kernel_rfl) (H.kh (by simp) (by repeat' first | exact kNil | apply kCons | apply kApp | assumption | exact OwnS.keys (by assumption))) (fun _ hC => R_as) ?_
            refine WA_done (by kernel_rfl) ?_
            refine W_ret ?_
            exact ⟨_, ⟨_, _, rfl, ldP (p := ff) (H.get (.there (.there .here))), rfl⟩, congrArg (fun b => Value.tuple #[vP ff, .bool b]) (decide_eq_decide.2 ⟨fun h => ⟨hok, h⟩, fun h => h.2⟩), H.none (by repeat' first | exact kNil | apply kCons | apply kApp | assumption | exact OwnS.keys (by assumption))⟩
end Go.Proofs.YthonajikgljgmaaGreat.Slot

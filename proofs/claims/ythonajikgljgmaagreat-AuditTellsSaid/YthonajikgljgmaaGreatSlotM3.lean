/-
  A slot out of numbers.
-/
import Derived.Test.YthonajikgljgmaaGreatSlotM1
namespace Go.Proofs.YthonajikgljgmaaGreat.Slot
open Go Go.Proofs Go.Proofs.YthonajikgljgmaaGreat.Fx Go.Proofs.YthonajikgljgmaaGreat.Codec
set_option maxRecDepth 100000
set_option linter.unusedVariables false
set_option linter.unusedSimpArgs false
set_option maxHeartbeats 2000000

/-- the next number -/
theorem next_ret {w : World} {n b3 b1 cl : Nat} {xs : List Int} {al : Option Addr} (h3 : w.heap[b3]? = some (blk [I (n : Int)] 3)) (h1 : w.heap[b1]? = some (blk [.slice al xs.length cl] 52))
    (hl : RdS w (.slice al xs.length cl) (xs.map fun x => I x)) (hfr : ∀ a, al = some a → xs ≠ [] → a.block ≠ b3) (hn : n ≤ 1000) (hb : xs.length ≤ 9223372036854775807) :
    Ret Tryz.prog 40 #[ptr b3 0, ptr b1 0] w fun v w' => ∃ x : BitVec 64, v = I x.toInt ∧ 0 ≤ x.toInt ∧ x.toInt < 16777216 ∧ Hp w [(b3, blk [I ((n + 1 : Nat) : Int)] 3)] w' := by
  refine Ret_of_W (args := [_, _]) Tryz.func40 rfl Tryz.ntmps40 Tryz.results40 (by simp) ?_
  have hne : b1 ≠ b3 := by rintro rfl; rw [h1] at h3; cases h3
  have H := Hp.focus0 h3
  have hfin : ∀ y : Int, 0 ≤ y → y < 16777216 → ∃ x : BitVec 64, I y = I x.toInt ∧ 0 ≤ x.toInt ∧ x.toInt < 16777216 := fun y h0 h1 => ⟨BitVec.ofInt 64 y, by rw [bv_of (by omega) (by omega)], by rw [bv_of (by omega) (by omega)]; exact h0, by rw [bv_of (by omega) (by omega)]; exact h1⟩
  refine W_seq ?_
  refine W_region_l ?_
  refine WL_stepM rfl (R_as) ?_
  refine WL_nil ?_
  refine W_seq ?_
  refine W_region_l ?_
  refine WL_step rfl (R_load (v := I n) Tryz.isAgg3 rfl (H.get .here) rfl) ?_
  refine WL_step rfl (R_add (r := ((n + 1 : Nat) : Int)) rfl rfl (by rw [w_i64 (by omega)]; omega)) ?_
  (refine WL_effu rfl (E_store (v := I ((n + 1 : Nat) : Int)) H Tryz.sizeOf3 rfl rfl rfl .here (by simp)) ?_; clear H; intro w9 H; replace H : Hp w [(b3, blk [I ((n + 1 : Nat) : Int)] 3)] _ := H)
  refine WL_nil ?_
  refine W_seq ?_
  refine W_seq ?_
  refine W_region_l ?_
  refine WL_step rfl (R_load (v := I ((n + 1 : Nat) : Int)) Tryz.isAgg3 rfl (H.get .here) rfl) ?_
  refine WL_step rfl (R_load (v := .slice al xs.length cl) Tryz.isAgg52 rfl (H.block h1 (by simpa using hne)) rfl) ?_
  refine WL_step rfl (R_len_slice Tryz.underlying52 rfl) ?_
  refine WL_step rfl (R_gt rfl rfl) ?_
  refine WL_nil ?_
  refine W_if rfl (fun h19 => ?_) (fun h19 => ?_)
  · refine W_seq ?_
    refine W_region_l ?_
    refine WL_step rfl (R_load (v := I ((n + 1 : Nat) : Int)) Tryz.isAgg3 rfl (H.get .here) rfl) ?_
    refine WL_step rfl (R_mul (r := (((n + 1) * 7 : Nat) : Int)) rfl rfl (by rw [w_i64 (by omega)]; omega)) ?_
    refine WL_stepM rfl (R_as) ?_
    refine WL_nil ?_
    refine W_ret ?_
    (obtain ⟨x, hx, hx0, hx1⟩ := hfin (((n + 1) * 7 : Nat) : Int) (by omega) (by omega); exact ⟨_, rfl, x, hx, hx0, hx1, H⟩)
  · refine W_skip ?_
    refine W_seq ?_
    (obtain ⟨bz, oz, rfl, hc⟩ := hl.cell (i := n) (u := I (xs[n]'(by omega))) (by rw [List.getElem?_map, List.getElem?_eq_getElem (by omega)]; rfl)) <;> refine W_region_l ?_
    refine WL_step rfl (R_load (v := .slice (some ⟨bz, oz, none⟩) xs.length cl) Tryz.isAgg52 rfl (H.block h1 (by simpa using hne)) rfl) ?_
    refine WL_step rfl (R_load (v := I ((n + 1 : Nat) : Int)) Tryz.isAgg3 rfl (H.get .here) rfl) ?_
    refine WL_step rfl (R_sub (r := (n : Int)) rfl rfl (by rw [w_i64 (by omega)]; omega)) ?_
    refine WL_step rfl (R_indexAddr Tryz.underlying52 Tryz.sizeOf3 rfl rfl (by omega) (by omega) idx_cast1) ?_
    refine WL_step rfl (R_load_cell (v := I xs[n]) Tryz.isAgg3 rfl (H.cell hc (by simpa using hfr _ rfl (List.ne_nil_of_length_pos (by omega))))) ?_
    refine WL_step rfl (R_bits rfl rfl (by simp) (and_mask_i64 24 16777216 (by decide) rfl (by decide))) ?_
    refine WL_stepM rfl (R_as) ?_
    refine WL_nil ?_
    refine W_ret ?_
    (obtain ⟨x, hx, hx0, hx1⟩ := hfin (xs[n] % 16777216) (by omega) (by omega); exact ⟨_, rfl, x, hx, hx0, hx1, H⟩)
end Go.Proofs.YthonajikgljgmaaGreat.Slot

/-
  A slot out of numbers: it may be.
-/
namespace Go.Proofs.YthonajikgljgmaaGreat.Slot
open Go Go.Proofs Go.Proofs.YthonajikgljgmaaGreat.Fx Go.Proofs.YthonajikgljgmaaGreat.Codec
set_option maxRecDepth 100000
set_option linter.unusedVariables false
set_option linter.unusedSimpArgs false
set_option maxHeartbeats 2000000

def setF (p : Pi) (i : Nat) (x : Int) : Pi := { p with f := p.f.set i x, hf := by rw [List.length_set]; exact p.hf }
theorem set_pi (p : Pi) (i : Nat) (x : Int) : (piC p).set (8 + i) (I x) = piC (setF p i x) := by
  unfold piC setF
  rw [List.set_append_right _ _ (by simp)]
  simp only [List.length_cons, List.length_nil, Nat.zero_add]
  rw [show 8 + i - 8 = i from by omega, List.map_set]
theorem setF_ok {p : Pi} {i : Nat} {x : Int} (h : okP p) (hs : ¬ p.s = 2) (h0 : 0 ≤ x) (h1 : x ≤ 12) : okP (setF p i x) := by
  obtain ⟨a, b, c, d⟩ := h
  refine ⟨a, b, fun y hy => ?_, .inr ⟨hs, by rcases d with ⟨d, _⟩ | ⟨_, d⟩; exact (hs d).elim; exact d⟩⟩
  rcases List.mem_or_eq_of_mem_set hy with hy | hy
  · exact c y hy
  · omega
theorem pick4 {i : Nat} (hi : i < 4) : ∃ z : Int, [I 1, I 1, I 3, I 2][i]? = some (I z) ∧ 1 ≤ z ∧ z ≤ 3 := by
  match i, hi with
  | 0, _ => exact ⟨1, rfl, by decide⟩
  | 1, _ => exact ⟨1, rfl, by decide⟩
  | 2, _ => exact ⟨3, rfl, by decide⟩
  | 3, _ => exact ⟨2, rfl, by decide⟩

theorem set_e (p : Pi) (x : Int) : (piC p).set 3 (I x) = piC { p with e := x } := rfl
theorem set_a (p : Pi) (x : BitVec 64) : (piC p).set 4 (I x.toInt) = piC { p with a := x } := rfl
theorem set_b (p : Pi) (x : BitVec 64) : (piC p).set 5 (I x.toInt) = piC { p with b := x } := rfl
theorem set_c (p : Pi) (x : BitVec 64) : (piC p).set 6 (I x.toInt) = piC { p with c := x } := rfl
theorem set_d (p : Pi) (x : BitVec 64) : (piC p).set 7 (I x.toInt) = piC { p with d := x } := rfl
/-- what is sure of a slot before it has its last fields -/
structure Pre (p : Pi) : Prop where
  hs : 1 ≤ p.s ∧ p.s ≤ 3
  hp : 0 ≤ p.p ∧ p.p ≤ 8
  hg : 0 ≤ p.g ∧ p.g ≤ 7
  he : p.e = 0
  ha : p.a = 0#64
  hb : okB p.b ∧ p.b &&& 16896#64 = 0#64
  hc : okB p.c ∧ p.c &&& 16896#64 = 0#64
  hd : okB p.d ∧ p.d &&& 16896#64 = 0#64
  hcd : p.c &&& p.d = 0#64
  hf : p.f = List.replicate 8 0
theorem Pre.okE {p : Pi} {x : Int} (h : Pre p) (hs : p.s = 2) (h0 : 0 ≤ x) (h1 : x ≤ 255) : okP { p with e := x } :=
  ⟨⟨h.hs, h.hp, h.hg, h0, h1⟩, ⟨⟨by show okB p.a; rw [h.ha]; decide, h.hb.1, h.hc.1, h.hd.1⟩, ⟨h.hb.2, h.hc.2, h.hd.2⟩, h.hcd⟩, fun y hy => by have hy : y ∈ p.f := hy; rw [h.hf] at hy; rw [(List.mem_replicate.1 hy).2]; decide, .inl ⟨hs, h.ha, h.hf⟩⟩
theorem Pre.okA {p : Pi} {x : BitVec 64} (h : Pre p) (hs : ¬ p.s = 2) (hx : okB x) : okP { p with a := x } :=
  ⟨⟨h.hs, h.hp, h.hg, by show 0 ≤ p.e; rw [h.he]; decide, by show p.e ≤ 255; rw [h.he]; decide⟩, ⟨⟨hx, h.hb.1, h.hc.1, h.hd.1⟩, ⟨h.hb.2, h.hc.2, h.hd.2⟩, h.hcd⟩, fun y hy => by have hy : y ∈ p.f := hy; rw [h.hf] at hy; rw [(List.mem_replicate.1 hy).2]; decide, .inr ⟨hs, h.he⟩⟩

theorem proc_ret {xs : List Int} {w : World} {l : Value} (hl : RdS w l (xs.map fun x => I x)) (hb : xs.length ≤ 9223372036854775807) :
    Ret Tryz.prog 15 #[l] w fun v w' => ∃ p : Pi, okP p ∧ v = vP p ∧ Hp w [] w' := by
  refine Ret_of_WC (args := [_]) Tryz.func15 rfl Tryz.ntmps15 Tryz.results15 (by simp) ?_
  have H := Hp.refl w
  obtain ⟨al, cl, rfl⟩ := hl.form
  simp only [List.length_map] at hl ⊢
  have hfr : ∀ b3, w.heap.size ≤ b3 → ∀ a, al = some a → xs ≠ [] → a.block ≠ b3 := fun b3 hb3 a ha hx h => by
    have := hl.lt (by simpa using hx) a xs.length cl (by rw [ha])
    omega
  refine W_seq ?_
  refine W_region_l ?_
  (refine WL_effn rfl (E_box (v := .slice al xs.length cl) (vs := [.slice al xs.length cl]) H rfl rfl) ?_; clear H; intro b1 w3 hb1 H)
  (refine WL_effn rfl (E_allocP H) ?_; clear H; intro b2 w4 hb2 H)
  refine WL_nil ?_
  refine W_seq ?_
  refine W_region_l ?_
  (refine WL_effn rfl (E_alloc (vs := [I 0]) H Tryz.zeroValue3 rfl) ?_; clear H; intro b3 w8 hb3 H)
  (refine WL_effu rfl (E_store (v := (.int _ _)) H Tryz.sizeOf3 rfl rfl rfl .here (by simp)) ?_; clear H; intro w9 H)
  refine WL_nil ?_
  refine W_seq ?_
  refine W_region_l ?_
  refine WL_step rfl (R_fn2 rfl rfl) ?_
  refine WL_stepM rfl (R_as) ?_
  refine WL_nil ?_
  refine W_seq ?_
  ((replace H : Hp w [(b3, blk [I ((0 : Nat) : Int)] 3), (b2, blk (piC zeroP) 36), (b1, blk [.slice al xs.length cl] 52)] _ := H)) <;> refine W_region_l ?_
  refine WL_stepM rfl (R_mv) ?_
  (refine WL_call rfl (R_call rfl Tryz.call40 rfl) (next_ret (H.get .here) (H.get (.there (.there .here))) (hl.monoN H (by repeat' first | exact kNil | apply kCons | apply kApp | assumption | exact OwnS.keys (by assumption))) (hfr b3 hb3) (by omega) hb) ?_; rintro _ w19 ⟨y, rfl, hy0, hy1, H1⟩; replace H := H.seq H1 (okSeq_set .here okSeq_nil); clear H1)
  refine WL_stepM rfl (R_as) ?_
  refine WL_nil ?_
  refine W_seq ?_
  ((obtain ⟨k4, hk4, hk5⟩ : ∃ k : Nat, y.toInt % 4 = (k : Int) ∧ k < 4 := ⟨(y.toInt % 4).toNat, by omega, by omega⟩; obtain ⟨s, hs, hs1⟩ := pick4 hk5; obtain ⟨pp, hpp, hpp1⟩ : ∃ z, y.toInt / 4 % 16 % 9 = z ∧ 0 ≤ z ∧ z ≤ 8 := ⟨_, rfl, by omega, by omega⟩; obtain ⟨g, hg, hg1⟩ : ∃ z, y.toInt / 64 % 8 = z ∧ 0 ≤ z ∧ z ≤ 7 := ⟨_, rfl, by omega, by omega⟩; obtain ⟨p0, hp0⟩ : ∃ p0 : Pi, p0 = ⟨s, pp, g, 0, 0, 0, 0, 0, List.replicate 8 0, rfl⟩ := ⟨_, rfl⟩; have hp0v : piC p0 = [I s, I pp, I g] ++ List.replicate 13 (I 0) := (by rw [hp0]; rfl))) <;> refine W_region_l ?_
  (refine WL_effn rfl (E_buildOnes (vs := [(.int _ _), (.int _ _), (.int _ _), (.int _ _)]) H Tryz.underlying52 Tryz.sizeOf3 Tryz.zeroValue3 rfl rfl (by decide) rfl rfl (by simp [Value.oneCell'])) ?_; clear H; intro b24 w24 hb24 H)
  refine WL_stepM rfl (R_mv) ?_
  refine WL_step rfl (R_bits rfl rfl (by simp) ((and_mask_i64 2 4 (by decide) rfl (by decide)).trans hk4)) ?_
  refine WL_step rfl (R_indexAddr (off' := k4) Tryz.underlying52 Tryz.sizeOf3 rfl rfl (by omega) (by omega) (by omega)) ?_
  refine WL_step rfl (R_load (v := I s) Tryz.isAgg3 rfl (H.get .here) hs) ?_
  refine WL_stepM rfl (R_mv) ?_
  refine WL_step rfl (R_shr (r := y.toInt / 4) rfl rfl (by decide) (shr_any 4 (by decide))) ?_
  refine WL_step rfl (R_bits rfl rfl (by simp) (and_mask_i64 4 16 (by decide) rfl (by decide))) ?_
  refine WL_step rfl (R_rem (r := pp) rfl rfl (by omega) ((rem_pos (by omega)).trans hpp)) ?_
  refine WL_stepM rfl (R_mv) ?_
  refine WL_step rfl (R_shr (r := y.toInt / 64) rfl rfl (by decide) (shr_any 64 (by decide))) ?_
  refine WL_step rfl (R_bits rfl rfl (by simp) ((and_mask_i64 3 8 (by decide) rfl (by decide)).trans hg)) ?_
  refine WL_step rfl (R_buildL (places := [(0, 1), (1, 1), (2, 1), (3, 1), (4, 1), (5, 1), (6, 1), (7, 1), (8, 8)]) (vs := [I s, I pp, I g] ++ List.replicate 13 (I 0)) Tryz.underlying36 Tryz.typeInfo36 rfl rfl (by kernel_rfl) rfl rfl rfl) ?_
  (refine WL_effn rfl (E_allocP H) ?_; clear H; intro b6 w37 hb6 H)
  (have _g := hb6; refine WL_effu rfl (E_storeP (q := p0) H rfl (congrArg (fun l => Value.agg (List.toArray l)) hp0v.symm) .here) ?_; clear H; intro w38 H)
  refine WL_nil ?_
  refine W_seq ?_
  ((replace H := H.pop2 (by assumption); have mk5 : True := trivial)) <;> refine W_region_l ?_
  refine WL_stepM rfl (R_mv) ?_
  (have _g0 := mk5; refine WL_call rfl (R_call rfl Tryz.call40 rfl) (next_ret (H.get (.there .here)) (H.get (.there (.there (.there .here)))) (hl.monoN H (by repeat' first | exact kNil | apply kCons | apply kApp | assumption | exact OwnS.keys (by assumption))) (hfr b3 hb3) (by omega) hb) ?_; rintro _ w43 ⟨x1, rfl, h10, h11, H1⟩; replace H := H.seq H1 (okSeq_set (.there .here) okSeq_nil); clear H1)
  refine WL_step rfl (R_bits rfl rfl (by simp) (bv_and x1 65534#64)) ?_
  refine WL_step rfl (R_bits rfl rfl (by simp) (bv_andNot (x1 &&& 65534#64) 16896#64)) ?_
  refine WL_step rfl (R_fieldAddr (off' := 5) Tryz.underlying36 rfl Tryz.sizeOf3 (by decide) rfl rfl) ?_
  (have _g := mk5; refine WL_effu rfl (E_store (v := I ((x1 &&& 65534#64) &&& ~~~ 16896#64).toInt) H Tryz.sizeOf3 rfl rfl rfl .here (by rw [piC_len]; omega)) ?_; clear H; intro w47 H; rw [set_b] at H)
  refine WL_nil ?_
  refine W_seq ?_
  ((have mk6 : True := trivial)) <;> refine W_region_l ?_
  refine WL_stepM rfl (R_mv) ?_
  (have _g0 := mk6; refine WL_call rfl (R_call rfl Tryz.call40 rfl) (next_ret (H.get (.there .here)) (H.get (.there (.there (.there .here)))) (hl.monoN H (by repeat' first | exact kNil | apply kCons | apply kApp | assumption | exact OwnS.keys (by assumption))) (hfr b3 hb3) (by omega) hb) ?_; rintro _ w52 ⟨x2, rfl, h20, h21, H1⟩; replace H := H.seq H1 (okSeq_set (.there .here) okSeq_nil); clear H1)
  refine WL_stepM rfl (R_mv) ?_
  (have _g0 := mk6; have _g1 := x2; refine WL_call rfl (R_call rfl Tryz.call40 rfl) (next_ret (H.get (.there .here)) (H.get (.there (.there (.there .here)))) (hl.monoN H (by repeat' first | exact kNil | apply kCons | apply kApp | assumption | exact OwnS.keys (by assumption))) (hfr b3 hb3) (by omega) hb) ?_; rintro _ w54 ⟨x3, rfl, h30, h31, H1⟩; replace H := H.seq H1 (okSeq_set (.there .here) okSeq_nil); clear H1)
  refine WL_step rfl (R_bits rfl rfl (by simp) (bv_and x2 x3)) ?_
  refine WL_step rfl (R_bits rfl rfl (by simp) (bv_and (x2 &&& x3) 65534#64)) ?_
  refine WL_step rfl (R_bits rfl rfl (by simp) (bv_andNot ((x2 &&& x3) &&& 65534#64) 16896#64)) ?_
  refine WL_step rfl (R_fieldAddr (off' := 6) Tryz.underlying36 rfl Tryz.sizeOf3 (by decide) rfl rfl) ?_
  (have _g := mk6; refine WL_effu rfl (E_store (v := I (((x2 &&& x3) &&& 65534#64) &&& ~~~ 16896#64).toInt) H Tryz.sizeOf3 rfl rfl rfl .here (by rw [piC_len]; omega)) ?_; clear H; intro w59 H; rw [set_c] at H)
  refine WL_nil ?_
  refine W_seq ?_
  (obtain ⟨p3, hp3⟩ : ∃ p3 : Pi, p3 = { { p0 with b := ((x1 &&& 65534#64) &&& ~~~ 16896#64) } with c := (((x2 &&& x3) &&& 65534#64) &&& ~~~ 16896#64) } := ⟨_, rfl⟩; replace H := H; rw [← hp3] at H; refine W_draw (KH w [(b6, blk (piC p3) 36)]) (fun i => Nat.ble 8 i) (by kernel_rfl) H ?_; clear H; intro w62 H)
  refine WA_takeM 0 rfl rfl rfl (by kernel_rfl) (by kernel_rfl) (H.kh (by simp) (by repeat' first | exact kNil | apply kCons | apply kApp | assumption | exact OwnS.keys (by assumption))) (fun _ hC => R_mv) ?_
  refine WA_take 4 rfl rfl rfl (by kernel_rfl) (by kernel_rfl) (H.kh (by simp) (by repeat' first | exact kNil | apply kCons | apply kApp | assumption | exact OwnS.keys (by assumption))) (fun _ hC => R_fieldAddr (off' := 6) Tryz.underlying36 rfl Tryz.sizeOf3 (by decide) rfl rfl) ?_
  refine WA_take 5 rfl rfl rfl (by kernel_rfl) (by kernel_rfl) (H.kh (by simp) (by repeat' first | exact kNil | apply kCons | apply kApp | assumption | exact OwnS.keys (by assumption))) (fun _ hC => R_load (v := I p3.c.toInt) Tryz.isAgg3 rfl (hC.get .here) rfl) ?_
  refine WA_one (i := 1) (by kernel_rfl) ?_
  (refine WI_call rfl (.inl rfl) (R_call rfl Tryz.call40 rfl) (next_ret (H.get (.there .here)) (H.get (.there (.there (.there .here)))) (hl.monoN H (by repeat' first | exact kNil | apply kCons | apply kApp | assumption | exact OwnS.keys (by assumption))) (hfr b3 hb3) (by omega) hb) (fun _ _ ⟨_, _, _, _, hR⟩ _ => (H.seq hR (okSeq_set (.there .here) okSeq_nil)).kh (by simp) (by repeat' first | exact kNil | apply kCons | apply kApp | assumption | exact OwnS.keys (by assumption))) ?_; rintro _ w67 ⟨x4, rfl, h40, h41, H1⟩; replace H := H.seq H1 (okSeq_set (.there .here) okSeq_nil); clear H1)
  refine WA_take 2 rfl rfl rfl (by kernel_rfl) (by kernel_rfl) (H.kh (by simp) (by repeat' first | exact kNil | apply kCons | apply kApp | assumption | exact OwnS.keys (by assumption))) (fun _ hC => R_bits rfl rfl (by simp) (bv_and x4 65534#64)) ?_
  refine WA_take 3 rfl rfl rfl (by kernel_rfl) (by kernel_rfl) (H.kh (by simp) (by repeat' first | exact kNil | apply kCons | apply kApp | assumption | exact OwnS.keys (by assumption))) (fun _ hC => R_bits rfl rfl (by simp) (bv_andNot (x4 &&& 65534#64) 16896#64)) ?_
  refine WA_take 6 rfl rfl rfl (by kernel_rfl) (by kernel_rfl) (H.kh (by simp) (by repeat' first | exact kNil | apply kCons | apply kApp | assumption | exact OwnS.keys (by assumption))) (fun _ hC => R_bits rfl rfl (by simp) (bv_andNot ((x4 &&& 65534#64) &&& ~~~ 16896#64) p3.c)) ?_
  refine WA_take 7 rfl rfl rfl (by kernel_rfl) (by kernel_rfl) (H.kh (by simp) (by repeat' first | exact kNil | apply kCons | apply kApp | assumption | exact OwnS.keys (by assumption))) (fun _ hC => R_fieldAddr (off' := 7) Tryz.underlying36 rfl Tryz.sizeOf3 (by decide) rfl rfl) ?_
  refine WA_one (i := 8) (by kernel_rfl) ?_
  (refine WI_effu rfl (.inl rfl) (E_store (v := I (((x4 &&& 65534#64) &&& ~~~ 16896#64) &&& ~~~ p3.c).toInt) H Tryz.sizeOf3 rfl rfl rfl .here (by rw [piC_len]; omega)) (fun _ H => (by first | exact fun h => absurd h (by decide) | exact fun _ => H | exact fun _ => H.none (by repeat' first | exact kNil | apply kCons | apply kApp | assumption | exact OwnS.keys (by assumption)) | exact fun _ => H.dropN (by repeat' first | exact kNil | apply kCons | apply kApp | assumption | exact OwnS.keys (by assumption)) | exact fun _ => H.pop (by assumption) | exact fun _ => (H.pop (by assumption)).pop (by assumption) | exact fun _ => H.kp | exact fun _ => H.kp.tail | exact fun _ => H.kp.tail.tail | exact fun _ => H.kp.tail.tail.tail | exact fun _ => H.kp.sub (by simp) | exact fun _ => Kp.nil | exact fun _ => H.kh (by simp) (by repeat' first | exact kNil | apply kCons | apply kApp | assumption | exact OwnS.keys (by assumption)))) ?_; clear H; intro w73 H; rw [set_d] at H)
  refine WA_done (by kernel_rfl) ?_
  refine W_seq ?_
  refine W_seq ?_
  ((obtain ⟨p4, hp4⟩ : ∃ p4 : Pi, p4 = { p3 with d := (((x4 &&& 65534#64) &&& ~~~ 16896#64) &&& ~~~ p3.c) } := ⟨_, rfl⟩; rw [← hp4] at H; have hpre : Pre p4 := (by rw [hp4, hp3, hp0]; exact ⟨hs1, hpp1, hg1, rfl, rfl, ⟨bv_m1 _ _ _, bv_m2 _ _ _⟩, ⟨bv_m1 _ _ _, bv_m2 _ _ _⟩, ⟨bv_m3 _ _ _ _, bv_m4 _ _ _ _⟩, bv_m5 _ _, rfl⟩))) <;> refine W_region_l ?_
  refine WL_step rfl (R_fieldAddr (off' := 0) Tryz.underlying36 rfl Tryz.sizeOf3 (by decide) rfl rfl) ?_
  refine WL_step rfl (R_load (v := I p4.s) Tryz.isAgg3 rfl (H.get .here) rfl) ?_
  refine WL_step rfl (R_eq rfl rfl) ?_
  refine WL_nil ?_
  refine W_if rfl (fun h82 => ?_) (fun h82 => ?_)
  · refine W_seq ?_
    ((have mk9 : True := trivial)) <;> refine W_region_l ?_
    refine WL_stepM rfl (R_mv) ?_
    refine WL_step rfl (R_shr (r := y.toInt / 512) rfl rfl (by decide) (shr_any 512 (by decide))) ?_
    refine WL_step rfl (R_bits rfl rfl (by simp) (and_mask_i64 8 256 (by decide) rfl (by decide))) ?_
    refine WL_step rfl (R_fieldAddr (off' := 3) Tryz.underlying36 rfl Tryz.sizeOf3 (by decide) rfl rfl) ?_
    (have _g := mk9; refine WL_effu rfl (E_store (v := I (y.toInt / 512 % 256)) H Tryz.sizeOf3 rfl rfl rfl .here (by rw [piC_len]; omega)) ?_; clear H; intro w89 H; rw [set_e] at H)
    refine WL_nil ?_
    refine W_seq ?_
    ((have mk10 : True := trivial)) <;> refine W_region_l ?_
    refine WL_step rfl (R_loadP rfl (H.get .here)) ?_
    (have _g := mk10; refine WL_effu rfl (E_storeP (q := { p4 with e := y.toInt / 512 % 256 }) H rfl rfl (.there (.there .here))) ?_; clear H; intro w94 H)
    refine WL_nil ?_
    refine W_ret ?_
    exact ⟨_, ⟨_, rfl, ldP (p := { p4 with e := y.toInt / 512 % 256 }) (H.get (.there (.there .here)))⟩, _, hpre.okE (by assumption) (by omega) (by omega), rfl, H.none (by repeat' first | exact kNil | apply kCons | apply kApp | assumption | exact OwnS.keys (by assumption))⟩
  · refine W_skip ?_
    refine W_seq ?_
    ((have mk11 : True := trivial)) <;> refine W_region_l ?_
    refine WL_stepM rfl (R_mv) ?_
    (have _g0 := mk11; refine WL_call rfl (R_call rfl Tryz.call40 rfl) (next_ret (H.get (.there .here)) (H.get (.there (.there (.there .here)))) (hl.monoN H (by repeat' first | exact kNil | apply kCons | apply kApp | assumption | exact OwnS.keys (by assumption))) (hfr b3 hb3) (by omega) hb) ?_; rintro _ w102 ⟨x6, rfl, h60, h61, H1⟩; replace H := H.seq H1 (okSeq_set (.there .here) okSeq_nil); clear H1)
    refine WL_stepM rfl (R_mv) ?_
    (have _g0 := mk11; have _g1 := x6; refine WL_call rfl (R_call rfl Tryz.call40 rfl) (next_ret (H.get (.there .here)) (H.get (.there (.there (.there .here)))) (hl.monoN H (by repeat' first | exact kNil | apply kCons | apply kApp | assumption | exact OwnS.keys (by assumption))) (hfr b3 hb3) (by omega) hb) ?_; rintro _ w104 ⟨x7, rfl, h70, h71, H1⟩; replace H := H.seq H1 (okSeq_set (.there .here) okSeq_nil); clear H1)
    refine WL_step rfl (R_bits rfl rfl (by simp) (bv_and x6 x7)) ?_
    refine WL_step rfl (R_bits rfl rfl (by simp) (bv_and (x6 &&& x7) 65534#64)) ?_
    refine WL_step rfl (R_fieldAddr (off' := 4) Tryz.underlying36 rfl Tryz.sizeOf3 (by decide) rfl rfl) ?_
    (have _g := mk11; refine WL_effu rfl (E_store (v := I ((x6 &&& x7) &&& 65534#64).toInt) H Tryz.sizeOf3 rfl rfl rfl .here (by rw [piC_len]; omega)) ?_; clear H; intro w108 H; rw [set_a] at H)
    refine WL_nil ?_
    refine W_seq ?_
    refine W_seq ?_
    refine W_region_l ?_
    refine WL_stepM rfl (R_as) ?_
    refine WL_nil ?_
    refine W_block ?_
    refine W_loopS [(7, 8), (61, 75)] (fun (i : Nat) E w' => ∃ q n, i ≤ 8 ∧ E 7 = I i ∧ okP q ∧ ¬ q.s = 2 ∧ n ≤ 100 + i ∧ Hp w [(b6, blk (piC q) 36), (b3, blk [I ((n : Nat) : Int)] 3), (b2, blk (piC zeroP) 36), (b1, blk [.slice al xs.length cl] 52)] w') (fun i => 8 - i) 0 ?e0 ?r0
    · exact ⟨{ p4 with a := ((x6 &&& x7) &&& 65534#64) }, 0 + 1 + 1 + 1 + 1 + 1 + 1 + 1, by omega, rfl, hpre.okA (by assumption) (bv_m6 _ _), by assumption, by omega, H⟩
    · (clear H; rintro i E w1 ⟨q, n, hi, h7i, hq, hqs, hn, H⟩; refine W_kn h7i ?_; by_cases hlt : i < 8)
      · refine W_seq ?_
        refine W_seq ?_
        refine W_region_l ?_
        refine WL_stepM rfl (R_mv) ?_
        refine WL_step rfl (R_lt_t rfl rfl (by omega)) ?_
        refine WL_nil ?_
        refine W_cond_t rfl ?_
        refine W_skip ?_
        refine W_seq ?_
        refine W_block ?_
        refine W_seq ?_
        ((have mk15 : True := trivial)) <;> refine W_region_l ?_
        refine WL_stepM rfl (R_mv) ?_
        (have _g0 := mk15; refine WL_call rfl (R_call rfl Tryz.call40 rfl) (next_ret (H.get (.there .here)) (H.get (.there (.there (.there .here)))) (hl.monoN H (by repeat' first | exact kNil | apply kCons | apply kApp | assumption | exact OwnS.keys (by assumption))) (hfr b3 hb3) (by omega) hb) ?_; rintro _ w131 ⟨xl, rfl, hxl0, hxl1, H1⟩; replace H := H.seq H1 (okSeq_set (.there .here) okSeq_nil); clear H1)
        refine WL_stepM rfl (R_as) ?_
        refine WL_nil ?_
        refine W_seq ?_
        refine W_region_l ?_
        refine WL_stepM rfl (R_mv) ?_
        refine WL_step rfl (R_bits rfl rfl (by simp) (and_mask_i64 2 4 (by decide) rfl (by decide))) ?_
        refine WL_step rfl (R_ne rfl rfl) ?_
        refine WL_nil ?_
        refine W_if rfl (fun h140 => ?_) (fun h140 => ?_)
        · refine W_region_l ?_
          refine WL_stepM rfl (R_mv) ?_
          refine WL_stepM rfl (R_mv) ?_
          refine WL_step rfl (R_shr (r := xl.toInt / 4) rfl rfl (by decide) (shr_any 4 (by decide))) ?_
          refine WL_step rfl (R_rem (r := xl.toInt / 4 % 13) rfl rfl (by omega) (rem_pos (by omega))) ?_
          refine WL_step rfl (R_fieldAddr (off' := 8) Tryz.underlying36 rfl Tryz.sizeOf34 (by decide) rfl rfl) ?_
          refine WL_step rfl (R_indexAddrA (off' := 8 + i) Tryz.underlying34 Tryz.sizeOf3 rfl rfl (by omega) (by omega) (by omega)) ?_
          (have _g := mk15; refine WL_effu rfl (E_store (v := I (xl.toInt / 4 % 13)) H Tryz.sizeOf3 rfl rfl rfl .here (by rw [piC_len]; omega)) ?_; clear H; intro w148 H; rw [set_pi] at H)
          refine WL_nil ?_
          refine W_region_l ?_
          refine WL_stepM rfl (R_mv) ?_
          refine WL_step rfl (R_add rfl rfl (w_i64 (by omega))) ?_
          refine WL_stepM rfl (R_as) ?_
          refine WL_nil ?_
          exact ⟨(same_mov rfl (same_updo rfl (same_mov rfl (same_updn (same_updo rfl (same_updo rfl (same_updo rfl (same_updo rfl (same_mov rfl (same_mov rfl (same_know rfl (same_updo rfl (same_updo rfl (same_mov rfl (same_mov rfl (same_updo rfl (same_mov rfl (same_updo rfl (same_mov rfl same_ovr))))))))))))))))))), i + 1, by omega, setF q i (xl.toInt / 4 % 13), n + 1, by omega, rfl, setF_ok hq hqs (by omega) (by omega), hqs, by omega, H⟩
        · refine W_skip ?_
          refine W_region_l ?_
          refine WL_stepM rfl (R_mv) ?_
          refine WL_step rfl (R_add rfl rfl (w_i64 (by omega))) ?_
          refine WL_stepM rfl (R_as) ?_
          refine WL_nil ?_
          exact ⟨(same_mov rfl (same_updo rfl (same_mov rfl (same_know rfl (same_updo rfl (same_updo rfl (same_mov rfl (same_mov rfl (same_updo rfl (same_mov rfl (same_updo rfl (same_mov rfl same_ovr)))))))))))), i + 1, by omega, q, n + 1, by omega, rfl, hq, hqs, by omega, H⟩
      · refine W_seq ?_
        refine W_seq ?_
        refine W_region_l ?_
        refine WL_stepM rfl (R_mv) ?_
        refine WL_step rfl (R_lt_f rfl rfl (by omega)) ?_
        refine WL_nil ?_
        refine W_cond_f rfl ?_
        refine W_exit ?_
        refine (if_pos rfl).mpr ?_
        refine W_seq ?_
        ((have mk18 : True := trivial)) <;> refine W_region_l ?_
        refine WL_step rfl (R_loadP rfl (H.get .here)) ?_
        (have _g := mk18; refine WL_effu rfl (E_storeP (q := q) H rfl rfl (.there (.there .here))) ?_; clear H; intro w175 H)
        refine WL_nil ?_
        refine W_ret ?_
        exact ⟨_, ⟨_, rfl, ldP (p := q) (H.get (.there (.there .here)))⟩, q, hq, rfl, H.none (by repeat' first | exact kNil | apply kCons | apply kApp | assumption | exact OwnS.keys (by assumption))⟩
end Go.Proofs.YthonajikgljgmaaGreat.Slot

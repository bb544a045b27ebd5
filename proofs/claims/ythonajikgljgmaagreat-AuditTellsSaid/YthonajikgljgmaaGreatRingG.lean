/-
  Pipes got of bytes.
-/
import Derived.Test.YthonajikgljgmaaGreatRingM
namespace Go.Proofs.YthonajikgljgmaaGreat.Ring
open Go Go.Proofs Go.Proofs.YthonajikgljgmaaGreat.Fx Go.Proofs.YthonajikgljgmaaGreat.Codec
set_option maxRecDepth 100000
set_option linter.unusedVariables false
set_option linter.unusedSimpArgs false
set_option maxHeartbeats 2000000

theorem pi_ext {p q : Pi} (h1 : p.h = q.h) (h2 : p.c = q.c) (h3 : p.r = q.r) (h4 : p.w = q.w) (h5 : p.d = q.d) : p = q := by
  obtain ⟨a, b, c, d, e, _⟩ := p
  obtain ⟨a', b', c', d', e', _⟩ := q
  simp only at h1 h2 h3 h4 h5
  subst h1 h2 h3 h4 h5
  rfl
/-- thirty-two bytes -/
def data32 (l : List UInt8) : List UInt8 := (l ++ List.replicate 32 0).take 32
theorem data32_len (l : List UInt8) : (data32 l).length = 32 := by simp [data32]
theorem data32_of {l : List UInt8} (h : l.length = 32) : data32 l = l := by unfold data32; rw [List.take_left' h]
/-- the pipe that bytes would be -/
def ofB (xs : List UInt8) : Pi := ⟨(xs[1]?.getD 0).toNat, (xs[2]?.getD 0).toNat, (xs[3]?.getD 0).toNat, (xs[4]?.getD 0).toNat, data32 (xs.drop 8), data32_len _⟩
def good (xs : List UInt8) : Prop := xs.length = 40 ∧ okP (ofB xs) ∧ bytesP (ofB xs) = xs
instance (xs : List UInt8) : Decidable (good xs) := by unfold good; infer_instance
/-- what bytes are -/
def decP (xs : List UInt8) : Pi × Int := if xs.length = 40 ∧ ∀ x ∈ xs, x = 0 then (zeroP, 0) else if good xs then (ofB xs, 1) else (zeroP, 2)

theorem decP_free {xs : List UInt8} (h8 : xs.length = 40) (hz : ∀ x ∈ xs, x = 0) : decP xs = (zeroP, 0) := if_pos ⟨h8, hz⟩
theorem good_not_free {xs : List UInt8} (h : good xs) : ¬ (xs.length = 40 ∧ ∀ x ∈ xs, x = 0) := by
  rintro ⟨h8, hz⟩
  have h1 := h.2.2
  have : (1 : UInt8) ∈ xs := by rw [← h1]; simp [bytesP, hb6]
  exact absurd (hz 1 this) (by decide)
theorem decP_good {xs : List UInt8} (h : good xs) : decP xs = (ofB xs, 1) := by
  unfold decP; rw [if_neg (good_not_free h), if_pos h]
theorem decP_bad {xs : List UInt8} (h : ¬ good xs) (hf : ¬ (xs.length = 40 ∧ ∀ x ∈ xs, x = 0)) : decP xs = (zeroP, 2) := by
  unfold decP; rw [if_neg hf, if_neg h]
theorem b8_n (k : Int) (h0 : 0 ≤ k) (h1 : k ≤ 255) : (((b8 k).toNat : Nat) : Int) = k := by
  unfold b8
  rw [UInt8.toNat_ofNat']
  omega
theorem ofB_bytes {f : Pi} (h : okP f) : ofB (bytesP f) = f := by
  unfold okP at h
  have hd := f.hd
  refine pi_ext ?_ ?_ ?_ ?_ ?_
  · exact b8_n f.h (by omega) (by omega)
  · exact b8_n f.c (by omega) (by omega)
  · exact b8_n f.r (by omega) (by omega)
  · exact b8_n f.w (by omega) (by omega)
  · show data32 ((bytesP f).drop 8) = f.d
    rw [show (bytesP f).drop 8 = f.d by unfold bytesP; rw [List.drop_left' (by simp [hb6])], data32_of hd]
theorem good_bytes {f : Pi} (h : okP f) : good (bytesP f) := ⟨bytes_len f, by rw [ofB_bytes h]; exact h, by rw [ofB_bytes h]⟩
theorem decP_bytes {f : Pi} (h : okP f) : decP (bytesP f) = (f, 1) := by rw [decP_good (good_bytes h), ofB_bytes h]

theorem get_cells (xs : List UInt8) (h : xs.length = 40) (p : Pi) (h1 : p.h = (xs[1]?.getD 0).toNat) (h2 : p.c = (xs[2]?.getD 0).toNat) (h3 : p.r = (xs[3]?.getD 0).toNat) (h4 : p.w = (xs[4]?.getD 0).toNat) :
    (piC p).take 4 ++ ((xs.drop 8).map U).take 32 ++ (piC p).drop (4 + min ((xs.drop 8).map U).length 32) = piC (ofB xs) := by
  have hl : (xs.drop 8).length = 32 := by simp; omega
  have hp := piC_len p
  rw [List.take_of_length_le (l := (xs.drop 8).map U) (by simp; omega), List.length_map, hl, List.drop_of_length_le (l := piC p) (by omega), List.append_nil]
  unfold piC
  rw [show ([I p.h, I p.c, I p.r, I p.w] ++ p.d.map U).take 4 = [I p.h, I p.c, I p.r, I p.w] from List.take_left' rfl]
  show _ = [I (ofB xs).h, I (ofB xs).c, I (ofB xs).r, I (ofB xs).w] ++ (data32 (xs.drop 8)).map U
  rw [data32_of hl, h1, h2, h3, h4]
  rfl

theorem R_zeroP {E : Env} {w : World} {d : Option Nat} {ty : TypeId} {pos : String} {after : Array Edge} : (execOp (ev E) (mk d (.build 43 #[]) ty pos after)).run Tryz.prog w = .ok (.value (vP zeroP)) w :=
  R_buildL (places := [(0, 1), (1, 1), (2, 1), (3, 1), (4, 32)]) (vs := piC zeroP) Tryz.underlying43 Tryz.typeInfo43 rfl rfl (by kernel_rfl) rfl rfl rfl
theorem u_one (l : List UInt8) : ∀ v ∈ l.map U, v.oneCell' = true := by
  intro v hv
  obtain ⟨x, _, rfl⟩ := List.mem_map.1 hv
  rfl

theorem get_ret {xs : List UInt8} {w : World} {l : Value} (hl : RdS w l (xs.map U)) (h8 : xs.length = 40) :
    Ret Tryz.prog 81 #[l] w fun v w' => v = .tuple #[vP (ofB xs), .bool (decide (okP (ofB xs) ∧ bytesP (ofB xs) = xs))] ∧ Hp w [] w' := by
  refine Ret_of_WC (args := [_]) Tryz.func81 rfl Tryz.ntmps81 Tryz.results81 (by simp) ?_
  have H := Hp.refl w
  obtain ⟨a, ha⟩ : ∃ a, xs[1]? = some a := ⟨_, List.getElem?_eq_getElem (by omega)⟩
  obtain ⟨b, hb⟩ : ∃ a, xs[2]? = some a := ⟨_, List.getElem?_eq_getElem (by omega)⟩
  obtain ⟨c, hc⟩ : ∃ a, xs[3]? = some a := ⟨_, List.getElem?_eq_getElem (by omega)⟩
  obtain ⟨d, hd⟩ : ∃ a, xs[4]? = some a := ⟨_, List.getElem?_eq_getElem (by omega)⟩
  have hl0 := hl
  obtain ⟨ao, ca, hlca, hra, rfl⟩ : ∃ ao ca, xs.length ≤ ca ∧ (xs.map U = [] ∨ ∃ b off, ao = some ⟨b, off, none⟩ ∧ ∀ j u, (xs.map U)[j]? = some u → w.cell? ⟨b, off + j, none⟩ = some u) ∧ l = .slice ao xs.length ca := by
    obtain ⟨ao, ca, h1, h2, h3⟩ := hl
    rw [List.length_map] at h1 h2
    exact ⟨ao, ca, h2, h3, h1⟩
  obtain ⟨bz, oz, rfl, hcell⟩ : ∃ b off, ao = some ⟨b, off, none⟩ ∧ ∀ j u, (xs.map U)[j]? = some u → w.cell? ⟨b, off + j, none⟩ = some u := by
    rcases hra with h | h
    · have := congrArg List.length h; rw [List.length_map, List.length_nil] at this; omega
    · exact h
  have hm : ∀ {i : Nat} {u : UInt8}, xs[i]? = some u → (xs.map U)[i]? = some (U u) := fun h => by rw [List.getElem?_map, h]; rfl
  have h1 := hcell 1 _ (hm ha)
  have h2 := hcell 2 _ (hm hb)
  have h3 := hcell 3 _ (hm hc)
  have h4 := hcell 4 _ (hm hd)
  have hr8 : RdS w (sl bz (oz + 8) 32 (ca - 8)) ((xs.drop 8).map U) := by
    refine ⟨some ⟨bz, oz + 8, none⟩, ca - 8, by rw [List.length_map, List.length_drop, h8], by rw [List.length_map, List.length_drop, h8]; omega, .inr ⟨bz, oz + 8, rfl, fun j u hj => ?_⟩⟩
    rw [Nat.add_assoc]
    refine hcell (8 + j) u ?_
    rw [List.map_drop, List.getElem?_drop] at hj
    exact hj
  have ha8 := a.toNat_lt
  have hb8 := b.toNat_lt
  have hc8 := c.toNat_lt
  have hd8 := d.toNat_lt
  rw [h8] at hl0 ⊢
  rw [h8] at hlca
  obtain ⟨p0, hp0⟩ : ∃ p0 : Pi, p0 = ⟨a.toNat, b.toNat, c.toNat, d.toNat, List.replicate 32 0, rfl⟩ := ⟨_, rfl⟩
  have hcells := get_cells xs h8 p0 (by rw [hp0, ha]; rfl) (by rw [hp0, hb]; rfl) (by rw [hp0, hc]; rfl) (by rw [hp0, hd]; rfl)
  have hp0v : (piC p0) = [I a.toNat, I b.toNat, I c.toNat, I d.toNat] ++ (List.replicate 32 0).map U := by rw [hp0]; rfl
  obtain ⟨ff, hff⟩ : ∃ ff : Pi, ff = ofB xs := ⟨_, rfl⟩
  rw [← hff]
  rw [← hff] at hcells
  refine W_seq ?_
  refine W_region_l ?_
  (refine WL_effn rfl (E_allocP H) ?_; clear H; intro b2 w3 hb2 H)
  refine WL_stepM rfl (R_as) ?_
  refine WL_nil ?_
  refine W_seq ?_
  (refine W_draw (KH w [(b2, blk (piC zeroP) 43)]) (fun _ => false) (by kernel_rfl) H ?_; clear H; intro w7 H)
  refine WA_takeM 0 rfl rfl rfl (by kernel_rfl) (by kernel_rfl) (H.kh (by simp) (by repeat' first | exact kNil | apply kCons | apply kApp | assumption | exact OwnS.keys (by assumption))) (fun _ hC => R_mv) ?_
  refine WA_take 1 rfl rfl rfl (by kernel_rfl) (by kernel_rfl) (H.kh (by simp) (by repeat' first | exact kNil | apply kCons | apply kApp | assumption | exact OwnS.keys (by assumption))) (fun _ hC => R_indexAddr Tryz.underlying22 Tryz.sizeOf5 rfl rfl (by omega) (by omega) idx_cast1) ?_
  refine WA_take 2 rfl rfl rfl (by kernel_rfl) (by kernel_rfl) (H.kh (by simp) (by repeat' first | exact kNil | apply kCons | apply kApp | assumption | exact OwnS.keys (by assumption))) (fun _ hC => R_load_cell Tryz.isAgg5 rfl (hC.old.cell h1 (by simp))) ?_
  refine WA_take 3 rfl rfl rfl (by kernel_rfl) (by kernel_rfl) (H.kh (by simp) (by repeat' first | exact kNil | apply kCons | apply kApp | assumption | exact OwnS.keys (by assumption))) (fun _ hC => R_conv_int Tryz.underlying5 Tryz.underlying3 rfl u8_in_i64) ?_
  refine WA_takeM 4 rfl rfl rfl (by kernel_rfl) (by kernel_rfl) (H.kh (by simp) (by repeat' first | exact kNil | apply kCons | apply kApp | assumption | exact OwnS.keys (by assumption))) (fun _ hC => R_mv) ?_
  refine WA_take 5 rfl rfl rfl (by kernel_rfl) (by kernel_rfl) (H.kh (by simp) (by repeat' first | exact kNil | apply kCons | apply kApp | assumption | exact OwnS.keys (by assumption))) (fun _ hC => R_indexAddr Tryz.underlying22 Tryz.sizeOf5 rfl rfl (by omega) (by omega) idx_cast1) ?_
  refine WA_take 6 rfl rfl rfl (by kernel_rfl) (by kernel_rfl) (H.kh (by simp) (by repeat' first | exact kNil | apply kCons | apply kApp | assumption | exact OwnS.keys (by assumption))) (fun _ hC => R_load_cell Tryz.isAgg5 rfl (hC.old.cell h2 (by simp))) ?_
  refine WA_take 7 rfl rfl rfl (by kernel_rfl) (by kernel_rfl) (H.kh (by simp) (by repeat' first | exact kNil | apply kCons | apply kApp | assumption | exact OwnS.keys (by assumption))) (fun _ hC => R_conv_int Tryz.underlying5 Tryz.underlying3 rfl u8_in_i64) ?_
  refine WA_takeM 8 rfl rfl rfl (by kernel_rfl) (by kernel_rfl) (H.kh (by simp) (by repeat' first | exact kNil | apply kCons | apply kApp | assumption | exact OwnS.keys (by assumption))) (fun _ hC => R_mv) ?_
  refine WA_take 9 rfl rfl rfl (by kernel_rfl) (by kernel_rfl) (H.kh (by simp) (by repeat' first | exact kNil | apply kCons | apply kApp | assumption | exact OwnS.keys (by assumption))) (fun _ hC => R_indexAddr Tryz.underlying22 Tryz.sizeOf5 rfl rfl (by omega) (by omega) idx_cast1) ?_
  refine WA_take 10 rfl rfl rfl (by kernel_rfl) (by kernel_rfl) (H.kh (by simp) (by repeat' first | exact kNil | apply kCons | apply kApp | assumption | exact OwnS.keys (by assumption))) (fun _ hC => R_load_cell Tryz.isAgg5 rfl (hC.old.cell h3 (by simp))) ?_
  refine WA_take 11 rfl rfl rfl (by kernel_rfl) (by kernel_rfl) (H.kh (by simp) (by repeat' first | exact kNil | apply kCons | apply kApp | assumption | exact OwnS.keys (by assumption))) (fun _ hC => R_conv_int Tryz.underlying5 Tryz.underlying3 rfl u8_in_i64) ?_
  refine WA_takeM 12 rfl rfl rfl (by kernel_rfl) (by kernel_rfl) (H.kh (by simp) (by repeat' first | exact kNil | apply kCons | apply kApp | assumption | exact OwnS.keys (by assumption))) (fun _ hC => R_mv) ?_
  refine WA_take 13 rfl rfl rfl (by kernel_rfl) (by kernel_rfl) (H.kh (by simp) (by repeat' first | exact kNil | apply kCons | apply kApp | assumption | exact OwnS.keys (by assumption))) (fun _ hC => R_indexAddr Tryz.underlying22 Tryz.sizeOf5 rfl rfl (by omega) (by omega) idx_cast1) ?_
  refine WA_take 14 rfl rfl rfl (by kernel_rfl) (by kernel_rfl) (H.kh (by simp) (by repeat' first | exact kNil | apply kCons | apply kApp | assumption | exact OwnS.keys (by assumption))) (fun _ hC => R_load_cell Tryz.isAgg5 rfl (hC.old.cell h4 (by simp))) ?_
  refine WA_take 15 rfl rfl rfl (by kernel_rfl) (by kernel_rfl) (H.kh (by simp) (by repeat' first | exact kNil | apply kCons | apply kApp | assumption | exact OwnS.keys (by assumption))) (fun _ hC => R_conv_int Tryz.underlying5 Tryz.underlying3 rfl u8_in_i64) ?_
  refine WA_take 16 rfl rfl rfl (by kernel_rfl) (by kernel_rfl) (H.kh (by simp) (by repeat' first | exact kNil | apply kCons | apply kApp | assumption | exact OwnS.keys (by assumption))) (fun _ hC => R_buildL (places := [(0, 1), (1, 1), (2, 1), (3, 1), (4, 32)]) (vs := [I a.toNat, I b.toNat, I c.toNat, I d.toNat] ++ (List.replicate 32 0).map U) Tryz.underlying43 Tryz.typeInfo43 rfl rfl (by kernel_rfl) rfl rfl rfl) ?_
  refine WA_one (i := 17) (by kernel_rfl) ?_
  (refine WI_effnA rfl (.inl rfl) (E_allocP H) (fun _ _ _ H => (by first | exact fun h => absurd h (by decide) | exact fun _ => H | exact fun _ => H.none (by repeat' first | exact kNil | apply kCons | apply kApp | assumption | exact OwnS.keys (by assumption)) | exact fun _ => H.dropN (by repeat' first | exact kNil | apply kCons | apply kApp | assumption | exact OwnS.keys (by assumption)) | exact fun _ => H.pop (by assumption) | exact fun _ => (H.pop (by assumption)).pop (by assumption) | exact fun _ => H.kp | exact fun _ => H.kp.tail | exact fun _ => H.kp.tail.tail | exact fun _ => H.kp.tail.tail.tail | exact fun _ => H.kp.sub (by simp) | exact fun _ => Kp.nil | exact fun _ => H.kh (by simp) (by repeat' first | exact kNil | apply kCons | apply kApp | assumption | exact OwnS.keys (by assumption)))) ?_; clear H; intro b4 w26 hb4 H)
  refine WA_one (i := 18) (by kernel_rfl) ?_
  (refine WI_effu rfl (.inl rfl) (E_storeP (q := p0) H rfl (congrArg (fun l => Value.agg (List.toArray l)) hp0v.symm) .here) (fun _ H => (by first | exact fun h => absurd h (by decide) | exact fun _ => H | exact fun _ => H.none (by repeat' first | exact kNil | apply kCons | apply kApp | assumption | exact OwnS.keys (by assumption)) | exact fun _ => H.dropN (by repeat' first | exact kNil | apply kCons | apply kApp | assumption | exact OwnS.keys (by assumption)) | exact fun _ => H.pop (by assumption) | exact fun _ => (H.pop (by assumption)).pop (by assumption) | exact fun _ => H.kp | exact fun _ => H.kp.tail | exact fun _ => H.kp.tail.tail | exact fun _ => H.kp.tail.tail.tail | exact fun _ => H.kp.sub (by simp) | exact fun _ => Kp.nil | exact fun _ => H.kh (by simp) (by repeat' first | exact kNil | apply kCons | apply kApp | assumption | exact OwnS.keys (by assumption)))) ?_; clear H; intro w28 H)
  refine WA_done (by kernel_rfl) ?_
  refine W_seq ?_
  (refine W_draw (Kp []) (fun _ => false) (by kernel_rfl) H ?_; clear H; intro w31 H)
  refine WA_take 0 rfl rfl rfl (by kernel_rfl) (by kernel_rfl) (H.kp.sub (by simp)) (fun _ hC => R_fieldAddr (off' := 4) Tryz.underlying43 rfl Tryz.sizeOf41 (by decide) rfl rfl) ?_
  refine WA_take 1 rfl rfl rfl (by kernel_rfl) (by kernel_rfl) (H.kp.sub (by simp)) (fun _ hC => R_all Tryz.underlying41 Tryz.sizeOf5 rfl (by decide)) ?_
  refine WA_takeM 2 rfl rfl rfl (by kernel_rfl) (by kernel_rfl) (H.kp.sub (by simp)) (fun _ hC => R_mv) ?_
  refine WA_take 3 rfl rfl rfl (by kernel_rfl) (by kernel_rfl) (H.kp.sub (by simp)) (fun _ hC => R_from (k := 8) (m := 32) (k' := 8) Tryz.underlying22 Tryz.sizeOf5 rfl rfl rfl hlca rfl (by omega)) ?_
  refine WA_one (i := 4) (by kernel_rfl) ?_
  (refine WI_effm rfl (.inl rfl) (E_copy (xs := (xs.drop 8).map U) (off := 4) (c := piC p0) H .here Tryz.underlying22 Tryz.sizeOf5 rfl rfl (hr8.monoN H (by repeat' first | exact kNil | apply kCons | apply kApp | assumption | exact OwnS.keys (by assumption))).csrc (by rw [piC_len]; decide) (u_one _)) (fun _ _ H => (by first | exact fun h => absurd h (by decide) | exact fun _ => H | exact fun _ => H.none (by repeat' first | exact kNil | apply kCons | apply kApp | assumption | exact OwnS.keys (by assumption)) | exact fun _ => H.dropN (by repeat' first | exact kNil | apply kCons | apply kApp | assumption | exact OwnS.keys (by assumption)) | exact fun _ => H.pop (by assumption) | exact fun _ => (H.pop (by assumption)).pop (by assumption) | exact fun _ => H.kp | exact fun _ => H.kp.tail | exact fun _ => H.kp.tail.tail | exact fun _ => H.kp.tail.tail.tail | exact fun _ => H.kp.sub (by simp) | exact fun _ => Kp.nil | exact fun _ => H.kh (by simp) (by repeat' first | exact kNil | apply kCons | apply kApp | assumption | exact OwnS.keys (by assumption)))) ?_; clear H; rintro _ _ w37 rfl H; rw [hcells] at H)
  refine WA_done (by kernel_rfl) ?_
  refine W_seq ?_
  refine W_region_l ?_
  refine WL_step rfl (R_loadP rfl (H.get .here)) ?_
  (refine WL_call rfl (R_call rfl Tryz.call36 rfl) (enc_ret ff _) ?_; rintro _ w42 (⟨hok, b9, rfl, hb9, H1⟩ | ⟨hok, rfl, H1⟩); (have hsz := H.size; replace H := H.seqN H1 (kCons hb9 kNil); replace hb9 := Nat.le_trans hsz hb9; clear H1 hsz); rotate_left; (replace H := H.seq0 H1; clear H1))
  · refine WL_stepM rfl (R_mv) ?_
    refine WL_step rfl (R_extract rfl rfl) ?_
    refine WL_step rfl (R_extract rfl rfl) ?_
    refine WL_stepM rfl (R_as) ?_
    refine WL_stepM rfl (R_as) ?_
    refine WL_nil ?_
    refine W_seq ?_
    (refine W_draw (KH w [(b4, blk (piC ff) 43)]) (fun _ => false) (by kernel_rfl) H ?_; clear H; intro w50 H)
    refine WA_take 0 rfl rfl rfl (by kernel_rfl) (by kernel_rfl) (H.kh (by simp) (by repeat' first | exact kNil | apply kCons | apply kApp | assumption | exact OwnS.keys (by assumption))) (fun _ hC => R_loadP rfl (hC.get .here)) ?_
    refine WA_takeM 1 rfl rfl rfl (by kernel_rfl) (by kernel_rfl) (H.kh (by simp) (by repeat' first | exact kNil | apply kCons | apply kApp | assumption | exact OwnS.keys (by assumption))) (fun _ hC => R_mv) ?_
    refine WA_takeM 2 rfl rfl rfl (by kernel_rfl) (by kernel_rfl) (H.kh (by simp) (by repeat' first | exact kNil | apply kCons | apply kApp | assumption | exact OwnS.keys (by assumption))) (fun _ hC => R_mv) ?_
    refine WA_pass 3 rfl rfl rfl (fun h => nomatch h) (by kernel_rfl) (by kernel_rfl) (H.kh (by simp) (by repeat' first | exact kNil | apply kCons | apply kApp | assumption | exact OwnS.keys (by assumption))) ?_
    refine WA_pass 4 rfl rfl rfl (fun h => nomatch h) (by kernel_rfl) (by kernel_rfl) (H.kh (by simp) (by repeat' first | exact kNil | apply kCons | apply kApp | assumption | exact OwnS.keys (by assumption))) ?_
    refine WA_pass 5 rfl rfl rfl (fun h => nomatch h) (by kernel_rfl) (by kernel_rfl) (H.kh (by simp) (by repeat' first | exact kNil | apply kCons | apply kApp | assumption | exact OwnS.keys (by assumption))) ?_
    refine WA_takeM 6 rfl rfl rfl (by kernel_rfl) (by kernel_rfl) (H.kh (by simp) (by repeat' first | exact kNil | apply kCons | apply kApp | assumption | exact OwnS.keys (by assumption))) (fun _ hC => R_pk_f rfl) ?_
    refine WA_one (i := 7) (by kernel_rfl) ?_
    (refine WI_effu rfl (.inl rfl) (E_storeP (q := ff) H rfl rfl (.there .here)) (fun _ H => (by first | exact fun h => absurd h (by decide) | exact fun _ => H | exact fun _ => H.none (by repeat' first | exact kNil | apply kCons | apply kApp | assumption | exact OwnS.keys (by assumption)) | exact fun _ => H.dropN (by repeat' first | exact kNil | apply kCons | apply kApp | assumption | exact OwnS.keys (by assumption)) | exact fun _ => H.pop (by assumption) | exact fun _ => (H.pop (by assumption)).pop (by assumption) | exact fun _ => H.kp | exact fun _ => H.kp.tail | exact fun _ => H.kp.tail.tail | exact fun _ => H.kp.tail.tail.tail | exact fun _ => H.kp.sub (by simp) | exact fun _ => Kp.nil | exact fun _ => H.kh (by simp) (by repeat' first | exact kNil | apply kCons | apply kApp | assumption | exact OwnS.keys (by assumption)))) ?_; clear H; intro w59 H)
    refine WA_takeM 8 rfl rfl rfl (by kernel_rfl) (by kernel_rfl) (H.kh (by simp) (by repeat' first | exact kNil | apply kCons | apply kApp | assumption | exact OwnS.keys (by assumption))) (fun _ hC => R_as) ?_
    refine WA_done (by kernel_rfl) ?_
    refine W_ret ?_
    exact ⟨_, ⟨_, _, rfl, ldP (p := ff) (H.get (.there .here)), rfl⟩, congrArg (fun b => Value.tuple #[vP ff, .bool b]) (decide_eq_false (fun h => hok h.1)).symm, H.none (by repeat' first | exact kNil | apply kCons | apply kApp | assumption | exact OwnS.keys (by assumption))⟩
  · refine WL_stepM rfl (R_mv) ?_
    refine WL_step rfl (R_extract rfl rfl) ?_
    refine WL_step rfl (R_extract rfl rfl) ?_
    refine WL_stepM rfl (R_as) ?_
    refine WL_stepM rfl (R_as) ?_
    refine WL_nil ?_
    refine W_seq ?_
    (refine W_draw (KH w [(b9, blk ((bytesP ff).map U) 5), (b4, blk (piC ff) 43)]) (fun _ => false) (by kernel_rfl) H ?_; clear H; intro w71 H)
    refine WA_take 0 rfl rfl rfl (by kernel_rfl) (by kernel_rfl) (H.kh (by simp) (by repeat' first | exact kNil | apply kCons | apply kApp | assumption | exact OwnS.keys (by assumption))) (fun _ hC => R_loadP rfl (hC.get (.there .here))) ?_
    refine WA_takeM 1 rfl rfl rfl (by kernel_rfl) (by kernel_rfl) (H.kh (by simp) (by repeat' first | exact kNil | apply kCons | apply kApp | assumption | exact OwnS.keys (by assumption))) (fun _ hC => R_mv) ?_
    refine WA_takeM 2 rfl rfl rfl (by kernel_rfl) (by kernel_rfl) (H.kh (by simp) (by repeat' first | exact kNil | apply kCons | apply kApp | assumption | exact OwnS.keys (by assumption))) (fun _ hC => R_mv) ?_
    refine WA_takeGM 3 rfl rfl rfl rfl (by kernel_rfl) (by kernel_rfl) (H.kh (by simp) (by repeat' first | exact kNil | apply kCons | apply kApp | assumption | exact OwnS.keys (by assumption))) (fun _ hC => R_mv) ?_
    refine WA_takeGM 4 rfl rfl rfl rfl (by kernel_rfl) (by kernel_rfl) (H.kh (by simp) (by repeat' first | exact kNil | apply kCons | apply kApp | assumption | exact OwnS.keys (by assumption))) (fun _ hC => R_mv) ?_
    refine WA_one (i := 5) (by kernel_rfl) ?_
    (refine WI_call rfl (.inr ⟨_, _, rfl, rfl⟩) (R_call rfl Tryz.call92 rfl) (equal_ret (xs := bytesP ff) (ys := xs) (RdS.blk (c := (bytesP ff).map U) (off := 0) (H.get .here) (by rw [List.drop_zero, List.take_of_length_le (by rw [List.length_map, bytes_len]; decide)]) (by rw [List.length_map, bytes_len]; decide) (by decide)) (hl0.monoN H (by repeat' first | exact kNil | apply kCons | apply kApp | assumption | exact OwnS.keys (by assumption))) (by rw [bytes_len]; decide) (by omega)) (fun _ _ hR _ => (H.seq0 hR.2).kh (by simp) (by repeat' first | exact kNil | apply kCons | apply kApp | assumption | exact OwnS.keys (by assumption))) ?_; rintro _ w78 ⟨rfl, H1⟩; replace H := H.seq0 H1; clear H1)
    refine WA_takeM 6 rfl rfl rfl (by kernel_rfl) (by kernel_rfl) (H.kh (by simp) (by repeat' first | exact kNil | apply kCons | apply kApp | assumption | exact OwnS.keys (by assumption))) (fun _ hC => R_pk_t rfl) ?_
    refine WA_one (i := 7) (by kernel_rfl) ?_
    (refine WI_effu rfl (.inl rfl) (E_storeP (q := ff) H rfl rfl (.there (.there .here))) (fun _ H => (by first | exact fun h => absurd h (by decide) | exact fun _ => H | exact fun _ => H.none (by repeat' first | exact kNil | apply kCons | apply kApp | assumption | exact OwnS.keys (by assumption)) | exact fun _ => H.dropN (by repeat' first | exact kNil | apply kCons | apply kApp | assumption | exact OwnS.keys (by assumption)) | exact fun _ => H.pop (by assumption) | exact fun _ => (H.pop (by assumption)).pop (by assumption) | exact fun _ => H.kp | exact fun _ => H.kp.tail | exact fun _ => H.kp.tail.tail | exact fun _ => H.kp.tail.tail.tail | exact fun _ => H.kp.sub (by simp) | exact fun _ => Kp.nil | exact fun _ => H.kh (by simp) (by repeat' first | exact kNil | apply kCons | apply kApp | assumption | exact OwnS.keys (by assumption)))) ?_; clear H; intro w81 H)
    refine WA_takeM 8 rfl rfl rfl (by kernel_rfl) (by kernel_rfl) (H.kh (by simp) (by repeat' first | exact kNil | apply kCons | apply kApp | assumption | exact OwnS.keys (by assumption))) (fun _ hC => R_as) ?_
    refine WA_done (by kernel_rfl) ?_
    refine W_ret ?_
    exact ⟨_, ⟨_, _, rfl, ldP (p := ff) (H.get (.there (.there .here))), rfl⟩, congrArg (fun b => Value.tuple #[vP ff, .bool b]) (decide_eq_decide.2 ⟨fun h => ⟨hok, h⟩, fun h => h.2⟩), H.none (by repeat' first | exact kNil | apply kCons | apply kApp | assumption | exact OwnS.keys (by assumption))⟩
end Go.Proofs.YthonajikgljgmaaGreat.Ring

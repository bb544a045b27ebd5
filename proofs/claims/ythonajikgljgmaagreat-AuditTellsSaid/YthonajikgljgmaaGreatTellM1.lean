/-
  The document's records of bytes.
-/
import Derived.Test.YthonajikgljgmaaGreatAudJ
import Derived.Test.YthonajikgljgmaaGreatSlotH
import Derived.Test.YthonajikgljgmaaGreatRingH
import Derived.Test.YthonajikgljgmaaGreatFxR
namespace Go.Proofs.YthonajikgljgmaaGreat.Aud
open Go Go.Proofs Go.Proofs.YthonajikgljgmaaGreat.Fx
set_option maxRecDepth 100000
set_option linter.unusedVariables false
set_option linter.unusedSimpArgs false
set_option maxHeartbeats 16000000

/-- a row that fills up -/
def fillT {α : Type} (l : List α) (z : α) (i : Nat) : List α := l.take i ++ List.replicate (l.length - i) z
theorem fillT_len {α : Type} (l : List α) (z : α) {i : Nat} (h : i ≤ l.length) : (fillT l z i).length = l.length := by
  unfold fillT; rw [List.length_append, List.length_take, List.length_replicate]; omega
theorem fillT_zero {α : Type} (l : List α) (z : α) : fillT l z 0 = List.replicate l.length z := by simp [fillT]
theorem fillT_all {α : Type} (l : List α) (z : α) : fillT l z l.length = l := by simp [fillT]
theorem fillT_set {α : Type} {l : List α} {z a : α} {i : Nat} (h : l[i]? = some a) : (fillT l z i).set i a = fillT l z (i + 1) := by
  have hi := (List.getElem?_eq_some_iff.1 h).1
  unfold fillT
  rw [List.set_append_right _ _ (by rw [List.length_take]; omega), List.length_take, Nat.min_eq_left (by omega), Nat.sub_self, show l.length - i = (l.length - (i + 1)) + 1 from by omega, List.replicate_succ, List.set_cons_zero,
    List.take_succ_eq_append_getElem hi, (List.getElem?_eq_some_iff.1 h).2, List.append_assoc]
  rfl
def PL (xs : List UInt8) : List Slot.Pi := (List.range 8).map (pd xs)
def FL (xs : List UInt8) : List File.Fl := (List.range 12).map (fd xs)
def QL (xs : List UInt8) : List Ring.Pi := (List.range 4).map (qd xs)
theorem PL_len (xs : List UInt8) : (PL xs).length = 8 := by simp [PL]
theorem FL_len (xs : List UInt8) : (FL xs).length = 12 := by simp [FL]
theorem QL_len (xs : List UInt8) : (QL xs).length = 4 := by simp [QL]
theorem PL_get {xs : List UInt8} {i : Nat} (h : i < 8) : (PL xs)[i]? = some (pd xs i) := by unfold PL; rw [List.getElem?_map, List.getElem?_range h]; rfl
theorem FL_get {xs : List UInt8} {i : Nat} (h : i < 12) : (FL xs)[i]? = some (fd xs i) := by unfold FL; rw [List.getElem?_map, List.getElem?_range h]; rfl
theorem QL_get {xs : List UInt8} {i : Nat} (h : i < 4) : (QL xs)[i]? = some (qd xs i) := by unfold QL; rw [List.getElem?_map, List.getElem?_range h]; rfl
abbrev tis (xs : List UInt8) (j : Nat) : Int := (Ring.decP (win xs (448 + 40 * j) 40)).2
abbrev gis (xs : List UInt8) (j : Nat) : Int := (Cm.decG (win xs (488 + 4 * j) 4)).2
/-- the bad ones, as far as the document has looked -/
def badTo (xs : List UInt8) (a b c d e : Nat) : List (Int × Int) := badN 1 (pis xs) a ++ badN 2 (fis xs) b ++ badN 3 (qis xs) c ++ badN 4 (tis xs) d ++ badN 5 (gis xs) e
theorem badN_zero {K : Int} {is : Nat → Int} : badN K is 0 = [] := rfl
theorem badTo_le (xs : List UInt8) (a b c d e : Nat) : (badTo xs a b c d e).length ≤ a + b + c + d + e := by
  have h1 := badN_le 1 (pis xs) a
  have h2 := badN_le 2 (fis xs) b
  have h3 := badN_le 3 (qis xs) c
  have h4 := badN_le 4 (tis xs) d
  have h5 := badN_le 5 (gis xs) e
  unfold badTo
  simp only [List.length_append]
  omega
theorem badTo_y1 {xs : List UInt8} {a : Nat} (h : pis xs a = 2) : badTo xs (a + 1) 0 0 0 0 = badTo xs a 0 0 0 0 ++ [(1, (a : Int))] := by
  unfold badTo
  rw [badN_yes (K := 1) (is := pis xs) (n := a) h]
  simp only [badN_zero, List.append_nil, List.append_assoc]
theorem badTo_n1 {xs : List UInt8} {a : Nat} (h : pis xs a ≠ 2) : badTo xs (a + 1) 0 0 0 0 = badTo xs a 0 0 0 0 := by
  unfold badTo
  rw [badN_no (K := 1) (is := pis xs) (n := a) h]
theorem badTo_y2 {xs : List UInt8} {b : Nat} (h : fis xs b = 2) : badTo xs 8 (b + 1) 0 0 0 = badTo xs 8 b 0 0 0 ++ [(2, (b : Int))] := by
  unfold badTo
  rw [badN_yes (K := 2) (is := fis xs) (n := b) h]
  simp only [badN_zero, List.append_nil, List.append_assoc]
theorem badTo_n2 {xs : List UInt8} {b : Nat} (h : fis xs b ≠ 2) : badTo xs 8 (b + 1) 0 0 0 = badTo xs 8 b 0 0 0 := by
  unfold badTo
  rw [badN_no (K := 2) (is := fis xs) (n := b) h]
theorem badTo_y3 {xs : List UInt8} {c : Nat} (h : qis xs c = 2) : badTo xs 8 12 (c + 1) 0 0 = badTo xs 8 12 c 0 0 ++ [(3, (c : Int))] := by
  unfold badTo
  rw [badN_yes (K := 3) (is := qis xs) (n := c) h]
  simp only [badN_zero, List.append_nil, List.append_assoc]
theorem badTo_n3 {xs : List UInt8} {c : Nat} (h : qis xs c ≠ 2) : badTo xs 8 12 (c + 1) 0 0 = badTo xs 8 12 c 0 0 := by
  unfold badTo
  rw [badN_no (K := 3) (is := qis xs) (n := c) h]
theorem badTo_y4 {xs : List UInt8} {d : Nat} (h : tis xs d = 2) : badTo xs 8 12 4 (d + 1) 0 = badTo xs 8 12 4 d 0 ++ [(4, (d : Int))] := by
  unfold badTo
  rw [badN_yes (K := 4) (is := tis xs) (n := d) h]
  simp only [badN_zero, List.append_nil, List.append_assoc]
theorem badTo_n4 {xs : List UInt8} {d : Nat} (h : tis xs d ≠ 2) : badTo xs 8 12 4 (d + 1) 0 = badTo xs 8 12 4 d 0 := by
  unfold badTo
  rw [badN_no (K := 4) (is := tis xs) (n := d) h]
theorem badTo_y5 {xs : List UInt8} {e : Nat} (h : gis xs e = 2) : badTo xs 8 12 4 1 (e + 1) = badTo xs 8 12 4 1 e ++ [(5, (e : Int))] := by
  unfold badTo
  rw [badN_yes (K := 5) (is := gis xs) (n := e) h]
  simp only [badN_zero, List.append_nil, List.append_assoc]
theorem badTo_n5 {xs : List UInt8} {e : Nat} (h : gis xs e ≠ 2) : badTo xs 8 12 4 1 (e + 1) = badTo xs 8 12 4 1 e := by
  unfold badTo
  rw [badN_no (K := 5) (is := gis xs) (n := e) h]
theorem win_S (xs : List UInt8) (a n : Nat) : (xs.take ((a + n : Nat) : Int).toNat).drop ((a : Nat) : Int).toNat = win xs a n := by
  rw [Int.toNat_natCast, Int.toNat_natCast, win_eq]

theorem refFront2_ret (g : Nat) (hg : g < 8) (w : World) : Ret Tryz.prog 30 #[I g] w fun v w' => v = S (Cm.frontB g) ∧ Hp w [] w' := by
  refine Ret_of_W (args := [_]) Tryz.func30 rfl Tryz.ntmps30 Tryz.results30 (by simp) ?_
  have H := Hp.refl w
  have hw : IntKind.u8.wrap (g : Int) = ((UInt8.ofNat g).toNat : Int) := u8_ofNat
  obtain ⟨z, hz⟩ : ∃ z, UInt8.ofNat g = z := ⟨_, rfl⟩
  have hB : Cm.frontB g = [z, 211, Cm.sumB [z, 211], 0] := by unfold Cm.frontB; rw [Int.toNat_natCast, hz]
  rw [hz] at hw
  rw [hB]
  refine W_seq ?_
  refine W_region_l ?_
  refine WL_stepM rfl (R_as) ?_
  refine WL_nil ?_
  refine W_seq ?_
  refine W_region_l ?_
  refine WL_stepM rfl (R_mv) ?_
  refine WL_step rfl (R_conv_int Tryz.underlying3 Tryz.underlying5 rfl hw) ?_
  (refine WL_effn rfl (E_buildOnes (vs := [U z, U 211]) H Tryz.underlying22 Tryz.sizeOf5 Tryz.zeroValue5 rfl rfl (by decide) rfl rfl (by simp [Value.oneCell'])) ?_; clear H; intro b6 w9 hb6 H)
  refine WL_step rfl (R_conv_bs (xs := [z, 211]) Tryz.underlying22 Tryz.underlying5 Tryz.underlying9 rfl (RdS.blk (c := [U z, U 211]) (off := 0) (m := 2) (cap := 2) (H.get .here) (by rfl) (by simp) (by simp))) ?_
  refine WL_stepM rfl (R_as) ?_
  refine WL_nil ?_
  refine W_seq ?_
  refine W_region_l ?_
  refine WL_stepM rfl (R_mv) ?_
  refine WL_stepM rfl (R_mv) ?_
  (refine WL_call rfl (R_call rfl Tryz.call39 rfl) (Codec.refSum_ret (xs := [z, 211]) _ (by simp)) ?_; rintro _ w17 ⟨rfl, H1⟩; replace H := H.seq0 H1; clear H1)
  (refine WL_effn rfl (E_buildOnes (vs := [U (Cm.sumB [z, 211]), U 0]) H Tryz.underlying22 Tryz.sizeOf5 Tryz.zeroValue5 rfl rfl (by decide) rfl rfl (by simp [Value.oneCell'])) ?_; clear H; intro b11 w18 hb11 H)
  refine WL_step rfl (R_conv_bs (xs := [Cm.sumB [z, 211], 0]) Tryz.underlying22 Tryz.underlying5 Tryz.underlying9 rfl (RdS.blk (c := [U (Cm.sumB [z, 211]), U 0]) (off := 0) (m := 2) (cap := 2) (H.get .here) (by rfl) (by simp) (by simp))) ?_
  refine WL_step rfl (R_cat_S rfl rfl (by simp)) ?_
  refine WL_stepM rfl (R_as) ?_
  refine WL_nil ?_
  refine W_ret ?_
  exact ⟨_, rfl, rfl, H.none (by repeat' first | exact kNil | apply kCons | apply kApp | assumption | exact OwnS.keys (by assumption))⟩

theorem gis_eq {xs : List UInt8} {x : UInt8} (hx : xs.length = 492) (h : xs[488]? = some x) : gis xs 0 = if x.toNat < 8 ∧ Cm.frontB x.toNat = win xs 488 4 then 1 else 2 := by
  have hl : (win xs 488 4).length = 4 := by unfold win; rw [List.length_take, List.length_drop]; omega
  have h0 : (win xs 488 4).headD 0 = x := by
    have : (win xs 488 4)[0]? = some x := by unfold win; rw [List.getElem?_take_of_lt (by decide), List.getElem?_drop]; exact h
    cases hw : win xs 488 4 with
    | nil => rw [hw] at this; cases this
    | cons a l => rw [hw] at this; exact Option.some.inj this
  show (Cm.decG (win xs 488 4)).2 = _
  unfold Cm.decG
  rw [hl, h0]
  by_cases h8 : x.toNat < 8 ∧ Cm.frontB x.toNat = win xs 488 4
  · rw [if_pos ⟨rfl, h8.1, h8.2⟩, if_pos h8]
  · rw [if_neg (fun hh => h8 hh.2), if_neg h8]
theorem win_end {xs : List UInt8} (hx : xs.length = 492) : (xs.take ((xs.length : Nat) : Int).toNat).drop ((488 : Nat) : Int).toNat = win xs 488 4 := by
  rw [Int.toNat_natCast, Int.toNat_natCast, hx]; exact win_eq xs 488 4
theorem OwnS.cast {B len sz len' : Nat} {e : TypeId} {v : Value} {xs xs' : List Value} {M : List (Nat × Obj)} (h : OwnS B e sz v len xs M) (h1 : len = len') (h2 : xs = xs') : OwnS B e sz v len' xs' M := by
  subst h1 h2; exact h
theorem full_store {c vs : List Value} (h : c.length = vs.length) : c.take 0 ++ vs ++ c.drop (0 + vs.length) = vs := by
  rw [List.take_zero, List.nil_append, Nat.zero_add, List.drop_of_length_le (by omega), List.append_nil]

theorem records_ret {xs : List UInt8} (hx : xs.length = 492) (w : World) :
    Ret Tryz.prog 9 #[S xs] w fun v w' => ∃ u M, v = .tuple #[.agg (rows Slot.piC (PL xs)).toArray, .agg (rows File.flC (FL xs)).toArray, .agg (rows Ring.piC (QL xs)).toArray, u] ∧ OwnS w.heap.size 32 2 u (badAll xs).length (rows recC (badAll xs)) M ∧ Hp w M w' := by
  refine Ret_of_WG (args := [_]) Tryz.func9 rfl Tryz.ntmps9 Tryz.results9 (by simp) ?_
  have H := Hp.refl w
  have hO := OwnS.nil w.heap.size 32 2
  have lP := PL_len xs
  have lF := FL_len xs
  have lQ := QL_len xs
  obtain ⟨Ps, hPs⟩ : ∃ P, PL xs = P := ⟨_, rfl⟩
  obtain ⟨Fs, hFs⟩ : ∃ P, FL xs = P := ⟨_, rfl⟩
  obtain ⟨Qs, hQs⟩ : ∃ P, QL xs = P := ⟨_, rfl⟩
  rw [hPs] at lP ⊢
  rw [hFs] at lF ⊢
  rw [hQs] at lQ ⊢
  obtain ⟨rP, hrP⟩ : ∃ l, rows Slot.piC (List.replicate 8 Slot.zeroP) = l := ⟨_, rfl⟩
  obtain ⟨rF, hrF⟩ : ∃ l, rows File.flC (List.replicate 12 File.zeroF) = l := ⟨_, rfl⟩
  obtain ⟨rQ, hrQ⟩ : ∃ l, rows Ring.piC (List.replicate 4 Ring.zeroP) = l := ⟨_, rfl⟩
  have zP : rows Slot.piC (fillT Ps Slot.zeroP 0) = rP := by rw [fillT_zero, lP, hrP]
  have zF : rows File.flC (fillT Fs File.zeroF 0) = rF := by rw [fillT_zero, lF, hrF]
  have zQ : rows Ring.piC (fillT Qs Ring.zeroP 0) = rQ := by rw [fillT_zero, lQ, hrQ]
  have lrP : (rows Slot.piC Ps).length = 128 := by rw [rows_length Slot.piC_len, lP]
  have lrF : (rows File.flC Fs).length = 48 := by rw [rows_length File.fl_len, lF]
  have lrQ : (rows Ring.piC Qs).length = 144 := by rw [rows_length Ring.piC_len, lQ]
  have lzP : rP.length = 128 := by rw [← hrP, rows_length Slot.piC_len, List.length_replicate]
  have lzF : rF.length = 48 := by rw [← hrF, rows_length File.fl_len, List.length_replicate]
  have lzQ : rQ.length = 144 := by rw [← hrQ, rows_length Ring.piC_len, List.length_replicate]
  refine W_seq ?_
  refine W_region_l ?_
  (refine WL_effn rfl (E_alloc (vs := rP) H Tryz.zeroValue37 (by rw [← hrP]; kernel_rfl)) ?_; clear H; intro c2 w3 hc2 H)
  (refine WL_effn rfl (E_alloc (vs := rF) H Tryz.zeroValue40 (by rw [← hrF]; kernel_rfl)) ?_; clear H; intro c3 w4 hc3 H)
  (refine WL_effn rfl (E_alloc (vs := rQ) H Tryz.zeroValue44 (by rw [← hrQ]; kernel_rfl)) ?_; clear H; intro c4 w5 hc4 H)
  refine WL_stepM rfl (R_as) ?_
  refine WL_nil ?_
  refine W_seq ?_
  refine W_region_l ?_
  (refine WL_effn rfl (E_alloc (vs := rP) H Tryz.zeroValue37 (by rw [← hrP]; kernel_rfl)) ?_; clear H; intro c6 w10 hc6 H)
  refine WL_nil ?_
  refine W_seq ?_
  refine W_region_l ?_
  (refine WL_effn rfl (E_alloc (vs := rF) H Tryz.zeroValue40 (by rw [← hrF]; kernel_rfl)) ?_; clear H; intro c7 w14 hc7 H)
  refine WL_nil ?_
  refine W_seq ?_
  refine W_region_l ?_
  (refine WL_effn rfl (E_alloc (vs := rQ) H Tryz.zeroValue44 (by rw [← hrQ]; kernel_rfl)) ?_; clear H; intro c8 w18 hc8 H)
  refine WL_nil ?_
  refine W_seq ?_
  refine W_region_l ?_
  refine WL_stepM rfl (R_as) ?_
  refine WL_nil ?_
  refine W_seq ?_
  refine W_region_l ?_
  refine WL_stepM rfl (R_as) ?_
  refine WL_nil ?_
  refine W_seq ?_
  refine W_seq ?_
  refine W_region_l ?_
  refine WL_stepM rfl (R_as) ?_
  refine WL_nil ?_
  refine W_block ?_
  refine W_loopS [(9, 11), (14, 37)] (fun (i : Nat) E w' => ∃ (u : Value) (M : List (Nat × Obj)), i ≤ 8 ∧ E 11 = I i ∧ E 9 = u ∧ OwnS w.heap.size 32 2 u (badTo xs i 0 0 0 0).length (rows recC (badTo xs i 0 0 0 0)) M ∧ Hp w ([(c8, blk (rows Ring.piC (fillT Qs Ring.zeroP 0)) 44), (c7, blk (rows File.flC (fillT Fs File.zeroF 0)) 40), (c6, blk (rows Slot.piC (fillT Ps Slot.zeroP i)) 37), (c4, blk rQ 44), (c3, blk rF 40), (c2, blk rP 37)] ++ M) w') (fun i => 8 - i) 0 ?e0 ?r0
  · exact ⟨_, [], by omega, rfl, rfl, hO, (by rw [zP, zF, zQ, List.append_nil]; exact H)⟩
  · (clear H hO; rintro i E w1 ⟨u, M, hi, hE1, hE2, hO, H⟩; obtain ⟨ua, uc, rfl⟩ := hO.form; have hle := badTo_le xs i 0 0 0 0; have hOk := hO.keys; refine W_kn2 hE1 hE2 ?_)
    refine W_seq ?_
    refine W_seq ?_
    refine W_region_l ?_
    refine WL_stepM rfl (R_mv) ?_
    refine WL_step rfl (R_lt rfl rfl) ?_
    refine WL_nil ?_
    refine W_if rfl (fun h42 => ?_) (fun h42 => ?_)
    · refine W_skip ?_
      refine W_seq ?_
      refine W_block ?_
      refine W_seq ?_
      refine W_region_l ?_
      refine WL_stepM rfl (R_mv) ?_
      refine WL_stepM rfl (R_mv) ?_
      refine WL_stepM rfl (R_mv) ?_
      refine WL_step rfl (R_mul (r := ((0 + 24 * i : Nat) : Int)) rfl rfl (by rw [w_i64 (by omega)]; omega)) ?_
      refine WL_stepM rfl (R_mv) ?_
      refine WL_step rfl (R_mul (r := ((24 * i : Nat) : Int)) rfl rfl (by rw [w_i64 (by omega)]; omega)) ?_
      refine WL_step rfl (R_add (r := ((0 + 24 * i + 24 : Nat) : Int)) rfl rfl (by rw [w_i64 (by omega)]; omega)) ?_
      refine WL_step rfl (R_slice_S (xs := xs) (i := ((0 + 24 * i : Nat) : Int)) (j := ((0 + 24 * i + 24 : Nat) : Int)) Tryz.underlying9 rfl (.some rfl) (.some rfl) (by omega) (by omega) (by omega)) ?_
      (have _g : i < 8 := (by omega); rw [win_S xs (0 + 24 * i) 24]; refine WL_call rfl (R_call rfl Tryz.call27 rfl) (Slot.refOf_ret (xs := win xs (0 + 24 * i) 24) (by unfold win; rw [List.length_take]; omega)) ?_; rintro _ w56 ⟨rfl, H1⟩; replace H := H.seq0 H1; clear H1; obtain ⟨z, hz⟩ : ∃ z, pis xs i = z := ⟨_, rfl⟩; obtain ⟨p, hp⟩ : ∃ p, pd xs i = p := ⟨_, rfl⟩; have hget : Ps[i]? = some p := (by rw [← hp, ← hPs]; exact PL_get _g); rw [show (Slot.decP (win xs (0 + 24 * i) 24)).1 = p from hp, show (Slot.decP (win xs (0 + 24 * i) 24)).2 = z from hz])
      refine WL_stepM rfl (R_mv) ?_
      refine WL_step rfl (R_extract rfl rfl) ?_
      refine WL_step rfl (R_extract rfl rfl) ?_
      refine WL_step rfl (R_indexAddrA (off' := i * 16) Tryz.underlying37 Tryz.sizeOf36 rfl rfl (by omega) (by omega) (by omega)) ?_
      (refine WL_effu rfl (E_storeA (vs := Slot.piC p) H (fun w => by rw [Slot.piC_len]; exact Tryz.sizeOf36 w) rfl rfl (Slot.piC_one p) (.there (.there .here)) (by rw [rows_length Slot.piC_len, fillT_len _ _ (by omega), lP, Slot.piC_len]; omega)) ?_; clear H; intro w61 H; rw [Slot.piC_len, rows_put Slot.piC_len (by rw [fillT_len _ _ (by omega), lP]; omega), fillT_set hget] at H)
      refine WL_stepM rfl (R_as) ?_
      refine WL_nil ?_
      refine W_seq ?_
      refine W_region_l ?_
      refine WL_stepM rfl (R_mv) ?_
      refine WL_step rfl (R_eq rfl rfl) ?_
      refine WL_nil ?_
      refine W_if rfl (fun h69 => ?_) (fun h69 => ?_)
      · refine W_region_l ?_
        refine WL_stepM rfl (R_mv) ?_
        refine WL_stepM rfl (R_mv) ?_
        refine WL_step rfl (R_buildL (places := [(0, 1), (1, 1)]) (vs := recC (1, (i : Int))) Tryz.underlying32 Tryz.typeInfo32 rfl rfl (by kernel_rfl) rfl rfl rfl) ?_
        (refine WL_effn rfl (E_buildRows (vss := [recC (1, (i : Int))]) H Tryz.underlying33 Tryz.sizeOf32 Tryz.zeroValue32 rfl rfl (by decide) rfl rfl (by simp [recC])) ?_; clear H; intro bx w74 hbx H)
        (refine WL_effm rfl (E_append (news := recC (1, (i : Int))) H (.there (.there (.there (.there (.there (.there (.there .last))))))) hO Tryz.underlying33 Tryz.typeInfo32 rfl rfl rfl rfl rfl rfl (src_blk (m := 1) (sp := []) Tryz.underlying33 (H.get .here) rfl (recC_one _)) (by omega) (by simp only [Tryz.t32]; omega)) ?_; clear H; intro vN MN w75 hON H)
        refine WL_stepM rfl (R_as) ?_
        refine WL_nil ?_
        refine W_region_l ?_
        refine WL_stepM rfl (R_mv) ?_
        refine WL_step rfl (R_add rfl rfl (w_i64 (by omega))) ?_
        refine WL_stepM rfl (R_as) ?_
        refine WL_nil ?_
        (have hy := badTo_y1 (xs := xs) (a := i) (by omega); exact ⟨(same_mov rfl (same_updo rfl (same_mov rfl (same_mov rfl (same_updo rfl (same_updo rfl (same_updo rfl (same_mov rfl (same_mov rfl (same_know rfl (same_updo rfl (same_mov rfl (same_mov rfl (same_updn (same_updo rfl (same_updo rfl (same_updo rfl (same_mov rfl (same_updo rfl (same_updo rfl (same_updo rfl (same_updo rfl (same_mov rfl (same_updo rfl (same_mov rfl (same_mov rfl (same_mov rfl (same_know rfl (same_updo rfl (same_mov rfl same_ovr)))))))))))))))))))))))))))))), i + 1, by omega, _, MN, by omega, rfl, rfl, (by rw [hy, List.length_append, rows_append]; exact hON), H.pop (by assumption)⟩)
      · refine W_skip ?_
        refine W_region_l ?_
        refine WL_stepM rfl (R_mv) ?_
        refine WL_step rfl (R_add rfl rfl (w_i64 (by omega))) ?_
        refine WL_stepM rfl (R_as) ?_
        refine WL_nil ?_
        (have hy := badTo_n1 (xs := xs) (a := i) (by omega); exact ⟨(same_mov rfl (same_updo rfl (same_mov rfl (same_know rfl (same_updo rfl (same_mov rfl (same_mov rfl (same_updn (same_updo rfl (same_updo rfl (same_updo rfl (same_mov rfl (same_updo rfl (same_updo rfl (same_updo rfl (same_updo rfl (same_mov rfl (same_updo rfl (same_mov rfl (same_mov rfl (same_mov rfl (same_know rfl (same_updo rfl (same_mov rfl same_ovr)))))))))))))))))))))))), i + 1, by omega, _, M, by omega, rfl, rfl, (by rw [hy]; exact hO), H⟩)
    · refine W_exit ?_
      refine (if_pos rfl).mpr ?_
      refine W_seq ?_
      refine W_seq ?_
      refine W_region_l ?_
      refine WL_stepM rfl (R_as) ?_
      refine WL_nil ?_
      refine W_block ?_
      refine W_loopS [(9, 10), (12, 12), (38, 62)] (fun (i : Nat) E w' => ∃ (u : Value) (M : List (Nat × Obj)), i ≤ 12 ∧ E 12 = I i ∧ E 9 = u ∧ OwnS w.heap.size 32 2 u (badTo xs 8 i 0 0 0).length (rows recC (badTo xs 8 i 0 0 0)) M ∧ Hp w ([(c8, blk (rows Ring.piC (fillT Qs Ring.zeroP 0)) 44), (c7, blk (rows File.flC (fillT Fs File.zeroF i)) 40), (c6, blk (rows Slot.piC Ps) 37), (c4, blk rQ 44), (c3, blk rF 40), (c2, blk rP 37)] ++ M) w') (fun i => 12 - i) 0 ?e2 ?r2
      · (obtain rfl : i = 8 := (by omega); exact ⟨_, M, by omega, rfl, rfl, hO, (by rw [show rows Slot.piC (fillT Ps Slot.zeroP 8) = rows Slot.piC Ps from by rw [← lP, fillT_all]] at H; exact H)⟩)
      · (clear H hO; rintro i E w1 ⟨u, M, hi, hE1, hE2, hO, H⟩; obtain ⟨ua, uc, rfl⟩ := hO.form; have hle := badTo_le xs 8 i 0 0 0; have hOk := hO.keys; refine W_kn2 hE1 hE2 ?_)
        refine W_seq ?_
        refine W_seq ?_
        refine W_region_l ?_
        refine WL_stepM rfl (R_mv) ?_
        refine WL_step rfl (R_lt rfl rfl) ?_
        refine WL_nil ?_
        refine W_if rfl (fun h107 => ?_) (fun h107 => ?_)
        · refine W_skip ?_
          refine W_seq ?_
          refine W_block ?_
          refine W_seq ?_
          refine W_region_l ?_
          refine WL_stepM rfl (R_mv) ?_
          refine WL_stepM rfl (R_mv) ?_
          refine WL_stepM rfl (R_mv) ?_
          refine WL_step rfl (R_mul (r := ((8 * i : Nat) : Int)) rfl rfl (by rw [w_i64 (by omega)]; omega)) ?_
          refine WL_step rfl (R_add (r := ((192 + 8 * i : Nat) : Int)) rfl rfl (by rw [w_i64 (by omega)]; omega)) ?_
          refine WL_stepM rfl (R_mv) ?_
          refine WL_step rfl (R_mul (r := ((8 * i : Nat) : Int)) rfl rfl (by rw [w_i64 (by omega)]; omega)) ?_
          refine WL_step rfl (R_add (r := ((192 + 8 * i + 8 : Nat) : Int)) rfl rfl (by rw [w_i64 (by omega)]; omega)) ?_
          refine WL_step rfl (R_slice_S (xs := xs) (i := ((192 + 8 * i : Nat) : Int)) (j := ((192 + 8 * i + 8 : Nat) : Int)) Tryz.underlying9 rfl (.some rfl) (.some rfl) (by omega) (by omega) (by omega)) ?_
          (have _g : i < 12 := (by omega); rw [win_S xs (192 + 8 * i) 8]; refine WL_call rfl (R_call rfl Tryz.call28 rfl) (File.refOf_ret (xs := win xs (192 + 8 * i) 8) (by unfold win; rw [List.length_take]; omega)) ?_; rintro _ w122 ⟨rfl, H1⟩; replace H := H.seq0 H1; clear H1; obtain ⟨z, hz⟩ : ∃ z, fis xs i = z := ⟨_, rfl⟩; obtain ⟨p, hp⟩ : ∃ p, fd xs i = p := ⟨_, rfl⟩; have hget : Fs[i]? = some p := (by rw [← hp, ← hFs]; exact FL_get _g); rw [show (File.decP (win xs (192 + 8 * i) 8)).1 = p from hp, show (File.decP (win xs (192 + 8 * i) 8)).2 = z from hz])
          refine WL_stepM rfl (R_mv) ?_
          refine WL_step rfl (R_extract rfl rfl) ?_
          refine WL_step rfl (R_extract rfl rfl) ?_
          refine WL_step rfl (R_indexAddrA (off' := i * 4) Tryz.underlying40 Tryz.sizeOf39 rfl rfl (by omega) (by omega) (by omega)) ?_
          (refine WL_effu rfl (E_storeA (vs := File.flC p) H (fun w => by rw [File.fl_len]; exact Tryz.sizeOf39 w) rfl rfl (File.fl_one p) (.there .here) (by rw [rows_length File.fl_len, fillT_len _ _ (by omega), lF, File.fl_len]; omega)) ?_; clear H; intro w127 H; rw [File.fl_len, rows_put File.fl_len (by rw [fillT_len _ _ (by omega), lF]; omega), fillT_set hget] at H)
          refine WL_stepM rfl (R_as) ?_
          refine WL_nil ?_
          refine W_seq ?_
          refine W_region_l ?_
          refine WL_stepM rfl (R_mv) ?_
          refine WL_step rfl (R_eq rfl rfl) ?_
          refine WL_nil ?_
          refine W_if rfl (fun h135 => ?_) (fun h135 => ?_)
          · refine W_region_l ?_
            refine WL_stepM rfl (R_mv) ?_
            refine WL_stepM rfl (R_mv) ?_
            refine WL_step rfl (R_buildL (places := [(0, 1), (1, 1)]) (vs := recC (2, (i : Int))) Tryz.underlying32 Tryz.typeInfo32 rfl rfl (by kernel_rfl) rfl rfl rfl) ?_
            (refine WL_effn rfl (E_buildRows (vss := [recC (2, (i : Int))]) H Tryz.underlying33 Tryz.sizeOf32 Tryz.zeroValue32 rfl rfl (by decide) rfl rfl (by simp [recC])) ?_; clear H; intro bx w140 hbx H)
            (refine WL_effm rfl (E_append (news := recC (2, (i : Int))) H (.there (.there (.there (.there (.there (.there (.there .last))))))) hO Tryz.underlying33 Tryz.typeInfo32 rfl rfl rfl rfl rfl rfl (src_blk (m := 1) (sp := []) Tryz.underlying33 (H.get .here) rfl (recC_one _)) (by omega) (by simp only [Tryz.t32]; omega)) ?_; clear H; intro vN MN w141 hON H)
            refine WL_stepM rfl (R_as) ?_
            refine WL_nil ?_
            refine W_region_l ?_
            refine WL_stepM rfl (R_mv) ?_
            refine WL_step rfl (R_add rfl rfl (w_i64 (by omega))) ?_
            refine WL_stepM rfl (R_as) ?_
            refine WL_nil ?_
            (have hy := badTo_y2 (xs := xs) (b := i) (by omega); exact ⟨(same_mov rfl (same_updo rfl (same_mov rfl (same_mov rfl (same_updo rfl (same_updo rfl (same_updo rfl (same_mov rfl (same_mov rfl (same_know rfl (same_updo rfl (same_mov rfl (same_mov rfl (same_updn (same_updo rfl (same_updo rfl (same_updo rfl (same_mov rfl (same_updo rfl (same_updo rfl (same_updo rfl (same_updo rfl (same_mov rfl (same_updo rfl (same_updo rfl (same_mov rfl (same_mov rfl (same_mov rfl (same_know rfl (same_updo rfl (same_mov rfl same_ovr))))))))))))))))))))))))))))))), i + 1, by omega, _, MN, by omega, rfl, rfl, (by rw [hy, List.length_append, rows_append]; exact hON), H.pop (by assumption)⟩)
          · refine W_skip ?_
            refine W_region_l ?_
            refine WL_stepM rfl (R_mv) ?_
            refine WL_step rfl (R_add rfl rfl (w_i64 (by omega))) ?_
            refine WL_stepM rfl (R_as) ?_
            refine WL_nil ?_
            (have hy := badTo_n2 (xs := xs) (b := i) (by omega); exact ⟨(same_mov rfl (same_updo rfl (same_mov rfl (same_know rfl (same_updo rfl (same_mov rfl (same_mov rfl (same_updn (same_updo rfl (same_updo rfl (same_updo rfl (same_mov rfl (same_updo rfl (same_updo rfl (same_updo rfl (same_updo rfl (same_mov rfl (same_updo rfl (same_updo rfl (same_mov rfl (same_mov rfl (same_mov rfl (same_know rfl (same_updo rfl (same_mov rfl same_ovr))))))))))))))))))))))))), i + 1, by omega, _, M, by omega, rfl, rfl, (by rw [hy]; exact hO), H⟩)
        · refine W_exit ?_
          refine (if_pos rfl).mpr ?_
          refine W_seq ?_
          refine W_seq ?_
          refine W_region_l ?_
          refine WL_stepM rfl (R_as) ?_
          refine WL_nil ?_
          refine W_block ?_
          refine W_loopS [(9, 10), (13, 13), (63, 87)] (fun (i : Nat) E w' => ∃ (u : Value) (M : List (Nat × Obj)), i ≤ 4 ∧ E 13 = I i ∧ E 9 = u ∧ OwnS w.heap.size 32 2 u (badTo xs 8 12 i 0 0).length (rows recC (badTo xs 8 12 i 0 0)) M ∧ Hp w ([(c8, blk (rows Ring.piC (fillT Qs Ring.zeroP i)) 44), (c7, blk (rows File.flC Fs) 40), (c6, blk (rows Slot.piC Ps) 37), (c4, blk rQ 44), (c3, blk rF 40), (c2, blk rP 37)] ++ M) w') (fun i => 4 - i) 0 ?e4 ?r4
          · (obtain rfl : i = 12 := (by omega); exact ⟨_, M, by omega, rfl, rfl, hO, (by rw [show rows File.flC (fillT Fs File.zeroF 12) = rows File.flC Fs from by rw [← lF, fillT_all]] at H; exact H)⟩)
          · (clear H hO; rintro i E w1 ⟨u, M, hi, hE1, hE2, hO, H⟩; obtain ⟨ua, uc, rfl⟩ := hO.form; have hle := badTo_le xs 8 12 i 0 0; have hOk := hO.keys; refine W_kn2 hE1 hE2 ?_)
            refine W_seq ?_
            refine W_seq ?_
            refine W_region_l ?_
            refine WL_stepM rfl (R_mv) ?_
            refine WL_step rfl (R_lt rfl rfl) ?_
            refine WL_nil ?_
            refine W_if rfl (fun h173 => ?_) (fun h173 => ?_)
            · refine W_skip ?_
              refine W_seq ?_
              refine W_block ?_
              refine W_seq ?_
              refine W_region_l ?_
              refine WL_stepM rfl (R_mv) ?_
              refine WL_stepM rfl (R_mv) ?_
              refine WL_stepM rfl (R_mv) ?_
              refine WL_step rfl (R_mul (r := ((40 * i : Nat) : Int)) rfl rfl (by rw [w_i64 (by omega)]; omega)) ?_
              refine WL_step rfl (R_add (r := ((288 + 40 * i : Nat) : Int)) rfl rfl (by rw [w_i64 (by omega)]; omega)) ?_
              refine WL_stepM rfl (R_mv) ?_
              refine WL_step rfl (R_mul (r := ((40 * i : Nat) : Int)) rfl rfl (by rw [w_i64 (by omega)]; omega)) ?_
              refine WL_step rfl (R_add (r := ((288 + 40 * i + 40 : Nat) : Int)) rfl rfl (by rw [w_i64 (by omega)]; omega)) ?_
              refine WL_step rfl (R_slice_S (xs := xs) (i := ((288 + 40 * i : Nat) : Int)) (j := ((288 + 40 * i + 40 : Nat) : Int)) Tryz.underlying9 rfl (.some rfl) (.some rfl) (by omega) (by omega) (by omega)) ?_
              (have _g : i < 4 := (by omega); rw [win_S xs (288 + 40 * i) 40]; refine WL_call rfl (R_call rfl Tryz.call29 rfl) (Ring.refOf_ret (xs := win xs (288 + 40 * i) 40) (by unfold win; rw [List.length_take]; omega)) ?_; rintro _ w188 ⟨rfl, H1⟩; replace H := H.seq0 H1; clear H1; obtain ⟨z, hz⟩ : ∃ z, qis xs i = z := ⟨_, rfl⟩; obtain ⟨p, hp⟩ : ∃ p, qd xs i = p := ⟨_, rfl⟩; have hget : Qs[i]? = some p := (by rw [← hp, ← hQs]; exact QL_get _g); rw [show (Ring.decP (win xs (288 + 40 * i) 40)).1 = p from hp, show (Ring.decP (win xs (288 + 40 * i) 40)).2 = z from hz])
              refine WL_stepM rfl (R_mv) ?_
              refine WL_step rfl (R_extract rfl rfl) ?_
              refine WL_step rfl (R_extract rfl rfl) ?_
              refine WL_step rfl (R_indexAddrA (off' := i * 36) Tryz.underlying44 Tryz.sizeOf43 rfl rfl (by omega) (by omega) (by omega)) ?_
              (refine WL_effu rfl (E_storeA (vs := Ring.piC p) H (fun w => by rw [Ring.piC_len]; exact Tryz.sizeOf43 w) rfl rfl (Ring.piC_one p) .here (by rw [rows_length Ring.piC_len, fillT_len _ _ (by omega), lQ, Ring.piC_len]; omega)) ?_; clear H; intro w193 H; rw [Ring.piC_len, rows_put Ring.piC_len (by rw [fillT_len _ _ (by omega), lQ]; omega), fillT_set hget] at H)
              refine WL_stepM rfl (R_as) ?_
              refine WL_nil ?_
              refine W_seq ?_
              refine W_region_l ?_
              refine WL_stepM rfl (R_mv) ?_
              refine WL_step rfl (R_eq rfl rfl) ?_
              refine WL_nil ?_
              refine W_if rfl (fun h201 => ?_) (fun h201 => ?_)
              · refine W_region_l ?_
                refine WL_stepM rfl (R_mv) ?_
                refine WL_stepM rfl (R_mv) ?_
                refine WL_step rfl (R_buildL (places := [(0, 1), (1, 1)]) (vs := recC (3, (i : Int))) Tryz.underlying32 Tryz.typeInfo32 rfl rfl (by kernel_rfl) rfl rfl rfl) ?_
                (refine WL_effn rfl (E_buildRows (vss := [recC (3, (i : Int))]) H Tryz.underlying33 Tryz.sizeOf32 Tryz.zeroValue32 rfl rfl (by decide) rfl rfl (by simp [recC])) ?_; clear H; intro bx w206 hbx H)
                (refine WL_effm rfl (E_append (news := recC (3, (i : Int))) H (.there (.there (.there (.there (.there (.there (.there .last))))))) hO Tryz.underlying33 Tryz.typeInfo32 rfl rfl rfl rfl rfl rfl (src_blk (m := 1) (sp := []) Tryz.underlying33 (H.get .here) rfl (recC_one _)) (by omega) (by simp only [Tryz.t32]; omega)) ?_; clear H; intro vN MN w207 hON H)
                refine WL_stepM rfl (R_as) ?_
                refine WL_nil ?_
                refine W_region_l ?_
                refine WL_stepM rfl (R_mv) ?_
                refine WL_step rfl (R_add rfl rfl (w_i64 (by omega))) ?_
                refine WL_stepM rfl (R_as) ?_
                refine WL_nil ?_
                (have hy := badTo_y3 (xs := xs) (c := i) (by omega); exact ⟨(same_mov rfl (same_updo rfl (same_mov rfl (same_mov rfl (same_updo rfl (same_updo rfl (same_updo rfl (same_mov rfl (same_mov rfl (same_know rfl (same_updo rfl (same_mov rfl (same_mov rfl (same_updn (same_updo rfl (same_updo rfl (same_updo rfl (same_mov rfl (same_updo rfl (same_updo rfl (same_updo rfl (same_updo rfl (same_mov rfl (same_updo rfl (same_updo rfl (same_mov rfl (same_mov rfl (same_mov rfl (same_know rfl (same_updo rfl (same_mov rfl same_ovr))))))))))))))))))))))))))))))), i + 1, by omega, _, MN, by omega, rfl, rfl, (by rw [hy, List.length_append, rows_append]; exact hON), H.pop (by assumption)⟩)
              · refine W_skip ?_
                refine W_region_l ?_
                refine WL_stepM rfl (R_mv) ?_
                refine WL_step rfl (R_add rfl rfl (w_i64 (by omega))) ?_
                refine WL_stepM rfl (R_as) ?_
                refine WL_nil ?_
                (have hy := badTo_n3 (xs := xs) (c := i) (by omega); exact ⟨(same_mov rfl (same_updo rfl (same_mov rfl (same_know rfl (same_updo rfl (same_mov rfl (same_mov rfl (same_updn (same_updo rfl (same_updo rfl (same_updo rfl (same_mov rfl (same_updo rfl (same_updo rfl (same_updo rfl (same_updo rfl (same_mov rfl (same_updo rfl (same_updo rfl (same_mov rfl (same_mov rfl (same_mov rfl (same_know rfl (same_updo rfl (same_mov rfl same_ovr))))))))))))))))))))))))), i + 1, by omega, _, M, by omega, rfl, rfl, (by rw [hy]; exact hO), H⟩)
            · refine W_exit ?_
              refine (if_pos rfl).mpr ?_
              refine W_seq ?_
              refine W_seq ?_
              ((obtain rfl : i = 4 := (by omega); rw [show rows Ring.piC (fillT Qs Ring.zeroP 4) = rows Ring.piC Qs from by rw [← lQ, fillT_all]] at H)) <;> refine W_region_l ?_
              refine WL_stepM rfl (R_mv) ?_
              refine WL_step rfl (R_slice_S (xs := xs) (i := ((448 : Nat) : Int)) (j := ((448 + 40 : Nat) : Int)) Tryz.underlying9 rfl (.some rfl) (.some rfl) (by omega) (by omega) (by omega)) ?_
              (rw [win_S xs 448 40]; refine WL_call rfl (R_call rfl Tryz.call29 rfl) (Ring.refOf_ret (xs := win xs 448 40) (by unfold win; rw [List.length_take]; omega)) ?_; rintro _ w230 ⟨rfl, H1⟩; replace H := H.seq0 H1; clear H1; obtain ⟨z4, hz4⟩ : ∃ z, tis xs 0 = z := ⟨_, rfl⟩; rw [show (Ring.decP (win xs 448 40)).2 = z4 from hz4]; obtain ⟨x, hx488⟩ : ∃ x, xs[488]? = some x := ⟨_, List.getElem?_eq_getElem (by omega)⟩; have hgis := gis_eq hx hx488)
              refine WL_stepM rfl (R_mv) ?_
              refine WL_step rfl (R_extract rfl rfl) ?_
              refine WL_step rfl (R_extract rfl rfl) ?_
              refine WL_stepM rfl (R_as) ?_
              refine WL_nil ?_
              refine W_seq ?_
              refine W_region_l ?_
              refine WL_stepM rfl (R_mv) ?_
              refine WL_step rfl (R_eq rfl rfl) ?_
              refine WL_nil ?_
              refine W_if rfl (fun h241 => ?_) (fun h241 => ?_)
              · refine W_region_l ?_
                refine WL_stepM rfl (R_mv) ?_
                refine WL_step rfl (R_buildL (places := [(0, 1), (1, 1)]) (vs := recC (4, ((0 : Nat) : Int))) Tryz.underlying32 Tryz.typeInfo32 rfl rfl (by kernel_rfl) rfl rfl rfl) ?_
                (refine WL_effn rfl (E_buildRows (vss := [recC (4, ((0 : Nat) : Int))]) H Tryz.underlying33 Tryz.sizeOf32 Tryz.zeroValue32 rfl rfl (by decide) rfl rfl (by simp [recC])) ?_; clear H; intro bx4 w245 hbx4 H)
                (refine WL_effm rfl (E_append (news := recC (4, ((0 : Nat) : Int))) H (.there (.there (.there (.there (.there (.there (.there .last))))))) hO Tryz.underlying33 Tryz.typeInfo32 rfl rfl rfl rfl rfl rfl (src_blk (m := 1) (sp := []) Tryz.underlying33 (H.get .here) rfl (recC_one _)) (by omega) (by simp only [Tryz.t32]; omega)) ?_; clear H; intro vN4 MN4 w246 hON4 H)
                refine WL_stepM rfl (R_as) ?_
                refine WL_nil ?_
                refine W_seq ?_
                refine W_seq ?_
                ((have hy := badTo_y4 (xs := xs) (d := 0) (by rw [hz4]; omega); have hO4 := OwnS.cast hON4 (len' := (badTo xs 8 12 4 1 0).length) (xs' := rows recC (badTo xs 8 12 4 1 0)) (by rw [hy, List.length_append]; rfl) (by rw [hy, rows_append]; rfl); replace H := H.pop (by assumption); obtain ⟨wa, wc, rfl⟩ := hO4.form; have hle4 := badTo_le xs 8 12 4 1 0; have hOk4 := hO4.keys; rcases Classical.em (x.toNat < 8 ∧ Cm.frontB x.toNat = win xs 488 4) with hg | hg <;> first | rw [if_pos hg] at hgis | rw [if_neg hg] at hgis)) <;> (refine W_drawH (fun _ => false) (by kernel_rfl) H ?_; clear H; intro w251 H)
                · refine WA_takeM 0 rfl rfl rfl (by kernel_rfl) (by kernel_rfl) H (fun _ hC => R_mv) ?_
                  refine WA_take 1 rfl rfl rfl (by kernel_rfl) (by kernel_rfl) H (fun _ hC => R_index_S (u := x) (i := (488 : Int)) Tryz.underlying9 rfl rfl (by decide) hx488) ?_
                  refine WA_take 2 rfl rfl rfl (by kernel_rfl) (by kernel_rfl) H (fun _ hC => R_gt_f rfl rfl (by omega)) ?_
                  refine WA_takeM 3 rfl rfl rfl (by kernel_rfl) (by kernel_rfl) H (fun _ hC => R_mv) ?_
                  refine WA_takeGM 4 rfl rfl rfl rfl (by kernel_rfl) (by kernel_rfl) H (fun _ hC => R_mv) ?_
                  refine WA_takeG 5 rfl rfl rfl rfl (by kernel_rfl) (by kernel_rfl) H (fun _ hC => R_slice_S (xs := xs) (i := ((488 : Nat) : Int)) (j := ((xs.length : Nat) : Int)) Tryz.underlying9 rfl (.some rfl) .none (by omega) (by omega) (by omega)) ?_
                  refine WA_takeGM 6 rfl rfl rfl rfl (by kernel_rfl) (by kernel_rfl) H (fun _ hC => R_mv) ?_
                  refine WA_takeG 7 rfl rfl rfl rfl (by kernel_rfl) (by kernel_rfl) H (fun _ hC => R_index_S (u := x) (i := (488 : Int)) Tryz.underlying9 rfl rfl (by decide) hx488) ?_
                  refine WA_takeG 8 rfl rfl rfl rfl (by kernel_rfl) (by kernel_rfl) H (fun _ hC => R_conv_int Tryz.underlying5 Tryz.underlying3 rfl u8_in_i64) ?_
                  refine WA_one (i := 9) (by kernel_rfl) ?_
                  (refine WI_call rfl (.inr ⟨_, _, rfl, rfl⟩) (R_call rfl Tryz.call30 rfl) (refFront2_ret x.toNat (by omega) _) (fun _ _ hR _ => H.seq0 hR.2) ?_; rintro _ w262 ⟨rfl, H1⟩; replace H := H.seq0 H1; clear H1)
                  refine WA_takeG 10 rfl rfl rfl rfl (by kernel_rfl) (by kernel_rfl) H (fun _ hC => R_ne_S rfl rfl) ?_
                  refine WA_takeM 11 rfl rfl rfl (by kernel_rfl) (by kernel_rfl) H (fun _ hC => R_pk_f rfl) ?_
                  refine WA_done (by kernel_rfl) ?_
                  refine W_if rfl (fun h266 => ?_) (fun h266 => ?_)
                  · refine W_region_l ?_
                    refine WL_stepM rfl (R_mv) ?_
                    refine WL_step rfl (R_buildL (places := [(0, 1), (1, 1)]) (vs := recC (5, ((0 : Nat) : Int))) Tryz.underlying32 Tryz.typeInfo32 rfl rfl (by kernel_rfl) rfl rfl rfl) ?_
                    (refine WL_effn rfl (E_buildRows (vss := [recC (5, ((0 : Nat) : Int))]) H Tryz.underlying33 Tryz.sizeOf32 Tryz.zeroValue32 rfl rfl (by decide) rfl rfl (by simp [recC])) ?_; clear H; intro bx5 w270 hbx5 H)
                    (refine WL_effm rfl (E_append (news := recC (5, ((0 : Nat) : Int))) H (.there (.there (.there (.there (.there (.there (.there .last))))))) hO4 Tryz.underlying33 Tryz.typeInfo32 rfl rfl rfl rfl rfl rfl (src_blk (m := 1) (sp := []) Tryz.underlying33 (H.get .here) rfl (recC_one _)) (by omega) (by simp only [Tryz.t32]; omega)) ?_; clear H; intro vN5 MN5 w271 hON5 H)
                    refine WL_stepM rfl (R_as) ?_
                    refine WL_nil ?_
                    refine W_seq ?_
                    (have _q := hON5; exfalso; obtain ⟨h8, he⟩ := hg; rw [← win_end hx] at he; first | omega | simp_all)
                  · refine W_skip ?_
                    refine W_seq ?_
                    (have hy := badTo_n5 (xs := xs) (e := 0) (by rw [hgis]; decide); have hO5 := OwnS.cast hO4 (len' := (badTo xs 8 12 4 1 1).length) (xs' := rows recC (badTo xs 8 12 4 1 1)) (by rw [hy]) (by rw [hy]); have hOk5 := hO5.keys; refine W_draw (Kp [(c8, blk (rows Ring.piC Qs) 44), (c7, blk (rows File.flC Fs) 40), (c6, blk (rows Slot.piC Ps) 37)]) (fun _ => false) (by kernel_rfl) H ?_; clear H; intro w278 H)
                    refine WA_take 0 rfl rfl rfl (by kernel_rfl) (by kernel_rfl) (H.kp.sub (by simp)) (fun _ hC => R_loadA (vs := rows Slot.piC Ps) Tryz.isAgg37 Tryz.sizeOf37 rfl (hC.get (.there (.there .here))) (by rw [List.drop_zero]; exact List.take_of_length_le (by omega)) (by omega)) ?_
                    refine WA_take 1 rfl rfl rfl (by kernel_rfl) (by kernel_rfl) (H.kp.sub (by simp)) (fun _ hC => R_loadA (vs := rows File.flC Fs) Tryz.isAgg40 Tryz.sizeOf40 rfl (hC.get (.there .here)) (by rw [List.drop_zero]; exact List.take_of_length_le (by omega)) (by omega)) ?_
                    refine WA_take 2 rfl rfl rfl (by kernel_rfl) (by kernel_rfl) (H.kp.sub (by simp)) (fun _ hC => R_loadA (vs := rows Ring.piC Qs) Tryz.isAgg44 Tryz.sizeOf44 rfl (hC.get .here) (by rw [List.drop_zero]; exact List.take_of_length_le (by omega)) (by omega)) ?_
                    refine WA_takeM 3 rfl rfl rfl (by kernel_rfl) (by kernel_rfl) (H.kp.sub (by simp)) (fun _ hC => R_mv) ?_
                    refine WA_one (i := 4) (by kernel_rfl) ?_
                    (refine WI_effu rfl (.inl rfl) (E_storeA (vs := rows Slot.piC Ps) H (fun w => by rw [lrP]; exact Tryz.sizeOf37 w) rfl rfl (rows_one' Slot.piC_one _) (.there (.there (.there (.there (.there .here))))) (by rw [lrP, lzP]; decide)) (fun _ H => (by first | exact fun h => absurd h (by decide) | exact fun _ => H | exact fun _ => H.none (by repeat' first | exact kNil | apply kCons | apply kApp | assumption | exact OwnS.keys (by assumption)) | exact fun _ => H.dropN (by repeat' first | exact kNil | apply kCons | apply kApp | assumption | exact OwnS.keys (by assumption)) | exact fun _ => H.pop (by assumption) | exact fun _ => (H.pop (by assumption)).pop (by assumption) | exact fun _ => H.kp | exact fun _ => H.kp.tail | exact fun _ => H.kp.tail.tail | exact fun _ => H.kp.tail.tail.tail | exact fun _ => H.kp.sub (by simp) | exact fun _ => Kp.nil | exact fun _ => H.kh (by simp) (by repeat' first | exact kNil | apply kCons | apply kApp | assumption | exact OwnS.keys (by assumption)))) ?_; clear H; intro w284 H; rw [full_store (c := rP) (vs := rows Slot.piC Ps) (by rw [lrP, lzP])] at H)
                    refine WA_one (i := 5) (by kernel_rfl) ?_
                    (refine WI_effu rfl (.inl rfl) (E_storeA (vs := rows File.flC Fs) H (fun w => by rw [lrF]; exact Tryz.sizeOf40 w) rfl rfl (rows_one' File.fl_one _) (.there (.there (.there (.there .here)))) (by rw [lrF, lzF]; decide)) (fun _ H => (by first | exact fun h => absurd h (by decide) | exact fun _ => H | exact fun _ => H.none (by repeat' first | exact kNil | apply kCons | apply kApp | assumption | exact OwnS.keys (by assumption)) | exact fun _ => H.dropN (by repeat' first | exact kNil | apply kCons | apply kApp | assumption | exact OwnS.keys (by assumption)) | exact fun _ => H.pop (by assumption) | exact fun _ => (H.pop (by assumption)).pop (by assumption) | exact fun _ => H.kp | exact fun _ => H.kp.tail | exact fun _ => H.kp.tail.tail | exact fun _ => H.kp.tail.tail.tail | exact fun _ => H.kp.sub (by simp) | exact fun _ => Kp.nil | exact fun _ => H.kh (by simp) (by repeat' first | exact kNil | apply kCons | apply kApp | assumption | exact OwnS.keys (by assumption)))) ?_; clear H; intro w286 H; rw [full_store (c := rF) (vs := rows File.flC Fs) (by rw [lrF, lzF])] at H)
                    refine WA_one (i := 6) (by kernel_rfl) ?_
                    (refine WI_effu rfl (.inl rfl) (E_storeA (vs := rows Ring.piC Qs) H (fun w => by rw [lrQ]; exact Tryz.sizeOf44 w) rfl rfl (rows_one' Ring.piC_one _) (.there (.there (.there .here))) (by rw [lrQ, lzQ]; decide)) (fun _ H => (by first | exact fun h => absurd h (by decide) | exact fun _ => H | exact fun _ => H.none (by repeat' first | exact kNil | apply kCons | apply kApp | assumption | exact OwnS.keys (by assumption)) | exact fun _ => H.dropN (by repeat' first | exact kNil | apply kCons | apply kApp | assumption | exact OwnS.keys (by assumption)) | exact fun _ => H.pop (by assumption) | exact fun _ => (H.pop (by assumption)).pop (by assumption) | exact fun _ => H.kp | exact fun _ => H.kp.tail | exact fun _ => H.kp.tail.tail | exact fun _ => H.kp.tail.tail.tail | exact fun _ => H.kp.sub (by simp) | exact fun _ => Kp.nil | exact fun _ => H.kh (by simp) (by repeat' first | exact kNil | apply kCons | apply kApp | assumption | exact OwnS.keys (by assumption)))) ?_; clear H; intro w288 H; rw [full_store (c := rQ) (vs := rows Ring.piC Qs) (by rw [lrQ, lzQ])] at H)
                    refine WA_takeM 7 rfl rfl rfl (by kernel_rfl) (by kernel_rfl) (H.kp.sub (by simp)) (fun _ hC => R_as) ?_
                    refine WA_done (by kernel_rfl) ?_
                    refine W_ret ?_
                    exact ⟨[.agg (rows Slot.piC Ps).toArray, .agg (rows File.flC Fs).toArray, .agg (rows Ring.piC Qs).toArray, _], .cell rfl (ldA Tryz.isAgg37 Tryz.sizeOf37 (H.get (.there (.there (.there (.there (.there .here)))))) (by rw [List.drop_zero]; exact List.take_of_length_le (by omega)) (by omega)) (.cell rfl (ldA Tryz.isAgg40 Tryz.sizeOf40 (H.get (.there (.there (.there (.there .here))))) (by rw [List.drop_zero]; exact List.take_of_length_le (by omega)) (by omega)) (.cell rfl (ldA Tryz.isAgg44 Tryz.sizeOf44 (H.get (.there (.there (.there .here)))) (by rw [List.drop_zero]; exact List.take_of_length_le (by omega)) (by omega)) (.tmp rfl .nil))), by simp, _, _, rfl, hO5, ((((((H.pop (by assumption)).pop (by assumption)).pop (by assumption)).pop (by assumption)).pop (by assumption)).pop (by assumption))⟩
                · refine WA_takeM 0 rfl rfl rfl (by kernel_rfl) (by kernel_rfl) H (fun _ hC => R_mv) ?_
                  refine WA_take 1 rfl rfl rfl (by kernel_rfl) (by kernel_rfl) H (fun _ hC => R_index_S (u := x) (i := (488 : Int)) Tryz.underlying9 rfl rfl (by decide) hx488) ?_
                  refine WA_take 2 rfl rfl rfl (by kernel_rfl) (by kernel_rfl) H (fun _ hC => R_gt rfl rfl) ?_
                  refine WA_takeM 3 rfl rfl rfl (by kernel_rfl) (by kernel_rfl) H (fun _ hC => R_mv) ?_
                  refine WA_if 103 rfl (fun h297 => ?_) (fun h297 => ?_)
                  · refine WA_pass 4 rfl rfl rfl (fun h => nomatch h) (by kernel_rfl) (by kernel_rfl) H ?_
                    refine WA_pass 5 rfl rfl rfl (fun h => nomatch h) (by kernel_rfl) (by kernel_rfl) H ?_
                    refine WA_pass 6 rfl rfl rfl (fun h => nomatch h) (by kernel_rfl) (by kernel_rfl) H ?_
                    refine WA_pass 7 rfl rfl rfl (fun h => nomatch h) (by kernel_rfl) (by kernel_rfl) H ?_
                    refine WA_pass 8 rfl rfl rfl (fun h => nomatch h) (by kernel_rfl) (by kernel_rfl) H ?_
                    refine WA_pass 9 rfl rfl rfl (fun h => nomatch h) (by kernel_rfl) (by kernel_rfl) H ?_
                    refine WA_pass 10 rfl rfl rfl (fun h => nomatch h) (by kernel_rfl) (by kernel_rfl) H ?_
                    refine WA_takeM 11 rfl rfl rfl (by kernel_rfl) (by kernel_rfl) H (fun _ hC => R_pk_t rfl) ?_
                    refine WA_done (by kernel_rfl) ?_
                    refine W_cond_t rfl ?_
                    refine W_region_l ?_
                    refine WL_stepM rfl (R_mv) ?_
                    refine WL_step rfl (R_buildL (places := [(0, 1), (1, 1)]) (vs := recC (5, ((0 : Nat) : Int))) Tryz.underlying32 Tryz.typeInfo32 rfl rfl (by kernel_rfl) rfl rfl rfl) ?_
                    (refine WL_effn rfl (E_buildRows (vss := [recC (5, ((0 : Nat) : Int))]) H Tryz.underlying33 Tryz.sizeOf32 Tryz.zeroValue32 rfl rfl (by decide) rfl rfl (by simp [recC])) ?_; clear H; intro bx5 w311 hbx5 H)
                    (refine WL_effm rfl (E_append (news := recC (5, ((0 : Nat) : Int))) H (.there (.there (.there (.there (.there (.there (.there .last))))))) hO4 Tryz.underlying33 Tryz.typeInfo32 rfl rfl rfl rfl rfl rfl (src_blk (m := 1) (sp := []) Tryz.underlying33 (H.get .here) rfl (recC_one _)) (by omega) (by simp only [Tryz.t32]; omega)) ?_; clear H; intro vN5 MN5 w312 hON5 H)
                    refine WL_stepM rfl (R_as) ?_
                    refine WL_nil ?_
                    refine W_seq ?_
                    (have hy := badTo_y5 (xs := xs) (e := 0) hgis; have hO5 := OwnS.cast hON5 (len' := (badTo xs 8 12 4 1 1).length) (xs' := rows recC (badTo xs 8 12 4 1 1)) (by rw [hy, List.length_append]; rfl) (by rw [hy, rows_append]; rfl); replace H := H.pop (by assumption); obtain ⟨ya, yc, rfl⟩ := hO5.form; have hOk5 := hO5.keys; refine W_draw (Kp [(c8, blk (rows Ring.piC Qs) 44), (c7, blk (rows File.flC Fs) 40), (c6, blk (rows Slot.piC Ps) 37)]) (fun _ => false) (by kernel_rfl) H ?_; clear H; intro w316 H)
                    refine WA_take 0 rfl rfl rfl (by kernel_rfl) (by kernel_rfl) (H.kp.sub (by simp)) (fun _ hC => R_loadA (vs := rows Slot.piC Ps) Tryz.isAgg37 Tryz.sizeOf37 rfl (hC.get (.there (.there .here))) (by rw [List.drop_zero]; exact List.take_of_length_le (by omega)) (by omega)) ?_
                    refine WA_take 1 rfl rfl rfl (by kernel_rfl) (by kernel_rfl) (H.kp.sub (by simp)) (fun _ hC => R_loadA (vs := rows File.flC Fs) Tryz.isAgg40 Tryz.sizeOf40 rfl (hC.get (.there .here)) (by rw [List.drop_zero]; exact List.take_of_length_le (by omega)) (by omega)) ?_
                    refine WA_take 2 rfl rfl rfl (by kernel_rfl) (by kernel_rfl) (H.kp.sub (by simp)) (fun _ hC => R_loadA (vs := rows Ring.piC Qs) Tryz.isAgg44 Tryz.sizeOf44 rfl (hC.get .here) (by rw [List.drop_zero]; exact List.take_of_length_le (by omega)) (by omega)) ?_
                    refine WA_takeM 3 rfl rfl rfl (by kernel_rfl) (by kernel_rfl) (H.kp.sub (by simp)) (fun _ hC => R_mv) ?_
                    refine WA_one (i := 4) (by kernel_rfl) ?_
                    (refine WI_effu rfl (.inl rfl) (E_storeA (vs := rows Slot.piC Ps) H (fun w => by rw [lrP]; exact Tryz.sizeOf37 w) rfl rfl (rows_one' Slot.piC_one _) (.there (.there (.there (.there (.there .here))))) (by rw [lrP, lzP]; decide)) (fun _ H => (by first | exact fun h => absurd h (by decide) | exact fun _ => H | exact fun _ => H.none (by repeat' first | exact kNil | apply kCons | apply kApp | assumption | exact OwnS.keys (by assumption)) | exact fun _ => H.dropN (by repeat' first | exact kNil | apply kCons | apply kApp | assumption | exact OwnS.keys (by assumption)) | exact fun _ => H.pop (by assumption) | exact fun _ => (H.pop (by assumption)).pop (by assumption) | exact fun _ => H.kp | exact fun _ => H.kp.tail | exact fun _ => H.kp.tail.tail | exact fun _ => H.kp.tail.tail.tail | exact fun _ => H.kp.sub (by simp) | exact fun _ => Kp.nil | exact fun _ => H.kh (by simp) (by repeat' first | exact kNil | apply kCons | apply kApp | assumption | exact OwnS.keys (by assumption)))) ?_; clear H; intro w322 H; rw [full_store (c := rP) (vs := rows Slot.piC Ps) (by rw [lrP, lzP])] at H)
                    refine WA_one (i := 5) (by kernel_rfl) ?_
                    (refine WI_effu rfl (.inl rfl) (E_storeA (vs := rows File.flC Fs) H (fun w => by rw [lrF]; exact Tryz.sizeOf40 w) rfl rfl (rows_one' File.fl_one _) (.there (.there (.there (.there .here)))) (by rw [lrF, lzF]; decide)) (fun _ H => (by first | exact fun h => absurd h (by decide) | exact fun _ => H | exact fun _ => H.none (by repeat' first | exact kNil | apply kCons | apply kApp | assumption | exact OwnS.keys (by assumption)) | exact fun _ => H.dropN (by repeat' first | exact kNil | apply kCons | apply kApp | assumption | exact OwnS.keys (by assumption)) | exact fun _ => H.pop (by assumption) | exact fun _ => (H.pop (by assumption)).pop (by assumption) | exact fun _ => H.kp | exact fun _ => H.kp.tail | exact fun _ => H.kp.tail.tail | exact fun _ => H.kp.tail.tail.tail | exact fun _ => H.kp.sub (by simp) | exact fun _ => Kp.nil | exact fun _ => H.kh (by simp) (by repeat' first | exact kNil | apply kCons | apply kApp | assumption | exact OwnS.keys (by assumption)))) ?_; clear H; intro w324 H; rw [full_store (c := rF) (vs := rows File.flC Fs) (by rw [lrF, lzF])] at H)
                    refine WA_one (i := 6) (by kernel_rfl) ?_
                    (refine WI_effu rfl (.inl rfl) (E_storeA (vs := rows Ring.piC Qs) H (fun w => by rw [lrQ]; exact Tryz.sizeOf44 w) rfl rfl (rows_one' Ring.piC_one _) (.there (.there (.there .here))) (by rw [lrQ, lzQ]; decide)) (fun _ H => (by first | exact fun h => absurd h (by decide) | exact fun _ => H | exact fun _ => H.none (by repeat' first | exact kNil | apply kCons | apply kApp | assumption | exact OwnS.keys (by assumption)) | exact fun _ => H.dropN (by repeat' first | exact kNil | apply kCons | apply kApp | assumption | exact OwnS.keys (by assumption)) | exact fun _ => H.pop (by assumption) | exact fun _ => (H.pop (by assumption)).pop (by assumption) | exact fun _ => H.kp | exact fun _ => H.kp.tail | exact fun _ => H.kp.tail.tail | exact fun _ => H.kp.tail.tail.tail | exact fun _ => H.kp.sub (by simp) | exact fun _ => Kp.nil | exact fun _ => H.kh (by simp) (by repeat' first | exact kNil | apply kCons | apply kApp | assumption | exact OwnS.keys (by assumption)))) ?_; clear H; intro w326 H; rw [full_store (c := rQ) (vs := rows Ring.piC Qs) (by rw [lrQ, lzQ])] at H)
                    refine WA_takeM 7 rfl rfl rfl (by kernel_rfl) (by kernel_rfl) (H.kp.sub (by simp)) (fun _ hC => R_as) ?_
                    refine WA_done (by kernel_rfl) ?_
                    refine W_ret ?_
                    exact ⟨[.agg (rows Slot.piC Ps).toArray, .agg (rows File.flC Fs).toArray, .agg (rows Ring.piC Qs).toArray, _], .cell rfl (ldA Tryz.isAgg37 Tryz.sizeOf37 (H.get (.there (.there (.there (.there (.there .here)))))) (by rw [List.drop_zero]; exact List.take_of_length_le (by omega)) (by omega)) (.cell rfl (ldA Tryz.isAgg40 Tryz.sizeOf40 (H.get (.there (.there (.there (.there .here))))) (by rw [List.drop_zero]; exact List.take_of_length_le (by omega)) (by omega)) (.cell rfl (ldA Tryz.isAgg44 Tryz.sizeOf44 (H.get (.there (.there (.there .here)))) (by rw [List.drop_zero]; exact List.take_of_length_le (by omega)) (by omega)) (.tmp rfl .nil))), by simp, _, _, rfl, hO5, ((((((H.pop (by assumption)).pop (by assumption)).pop (by assumption)).pop (by assumption)).pop (by assumption)).pop (by assumption))⟩
                  · refine WA_takeGM 4 rfl rfl rfl rfl (by kernel_rfl) (by kernel_rfl) H (fun _ hC => R_mv) ?_
                    refine WA_takeG 5 rfl rfl rfl rfl (by kernel_rfl) (by kernel_rfl) H (fun _ hC => R_slice_S (xs := xs) (i := ((488 : Nat) : Int)) (j := ((xs.length : Nat) : Int)) Tryz.underlying9 rfl (.some rfl) .none (by omega) (by omega) (by omega)) ?_
                    refine WA_takeGM 6 rfl rfl rfl rfl (by kernel_rfl) (by kernel_rfl) H (fun _ hC => R_mv) ?_
                    refine WA_takeG 7 rfl rfl rfl rfl (by kernel_rfl) (by kernel_rfl) H (fun _ hC => R_index_S (u := x) (i := (488 : Int)) Tryz.underlying9 rfl rfl (by decide) hx488) ?_
                    refine WA_takeG 8 rfl rfl rfl rfl (by kernel_rfl) (by kernel_rfl) H (fun _ hC => R_conv_int Tryz.underlying5 Tryz.underlying3 rfl u8_in_i64) ?_
                    refine WA_one (i := 9) (by kernel_rfl) ?_
                    (refine WI_call rfl (.inr ⟨_, _, rfl, rfl⟩) (R_call rfl Tryz.call30 rfl) (refFront2_ret x.toNat (by omega) _) (fun _ _ hR _ => H.seq0 hR.2) ?_; rintro _ w337 ⟨rfl, H1⟩; replace H := H.seq0 H1; clear H1)
                    refine WA_takeG 10 rfl rfl rfl rfl (by kernel_rfl) (by kernel_rfl) H (fun _ hC => R_ne_S rfl rfl) ?_
                    refine WA_takeM 11 rfl rfl rfl (by kernel_rfl) (by kernel_rfl) H (fun _ hC => R_pk_f rfl) ?_
                    refine WA_done (by kernel_rfl) ?_
                    refine W_if rfl (fun h341 => ?_) (fun h341 => ?_)
                    · refine W_region_l ?_
                      refine WL_stepM rfl (R_mv) ?_
                      refine WL_step rfl (R_buildL (places := [(0, 1), (1, 1)]) (vs := recC (5, ((0 : Nat) : Int))) Tryz.underlying32 Tryz.typeInfo32 rfl rfl (by kernel_rfl) rfl rfl rfl) ?_
                      (refine WL_effn rfl (E_buildRows (vss := [recC (5, ((0 : Nat) : Int))]) H Tryz.underlying33 Tryz.sizeOf32 Tryz.zeroValue32 rfl rfl (by decide) rfl rfl (by simp [recC])) ?_; clear H; intro bx5 w345 hbx5 H)
                      (refine WL_effm rfl (E_append (news := recC (5, ((0 : Nat) : Int))) H (.there (.there (.there (.there (.there (.there (.there .last))))))) hO4 Tryz.underlying33 Tryz.typeInfo32 rfl rfl rfl rfl rfl rfl (src_blk (m := 1) (sp := []) Tryz.underlying33 (H.get .here) rfl (recC_one _)) (by omega) (by simp only [Tryz.t32]; omega)) ?_; clear H; intro vN5 MN5 w346 hON5 H)
                      refine WL_stepM rfl (R_as) ?_
                      refine WL_nil ?_
                      refine W_seq ?_
                      (have hy := badTo_y5 (xs := xs) (e := 0) hgis; have hO5 := OwnS.cast hON5 (len' := (badTo xs 8 12 4 1 1).length) (xs' := rows recC (badTo xs 8 12 4 1 1)) (by rw [hy, List.length_append]; rfl) (by rw [hy, rows_append]; rfl); replace H := H.pop (by assumption); obtain ⟨ya, yc, rfl⟩ := hO5.form; have hOk5 := hO5.keys; refine W_draw (Kp [(c8, blk (rows Ring.piC Qs) 44), (c7, blk (rows File.flC Fs) 40), (c6, blk (rows Slot.piC Ps) 37)]) (fun _ => false) (by kernel_rfl) H ?_; clear H; intro w350 H)
                      refine WA_take 0 rfl rfl rfl (by kernel_rfl) (by kernel_rfl) (H.kp.sub (by simp)) (fun _ hC => R_loadA (vs := rows Slot.piC Ps) Tryz.isAgg37 Tryz.sizeOf37 rfl (hC.get (.there (.there .here))) (by rw [List.drop_zero]; exact List.take_of_length_le (by omega)) (by omega)) ?_
                      refine WA_take 1 rfl rfl rfl (by kernel_rfl) (by kernel_rfl) (H.kp.sub (by simp)) (fun _ hC => R_loadA (vs := rows File.flC Fs) Tryz.isAgg40 Tryz.sizeOf40 rfl (hC.get (.there .here)) (by rw [List.drop_zero]; exact List.take_of_length_le (by omega)) (by omega)) ?_
                      refine WA_take 2 rfl rfl rfl (by kernel_rfl) (by kernel_rfl) (H.kp.sub (by simp)) (fun _ hC => R_loadA (vs := rows Ring.piC Qs) Tryz.isAgg44 Tryz.sizeOf44 rfl (hC.get .here) (by rw [List.drop_zero]; exact List.take_of_length_le (by omega)) (by omega)) ?_
                      refine WA_takeM 3 rfl rfl rfl (by kernel_rfl) (by kernel_rfl) (H.kp.sub (by simp)) (fun _ hC => R_mv) ?_
                      refine WA_one (i := 4) (by kernel_rfl) ?_
                      (refine WI_effu rfl (.inl rfl) (E_storeA (vs := rows Slot.piC Ps) H (fun w => by rw [lrP]; exact Tryz.sizeOf37 w) rfl rfl (rows_one' Slot.piC_one _) (.there (.there (.there (.there (.there .here))))) (by rw [lrP, lzP]; decide)) (fun _ H => (by first | exact fun h => absurd h (by decide) | exact fun _ => H | exact fun _ => H.none (by repeat' first | exact kNil | apply kCons | apply kApp | assumption | exact OwnS.keys (by assumption)) | exact fun _ => H.dropN (by repeat' first | exact kNil | apply kCons | apply kApp | assumption | exact OwnS.keys (by assumption)) | exact fun _ => H.pop (by assumption) | exact fun _ => (H.pop (by assumption)).pop (by assumption) | exact fun _ => H.kp | exact fun _ => H.kp.tail | exact fun _ => H.kp.tail.tail | exact fun _ => H.kp.tail.tail.tail | exact fun _ => H.kp.sub (by simp) | exact fun _ => Kp.nil | exact fun _ => H.kh (by simp) (by repeat' first | exact kNil | apply kCons | apply kApp | assumption | exact OwnS.keys (by assumption)))) ?_; clear H; intro w356 H; rw [full_store (c := rP) (vs := rows Slot.piC Ps) (by rw [lrP, lzP])] at H)
                      refine WA_one (i := 5) (by kernel_rfl) ?_
                      (refine WI_effu rfl (.inl rfl) (E_storeA (vs := rows File.flC Fs) H (fun w => by rw [lrF]; exact Tryz.sizeOf40 w) rfl rfl (rows_one' File.fl_one _) (.there (.there (.there (.there .here)))) (by rw [lrF, lzF]; decide)) (fun _ H => (by first | exact fun h => absurd h (by decide) | exact fun _ => H | exact fun _ => H.none (by repeat' first | exact kNil | apply kCons | apply kApp | assumption | exact OwnS.keys (by assumption)) | exact fun _ => H.dropN (by repeat' first | exact kNil | apply kCons | apply kApp | assumption | exact OwnS.keys (by assumption)) | exact fun _ => H.pop (by assumption) | exact fun _ => (H.pop (by assumption)).pop (by assumption) | exact fun _ => H.kp | exact fun _ => H.kp.tail | exact fun _ => H.kp.tail.tail | exact fun _ => H.kp.tail.tail.tail | exact fun _ => H.kp.sub (by simp) | exact fun _ => Kp.nil | exact fun _ => H.kh (by simp) (by repeat' first | exact kNil | apply kCons | apply kApp | assumption | exact OwnS.keys (by assumption)))) ?_; clear H; intro w358 H; rw [full_store (c := rF) (vs := rows File.flC Fs) (by rw [lrF, lzF])] at H)
                      refine WA_one (i := 6) (by kernel_rfl) ?_
                      (refine WI_effu rfl (.inl rfl) (E_storeA (vs := rows Ring.piC Qs) H (fun w => by rw [lrQ]; exact Tryz.sizeOf44 w) rfl rfl (rows_one' Ring.piC_one _) (.there (.there (.there .here))) (by rw [lrQ, lzQ]; decide)) (fun _ H => (by first | exact fun h => absurd h (by decide) | exact fun _ => H | exact fun _ => H.none (by repeat' first | exact kNil | apply kCons | apply kApp | assumption | exact OwnS.keys (by assumption)) | exact fun _ => H.dropN (by repeat' first | exact kNil | apply kCons | apply kApp | assumption | exact OwnS.keys (by assumption)) | exact fun _ => H.pop (by assumption) | exact fun _ => (H.pop (by assumption)).pop (by assumption) | exact fun _ => H.kp | exact fun _ => H.kp.tail | exact fun _ => H.kp.tail.tail | exact fun _ => H.kp.tail.tail.tail | exact fun _ => H.kp.sub (by simp) | exact fun _ => Kp.nil | exact fun _ => H.kh (by simp) (by repeat' first | exact kNil | apply kCons | apply kApp | assumption | exact OwnS.keys (by assumption)))) ?_; clear H; intro w360 H; rw [full_store (c := rQ) (vs := rows Ring.piC Qs) (by rw [lrQ, lzQ])] at H)
                      refine WA_takeM 7 rfl rfl rfl (by kernel_rfl) (by kernel_rfl) (H.kp.sub (by simp)) (fun _ hC => R_as) ?_
                      refine WA_done (by kernel_rfl) ?_
                      refine W_ret ?_
                      exact ⟨[.agg (rows Slot.piC Ps).toArray, .agg (rows File.flC Fs).toArray, .agg (rows Ring.piC Qs).toArray, _], .cell rfl (ldA Tryz.isAgg37 Tryz.sizeOf37 (H.get (.there (.there (.there (.there (.there .here)))))) (by rw [List.drop_zero]; exact List.take_of_length_le (by omega)) (by omega)) (.cell rfl (ldA Tryz.isAgg40 Tryz.sizeOf40 (H.get (.there (.there (.there (.there .here))))) (by rw [List.drop_zero]; exact List.take_of_length_le (by omega)) (by omega)) (.cell rfl (ldA Tryz.isAgg44 Tryz.sizeOf44 (H.get (.there (.there (.there .here)))) (by rw [List.drop_zero]; exact List.take_of_length_le (by omega)) (by omega)) (.tmp rfl .nil))), by simp, _, _, rfl, hO5, ((((((H.pop (by assumption)).pop (by assumption)).pop (by assumption)).pop (by assumption)).pop (by assumption)).pop (by assumption))⟩
                    · refine W_skip ?_
                      refine W_seq ?_
                      exact absurd (show x.toNat < 8 ∧ Cm.frontB x.toNat = win xs 488 4 from ⟨by omega, by rw [← win_end hx]; simp_all⟩) hg
              · refine W_skip ?_
                refine W_seq ?_
                refine W_seq ?_
                ((have hy := badTo_n4 (xs := xs) (d := 0) (by rw [hz4]; omega); have hO4 := OwnS.cast hO (len' := (badTo xs 8 12 4 1 0).length) (xs' := rows recC (badTo xs 8 12 4 1 0)) (by rw [hy]) (by rw [hy]); have hle4 := badTo_le xs 8 12 4 1 0; have hOk4 := hO4.keys; rcases Classical.em (x.toNat < 8 ∧ Cm.frontB x.toNat = win xs 488 4) with hg | hg <;> first | rw [if_pos hg] at hgis | rw [if_neg hg] at hgis)) <;> (refine W_drawH (fun _ => false) (by kernel_rfl) H ?_; clear H; intro w371 H)
                · refine WA_takeM 0 rfl rfl rfl (by kernel_rfl) (by kernel_rfl) H (fun _ hC => R_mv) ?_
                  refine WA_take 1 rfl rfl rfl (by kernel_rfl) (by kernel_rfl) H (fun _ hC => R_index_S (u := x) (i := (488 : Int)) Tryz.underlying9 rfl rfl (by decide) hx488) ?_
                  refine WA_take 2 rfl rfl rfl (by kernel_rfl) (by kernel_rfl) H (fun _ hC => R_gt_f rfl rfl (by omega)) ?_
                  refine WA_takeM 3 rfl rfl rfl (by kernel_rfl) (by kernel_rfl) H (fun _ hC => R_mv) ?_
                  refine WA_takeGM 4 rfl rfl rfl rfl (by kernel_rfl) (by kernel_rfl) H (fun _ hC => R_mv) ?_
                  refine WA_takeG 5 rfl rfl rfl rfl (by kernel_rfl) (by kernel_rfl) H (fun _ hC => R_slice_S (xs := xs) (i := ((488 : Nat) : Int)) (j := ((xs.length : Nat) : Int)) Tryz.underlying9 rfl (.some rfl) .none (by omega) (by omega) (by omega)) ?_
                  refine WA_takeGM 6 rfl rfl rfl rfl (by kernel_rfl) (by kernel_rfl) H (fun _ hC => R_mv) ?_
                  refine WA_takeG 7 rfl rfl rfl rfl (by kernel_rfl) (by kernel_rfl) H (fun _ hC => R_index_S (u := x) (i := (488 : Int)) Tryz.underlying9 rfl rfl (by decide) hx488) ?_
                  refine WA_takeG 8 rfl rfl rfl rfl (by kernel_rfl) (by kernel_rfl) H (fun _ hC => R_conv_int Tryz.underlying5 Tryz.underlying3 rfl u8_in_i64) ?_
                  refine WA_one (i := 9) (by kernel_rfl) ?_
                  (refine WI_call rfl (.inr ⟨_, _, rfl, rfl⟩) (R_call rfl Tryz.call30 rfl) (refFront2_ret x.toNat (by omega) _) (fun _ _ hR _ => H.seq0 hR.2) ?_; rintro _ w382 ⟨rfl, H1⟩; replace H := H.seq0 H1; clear H1)
                  refine WA_takeG 10 rfl rfl rfl rfl (by kernel_rfl) (by kernel_rfl) H (fun _ hC => R_ne_S rfl rfl) ?_
                  refine WA_takeM 11 rfl rfl rfl (by kernel_rfl) (by kernel_rfl) H (fun _ hC => R_pk_f rfl) ?_
                  refine WA_done (by kernel_rfl) ?_
                  refine W_if rfl (fun h386 => ?_) (fun h386 => ?_)
                  · refine W_region_l ?_
                    refine WL_stepM rfl (R_mv) ?_
                    refine WL_step rfl (R_buildL (places := [(0, 1), (1, 1)]) (vs := recC (5, ((0 : Nat) : Int))) Tryz.underlying32 Tryz.typeInfo32 rfl rfl (by kernel_rfl) rfl rfl rfl) ?_
                    (refine WL_effn rfl (E_buildRows (vss := [recC (5, ((0 : Nat) : Int))]) H Tryz.underlying33 Tryz.sizeOf32 Tryz.zeroValue32 rfl rfl (by decide) rfl rfl (by simp [recC])) ?_; clear H; intro bx5 w390 hbx5 H)
                    (refine WL_effm rfl (E_append (news := recC (5, ((0 : Nat) : Int))) H (.there (.there (.there (.there (.there (.there (.there .last))))))) hO4 Tryz.underlying33 Tryz.typeInfo32 rfl rfl rfl rfl rfl rfl (src_blk (m := 1) (sp := []) Tryz.underlying33 (H.get .here) rfl (recC_one _)) (by omega) (by simp only [Tryz.t32]; omega)) ?_; clear H; intro vN5 MN5 w391 hON5 H)
                    refine WL_stepM rfl (R_as) ?_
                    refine WL_nil ?_
                    refine W_seq ?_
                    (have _q := hON5; exfalso; obtain ⟨h8, he⟩ := hg; rw [← win_end hx] at he; first | omega | simp_all)
                  · refine W_skip ?_
                    refine W_seq ?_
                    (have hy := badTo_n5 (xs := xs) (e := 0) (by rw [hgis]; decide); have hO5 := OwnS.cast hO4 (len' := (badTo xs 8 12 4 1 1).length) (xs' := rows recC (badTo xs 8 12 4 1 1)) (by rw [hy]) (by rw [hy]); have hOk5 := hO5.keys; refine W_draw (Kp [(c8, blk (rows Ring.piC Qs) 44), (c7, blk (rows File.flC Fs) 40), (c6, blk (rows Slot.piC Ps) 37)]) (fun _ => false) (by kernel_rfl) H ?_; clear H; intro w398 H)
                    refine WA_take 0 rfl rfl rfl (by kernel_rfl) (by kernel_rfl) (H.kp.sub (by simp)) (fun _ hC => R_loadA (vs := rows Slot.piC Ps) Tryz.isAgg37 Tryz.sizeOf37 rfl (hC.get (.there (.there .here))) (by rw [List.drop_zero]; exact List.take_of_length_le (by omega)) (by omega)) ?_
                    refine WA_take 1 rfl rfl rfl (by kernel_rfl) (by kernel_rfl) (H.kp.sub (by simp)) (fun _ hC => R_loadA (vs := rows File.flC Fs) Tryz.isAgg40 Tryz.sizeOf40 rfl (hC.get (.there .here)) (by rw [List.drop_zero]; exact List.take_of_length_le (by omega)) (by omega)) ?_
                    refine WA_take 2 rfl rfl rfl (by kernel_rfl) (by kernel_rfl) (H.kp.sub (by simp)) (fun _ hC => R_loadA (vs := rows Ring.piC Qs) Tryz.isAgg44 Tryz.sizeOf44 rfl (hC.get .here) (by rw [List.drop_zero]; exact List.take_of_length_le (by omega)) (by omega)) ?_
                    refine WA_takeM 3 rfl rfl rfl (by kernel_rfl) (by kernel_rfl) (H.kp.sub (by simp)) (fun _ hC => R_mv) ?_
                    refine WA_one (i := 4) (by kernel_rfl) ?_
                    (refine WI_effu rfl (.inl rfl) (E_storeA (vs := rows Slot.piC Ps) H (fun w => by rw [lrP]; exact Tryz.sizeOf37 w) rfl rfl (rows_one' Slot.piC_one _) (.there (.there (.there (.there (.there .here))))) (by rw [lrP, lzP]; decide)) (fun _ H => (by first | exact fun h => absurd h (by decide) | exact fun _ => H | exact fun _ => H.none (by repeat' first | exact kNil | apply kCons | apply kApp | assumption | exact OwnS.keys (by assumption)) | exact fun _ => H.dropN (by repeat' first | exact kNil | apply kCons | apply kApp | assumption | exact OwnS.keys (by assumption)) | exact fun _ => H.pop (by assumption) | exact fun _ => (H.pop (by assumption)).pop (by assumption) | exact fun _ => H.kp | exact fun _ => H.kp.tail | exact fun _ => H.kp.tail.tail | exact fun _ => H.kp.tail.tail.tail | exact fun _ => H.kp.sub (by simp) | exact fun _ => Kp.nil | exact fun _ => H.kh (by simp) (by repeat' first | exact kNil | apply kCons | apply kApp | assumption | exact OwnS.keys (by assumption)))) ?_; clear H; intro w404 H; rw [full_store (c := rP) (vs := rows Slot.piC Ps) (by rw [lrP, lzP])] at H)
                    refine WA_one (i := 5) (by kernel_rfl) ?_
                    (refine WI_effu rfl (.inl rfl) (E_storeA (vs := rows File.flC Fs) H (fun w => by rw [lrF]; exact Tryz.sizeOf40 w) rfl rfl (rows_one' File.fl_one _) (.there (.there (.there (.there .here)))) (by rw [lrF, lzF]; decide)) (fun _ H => (by first | exact fun h => absurd h (by decide) | exact fun _ => H | exact fun _ => H.none (by repeat' first | exact kNil | apply kCons | apply kApp | assumption | exact OwnS.keys (by assumption)) | exact fun _ => H.dropN (by repeat' first | exact kNil | apply kCons | apply kApp | assumption | exact OwnS.keys (by assumption)) | exact fun _ => H.pop (by assumption) | exact fun _ => (H.pop (by assumption)).pop (by assumption) | exact fun _ => H.kp | exact fun _ => H.kp.tail | exact fun _ => H.kp.tail.tail | exact fun _ => H.kp.tail.tail.tail | exact fun _ => H.kp.sub (by simp) | exact fun _ => Kp.nil | exact fun _ => H.kh (by simp) (by repeat' first | exact kNil | apply kCons | apply kApp | assumption | exact OwnS.keys (by assumption)))) ?_; clear H; intro w406 H; rw [full_store (c := rF) (vs := rows File.flC Fs) (by rw [lrF, lzF])] at H)
                    refine WA_one (i := 6) (by kernel_rfl) ?_
                    (refine WI_effu rfl (.inl rfl) (E_storeA (vs := rows Ring.piC Qs) H (fun w => by rw [lrQ]; exact Tryz.sizeOf44 w) rfl rfl (rows_one' Ring.piC_one _) (.there (.there (.there .here))) (by rw [lrQ, lzQ]; decide)) (fun _ H => (by first | exact fun h => absurd h (by decide) | exact fun _ => H | exact fun _ => H.none (by repeat' first | exact kNil | apply kCons | apply kApp | assumption | exact OwnS.keys (by assumption)) | exact fun _ => H.dropN (by repeat' first | exact kNil | apply kCons | apply kApp | assumption | exact OwnS.keys (by assumption)) | exact fun _ => H.pop (by assumption) | exact fun _ => (H.pop (by assumption)).pop (by assumption) | exact fun _ => H.kp | exact fun _ => H.kp.tail | exact fun _ => H.kp.tail.tail | exact fun _ => H.kp.tail.tail.tail | exact fun _ => H.kp.sub (by simp) | exact fun _ => Kp.nil | exact fun _ => H.kh (by simp) (by repeat' first | exact kNil | apply kCons | apply kApp | assumption | exact OwnS.keys (by assumption)))) ?_; clear H; intro w408 H; rw [full_store (c := rQ) (vs := rows Ring.piC Qs) (by rw [lrQ, lzQ])] at H)
                    refine WA_takeM 7 rfl rfl rfl (by kernel_rfl) (by kernel_rfl) (H.kp.sub (by simp)) (fun _ hC => R_as) ?_
                    refine WA_done (by kernel_rfl) ?_
                    refine W_ret ?_
                    exact ⟨[.agg (rows Slot.piC Ps).toArray, .agg (rows File.flC Fs).toArray, .agg (rows Ring.piC Qs).toArray, _], .cell rfl (ldA Tryz.isAgg37 Tryz.sizeOf37 (H.get (.there (.there (.there (.there (.there .here)))))) (by rw [List.drop_zero]; exact List.take_of_length_le (by omega)) (by omega)) (.cell rfl (ldA Tryz.isAgg40 Tryz.sizeOf40 (H.get (.there (.there (.there (.there .here))))) (by rw [List.drop_zero]; exact List.take_of_length_le (by omega)) (by omega)) (.cell rfl (ldA Tryz.isAgg44 Tryz.sizeOf44 (H.get (.there (.there (.there .here)))) (by rw [List.drop_zero]; exact List.take_of_length_le (by omega)) (by omega)) (.tmp rfl .nil))), by simp, _, _, rfl, hO5, ((((((H.pop (by assumption)).pop (by assumption)).pop (by assumption)).pop (by assumption)).pop (by assumption)).pop (by assumption))⟩
                · refine WA_takeM 0 rfl rfl rfl (by kernel_rfl) (by kernel_rfl) H (fun _ hC => R_mv) ?_
                  refine WA_take 1 rfl rfl rfl (by kernel_rfl) (by kernel_rfl) H (fun _ hC => R_index_S (u := x) (i := (488 : Int)) Tryz.underlying9 rfl rfl (by decide) hx488) ?_
                  refine WA_take 2 rfl rfl rfl (by kernel_rfl) (by kernel_rfl) H (fun _ hC => R_gt rfl rfl) ?_
                  refine WA_takeM 3 rfl rfl rfl (by kernel_rfl) (by kernel_rfl) H (fun _ hC => R_mv) ?_
                  refine WA_if 103 rfl (fun h417 => ?_) (fun h417 => ?_)
                  · refine WA_pass 4 rfl rfl rfl (fun h => nomatch h) (by kernel_rfl) (by kernel_rfl) H ?_
                    refine WA_pass 5 rfl rfl rfl (fun h => nomatch h) (by kernel_rfl) (by kernel_rfl) H ?_
                    refine WA_pass 6 rfl rfl rfl (fun h => nomatch h) (by kernel_rfl) (by kernel_rfl) H ?_
                    refine WA_pass 7 rfl rfl rfl (fun h => nomatch h) (by kernel_rfl) (by kernel_rfl) H ?_
                    refine WA_pass 8 rfl rfl rfl (fun h => nomatch h) (by kernel_rfl) (by kernel_rfl) H ?_
                    refine WA_pass 9 rfl rfl rfl (fun h => nomatch h) (by kernel_rfl) (by kernel_rfl) H ?_
                    refine WA_pass 10 rfl rfl rfl (fun h => nomatch h) (by kernel_rfl) (by kernel_rfl) H ?_
                    refine WA_takeM 11 rfl rfl rfl (by kernel_rfl) (by kernel_rfl) H (fun _ hC => R_pk_t rfl) ?_
                    refine WA_done (by kernel_rfl) ?_
                    refine W_cond_t rfl ?_
                    refine W_region_l ?_
                    refine WL_stepM rfl (R_mv) ?_
                    refine WL_step rfl (R_buildL (places := [(0, 1), (1, 1)]) (vs := recC (5, ((0 : Nat) : Int))) Tryz.underlying32 Tryz.typeInfo32 rfl rfl (by kernel_rfl) rfl rfl rfl) ?_
                    (refine WL_effn rfl (E_buildRows (vss := [recC (5, ((0 : Nat) : Int))]) H Tryz.underlying33 Tryz.sizeOf32 Tryz.zeroValue32 rfl rfl (by decide) rfl rfl (by simp [recC])) ?_; clear H; intro bx5 w431 hbx5 H)
                    (refine WL_effm rfl (E_append (news := recC (5, ((0 : Nat) : Int))) H (.there (.there (.there (.there (.there (.there (.there .last))))))) hO4 Tryz.underlying33 Tryz.typeInfo32 rfl rfl rfl rfl rfl rfl (src_blk (m := 1) (sp := []) Tryz.underlying33 (H.get .here) rfl (recC_one _)) (by omega) (by simp only [Tryz.t32]; omega)) ?_; clear H; intro vN5 MN5 w432 hON5 H)
                    refine WL_stepM rfl (R_as) ?_
                    refine WL_nil ?_
                    refine W_seq ?_
                    (have hy := badTo_y5 (xs := xs) (e := 0) hgis; have hO5 := OwnS.cast hON5 (len' := (badTo xs 8 12 4 1 1).length) (xs' := rows recC (badTo xs 8 12 4 1 1)) (by rw [hy, List.length_append]; rfl) (by rw [hy, rows_append]; rfl); replace H := H.pop (by assumption); obtain ⟨ya, yc, rfl⟩ := hO5.form; have hOk5 := hO5.keys; refine W_draw (Kp [(c8, blk (rows Ring.piC Qs) 44), (c7, blk (rows File.flC Fs) 40), (c6, blk (rows Slot.piC Ps) 37)]) (fun _ => false) (by kernel_rfl) H ?_; clear H; intro w436 H)
                    refine WA_take 0 rfl rfl rfl (by kernel_rfl) (by kernel_rfl) (H.kp.sub (by simp)) (fun _ hC => R_loadA (vs := rows Slot.piC Ps) Tryz.isAgg37 Tryz.sizeOf37 rfl (hC.get (.there (.there .here))) (by rw [List.drop_zero]; exact List.take_of_length_le (by omega)) (by omega)) ?_
                    refine WA_take 1 rfl rfl rfl (by kernel_rfl) (by kernel_rfl) (H.kp.sub (by simp)) (fun _ hC => R_loadA (vs := rows File.flC Fs) Tryz.isAgg40 Tryz.sizeOf40 rfl (hC.get (.there .here)) (by rw [List.drop_zero]; exact List.take_of_length_le (by omega)) (by omega)) ?_
                    refine WA_take 2 rfl rfl rfl (by kernel_rfl) (by kernel_rfl) (H.kp.sub (by simp)) (fun _ hC => R_loadA (vs := rows Ring.piC Qs) Tryz.isAgg44 Tryz.sizeOf44 rfl (hC.get .here) (by rw [List.drop_zero]; exact List.take_of_length_le (by omega)) (by omega)) ?_
                    refine WA_takeM 3 rfl rfl rfl (by kernel_rfl) (by kernel_rfl) (H.kp.sub (by simp)) (fun _ hC => R_mv) ?_
                    refine WA_one (i := 4) (by kernel_rfl) ?_
                    (refine WI_effu rfl (.inl rfl) (E_storeA (vs := rows Slot.piC Ps) H (fun w => by rw [lrP]; exact Tryz.sizeOf37 w) rfl rfl (rows_one' Slot.piC_one _) (.there (.there (.there (.there (.there .here))))) (by rw [lrP, lzP]; decide)) (fun _ H => (by first | exact fun h => absurd h (by decide) | exact fun _ => H | exact fun _ => H.none (by repeat' first | exact kNil | apply kCons | apply kApp | assumption | exact OwnS.keys (by assumption)) | exact fun _ => H.dropN (by repeat' first | exact kNil | apply kCons | apply kApp | assumption | exact OwnS.keys (by assumption)) | exact fun _ => H.pop (by assumption) | exact fun _ => (H.pop (by assumption)).pop (by assumption) | exact fun _ => H.kp | exact fun _ => H.kp.tail | exact fun _ => H.kp.tail.tail | exact fun _ => H.kp.tail.tail.tail | exact fun _ => H.kp.sub (by simp) | exact fun _ => Kp.nil | exact fun _ => H.kh (by simp) (by repeat' first | exact kNil | apply kCons | apply kApp | assumption | exact OwnS.keys (by assumption)))) ?_; clear H; intro w442 H; rw [full_store (c := rP) (vs := rows Slot.piC Ps) (by rw [lrP, lzP])] at H)
                    refine WA_one (i := 5) (by kernel_rfl) ?_
                    (refine WI_effu rfl (.inl rfl) (E_storeA (vs := rows File.flC Fs) H (fun w => by rw [lrF]; exact Tryz.sizeOf40 w) rfl rfl (rows_one' File.fl_one _) (.there (.there (.there (.there .here)))) (by rw [lrF, lzF]; decide)) (fun _ H => (by first | exact fun h => absurd h (by decide) | exact fun _ => H | exact fun _ => H.none (by repeat' first | exact kNil | apply kCons | apply kApp | assumption | exact OwnS.keys (by assumption)) | exact fun _ => H.dropN (by repeat' first | exact kNil | apply kCons | apply kApp | assumption | exact OwnS.keys (by assumption)) | exact fun _ => H.pop (by assumption) | exact fun _ => (H.pop (by assumption)).pop (by assumption) | exact fun _ => H.kp | exact fun _ => H.kp.tail | exact fun _ => H.kp.tail.tail | exact fun _ => H.kp.tail.tail.tail | exact fun _ => H.kp.sub (by simp) | exact fun _ => Kp.nil | exact fun _ => H.kh (by simp) (by repeat' first | exact kNil | apply kCons | apply kApp | assumption | exact OwnS.keys (by assumption)))) ?_; clear H; intro w444 H; rw [full_store (c := rF) (vs := rows File.flC Fs) (by rw [lrF, lzF])] at H)
                    refine WA_one (i := 6) (by kernel_rfl) ?_
                    (refine WI_effu rfl (.inl rfl) (E_storeA (vs := rows Ring.piC Qs) H (fun w => by rw [lrQ]; exact Tryz.sizeOf44 w) rfl rfl (rows_one' Ring.piC_one _) (.there (.there (.there .here))) (by rw [lrQ, lzQ]; decide)) (fun _ H => (by first | exact fun h => absurd h (by decide) | exact fun _ => H | exact fun _ => H.none (by repeat' first | exact kNil | apply kCons | apply kApp | assumption | exact OwnS.keys (by assumption)) | exact fun _ => H.dropN (by repeat' first | exact kNil | apply kCons | apply kApp | assumption | exact OwnS.keys (by assumption)) | exact fun _ => H.pop (by assumption) | exact fun _ => (H.pop (by assumption)).pop (by assumption) | exact fun _ => H.kp | exact fun _ => H.kp.tail | exact fun _ => H.kp.tail.tail | exact fun _ => H.kp.tail.tail.tail | exact fun _ => H.kp.sub (by simp) | exact fun _ => Kp.nil | exact fun _ => H.kh (by simp) (by repeat' first | exact kNil | apply kCons | apply kApp | assumption | exact OwnS.keys (by assumption)))) ?_; clear H; intro w446 H; rw [full_store (c := rQ) (vs := rows Ring.piC Qs) (by rw [lrQ, lzQ])] at H)
                    refine WA_takeM 7 rfl rfl rfl (by kernel_rfl) (by kernel_rfl) (H.kp.sub (by simp)) (fun _ hC => R_as) ?_
                    refine WA_done (by kernel_rfl) ?_
                    refine W_ret ?_
                    exact ⟨[.agg (rows Slot.piC Ps).toArray, .agg (rows File.flC Fs).toArray, .agg (rows Ring.piC Qs).toArray, _], .cell rfl (ldA Tryz.isAgg37 Tryz.sizeOf37 (H.get (.there (.there (.there (.there (.there .here)))))) (by rw [List.drop_zero]; exact List.take_of_length_le (by omega)) (by omega)) (.cell rfl (ldA Tryz.isAgg40 Tryz.sizeOf40 (H.get (.there (.there (.there (.there .here))))) (by rw [List.drop_zero]; exact List.take_of_length_le (by omega)) (by omega)) (.cell rfl (ldA Tryz.isAgg44 Tryz.sizeOf44 (H.get (.there (.there (.there .here)))) (by rw [List.drop_zero]; exact List.take_of_length_le (by omega)) (by omega)) (.tmp rfl .nil))), by simp, _, _, rfl, hO5, ((((((H.pop (by assumption)).pop (by assumption)).pop (by assumption)).pop (by assumption)).pop (by assumption)).pop (by assumption))⟩
                  · refine WA_takeGM 4 rfl rfl rfl rfl (by kernel_rfl) (by kernel_rfl) H (fun _ hC => R_mv) ?_
                    refine WA_takeG 5 rfl rfl rfl rfl (by kernel_rfl) (by kernel_rfl) H (fun _ hC => R_slice_S (xs := xs) (i := ((488 : Nat) : Int)) (j := ((xs.length : Nat) : Int)) Tryz.underlying9 rfl (.some rfl) .none (by omega) (by omega) (by omega)) ?_
                    refine WA_takeGM 6 rfl rfl rfl rfl (by kernel_rfl) (by kernel_rfl) H (fun _ hC => R_mv) ?_
                    refine WA_takeG 7 rfl rfl rfl rfl (by kernel_rfl) (by kernel_rfl) H (fun _ hC => R_index_S (u := x) (i := (488 : Int)) Tryz.underlying9 rfl rfl (by decide) hx488) ?_
                    refine WA_takeG 8 rfl rfl rfl rfl (by kernel_rfl) (by kernel_rfl) H (fun _ hC => R_conv_int Tryz.underlying5 Tryz.underlying3 rfl u8_in_i64) ?_
                    refine WA_one (i := 9) (by kernel_rfl) ?_
                    (refine WI_call rfl (.inr ⟨_, _, rfl, rfl⟩) (R_call rfl Tryz.call30 rfl) (refFront2_ret x.toNat (by omega) _) (fun _ _ hR _ => H.seq0 hR.2) ?_; rintro _ w457 ⟨rfl, H1⟩; replace H := H.seq0 H1; clear H1)
                    refine WA_takeG 10 rfl rfl rfl rfl (by kernel_rfl) (by kernel_rfl) H (fun _ hC => R_ne_S rfl rfl) ?_
                    refine WA_takeM 11 rfl rfl rfl (by kernel_rfl) (by kernel_rfl) H (fun _ hC => R_pk_f rfl) ?_
                    refine WA_done (by kernel_rfl) ?_
                    refine W_if rfl (fun h461 => ?_) (fun h461 => ?_)
                    · refine W_region_l ?_
                      refine WL_stepM rfl (R_mv) ?_
                      refine WL_step rfl (R_buildL (places := [(0, 1), (1, 1)]) (vs := recC (5, ((0 : Nat) : Int))) Tryz.underlying32 Tryz.typeInfo32 rfl rfl (by kernel_rfl) rfl rfl rfl) ?_
                      (refine WL_effn rfl (E_buildRows (vss := [recC (5, ((0 : Nat) : Int))]) H Tryz.underlying33 Tryz.sizeOf32 Tryz.zeroValue32 rfl rfl (by decide) rfl rfl (by simp [recC])) ?_; clear H; intro bx5 w465 hbx5 H)
                      (refine WL_effm rfl (E_append (news := recC (5, ((0 : Nat) : Int))) H (.there (.there (.there (.there (.there (.there (.there .last))))))) hO4 Tryz.underlying33 Tryz.typeInfo32 rfl rfl rfl rfl rfl rfl (src_blk (m := 1) (sp := []) Tryz.underlying33 (H.get .here) rfl (recC_one _)) (by omega) (by simp only [Tryz.t32]; omega)) ?_; clear H; intro vN5 MN5 w466 hON5 H)
                      refine WL_stepM rfl (R_as) ?_
                      refine WL_nil ?_
                      refine W_seq ?_
                      (have hy := badTo_y5 (xs := xs) (e := 0) hgis; have hO5 := OwnS.cast hON5 (len' := (badTo xs 8 12 4 1 1).length) (xs' := rows recC (badTo xs 8 12 4 1 1)) (by rw [hy, List.length_append]; rfl) (by rw [hy, rows_append]; rfl); replace H := H.pop (by assumption); obtain ⟨ya, yc, rfl⟩ := hO5.form; have hOk5 := hO5.keys; refine W_draw (Kp [(c8, blk (rows Ring.piC Qs) 44), (c7, blk (rows File.flC Fs) 40), (c6, blk (rows Slot.piC Ps) 37)]) (fun _ => false) (by kernel_rfl) H ?_; clear H; intro w470 H)
                      refine WA_take 0 rfl rfl rfl (by kernel_rfl) (by kernel_rfl) (H.kp.sub (by simp)) (fun _ hC => R_loadA (vs := rows Slot.piC Ps) Tryz.isAgg37 Tryz.sizeOf37 rfl (hC.get (.there (.there .here))) (by rw [List.drop_zero]; exact List.take_of_length_le (by omega)) (by omega)) ?_
                      refine WA_take 1 rfl rfl rfl (by kernel_rfl) (by kernel_rfl) (H.kp.sub (by simp)) (fun _ hC => R_loadA (vs := rows File.flC Fs) Tryz.isAgg40 Tryz.sizeOf40 rfl (hC.get (.there .here)) (by rw [List.drop_zero]; exact List.take_of_length_le (by omega)) (by omega)) ?_
                      refine WA_take 2 rfl rfl rfl (by kernel_rfl) (by kernel_rfl) (H.kp.sub (by simp)) (fun _ hC => R_loadA (vs := rows Ring.piC Qs) Tryz.isAgg44 Tryz.sizeOf44 rfl (hC.get .here) (by rw [List.drop_zero]; exact List.take_of_length_le (by omega)) (by omega)) ?_
                      refine WA_takeM 3 rfl rfl rfl (by kernel_rfl) (by kernel_rfl) (H.kp.sub (by simp)) (fun _ hC => R_mv) ?_
                      refine WA_one (i := 4) (by kernel_rfl) ?_
                      (refine WI_effu rfl (.inl rfl) (E_storeA (vs := rows Slot.piC Ps) H (fun w => by rw [lrP]; exact Tryz.sizeOf37 w) rfl rfl (rows_one' Slot.piC_one _) (.there (.there (.there (.there (.there .here))))) (by rw [lrP, lzP]; decide)) (fun _ H => (by first | exact fun h => absurd h (by decide) | exact fun _ => H | exact fun _ => H.none (by repeat' first | exact kNil | apply kCons | apply kApp | assumption | exact OwnS.keys (by assumption)) | exact fun _ => H.dropN (by repeat' first | exact kNil | apply kCons | apply kApp | assumption | exact OwnS.keys (by assumption)) | exact fun _ => H.pop (by assumption) | exact fun _ => (H.pop (by assumption)).pop (by assumption) | exact fun _ => H.kp | exact fun _ => H.kp.tail | exact fun _ => H.kp.tail.tail | exact fun _ => H.kp.tail.tail.tail | exact fun _ => H.kp.sub (by simp) | exact fun _ => Kp.nil | exact fun _ => H.kh (by simp) (by repeat' first | exact kNil | apply kCons | apply kApp | assumption | exact OwnS.keys (by assumption)))) ?_; clear H; intro w476 H; rw [full_store (c := rP) (vs := rows Slot.piC Ps) (by rw [lrP, lzP])] at H)
                      refine WA_one (i := 5) (by kernel_rfl) ?_
                      (refine WI_effu rfl (.inl rfl) (E_storeA (vs := rows File.flC Fs) H (fun w => by rw [lrF]; exact Tryz.sizeOf40 w) rfl rfl (rows_one' File.fl_one _) (.there (.there (.there (.there .here)))) (by rw [lrF, lzF]; decide)) (fun _ H => (by first | exact fun h => absurd h (by decide) | exact fun _ => H | exact fun _ => H.none (by repeat' first | exact kNil | apply kCons | apply kApp | assumption | exact OwnS.keys (by assumption)) | exact fun _ => H.dropN (by repeat' first | exact kNil | apply kCons | apply kApp | assumption | exact OwnS.keys (by assumption)) | exact fun _ => H.pop (by assumption) | exact fun _ => (H.pop (by assumption)).pop (by assumption) | exact fun _ => H.kp | exact fun _ => H.kp.tail | exact fun _ => H.kp.tail.tail | exact fun _ => H.kp.tail.tail.tail | exact fun _ => H.kp.sub (by simp) | exact fun _ => Kp.nil | exact fun _ => H.kh (by simp) (by repeat' first | exact kNil | apply kCons | apply kApp | assumption | exact OwnS.keys (by assumption)))) ?_; clear H; intro w478 H; rw [full_store (c := rF) (vs := rows File.flC Fs) (by rw [lrF, lzF])] at H)
                      refine WA_one (i := 6) (by kernel_rfl) ?_
                      (refine WI_effu rfl (.inl rfl) (E_storeA (vs := rows Ring.piC Qs) H (fun w => by rw [lrQ]; exact Tryz.sizeOf44 w) rfl rfl (rows_one' Ring.piC_one _) (.there (.there (.there .here))) (by rw [lrQ, lzQ]; decide)) (fun _ H => (by first | exact fun h => absurd h (by decide) | exact fun _ => H | exact fun _ => H.none (by repeat' first | exact kNil | apply kCons | apply kApp | assumption | exact OwnS.keys (by assumption)) | exact fun _ => H.dropN (by repeat' first | exact kNil | apply kCons | apply kApp | assumption | exact OwnS.keys (by assumption)) | exact fun _ => H.pop (by assumption) | exact fun _ => (H.pop (by assumption)).pop (by assumption) | exact fun _ => H.kp | exact fun _ => H.kp.tail | exact fun _ => H.kp.tail.tail | exact fun _ => H.kp.tail.tail.tail | exact fun _ => H.kp.sub (by simp) | exact fun _ => Kp.nil | exact fun _ => H.kh (by simp) (by repeat' first | exact kNil | apply kCons | apply kApp | assumption | exact OwnS.keys (by assumption)))) ?_; clear H; intro w480 H; rw [full_store (c := rQ) (vs := rows Ring.piC Qs) (by rw [lrQ, lzQ])] at H)
                      refine WA_takeM 7 rfl rfl rfl (by kernel_rfl) (by kernel_rfl) (H.kp.sub (by simp)) (fun _ hC => R_as) ?_
                      refine WA_done (by kernel_rfl) ?_
                      refine W_ret ?_
                      exact ⟨[.agg (rows Slot.piC Ps).toArray, .agg (rows File.flC Fs).toArray, .agg (rows Ring.piC Qs).toArray, _], .cell rfl (ldA Tryz.isAgg37 Tryz.sizeOf37 (H.get (.there (.there (.there (.there (.there .here)))))) (by rw [List.drop_zero]; exact List.take_of_length_le (by omega)) (by omega)) (.cell rfl (ldA Tryz.isAgg40 Tryz.sizeOf40 (H.get (.there (.there (.there (.there .here))))) (by rw [List.drop_zero]; exact List.take_of_length_le (by omega)) (by omega)) (.cell rfl (ldA Tryz.isAgg44 Tryz.sizeOf44 (H.get (.there (.there (.there .here)))) (by rw [List.drop_zero]; exact List.take_of_length_le (by omega)) (by omega)) (.tmp rfl .nil))), by simp, _, _, rfl, hO5, ((((((H.pop (by assumption)).pop (by assumption)).pop (by assumption)).pop (by assumption)).pop (by assumption)).pop (by assumption))⟩
                    · refine W_skip ?_
                      refine W_seq ?_
                      exact absurd (show x.toNat < 8 ∧ Cm.frontB x.toNat = win xs 488 4 from ⟨by omega, by rw [← win_end hx]; simp_all⟩) hg
end Go.Proofs.YthonajikgljgmaaGreat.Aud

/-
  The document's faults of bytes.
-/
namespace Go.Proofs.YthonajikgljgmaaGreat.Aud
open Go Go.Proofs Go.Proofs.YthonajikgljgmaaGreat.Fx
set_option maxRecDepth 100000
set_option linter.unusedVariables false
set_option linter.unusedSimpArgs false
set_option maxHeartbeats 32000000

theorem pcase {xs : List UInt8} {j : Nat} (h : pis xs j ≠ 2) : (pis xs j = 0 ∧ pd xs j = Slot.zeroP) ∨ (pis xs j = 1 ∧ 1 ≤ (pd xs j).s) := by
  unfold pis pd at *
  unfold Slot.decP at *
  split at h
  · rename_i hh; rw [if_pos hh]; exact .inl ⟨rfl, rfl⟩
  · rename_i hh
    rw [if_neg hh]
    split at h
    · rename_i hg; rw [if_pos hg]; exact .inr ⟨rfl, hg.2.1.1.1.1⟩
    · exact absurd rfl h
theorem fcase {xs : List UInt8} {j : Nat} (h : fis xs j ≠ 2) : (fis xs j = 0 ∧ fd xs j = File.zeroF) ∨ (fis xs j = 1 ∧ 1 ≤ (fd xs j).k ∧ (fd xs j).k ≤ 3) := by
  unfold fis fd at *
  unfold File.decP at *
  split at h
  · rename_i hh; rw [if_pos hh]; exact .inl ⟨rfl, rfl⟩
  · rename_i hh
    rw [if_neg hh]
    split at h
    · rename_i hg; rw [if_pos hg]; exact .inr ⟨rfl, hg.2.1.1.1, hg.2.1.1.2⟩
    · exact absurd rfl h
theorem qcase {xs : List UInt8} {j : Nat} (h : qis xs j ≠ 2) : (qis xs j = 0 ∧ qd xs j = Ring.zeroP) ∨ qis xs j = 1 := by
  unfold qis qd at *
  unfold Ring.decP at *
  split at h
  · rename_i hh; rw [if_pos hh]; exact .inl ⟨rfl, rfl⟩
  · rename_i hh
    rw [if_neg hh]
    split at h
    · rename_i hg; rw [if_pos hg]; exact .inr rfl
    · exact absurd rfl h
theorem any_succ {B : Nat → Bool} {i : Nat} : (List.range (i + 1)).any B = ((List.range i).any B || B i) := by
  rw [List.range_succ, List.any_append]; simp
theorem any_t {B : Nat → Bool} {i : Nat} (h : B i = true) : (List.range (i + 1)).any B = true := by rw [any_succ, h, Bool.or_true]
theorem any_f {B : Nat → Bool} {i : Nat} (h : B i = false) : (List.range (i + 1)).any B = (List.range i).any B := by rw [any_succ, h, Bool.or_false]
/-- twelve numbers -/
def refsV (g : Nat → Nat) : List Value := (List.range 12).map fun f => I (g f)
theorem refsV_len (g : Nat → Nat) : (refsV g).length = 12 := by simp [refsV]
theorem refsV_get {g : Nat → Nat} {m : Nat} (h : m < 12) : (refsV g)[m]? = some (I (g m)) := by unfold refsV; rw [List.getElem?_map, List.getElem?_range h]; rfl
theorem refsV_congr {g g' : Nat → Nat} (h : ∀ f, f < 12 → g f = g' f) : refsV g = refsV g' := by
  unfold refsV; exact List.map_congr_left fun f hf => by rw [h f (List.mem_range.1 hf)]
theorem refsV_set {g g' : Nat → Nat} {m : Nat} (hm : m < 12) (h1 : g' m = g m + 1) (h2 : ∀ f, f < 12 → f ≠ m → g' f = g f) : (refsV g).set m (I ((g m + 1 : Nat) : Int)) = refsV g' := by
  apply List.ext_getElem?
  intro i
  by_cases hi : m = i
  · subst hi
    rw [List.getElem?_set_self (by rw [refsV_len]; exact hm), refsV_get hm, h1]
  · rw [List.getElem?_set_ne hi]
    by_cases hl : i < 12
    · rw [refsV_get hl, refsV_get hl, h2 i hl (fun e => hi e.symm)]
    · rw [List.getElem?_eq_none (by rw [refsV_len]; omega), List.getElem?_eq_none (by rw [refsV_len]; omega)]
/-- how many of a part of descriptors name a file, beside others -/
def refG (xs : List UInt8) (i j : Nat) (p : Slot.Pi) (f : Nat) : Nat := nmTo xs f i + (p.f.take j).count ((f : Int) + 1)
theorem refG_0 (xs : List UInt8) (i : Nat) (p : Slot.Pi) : refsV (refG xs i 0 p) = refsV (fun f => nmTo xs f i) := refsV_congr fun f _ => by simp [refG]
theorem refG_8 {xs : List UInt8} {i : Nat} {p : Slot.Pi} (hp : pd xs i = p) : refsV (refG xs i 8 p) = refsV (fun f => nmTo xs f (i + 1)) := refsV_congr fun f _ => by
  unfold refG; rw [nmTo_succ, hp, List.take_of_length_le (by rw [p.hf]; decide)]
theorem piC_fd {p : Slot.Pi} {j : Nat} {d : Int} (h : p.f[j]? = some d) : (Slot.piC p)[8 + j]? = some (I d) := by
  unfold Slot.piC
  rw [List.getElem?_append_right (by simp), show 8 + j - [I p.s, I p.p, I p.g, I p.e, I p.a.toInt, I p.b.toInt, I p.c.toInt, I p.d.toInt].length = j from by simp, List.getElem?_map, h]; rfl
theorem take_snoc {l : List Int} {j : Nat} {d : Int} (h : l[j]? = some d) : l.take (j + 1) = l.take j ++ [d] := by
  have hj := (List.getElem?_eq_some_iff.1 h).1
  rw [List.take_succ_eq_append_getElem hj, (List.getElem?_eq_some_iff.1 h).2]
theorem refG_z {xs : List UInt8} {i j : Nat} {p : Slot.Pi} (h : p.f[j]? = some 0) : refsV (refG xs i (j + 1) p) = refsV (refG xs i j p) := refsV_congr fun f _ => by
  unfold refG; rw [take_snoc h, List.count_append, show List.count ((f : Int) + 1) [0] = 0 from List.count_eq_zero.2 (fun hm => by have := List.mem_singleton.1 hm; omega)]; rfl
theorem refG_s {xs : List UInt8} {i j m : Nat} {p : Slot.Pi} (hm : m < 12) (h : p.f[j]? = some ((m : Int) + 1)) : (refsV (refG xs i j p)).set m (I ((refG xs i j p m + 1 : Nat) : Int)) = refsV (refG xs i (j + 1) p) := by
  refine refsV_set hm ?_ (fun f hf hfm => ?_)
  · unfold refG; rw [take_snoc h, List.count_append, List.count_singleton_self]; omega
  · unfold refG; rw [take_snoc h, List.count_append, show List.count ((f : Int) + 1) [(m : Int) + 1] = 0 from List.count_eq_zero.2 (fun hm2 => by have := List.mem_singleton.1 hm2; omega)]; rfl
theorem any_z {xs : List UInt8} {l : List Int} {j : Nat} (h : l[j]? = some 0) : (l.take (j + 1)).any (fdOne xs) = (l.take j).any (fdOne xs) := by
  rw [take_snoc h, List.any_append]; simp [fdOne]
theorem any_s {xs : List UInt8} {l : List Int} {j : Nat} {d : Int} (h : l[j]? = some d) : (l.take (j + 1)).any (fdOne xs) = ((l.take j).any (fdOne xs) || fdOne xs d) := by
  rw [take_snoc h, List.any_append]; simp
/-- readers and writers of four pipes -/
def endsV (xs : List UInt8) (n : Nat) : List Value := (List.range 8).map fun c => I (endN xs (c / 2) (decide (c % 2 = 0)) n)
theorem endsV_len (xs : List UInt8) (n : Nat) : (endsV xs n).length = 8 := by simp [endsV]
theorem endsV_get {xs : List UInt8} {n c : Nat} (h : c < 8) : (endsV xs n)[c]? = some (I (endN xs (c / 2) (decide (c % 2 = 0)) n)) := by unfold endsV; rw [List.getElem?_map, List.getElem?_range h]; rfl
theorem endsV_no {xs : List UInt8} {n : Nat} (h : ¬ ownF (fd xs n)) : endsV xs (n + 1) = endsV xs n := by
  unfold endsV; exact List.map_congr_left fun c _ => by rw [endN_no (.inl (fun hh => h hh.1))]
theorem endsV_set {xs : List UInt8} {n P : Nat} {q : Bool} (hP : P < 4) (h : ownF (fd xs n)) (hp : (fd xs n).p = (P : Int)) (hk : decide ((fd xs n).k = 1) = q) :
    (endsV xs n).set (P * 2 + (if q = true then 0 else 1)) (I ((endN xs P q n + 1 : Nat) : Int)) = endsV xs (n + 1) := by
  apply List.ext_getElem?
  intro i
  have hlt : P * 2 + (if q = true then 0 else 1) < 8 := by split <;> omega
  by_cases hi : P * 2 + (if q = true then 0 else 1) = i
  · rw [← hi, List.getElem?_set_self (by rw [endsV_len]; exact hlt), endsV_get hlt]
    have e1 : (P * 2 + (if q = true then 0 else 1)) / 2 = P := by split <;> omega
    have e2 : decide ((P * 2 + (if q = true then 0 else 1)) % 2 = 0) = q := by
      cases q
      · simp
      · simp
    rw [e1, e2, endN_yes h hp hk]
  · rw [List.getElem?_set_ne hi]
    by_cases hl : i < 8
    · rw [endsV_get hl, endsV_get hl]
      rw [endN_no (i := i / 2)]
      by_cases h2 : P = i / 2
      · right
        rw [hk]
        intro he
        apply hi
        cases q
        · have := of_decide_eq_false he.symm
          simp; omega
        · have := of_decide_eq_true he.symm
          simp; omega
      · left
        rintro ⟨_, hh⟩
        rw [hp] at hh; omega
    · rw [List.getElem?_eq_none (by rw [endsV_len]; omega), List.getElem?_eq_none (by rw [endsV_len]; omega)]

theorem endsV_at {xs : List UInt8} {n P o : Nat} {q : Bool} (hP : P < 4) (ho : o = if q = true then 0 else 1) : (endsV xs n)[P * 2 + o]? = some (I (endN xs P q n)) := by
  have hlt : P * 2 + o < 8 := by rw [ho]; split <;> omega
  rw [endsV_get hlt]
  have e1 : (P * 2 + o) / 2 = P := by rw [ho]; split <;> omega
  have e2 : decide ((P * 2 + o) % 2 = 0) = q := by
    rw [ho]
    cases q
    · simp
    · simp
  rw [e1, e2]
theorem free_ret {xs : List UInt8} (hx : xs.length = 492) {i : Nat} (hi : i < 4) (w : World) : Ret Tryz.prog 20 #[S xs, I i] w fun v w' => v = .bool (decide (qis xs i = 0)) ∧ Hp w [] w' := by
  refine Ret_of_W (args := [_, _]) Tryz.func20 rfl Tryz.ntmps20 Tryz.results20 (by simp) ?_
  have H := Hp.refl w
  obtain ⟨z, hz⟩ : ∃ z, qis xs i = z := ⟨_, rfl⟩
  rw [hz]
  refine W_seq ?_
  refine W_region_l ?_
  refine WL_stepM rfl (R_as) ?_
  refine WL_nil ?_
  refine W_seq ?_
  refine W_region_l ?_
  refine WL_stepM rfl (R_mv) ?_
  refine WL_stepM rfl (R_mv) ?_
  refine WL_step rfl (R_mul (r := ((40 * i : Nat) : Int)) rfl rfl (by rw [w_i64 (by omega)]; omega)) ?_
  refine WL_step rfl (R_add (r := ((288 + 40 * i : Nat) : Int)) rfl rfl (by rw [w_i64 (by omega)]; omega)) ?_
  refine WL_stepM rfl (R_mv) ?_
  refine WL_step rfl (R_mul (r := ((40 * i : Nat) : Int)) rfl rfl (by rw [w_i64 (by omega)]; omega)) ?_
  refine WL_step rfl (R_add (r := ((288 + 40 * i + 40 : Nat) : Int)) rfl rfl (by rw [w_i64 (by omega)]; omega)) ?_
  refine WL_step rfl (R_slice_S (xs := xs) (i := ((288 + 40 * i : Nat) : Int)) (j := ((288 + 40 * i + 40 : Nat) : Int)) Tryz.underlying9 rfl (.some rfl) (.some rfl) (by omega) (by omega) (by omega)) ?_
  (rw [win_S xs (288 + 40 * i) 40]; refine WL_call rfl (R_call rfl Tryz.call29 rfl) (Ring.refOf_ret (xs := win xs (288 + 40 * i) 40) (by unfold win; rw [List.length_take]; omega)) ?_; rintro _ w15 ⟨rfl, H1⟩; replace H := H.seq0 H1; clear H1; rw [show (Ring.decP (win xs (288 + 40 * i) 40)).2 = z from hz])
  refine WL_stepM rfl (R_mv) ?_
  refine WL_step rfl (R_extract rfl rfl) ?_
  refine WL_step rfl (R_extract rfl rfl) ?_
  (refine WL_effn rfl (Ring.E_allocP H) ?_; clear H; intro c5 w19 hc5 H)
  (refine WL_effu rfl (Ring.E_storeP H rfl rfl .here) ?_; clear H; intro w20 H)
  refine WL_stepM rfl (R_as) ?_
  refine WL_nil ?_
  refine W_seq ?_
  refine W_region_l ?_
  refine WL_stepM rfl (R_mv) ?_
  refine WL_step rfl (R_eq rfl rfl) ?_
  refine WL_stepM rfl (R_as) ?_
  refine WL_nil ?_
  refine W_ret ?_
  exact ⟨_, rfl, rfl, H.none (by repeat' first | exact kNil | apply kCons | apply kApp | assumption | exact OwnS.keys (by assumption))⟩

theorem refFaults_bad {xs : List UInt8} (hb : ¬ (xs.length = 492 ∧ badAll xs = [])) (hl : xs.length ≤ 1000) (w : World) :
    Ret Tryz.prog 6 #[S xs] w fun v w' => ∃ M, OwnS w.heap.size 9 1 v (faults xs).length ((faults xs).map S) M ∧ Hp w M w' := by
  refine Ret_of_W (args := [_]) Tryz.func6 rfl Tryz.ntmps6 Tryz.results6 (by simp) ?_
  have H := Hp.refl w
  have hf : faults xs = [[98, 97, 100]] := if_neg hb
  rw [hf]
  by_cases hx : xs.length = 492
  · have hb1 : 0 < (badAll xs).length := List.length_pos_iff.2 (fun h => hb ⟨hx, h⟩)
    have lP := PL_len xs
    have lF := FL_len xs
    have lQ := QL_len xs
    obtain ⟨Ps, hPs⟩ : ∃ P, PL xs = P := ⟨_, rfl⟩
    obtain ⟨Fs, hFs⟩ : ∃ P, FL xs = P := ⟨_, rfl⟩
    obtain ⟨Qs, hQs⟩ : ∃ P, QL xs = P := ⟨_, rfl⟩
    rw [hPs] at lP
    rw [hFs] at lF
    rw [hQs] at lQ
    obtain ⟨rP, hrP⟩ : ∃ l, rows Slot.piC (List.replicate 8 Slot.zeroP) = l := ⟨_, rfl⟩
    obtain ⟨rF, hrF⟩ : ∃ l, rows File.flC (List.replicate 12 File.zeroF) = l := ⟨_, rfl⟩
    obtain ⟨rQ, hrQ⟩ : ∃ l, rows Ring.piC (List.replicate 4 Ring.zeroP) = l := ⟨_, rfl⟩
    have zP : rP.length = 128 := by rw [← hrP]; rfl
    have zF : rF.length = 48 := by rw [← hrF]; rfl
    have zQ : rQ.length = 144 := by rw [← hrQ]; rfl
    have yP : (rows Slot.piC Ps).length = 128 := by rw [rows_length Slot.piC_len, lP]
    have yF : (rows File.flC Fs).length = 48 := by rw [rows_length File.fl_len, lF]
    have yQ : (rows Ring.piC Qs).length = 144 := by rw [rows_length Ring.piC_len, lQ]
    refine W_seq ?_
    refine W_region_l ?_
    refine WL_stepM rfl (R_as) ?_
    refine WL_nil ?_
    refine W_seq ?_
    refine W_seq ?_
    refine W_region_l ?_
    refine WL_stepM rfl (R_mv) ?_
    refine WL_step rfl (R_len_S Tryz.underlying9 rfl) ?_
    refine WL_step rfl (R_ne_f rfl rfl (by omega)) ?_
    refine WL_nil ?_
    refine W_cond_f rfl ?_
    refine W_skip ?_
    refine W_seq ?_
    refine W_region_l ?_
    refine WL_stepM rfl (R_mv) ?_
    (refine WL_call rfl (R_call rfl Tryz.call9 rfl) (records_ret hx _) ?_; rintro _ w17 ⟨_, MB, rfl, hOB, H1⟩; rw [hPs, hFs, hQs]; have h17 := H.seqO hOB H1; clear H H1 hOB; obtain ⟨hOB, H⟩ := h17; obtain ⟨fb, gb, rfl⟩ := hOB.form; replace H := Hp.dropN (M := MB) H hOB.keys)
    refine WL_stepM rfl (R_mv) ?_
    refine WL_step rfl (R_extract rfl rfl) ?_
    refine WL_step rfl (R_extract rfl rfl) ?_
    refine WL_step rfl (R_extract rfl rfl) ?_
    refine WL_step rfl (R_extract rfl rfl) ?_
    (refine WL_effn rfl (E_alloc (vs := rP) H Tryz.zeroValue37 (by rw [← hrP]; kernel_rfl)) ?_; clear H; intro c3 w23 hc3 H)
    (refine WL_effn rfl (E_alloc (vs := rF) H Tryz.zeroValue40 (by rw [← hrF]; kernel_rfl)) ?_; clear H; intro c4 w24 hc4 H)
    (refine WL_effn rfl (E_alloc (vs := rQ) H Tryz.zeroValue44 (by rw [← hrQ]; kernel_rfl)) ?_; clear H; intro c5 w25 hc5 H)
    (refine WL_effu rfl (E_storeA (vs := rows Slot.piC Ps) H (fun w => by rw [yP]; exact Tryz.sizeOf37 w) rfl rfl (rows_one' Slot.piC_one _) (.there (.there .here)) (by rw [yP, zP]; decide)) ?_; clear H; intro w26 H; rw [full_store (by rw [yP, zP])] at H)
    (refine WL_effu rfl (E_storeA (vs := rows File.flC Fs) H (fun w => by rw [yF]; exact Tryz.sizeOf40 w) rfl rfl (rows_one' File.fl_one _) (.there .here) (by rw [yF, zF]; decide)) ?_; clear H; intro w27 H; rw [full_store (by rw [yF, zF])] at H)
    (refine WL_effu rfl (E_storeA (vs := rows Ring.piC Qs) H (fun w => by rw [yQ]; exact Tryz.sizeOf44 w) rfl rfl (rows_one' Ring.piC_one _) .here (by rw [yQ, zQ]; decide)) ?_; clear H; intro w28 H; rw [full_store (by rw [yQ, zQ])] at H)
    refine WL_stepM rfl (R_as) ?_
    refine WL_nil ?_
    refine W_seq ?_
    refine W_seq ?_
    refine W_region_l ?_
    refine WL_stepM rfl (R_mv) ?_
    refine WL_step rfl (R_len_slice Tryz.underlying33 rfl) ?_
    refine WL_step rfl (R_gt_t rfl rfl (by omega)) ?_
    refine WL_nil ?_
    refine W_cond_t rfl ?_
    refine W_seq ?_
    refine W_region_l ?_
    (refine WL_effn rfl (E_buildOnes (vs := [S [98, 97, 100]]) H Tryz.underlying27 Tryz.sizeOf9 Tryz.zeroValue9 rfl rfl (by decide) rfl rfl (by simp [Value.oneCell'])) ?_; clear H; intro b32 w41 hb32 H)
    refine WL_stepM rfl (R_as) ?_
    refine WL_nil ?_
    refine W_ret ?_
    exact ⟨_, rfl, _, OwnS.new (sp := []) hb32 rfl rfl (by decide), Hp.dropMid (A := [_]) (M := [_, _, _]) (B := []) H (by repeat' first | exact kNil | apply kCons | apply kApp | assumption | exact OwnS.keys (by assumption))⟩
  · refine W_seq ?_
    refine W_region_l ?_
    refine WL_stepM rfl (R_as) ?_
    refine WL_nil ?_
    refine W_seq ?_
    refine W_seq ?_
    refine W_region_l ?_
    refine WL_stepM rfl (R_mv) ?_
    refine WL_step rfl (R_len_S Tryz.underlying9 rfl) ?_
    refine WL_step rfl (R_ne_t rfl rfl (by omega)) ?_
    refine WL_nil ?_
    refine W_cond_t rfl ?_
    refine W_seq ?_
    refine W_region_l ?_
    (refine WL_effn rfl (E_buildOnes (vs := [S [98, 97, 100]]) H Tryz.underlying27 Tryz.sizeOf9 Tryz.zeroValue9 rfl rfl (by decide) rfl rfl (by simp [Value.oneCell'])) ?_; clear H; intro b21 w15 hb21 H)
    refine WL_stepM rfl (R_as) ?_
    refine WL_nil ?_
    refine W_ret ?_
    exact ⟨_, rfl, _, OwnS.new (sp := []) hb21 rfl rfl (by decide), H⟩
end Go.Proofs.YthonajikgljgmaaGreat.Aud

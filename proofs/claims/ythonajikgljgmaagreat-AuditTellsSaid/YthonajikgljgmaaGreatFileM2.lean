/-
  What bytes are: a file, free, or bad.
-/
import Derived.Test.YthonajikgljgmaaGreatFileM
namespace Go.Proofs.YthonajikgljgmaaGreat.File
open Go Go.Proofs Go.Proofs.YthonajikgljgmaaGreat.Fx Go.Proofs.YthonajikgljgmaaGreat.Codec
set_option maxRecDepth 100000
set_option linter.unusedVariables false
set_option linter.unusedSimpArgs false
set_option maxHeartbeats 8000000

def zeroF : Fl := ⟨0, 0, 0, 0⟩
/-- the file that bytes would be -/
def ofB (xs : List UInt8) : Fl := ⟨(xs[0]?.getD 0).toNat, (xs[1]?.getD 0).toNat, (xs[2]?.getD 0).toNat, (xs[3]?.getD 0).toNat⟩
def good (xs : List UInt8) : Prop := xs.length = 8 ∧ fileOk (ofB xs) ∧ fileBytes (ofB xs) = xs
instance (xs : List UInt8) : Decidable (good xs) := by unfold good; infer_instance
/-- what bytes are -/
def decP (xs : List UInt8) : Fl × Int := if xs.length = 8 ∧ ∀ x ∈ xs, x = 0 then (zeroF, 0) else if good xs then (ofB xs, 1) else (zeroF, 2)

theorem len8 {xs : List UInt8} (h : xs.length = 8) : ∃ a b c d e f g i, xs = [a, b, c, d, e, f, g, i] := by
  match xs, h with
  | [a, b, c, d, e, f, g, i], _ => exact ⟨a, b, c, d, e, f, g, i, rfl⟩

theorem get_ret {xs : List UInt8} {w : World} {l : Value} (hl : RdS w l (xs.map U)) (h8 : xs.length = 8) :
    Ret Tryz.prog 90 #[l] w fun v w' => v = .tuple #[vF (ofB xs), .bool (decide (fileOk (ofB xs) ∧ fileBytes (ofB xs) = xs))] ∧ Hp w [] w' := by
  refine Ret_of_WC (args := [_]) Tryz.func90 rfl Tryz.ntmps90 Tryz.results90 (by simp) ?_
  have H := Hp.refl w
  have hl0 := hl
  obtain ⟨a, b, c, d, e, f, g, i, rfl⟩ := len8 h8
  obtain ⟨ao, ca, rfl⟩ := hl.form
  obtain ⟨bz, oz, rfl, h0⟩ := hl.cell (i := 0) (u := U a) rfl
  obtain ⟨_, _, e1, h1⟩ := hl.cell (i := 1) (u := U b) rfl
  cases e1
  obtain ⟨_, _, e1, h2⟩ := hl.cell (i := 2) (u := U c) rfl
  cases e1
  obtain ⟨_, _, e1, h3⟩ := hl.cell (i := 3) (u := U d) rfl
  cases e1
  have ha := a.toNat_lt
  have hb := b.toNat_lt
  have hc := c.toNat_lt
  have hd := d.toNat_lt
  simp only [List.length_map] at hl hl0 ⊢
  obtain ⟨ff, hff⟩ : ∃ ff : Fl, ff = ofB [a, b, c, d, e, f, g, i] := ⟨_, rfl⟩
  rw [← hff]
  refine W_seq ?_
  refine W_region_l ?_
  (refine WL_effn rfl (E_alloc (vs := flC zeroF) H Tryz.zeroValue39 rfl) ?_; clear H; intro b2 w3 hb2 H)
  refine WL_stepM rfl (R_as) ?_
  refine WL_nil ?_
  refine W_seq ?_
  (refine W_draw (KH w [(b2, blk (flC zeroF) 39)]) (fun _ => false) (by kernel_rfl) H ?_; clear H; intro w7 H)
  refine WA_takeM 0 rfl rfl rfl (by kernel_rfl) (by kernel_rfl) (H.kh (by simp) (by repeat' first | exact kNil | apply kCons | apply kApp | assumption | exact OwnS.keys (by assumption))) (fun _ hC => R_mv) ?_
  refine WA_take 1 rfl rfl rfl (by kernel_rfl) (by kernel_rfl) (H.kh (by simp) (by repeat' first | exact kNil | apply kCons | apply kApp | assumption | exact OwnS.keys (by assumption))) (fun _ hC => R_indexAddr Tryz.underlying22 Tryz.sizeOf5 rfl rfl (by omega) (by omega) idx_cast1) ?_
  refine WA_take 2 rfl rfl rfl (by kernel_rfl) (by kernel_rfl) (H.kh (by simp) (by repeat' first | exact kNil | apply kCons | apply kApp | assumption | exact OwnS.keys (by assumption))) (fun _ hC => R_load_cell Tryz.isAgg5 rfl (hC.old.cell h0 (by simp))) ?_
  refine WA_take 3 rfl rfl rfl (by kernel_rfl) (by kernel_rfl) (H.kh (by simp) (by repeat' first | exact kNil | apply kCons | apply kApp | assumption | exact OwnS.keys (by assumption))) (fun _ hC => R_conv_int Tryz.underlying5 Tryz.underlying3 rfl u8_in_i64) ?_
  refine WA_takeM 4 rfl rfl rfl (by kernel_rfl) (by kernel_rfl) (H.kh (by simp) (by repeat' first | exact kNil | apply kCons | apply kApp | assumption | exact OwnS.keys (by assumption))) (fun _ hC => R_mv) ?_
  refine WA_take 5 rfl rfl rfl (by kernel_rfl) (by kernel_rfl) (H.kh (by simp) (by repeat' first | exact kNil | apply kCons | apply kApp | assumption | exact OwnS.keys (by assumption))) (fun _ hC => R_indexAddr Tryz.underlying22 Tryz.sizeOf5 rfl rfl (by omega) (by omega) idx_cast1) ?_
  refine WA_take 6 rfl rfl rfl (by kernel_rfl) (by kernel_rfl) (H.kh (by simp) (by repeat' first | exact kNil | apply kCons | apply kApp | assumption | exact OwnS.keys (by assumption))) (fun _ hC => R_load_cell Tryz.isAgg5 rfl (hC.old.cell h1 (by simp))) ?_
  refine WA_take 7 rfl rfl rfl (by kernel_rfl) (by kernel_rfl) (H.kh (by simp) (by repeat' first | exact kNil | apply kCons | apply kApp | assumption | exact OwnS.keys (by assumption))) (fun _ hC => R_conv_int Tryz.underlying5 Tryz.underlying3 rfl u8_in_i64) ?_
  refine WA_takeM 8 rfl rfl rfl (by kernel_rfl) (by kernel_rfl) (H.kh (by simp) (by repeat' first | exact kNil | apply kCons | apply kApp | assumption | exact OwnS.keys (by assumption))) (fun _ hC => R_mv) ?_
  refine WA_take 9 rfl rfl rfl (by kernel_rfl) (by kernel_rfl) (H.kh (by simp) (by repeat' first | exact kNil | apply kCons | apply kApp | assumption | exact OwnS.keys (by assumption))) (fun _ hC => R_indexAddr Tryz.underlying22 Tryz.sizeOf5 rfl rfl (by omega) (by omega) idx_cast1) ?_
  refine WA_take 10 rfl rfl rfl (by kernel_rfl) (by kernel_rfl) (H.kh (by simp) (by repeat' first | exact kNil | apply kCons | apply kApp | assumption | exact OwnS.keys (by assumption))) (fun _ hC => R_load_cell Tryz.isAgg5 rfl (hC.old.cell h2 (by simp))) ?_
  refine WA_take 11 rfl rfl rfl (by kernel_rfl) (by kernel_rfl) (H.kh (by simp) (by repeat' first | exact kNil | apply kCons | apply kApp | assumption | exact OwnS.keys (by assumption))) (fun _ hC => R_conv_int Tryz.underlying5 Tryz.underlying3 rfl u8_in_i64) ?_
  refine WA_takeM 12 rfl rfl rfl (by kernel_rfl) (by kernel_rfl) (H.kh (by simp) (by repeat' first | exact kNil | apply kCons | apply kApp | assumption | exact OwnS.keys (by assumption))) (fun _ hC => R_mv) ?_
  refine WA_take 13 rfl rfl rfl (by kernel_rfl) (by kernel_rfl) (H.kh (by simp) (by repeat' first | exact kNil | apply kCons | apply kApp | assumption | exact OwnS.keys (by assumption))) (fun _ hC => R_indexAddr Tryz.underlying22 Tryz.sizeOf5 rfl rfl (by omega) (by omega) idx_cast1) ?_
  refine WA_take 14 rfl rfl rfl (by kernel_rfl) (by kernel_rfl) (H.kh (by simp) (by repeat' first | exact kNil | apply kCons | apply kApp | assumption | exact OwnS.keys (by assumption))) (fun _ hC => R_load_cell Tryz.isAgg5 rfl (hC.old.cell h3 (by simp))) ?_
  refine WA_take 15 rfl rfl rfl (by kernel_rfl) (by kernel_rfl) (H.kh (by simp) (by repeat' first | exact kNil | apply kCons | apply kApp | assumption | exact OwnS.keys (by assumption))) (fun _ hC => R_conv_int Tryz.underlying5 Tryz.underlying3 rfl u8_in_i64) ?_
  refine WA_take 16 rfl rfl rfl (by kernel_rfl) (by kernel_rfl) (H.kh (by simp) (by repeat' first | exact kNil | apply kCons | apply kApp | assumption | exact OwnS.keys (by assumption))) (fun _ hC => R_buildL (places := [(0, 1), (1, 1), (2, 1), (3, 1)]) (vs := [(.int _ _), (.int _ _), (.int _ _), (.int _ _)]) Tryz.underlying39 Tryz.typeInfo39 rfl rfl (by kernel_rfl) rfl rfl rfl) ?_
  refine WA_one (i := 17) (by kernel_rfl) ?_
  (refine WI_effnA rfl (.inl rfl) (E_alloc (vs := flC zeroF) H Tryz.zeroValue39 rfl) (fun _ _ _ H => (by first | exact fun h => absurd h (by decide) | exact fun _ => H | exact fun _ => H.none (by repeat' first | exact kNil | apply kCons | apply kApp | assumption | exact OwnS.keys (by assumption)) | exact fun _ => H.dropN (by repeat' first | exact kNil | apply kCons | apply kApp | assumption | exact OwnS.keys (by assumption)) | exact fun _ => H.pop (by assumption) | exact fun _ => (H.pop (by assumption)).pop (by assumption) | exact fun _ => H.kp | exact fun _ => H.kp.tail | exact fun _ => H.kp.tail.tail | exact fun _ => H.kp.tail.tail.tail | exact fun _ => H.kp.sub (by simp) | exact fun _ => Kp.nil | exact fun _ => H.kh (by simp) (by repeat' first | exact kNil | apply kCons | apply kApp | assumption | exact OwnS.keys (by assumption)))) ?_; clear H; intro b4 w26 hb4 H)
  refine WA_one (i := 18) (by kernel_rfl) ?_
  (refine WI_effu rfl (.inl rfl) (E_storeA (vs := flC (ofB [a, b, c, d, e, f, g, i])) H Tryz.sizeOf39 rfl rfl (by simp [flC, Value.oneCell']) .here (by simp [flC])) (fun _ H => (by first | exact fun h => absurd h (by decide) | exact fun _ => H | exact fun _ => H.none (by repeat' first | exact kNil | apply kCons | apply kApp | assumption | exact OwnS.keys (by assumption)) | exact fun _ => H.dropN (by repeat' first | exact kNil | apply kCons | apply kApp | assumption | exact OwnS.keys (by assumption)) | exact fun _ => H.pop (by assumption) | exact fun _ => (H.pop (by assumption)).pop (by assumption) | exact fun _ => H.kp | exact fun _ => H.kp.tail | exact fun _ => H.kp.tail.tail | exact fun _ => H.kp.tail.tail.tail | exact fun _ => H.kp.sub (by simp) | exact fun _ => Kp.nil | exact fun _ => H.kh (by simp) (by repeat' first | exact kNil | apply kCons | apply kApp | assumption | exact OwnS.keys (by assumption)))) ?_; clear H; intro w28 H; rw [← hff] at H; replace H : Hp w [(b4, blk (flC ff) 39), (b2, blk (flC zeroF) 39)] w28 := H)
  refine WA_done (by kernel_rfl) ?_
  refine W_seq ?_
  refine W_region_l ?_
  refine WL_step rfl (R_loadA (vs := flC ff) Tryz.isAgg39 Tryz.sizeOf39 rfl (H.get .here) rfl (by simp [flC])) ?_
  (refine WL_call rfl (R_call rfl Tryz.call99 rfl) (enc_ret ff _) ?_; rintro _ w33 (⟨hok, b9, rfl, hb9, H1⟩ | ⟨hok, rfl, H1⟩); (have hsz := H.size; replace H := H.seqN H1 (kCons hb9 kNil); replace hb9 := Nat.le_trans hsz hb9; clear H1 hsz); rotate_left; (replace H := H.seq0 H1; clear H1))
  · refine WL_stepM rfl (R_mv) ?_
    refine WL_step rfl (R_extract rfl rfl) ?_
    refine WL_step rfl (R_extract rfl rfl) ?_
    refine WL_stepM rfl (R_as) ?_
    refine WL_stepM rfl (R_as) ?_
    refine WL_nil ?_
    refine W_seq ?_
    (refine W_draw (KH w [(b4, blk (flC ff) 39)]) (fun _ => false) (by kernel_rfl) H ?_; clear H; intro w41 H)
    refine WA_take 0 rfl rfl rfl (by kernel_rfl) (by kernel_rfl) (H.kh (by simp) (by repeat' first | exact kNil | apply kCons | apply kApp | assumption | exact OwnS.keys (by assumption))) (fun _ hC => R_loadA (vs := flC ff) Tryz.isAgg39 Tryz.sizeOf39 rfl (hC.get .here) rfl (by simp [flC])) ?_
    refine WA_takeM 1 rfl rfl rfl (by kernel_rfl) (by kernel_rfl) (H.kh (by simp) (by repeat' first | exact kNil | apply kCons | apply kApp | assumption | exact OwnS.keys (by assumption))) (fun _ hC => R_mv) ?_
    refine WA_takeM 2 rfl rfl rfl (by kernel_rfl) (by kernel_rfl) (H.kh (by simp) (by repeat' first | exact kNil | apply kCons | apply kApp | assumption | exact OwnS.keys (by assumption))) (fun _ hC => R_mv) ?_
    refine WA_pass 3 rfl rfl rfl (fun h => nomatch h) (by kernel_rfl) (by kernel_rfl) (H.kh (by simp) (by repeat' first | exact kNil | apply kCons | apply kApp | assumption | exact OwnS.keys (by assumption))) ?_
    refine WA_pass 4 rfl rfl rfl (fun h => nomatch h) (by kernel_rfl) (by kernel_rfl) (H.kh (by simp) (by repeat' first | exact kNil | apply kCons | apply kApp | assumption | exact OwnS.keys (by assumption))) ?_
    refine WA_pass 5 rfl rfl rfl (fun h => nomatch h) (by kernel_rfl) (by kernel_rfl) (H.kh (by simp) (by repeat' first | exact kNil | apply kCons | apply kApp | assumption | exact OwnS.keys (by assumption))) ?_
    refine WA_takeM 6 rfl rfl rfl (by kernel_rfl) (by kernel_rfl) (H.kh (by simp) (by repeat' first | exact kNil | apply kCons | apply kApp | assumption | exact OwnS.keys (by assumption))) (fun _ hC => R_pk_f rfl) ?_
    refine WA_one (i := 7) (by kernel_rfl) ?_
    (refine WI_effu rfl (.inl rfl) (E_storeA (vs := flC ff) H Tryz.sizeOf39 rfl rfl (by simp [flC, Value.oneCell']) (.there .here) (by simp [flC])) (fun _ H => (by first | exact fun h => absurd h (by decide) | exact fun _ => H | exact fun _ => H.none (by repeat' first | exact kNil | apply kCons | apply kApp | assumption | exact OwnS.keys (by assumption)) | exact fun _ => H.dropN (by repeat' first | exact kNil | apply kCons | apply kApp | assumption | exact OwnS.keys (by assumption)) | exact fun _ => H.pop (by assumption) | exact fun _ => (H.pop (by assumption)).pop (by assumption) | exact fun _ => H.kp | exact fun _ => H.kp.tail | exact fun _ => H.kp.tail.tail | exact fun _ => H.kp.tail.tail.tail | exact fun _ => H.kp.sub (by simp) | exact fun _ => Kp.nil | exact fun _ => H.kh (by simp) (by repeat' first | exact kNil | apply kCons | apply kApp | assumption | exact OwnS.keys (by assumption)))) ?_; clear H; intro w50 H)
    refine WA_takeM 8 rfl rfl rfl (by kernel_rfl) (by kernel_rfl) (H.kh (by simp) (by repeat' first | exact kNil | apply kCons | apply kApp | assumption | exact OwnS.keys (by assumption))) (fun _ hC => R_as) ?_
    refine WA_done (by kernel_rfl) ?_
    refine W_ret ?_
    exact ⟨_, ⟨_, _, rfl, ldA (vs := flC ff) Tryz.isAgg39 Tryz.sizeOf39 (H.get (.there .here)) rfl (by simp [flC]), rfl⟩, congrArg (fun b => Value.tuple #[vF ff, .bool b]) (decide_eq_false (fun h => hok h.1)).symm, H.none (by repeat' first | exact kNil | apply kCons | apply kApp | assumption | exact OwnS.keys (by assumption))⟩
  · refine WL_stepM rfl (R_mv) ?_
    refine WL_step rfl (R_extract rfl rfl) ?_
    refine WL_step rfl (R_extract rfl rfl) ?_
    refine WL_stepM rfl (R_as) ?_
    refine WL_stepM rfl (R_as) ?_
    refine WL_nil ?_
    refine W_seq ?_
    (refine W_draw (KH w [(b9, blk ((fileBytes ff).map U) 5), (b4, blk (flC ff) 39)]) (fun _ => false) (by kernel_rfl) H ?_; clear H; intro w62 H)
    refine WA_take 0 rfl rfl rfl (by kernel_rfl) (by kernel_rfl) (H.kh (by simp) (by repeat' first | exact kNil | apply kCons | apply kApp | assumption | exact OwnS.keys (by assumption))) (fun _ hC => R_loadA (vs := flC ff) Tryz.isAgg39 Tryz.sizeOf39 rfl (hC.get (.there .here)) rfl (by simp [flC])) ?_
    refine WA_takeM 1 rfl rfl rfl (by kernel_rfl) (by kernel_rfl) (H.kh (by simp) (by repeat' first | exact kNil | apply kCons | apply kApp | assumption | exact OwnS.keys (by assumption))) (fun _ hC => R_mv) ?_
    refine WA_takeM 2 rfl rfl rfl (by kernel_rfl) (by kernel_rfl) (H.kh (by simp) (by repeat' first | exact kNil | apply kCons | apply kApp | assumption | exact OwnS.keys (by assumption))) (fun _ hC => R_mv) ?_
    refine WA_takeGM 3 rfl rfl rfl rfl (by kernel_rfl) (by kernel_rfl) (H.kh (by simp) (by repeat' first | exact kNil | apply kCons | apply kApp | assumption | exact OwnS.keys (by assumption))) (fun _ hC => R_mv) ?_
    refine WA_takeGM 4 rfl rfl rfl rfl (by kernel_rfl) (by kernel_rfl) (H.kh (by simp) (by repeat' first | exact kNil | apply kCons | apply kApp | assumption | exact OwnS.keys (by assumption))) (fun _ hC => R_mv) ?_
    refine WA_one (i := 5) (by kernel_rfl) ?_
    (refine WI_call rfl (.inr ⟨_, _, rfl, rfl⟩) (R_call rfl Tryz.call92 rfl) (equal_ret (xs := fileBytes ff) (ys := [a, b, c, d, e, f, g, i]) (RdS.blk (c := (fileBytes ff).map U) (off := 0) (H.get .here) rfl (by simp [fileBytes, fb5]) (by simp)) (hl0.monoN H (by repeat' first | exact kNil | apply kCons | apply kApp | assumption | exact OwnS.keys (by assumption))) (by simp [fileBytes, fb5]) (by simp)) (fun _ _ hR _ => (H.seq0 hR.2).kh (by simp) (by repeat' first | exact kNil | apply kCons | apply kApp | assumption | exact OwnS.keys (by assumption))) ?_; rintro _ w69 ⟨rfl, H1⟩; replace H := H.seq0 H1; clear H1)
    refine WA_takeM 6 rfl rfl rfl (by kernel_rfl) (by kernel_rfl) (H.kh (by simp) (by repeat' first | exact kNil | apply kCons | apply kApp | assumption | exact OwnS.keys (by assumption))) (fun _ hC => R_pk_t rfl) ?_
    refine WA_one (i := 7) (by kernel_rfl) ?_
    (refine WI_effu rfl (.inl rfl) (E_storeA (vs := flC ff) H Tryz.sizeOf39 rfl rfl (by simp [flC, Value.oneCell']) (.there (.there .here)) (by simp [flC])) (fun _ H => (by first | exact fun h => absurd h (by decide) | exact fun _ => H | exact fun _ => H.none (by repeat' first | exact kNil | apply kCons | apply kApp | assumption | exact OwnS.keys (by assumption)) | exact fun _ => H.dropN (by repeat' first | exact kNil | apply kCons | apply kApp | assumption | exact OwnS.keys (by assumption)) | exact fun _ => H.pop (by assumption) | exact fun _ => (H.pop (by assumption)).pop (by assumption) | exact fun _ => H.kp | exact fun _ => H.kp.tail | exact fun _ => H.kp.tail.tail | exact fun _ => H.kp.tail.tail.tail | exact fun _ => H.kp.sub (by simp) | exact fun _ => Kp.nil | exact fun _ => H.kh (by simp) (by repeat' first | exact kNil | apply kCons | apply kApp | assumption | exact OwnS.keys (by assumption)))) ?_; clear H; intro w72 H)
    refine WA_takeM 8 rfl rfl rfl (by kernel_rfl) (by kernel_rfl) (H.kh (by simp) (by repeat' first | exact kNil | apply kCons | apply kApp | assumption | exact OwnS.keys (by assumption))) (fun _ hC => R_as) ?_
    refine WA_done (by kernel_rfl) ?_
    refine W_ret ?_
    exact ⟨_, ⟨_, _, rfl, ldA (vs := flC ff) Tryz.isAgg39 Tryz.sizeOf39 (H.get (.there (.there .here))) rfl (by simp [flC]), rfl⟩, congrArg (fun b => Value.tuple #[vF ff, .bool b]) (decide_eq_decide.2 ⟨fun h => ⟨hok, h⟩, fun h => h.2⟩), H.none (by repeat' first | exact kNil | apply kCons | apply kApp | assumption | exact OwnS.keys (by assumption))⟩

/-- what a call yields, as two ways -/
theorem decM_ret {xs : List UInt8} {q : Nat} {w : World} {l : Value} (hq : w.heap[q]? = some cod) (hl : RdS w l (xs.map U)) (hb : xs.length ≤ 100000) :
    Ret Tryz.prog 72 #[ptr q 0, l] w fun v w' => ((good xs ∧ v = .tuple #[vF (ofB xs), .bool true]) ∨ (¬ good xs ∧ v = .tuple #[vF zeroF, .bool false])) ∧ Hp w [] w' := by
  refine Ret_of_WC (args := [_, _]) Tryz.func72 rfl Tryz.ntmps72 Tryz.results72 (by simp) ?_
  have H := Hp.refl w
  obtain ⟨ao, ca, rfl⟩ := hl.form
  simp only [List.length_map] at hl ⊢
  by_cases h8 : xs.length = 8
  · by_cases hg : good xs
    · refine W_seq ?_
      refine W_region_l ?_
      (refine WL_effn rfl (E_alloc (vs := flC zeroF) H Tryz.zeroValue39 rfl) ?_; clear H; intro b4 w3 hb4 H)
      refine WL_stepM rfl (R_as) ?_
      refine WL_nil ?_
      refine W_seq ?_
      refine W_region_l ?_
      (refine WL_effn rfl (E_alloc (vs := flC zeroF) H Tryz.zeroValue39 rfl) ?_; clear H; intro b6 w8 hb6 H)
      refine WL_nil ?_
      refine W_seq ?_
      refine W_seq ?_
      refine W_region_l ?_
      refine WL_stepM rfl (R_mv) ?_
      refine WL_step rfl (R_nilCheck rfl) ?_
      refine WL_step rfl (R_fieldAddr (off' := 2) Tryz.underlying150 rfl Tryz.sizeOf128 (by decide) rfl rfl) ?_
      refine WL_step rfl (R_load Tryz.isAgg128 rfl (H.blockN hq (by repeat' first | exact kNil | apply kCons | apply kApp | assumption | exact OwnS.keys (by assumption))) rfl) ?_
      refine WL_step rfl (R_eq_fn Tryz.underlying128 rfl rfl) ?_
      refine WL_stepM rfl (R_mv) ?_
      refine WL_guard_t rfl rfl ?_
      refine WL_stepM rfl (R_mv) ?_
      refine WL_guard_t rfl rfl ?_
      refine WL_step rfl (R_len_slice Tryz.underlying22 rfl) ?_
      refine WL_guard_t rfl rfl ?_
      refine WL_stepM rfl (R_mv) ?_
      refine WL_guard_t rfl rfl ?_
      refine WL_step rfl (R_nilCheck rfl) ?_
      refine WL_guard_t rfl rfl ?_
      refine WL_step rfl (R_fieldAddr (off' := 0) Tryz.underlying150 rfl Tryz.sizeOf3 (by decide) rfl rfl) ?_
      refine WL_guard_t rfl rfl ?_
      refine WL_step rfl (R_load Tryz.isAgg3 rfl (H.blockN hq (by repeat' first | exact kNil | apply kCons | apply kApp | assumption | exact OwnS.keys (by assumption))) rfl) ?_
      refine WL_guard_t rfl rfl ?_
      refine WL_step rfl (R_ne_f rfl rfl (by omega)) ?_
      refine WL_stepM rfl (R_pk_f rfl) ?_
      refine WL_nil ?_
      refine W_cond_f rfl ?_
      refine W_skip ?_
      refine W_seq ?_
      (refine W_draw (KH w []) (fun _ => false) (by kernel_rfl) H ?_; clear H; intro w38 H)
      refine WA_takeM 0 rfl rfl rfl (by kernel_rfl) (by kernel_rfl) (H.kh (by simp) (by repeat' first | exact kNil | apply kCons | apply kApp | assumption | exact OwnS.keys (by assumption))) (fun _ hC => R_mv) ?_
      refine WA_take 1 rfl rfl rfl (by kernel_rfl) (by kernel_rfl) (H.kh (by simp) (by repeat' first | exact kNil | apply kCons | apply kApp | assumption | exact OwnS.keys (by assumption))) (fun _ hC => R_nilCheck rfl) ?_
      refine WA_take 2 rfl rfl rfl (by kernel_rfl) (by kernel_rfl) (H.kh (by simp) (by repeat' first | exact kNil | apply kCons | apply kApp | assumption | exact OwnS.keys (by assumption))) (fun _ hC => R_fieldAddr (off' := 2) Tryz.underlying150 rfl Tryz.sizeOf128 (by decide) rfl rfl) ?_
      refine WA_take 3 rfl rfl rfl (by kernel_rfl) (by kernel_rfl) (H.kh (by simp) (by repeat' first | exact kNil | apply kCons | apply kApp | assumption | exact OwnS.keys (by assumption))) (fun _ hC => R_load Tryz.isAgg128 rfl (hC.old.block hq (by simp)) rfl) ?_
      refine WA_takeM 4 rfl rfl rfl (by kernel_rfl) (by kernel_rfl) (H.kh (by simp) (by repeat' first | exact kNil | apply kCons | apply kApp | assumption | exact OwnS.keys (by assumption))) (fun _ hC => R_mv) ?_
      refine WA_two (i := 5) (j := 10) (by kernel_rfl) ?_ ?_
      · (refine WI_call rfl (.inl rfl) (R_call rfl Tryz.call87 rfl) (clone_ret (xs := xs) (hl.monoN H (by repeat' first | exact kNil | apply kCons | apply kApp | assumption | exact OwnS.keys (by assumption))) (by omega)) (fun _ _ ⟨M, hO, H1⟩ _ => ((H.seqO hO H1).2).kh (by simp) (kApp (H.seqO hO H1).1.keys (by repeat' first | exact kNil | apply kCons | apply kApp | assumption | exact OwnS.keys (by assumption)))) ?_; rintro u w45 ⟨M, hO, H1⟩; have h45 := H.seqO hO H1; clear H H1 hO; obtain ⟨hO, H⟩ := h45; have hMk := hO.keys; obtain ⟨a5, c5, rfl⟩ := hO.form)
        refine WA_two (i := 6) (j := 10) (by kernel_rfl) ?_ ?_
        · (refine WI_call rfl (.inl rfl) (R_call rfl Tryz.call90 rfl) (get_ret (xs := xs) (RdS.own hO (fun p hp => H.held p (by simp [hp]))) h8) (fun _ _ hR _ => (H.seq0 hR.2).kh (by simp) (by repeat' first | exact kNil | apply kCons | apply kApp | assumption | exact OwnS.keys (by assumption))) ?_; rintro v w47 ⟨hv, H1⟩; rw [decide_eq_true hg.2] at hv; subst hv; replace H := H.seq0 H1; clear H1)
          refine WA_takeM 7 rfl rfl rfl (by kernel_rfl) (by kernel_rfl) (H.kh (by simp) (by repeat' first | exact kNil | apply kCons | apply kApp | assumption | exact OwnS.keys (by assumption))) (fun _ hC => R_mv) ?_
          refine WA_take 8 rfl rfl rfl (by kernel_rfl) (by kernel_rfl) (H.kh (by simp) (by repeat' first | exact kNil | apply kCons | apply kApp | assumption | exact OwnS.keys (by assumption))) (fun _ hC => R_extract rfl rfl) ?_
          refine WA_take 9 rfl rfl rfl (by kernel_rfl) (by kernel_rfl) (H.kh (by simp) (by repeat' first | exact kNil | apply kCons | apply kApp | assumption | exact OwnS.keys (by assumption))) (fun _ hC => R_extract rfl rfl) ?_
          refine WA_one (i := 10) (by kernel_rfl) ?_
          (refine WI_effnA rfl (.inl rfl) (E_alloc (vs := flC zeroF) H Tryz.zeroValue39 rfl) (fun _ _ _ H => (by first | exact fun h => absurd h (by decide) | exact fun _ => H | exact fun _ => H.none (by repeat' first | exact kNil | apply kCons | apply kApp | assumption | exact OwnS.keys (by assumption)) | exact fun _ => H.dropN (by repeat' first | exact kNil | apply kCons | apply kApp | assumption | exact OwnS.keys (by assumption)) | exact fun _ => H.pop (by assumption) | exact fun _ => (H.pop (by assumption)).pop (by assumption) | exact fun _ => H.kp | exact fun _ => H.kp.tail | exact fun _ => H.kp.tail.tail | exact fun _ => H.kp.tail.tail.tail | exact fun _ => H.kp.sub (by simp) | exact fun _ => Kp.nil | exact fun _ => H.kh (by simp) (by repeat' first | exact kNil | apply kCons | apply kApp | assumption | exact OwnS.keys (by assumption)))) ?_; clear H; intro b7 w52 hb7 H)
          refine WA_one (i := 11) (by kernel_rfl) ?_
          (refine WI_effu rfl (.inl rfl) (E_storeA (vs := flC (ofB xs)) H Tryz.sizeOf39 rfl rfl (by simp [flC, Value.oneCell']) .here (by simp [flC])) (fun _ H => (by first | exact fun h => absurd h (by decide) | exact fun _ => H | exact fun _ => H.none (by repeat' first | exact kNil | apply kCons | apply kApp | assumption | exact OwnS.keys (by assumption)) | exact fun _ => H.dropN (by repeat' first | exact kNil | apply kCons | apply kApp | assumption | exact OwnS.keys (by assumption)) | exact fun _ => H.pop (by assumption) | exact fun _ => (H.pop (by assumption)).pop (by assumption) | exact fun _ => H.kp | exact fun _ => H.kp.tail | exact fun _ => H.kp.tail.tail | exact fun _ => H.kp.tail.tail.tail | exact fun _ => H.kp.sub (by simp) | exact fun _ => Kp.nil | exact fun _ => H.kh (by simp) (by repeat' first | exact kNil | apply kCons | apply kApp | assumption | exact OwnS.keys (by assumption)))) ?_; clear H; intro w54 H; replace H := Hp.dropMid (A := [_]) H hMk)
          refine WA_takeM 12 rfl rfl rfl (by kernel_rfl) (by kernel_rfl) (H.kh (by simp) (by repeat' first | exact kNil | apply kCons | apply kApp | assumption | exact OwnS.keys (by assumption))) (fun _ hC => R_as) ?_
          refine WA_done (by kernel_rfl) ?_
          refine W_seq ?_
          refine W_seq ?_
          refine W_region_l ?_
          refine WL_stepM rfl (R_mv) ?_
          refine WL_step rfl (R_not_t rfl) ?_
          refine WL_nil ?_
          refine W_cond_f rfl ?_
          refine W_skip ?_
          refine W_seq ?_
          refine W_region_l ?_
          refine WL_step rfl (R_loadA (vs := flC (ofB xs)) Tryz.isAgg39 Tryz.sizeOf39 rfl (H.get .here) rfl (by simp [flC])) ?_
          (refine WL_effu rfl (E_storeA (vs := flC (ofB xs)) H Tryz.sizeOf39 rfl rfl (by simp [flC, Value.oneCell']) (.there (.there .here)) (by simp [flC])) ?_; clear H; intro w68 H)
          refine WL_stepM rfl (R_as) ?_
          refine WL_nil ?_
          refine W_ret ?_
          exact ⟨_, ⟨_, _, rfl, ldA (vs := flC (ofB xs)) Tryz.isAgg39 Tryz.sizeOf39 (H.get (.there (.there .here))) rfl (by simp [flC]), rfl⟩, .inl ⟨hg, rfl⟩, H.none (by repeat' first | exact kNil | apply kCons | apply kApp | assumption | exact OwnS.keys (by assumption))⟩
        · (refine WI_effnA rfl (.inl rfl) (E_alloc (vs := flC zeroF) H Tryz.zeroValue39 rfl) (fun _ _ _ H => (by first | exact fun h => absurd h (by decide) | exact fun _ => H | exact fun _ => H.none (by repeat' first | exact kNil | apply kCons | apply kApp | assumption | exact OwnS.keys (by assumption)) | exact fun _ => H.dropN (by repeat' first | exact kNil | apply kCons | apply kApp | assumption | exact OwnS.keys (by assumption)) | exact fun _ => H.pop (by assumption) | exact fun _ => (H.pop (by assumption)).pop (by assumption) | exact fun _ => H.kp | exact fun _ => H.kp.tail | exact fun _ => H.kp.tail.tail | exact fun _ => H.kp.tail.tail.tail | exact fun _ => H.kp.sub (by simp) | exact fun _ => Kp.nil | exact fun _ => H.kh (by simp) (by repeat' first | exact kNil | apply kCons | apply kApp | assumption | exact OwnS.keys (by assumption)))) ?_; clear H; intro b7 w73 hb7 H)
          refine WA_one (i := 6) (by kernel_rfl) ?_
          (refine WI_call rfl (.inl rfl) (R_call rfl Tryz.call90 rfl) (get_ret (xs := xs) (RdS.own hO (fun p hp => H.held p (by simp [hp]))) h8) (fun _ _ hR _ => (H.seq0 hR.2).kh (by simp) (by repeat' first | exact kNil | apply kCons | apply kApp | assumption | exact OwnS.keys (by assumption))) ?_; rintro v w75 ⟨hv, H1⟩; rw [decide_eq_true hg.2] at hv; subst hv; replace H := H.seq0 H1; clear H1)
          refine WA_takeM 7 rfl rfl rfl (by kernel_rfl) (by kernel_rfl) (H.kh (by simp) (by repeat' first | exact kNil | apply kCons | apply kApp | assumption | exact OwnS.keys (by assumption))) (fun _ hC => R_mv) ?_
          refine WA_take 8 rfl rfl rfl (by kernel_rfl) (by kernel_rfl) (H.kh (by simp) (by repeat' first | exact kNil | apply kCons | apply kApp | assumption | exact OwnS.keys (by assumption))) (fun _ hC => R_extract rfl rfl) ?_
          refine WA_take 9 rfl rfl rfl (by kernel_rfl) (by kernel_rfl) (H.kh (by simp) (by repeat' first | exact kNil | apply kCons | apply kApp | assumption | exact OwnS.keys (by assumption))) (fun _ hC => R_extract rfl rfl) ?_
          refine WA_one (i := 11) (by kernel_rfl) ?_
          (refine WI_effu rfl (.inl rfl) (E_storeA (vs := flC (ofB xs)) H Tryz.sizeOf39 rfl rfl (by simp [flC, Value.oneCell']) .here (by simp [flC])) (fun _ H => (by first | exact fun h => absurd h (by decide) | exact fun _ => H | exact fun _ => H.none (by repeat' first | exact kNil | apply kCons | apply kApp | assumption | exact OwnS.keys (by assumption)) | exact fun _ => H.dropN (by repeat' first | exact kNil | apply kCons | apply kApp | assumption | exact OwnS.keys (by assumption)) | exact fun _ => H.pop (by assumption) | exact fun _ => (H.pop (by assumption)).pop (by assumption) | exact fun _ => H.kp | exact fun _ => H.kp.tail | exact fun _ => H.kp.tail.tail | exact fun _ => H.kp.tail.tail.tail | exact fun _ => H.kp.sub (by simp) | exact fun _ => Kp.nil | exact fun _ => H.kh (by simp) (by repeat' first | exact kNil | apply kCons | apply kApp | assumption | exact OwnS.keys (by assumption)))) ?_; clear H; intro w80 H; replace H := Hp.dropMid (A := [_]) H hMk)
          refine WA_takeM 12 rfl rfl rfl (by kernel_rfl) (by kernel_rfl) (H.kh (by simp) (by repeat' first | exact kNil | apply kCons | apply kApp | assumption | exact OwnS.keys (by assumption))) (fun _ hC => R_as) ?_
          refine WA_done (by kernel_rfl) ?_
          refine W_seq ?_
          refine W_seq ?_
          refine W_region_l ?_
          refine WL_stepM rfl (R_mv) ?_
          refine WL_step rfl (R_not_t rfl) ?_
          refine WL_nil ?_
          refine W_cond_f rfl ?_
          refine W_skip ?_
          refine W_seq ?_
          refine W_region_l ?_
          refine WL_step rfl (R_loadA (vs := flC (ofB xs)) Tryz.isAgg39 Tryz.sizeOf39 rfl (H.get .here) rfl (by simp [flC])) ?_
          (refine WL_effu rfl (E_storeA (vs := flC (ofB xs)) H Tryz.sizeOf39 rfl rfl (by simp [flC, Value.oneCell']) (.there (.there .here)) (by simp [flC])) ?_; clear H; intro w94 H)
          refine WL_stepM rfl (R_as) ?_
          refine WL_nil ?_
          refine W_ret ?_
          exact ⟨_, ⟨_, _, rfl, ldA (vs := flC (ofB xs)) Tryz.isAgg39 Tryz.sizeOf39 (H.get (.there (.there .here))) rfl (by simp [flC]), rfl⟩, .inl ⟨hg, rfl⟩, H.none (by repeat' first | exact kNil | apply kCons | apply kApp | assumption | exact OwnS.keys (by assumption))⟩
      · (refine WI_effnA rfl (.inl rfl) (E_alloc (vs := flC zeroF) H Tryz.zeroValue39 rfl) (fun _ _ _ H => (by first | exact fun h => absurd h (by decide) | exact fun _ => H | exact fun _ => H.none (by repeat' first | exact kNil | apply kCons | apply kApp | assumption | exact OwnS.keys (by assumption)) | exact fun _ => H.dropN (by repeat' first | exact kNil | apply kCons | apply kApp | assumption | exact OwnS.keys (by assumption)) | exact fun _ => H.pop (by assumption) | exact fun _ => (H.pop (by assumption)).pop (by assumption) | exact fun _ => H.kp | exact fun _ => H.kp.tail | exact fun _ => H.kp.tail.tail | exact fun _ => H.kp.tail.tail.tail | exact fun _ => H.kp.sub (by simp) | exact fun _ => Kp.nil | exact fun _ => H.kh (by simp) (by repeat' first | exact kNil | apply kCons | apply kApp | assumption | exact OwnS.keys (by assumption)))) ?_; clear H; intro b7 w99 hb7 H)
        refine WA_one (i := 5) (by kernel_rfl) ?_
        (refine WI_call rfl (.inl rfl) (R_call rfl Tryz.call87 rfl) (clone_ret (xs := xs) (hl.monoN H (by repeat' first | exact kNil | apply kCons | apply kApp | assumption | exact OwnS.keys (by assumption))) (by omega)) (fun _ _ ⟨M, hO, H1⟩ _ => ((H.seqO hO H1).2).kh (by simp) (kApp (H.seqO hO H1).1.keys (by repeat' first | exact kNil | apply kCons | apply kApp | assumption | exact OwnS.keys (by assumption)))) ?_; rintro u w101 ⟨M, hO, H1⟩; have h101 := H.seqO hO H1; clear H H1 hO; obtain ⟨hO, H⟩ := h101; have hMk := hO.keys; obtain ⟨a5, c5, rfl⟩ := hO.form)
        refine WA_one (i := 6) (by kernel_rfl) ?_
        (refine WI_call rfl (.inl rfl) (R_call rfl Tryz.call90 rfl) (get_ret (xs := xs) (RdS.own hO (fun p hp => H.held p (by simp [hp]))) h8) (fun _ _ hR _ => (H.seq0 hR.2).kh (by simp) (by repeat' first | exact kNil | apply kCons | apply kApp | assumption | exact OwnS.keys (by assumption))) ?_; rintro v w103 ⟨hv, H1⟩; rw [decide_eq_true hg.2] at hv; subst hv; replace H := H.seq0 H1; clear H1)
        refine WA_takeM 7 rfl rfl rfl (by kernel_rfl) (by kernel_rfl) (H.kh (by simp) (by repeat' first | exact kNil | apply kCons | apply kApp | assumption | exact OwnS.keys (by assumption))) (fun _ hC => R_mv) ?_
        refine WA_take 8 rfl rfl rfl (by kernel_rfl) (by kernel_rfl) (H.kh (by simp) (by repeat' first | exact kNil | apply kCons | apply kApp | assumption | exact OwnS.keys (by assumption))) (fun _ hC => R_extract rfl rfl) ?_
        refine WA_take 9 rfl rfl rfl (by kernel_rfl) (by kernel_rfl) (H.kh (by simp) (by repeat' first | exact kNil | apply kCons | apply kApp | assumption | exact OwnS.keys (by assumption))) (fun _ hC => R_extract rfl rfl) ?_
        refine WA_one (i := 11) (by kernel_rfl) ?_
        (refine WI_effu rfl (.inl rfl) (E_storeA (vs := flC (ofB xs)) H Tryz.sizeOf39 rfl rfl (by simp [flC, Value.oneCell']) (.app _ .here) (by simp [flC])) (fun _ H => (by first | exact fun h => absurd h (by decide) | exact fun _ => H | exact fun _ => H.none (by repeat' first | exact kNil | apply kCons | apply kApp | assumption | exact OwnS.keys (by assumption)) | exact fun _ => H.dropN (by repeat' first | exact kNil | apply kCons | apply kApp | assumption | exact OwnS.keys (by assumption)) | exact fun _ => H.pop (by assumption) | exact fun _ => (H.pop (by assumption)).pop (by assumption) | exact fun _ => H.kp | exact fun _ => H.kp.tail | exact fun _ => H.kp.tail.tail | exact fun _ => H.kp.tail.tail.tail | exact fun _ => H.kp.sub (by simp) | exact fun _ => Kp.nil | exact fun _ => H.kh (by simp) (by repeat' first | exact kNil | apply kCons | apply kApp | assumption | exact OwnS.keys (by assumption)))) ?_; clear H; intro w108 H; replace H := Hp.dropN H hMk)
        refine WA_takeM 12 rfl rfl rfl (by kernel_rfl) (by kernel_rfl) (H.kh (by simp) (by repeat' first | exact kNil | apply kCons | apply kApp | assumption | exact OwnS.keys (by assumption))) (fun _ hC => R_as) ?_
        refine WA_done (by kernel_rfl) ?_
        refine W_seq ?_
        refine W_seq ?_
        refine W_region_l ?_
        refine WL_stepM rfl (R_mv) ?_
        refine WL_step rfl (R_not_t rfl) ?_
        refine WL_nil ?_
        refine W_cond_f rfl ?_
        refine W_skip ?_
        refine W_seq ?_
        refine W_region_l ?_
        refine WL_step rfl (R_loadA (vs := flC (ofB xs)) Tryz.isAgg39 Tryz.sizeOf39 rfl (H.get .here) rfl (by simp [flC])) ?_
        (refine WL_effu rfl (E_storeA (vs := flC (ofB xs)) H Tryz.sizeOf39 rfl rfl (by simp [flC, Value.oneCell']) (.there (.there .here)) (by simp [flC])) ?_; clear H; intro w122 H)
        refine WL_stepM rfl (R_as) ?_
        refine WL_nil ?_
        refine W_ret ?_
        exact ⟨_, ⟨_, _, rfl, ldA (vs := flC (ofB xs)) Tryz.isAgg39 Tryz.sizeOf39 (H.get (.there (.there .here))) rfl (by simp [flC]), rfl⟩, .inl ⟨hg, rfl⟩, H.none (by repeat' first | exact kNil | apply kCons | apply kApp | assumption | exact OwnS.keys (by assumption))⟩
    · refine W_seq ?_
      refine W_region_l ?_
      (refine WL_effn rfl (E_alloc (vs := flC zeroF) H Tryz.zeroValue39 rfl) ?_; clear H; intro b4 w3 hb4 H)
      refine WL_stepM rfl (R_as) ?_
      refine WL_nil ?_
      refine W_seq ?_
      refine W_region_l ?_
      (refine WL_effn rfl (E_alloc (vs := flC zeroF) H Tryz.zeroValue39 rfl) ?_; clear H; intro b6 w8 hb6 H)
      refine WL_nil ?_
      refine W_seq ?_
      refine W_seq ?_
      refine W_region_l ?_
      refine WL_stepM rfl (R_mv) ?_
      refine WL_step rfl (R_nilCheck rfl) ?_
      refine WL_step rfl (R_fieldAddr (off' := 2) Tryz.underlying150 rfl Tryz.sizeOf128 (by decide) rfl rfl) ?_
      refine WL_step rfl (R_load Tryz.isAgg128 rfl (H.blockN hq (by repeat' first | exact kNil | apply kCons | apply kApp | assumption | exact OwnS.keys (by assumption))) rfl) ?_
      refine WL_step rfl (R_eq_fn Tryz.underlying128 rfl rfl) ?_
      refine WL_stepM rfl (R_mv) ?_
      refine WL_guard_t rfl rfl ?_
      refine WL_stepM rfl (R_mv) ?_
      refine WL_guard_t rfl rfl ?_
      refine WL_step rfl (R_len_slice Tryz.underlying22 rfl) ?_
      refine WL_guard_t rfl rfl ?_
      refine WL_stepM rfl (R_mv) ?_
      refine WL_guard_t rfl rfl ?_
      refine WL_step rfl (R_nilCheck rfl) ?_
      refine WL_guard_t rfl rfl ?_
      refine WL_step rfl (R_fieldAddr (off' := 0) Tryz.underlying150 rfl Tryz.sizeOf3 (by decide) rfl rfl) ?_
      refine WL_guard_t rfl rfl ?_
      refine WL_step rfl (R_load Tryz.isAgg3 rfl (H.blockN hq (by repeat' first | exact kNil | apply kCons | apply kApp | assumption | exact OwnS.keys (by assumption))) rfl) ?_
      refine WL_guard_t rfl rfl ?_
      refine WL_step rfl (R_ne_f rfl rfl (by omega)) ?_
      refine WL_stepM rfl (R_pk_f rfl) ?_
      refine WL_nil ?_
      refine W_cond_f rfl ?_
      refine W_skip ?_
      refine W_seq ?_
      (refine W_draw (KH w []) (fun _ => false) (by kernel_rfl) H ?_; clear H; intro w38 H)
      refine WA_takeM 0 rfl rfl rfl (by kernel_rfl) (by kernel_rfl) (H.kh (by simp) (by repeat' first | exact kNil | apply kCons | apply kApp | assumption | exact OwnS.keys (by assumption))) (fun _ hC => R_mv) ?_
      refine WA_take 1 rfl rfl rfl (by kernel_rfl) (by kernel_rfl) (H.kh (by simp) (by repeat' first | exact kNil | apply kCons | apply kApp | assumption | exact OwnS.keys (by assumption))) (fun _ hC => R_nilCheck rfl) ?_
      refine WA_take 2 rfl rfl rfl (by kernel_rfl) (by kernel_rfl) (H.kh (by simp) (by repeat' first | exact kNil | apply kCons | apply kApp | assumption | exact OwnS.keys (by assumption))) (fun _ hC => R_fieldAddr (off' := 2) Tryz.underlying150 rfl Tryz.sizeOf128 (by decide) rfl rfl) ?_
      refine WA_take 3 rfl rfl rfl (by kernel_rfl) (by kernel_rfl) (H.kh (by simp) (by repeat' first | exact kNil | apply kCons | apply kApp | assumption | exact OwnS.keys (by assumption))) (fun _ hC => R_load Tryz.isAgg128 rfl (hC.old.block hq (by simp)) rfl) ?_
      refine WA_takeM 4 rfl rfl rfl (by kernel_rfl) (by kernel_rfl) (H.kh (by simp) (by repeat' first | exact kNil | apply kCons | apply kApp | assumption | exact OwnS.keys (by assumption))) (fun _ hC => R_mv) ?_
      refine WA_two (i := 5) (j := 10) (by kernel_rfl) ?_ ?_
      · (refine WI_call rfl (.inl rfl) (R_call rfl Tryz.call87 rfl) (clone_ret (xs := xs) (hl.monoN H (by repeat' first | exact kNil | apply kCons | apply kApp | assumption | exact OwnS.keys (by assumption))) (by omega)) (fun _ _ ⟨M, hO, H1⟩ _ => ((H.seqO hO H1).2).kh (by simp) (kApp (H.seqO hO H1).1.keys (by repeat' first | exact kNil | apply kCons | apply kApp | assumption | exact OwnS.keys (by assumption)))) ?_; rintro u w45 ⟨M, hO, H1⟩; have h45 := H.seqO hO H1; clear H H1 hO; obtain ⟨hO, H⟩ := h45; have hMk := hO.keys; obtain ⟨a5, c5, rfl⟩ := hO.form)
        refine WA_two (i := 6) (j := 10) (by kernel_rfl) ?_ ?_
        · (refine WI_call rfl (.inl rfl) (R_call rfl Tryz.call90 rfl) (get_ret (xs := xs) (RdS.own hO (fun p hp => H.held p (by simp [hp]))) h8) (fun _ _ hR _ => (H.seq0 hR.2).kh (by simp) (by repeat' first | exact kNil | apply kCons | apply kApp | assumption | exact OwnS.keys (by assumption))) ?_; rintro v w47 ⟨hv, H1⟩; rw [decide_eq_false (fun h => hg ⟨h8, h⟩)] at hv; subst hv; replace H := H.seq0 H1; clear H1)
          refine WA_takeM 7 rfl rfl rfl (by kernel_rfl) (by kernel_rfl) (H.kh (by simp) (by repeat' first | exact kNil | apply kCons | apply kApp | assumption | exact OwnS.keys (by assumption))) (fun _ hC => R_mv) ?_
          refine WA_take 8 rfl rfl rfl (by kernel_rfl) (by kernel_rfl) (H.kh (by simp) (by repeat' first | exact kNil | apply kCons | apply kApp | assumption | exact OwnS.keys (by assumption))) (fun _ hC => R_extract rfl rfl) ?_
          refine WA_take 9 rfl rfl rfl (by kernel_rfl) (by kernel_rfl) (H.kh (by simp) (by repeat' first | exact kNil | apply kCons | apply kApp | assumption | exact OwnS.keys (by assumption))) (fun _ hC => R_extract rfl rfl) ?_
          refine WA_one (i := 10) (by kernel_rfl) ?_
          (refine WI_effnA rfl (.inl rfl) (E_alloc (vs := flC zeroF) H Tryz.zeroValue39 rfl) (fun _ _ _ H => (by first | exact fun h => absurd h (by decide) | exact fun _ => H | exact fun _ => H.none (by repeat' first | exact kNil | apply kCons | apply kApp | assumption | exact OwnS.keys (by assumption)) | exact fun _ => H.dropN (by repeat' first | exact kNil | apply kCons | apply kApp | assumption | exact OwnS.keys (by assumption)) | exact fun _ => H.pop (by assumption) | exact fun _ => (H.pop (by assumption)).pop (by assumption) | exact fun _ => H.kp | exact fun _ => H.kp.tail | exact fun _ => H.kp.tail.tail | exact fun _ => H.kp.tail.tail.tail | exact fun _ => H.kp.sub (by simp) | exact fun _ => Kp.nil | exact fun _ => H.kh (by simp) (by repeat' first | exact kNil | apply kCons | apply kApp | assumption | exact OwnS.keys (by assumption)))) ?_; clear H; intro b7 w52 hb7 H)
          refine WA_one (i := 11) (by kernel_rfl) ?_
          (refine WI_effu rfl (.inl rfl) (E_storeA (vs := flC (ofB xs)) H Tryz.sizeOf39 rfl rfl (by simp [flC, Value.oneCell']) .here (by simp [flC])) (fun _ H => (by first | exact fun h => absurd h (by decide) | exact fun _ => H | exact fun _ => H.none (by repeat' first | exact kNil | apply kCons | apply kApp | assumption | exact OwnS.keys (by assumption)) | exact fun _ => H.dropN (by repeat' first | exact kNil | apply kCons | apply kApp | assumption | exact OwnS.keys (by assumption)) | exact fun _ => H.pop (by assumption) | exact fun _ => (H.pop (by assumption)).pop (by assumption) | exact fun _ => H.kp | exact fun _ => H.kp.tail | exact fun _ => H.kp.tail.tail | exact fun _ => H.kp.tail.tail.tail | exact fun _ => H.kp.sub (by simp) | exact fun _ => Kp.nil | exact fun _ => H.kh (by simp) (by repeat' first | exact kNil | apply kCons | apply kApp | assumption | exact OwnS.keys (by assumption)))) ?_; clear H; intro w54 H; replace H := Hp.dropMid (A := [_]) H hMk)
          refine WA_takeM 12 rfl rfl rfl (by kernel_rfl) (by kernel_rfl) (H.kh (by simp) (by repeat' first | exact kNil | apply kCons | apply kApp | assumption | exact OwnS.keys (by assumption))) (fun _ hC => R_as) ?_
          refine WA_done (by kernel_rfl) ?_
          refine W_seq ?_
          refine W_seq ?_
          refine W_region_l ?_
          refine WL_stepM rfl (R_mv) ?_
          refine WL_step rfl (R_not_f rfl) ?_
          refine WL_nil ?_
          refine W_cond_t rfl ?_
          refine W_seq ?_
          refine W_region_l ?_
          refine WL_step rfl (R_loadA (vs := flC zeroF) Tryz.isAgg39 Tryz.sizeOf39 rfl (H.get (.there .here)) rfl (by simp [flC])) ?_
          (refine WL_effu rfl (E_storeA (vs := flC zeroF) H Tryz.sizeOf39 rfl rfl (by simp [flC, Value.oneCell']) (.there (.there .here)) (by simp [flC])) ?_; clear H; intro w67 H)
          refine WL_stepM rfl (R_as) ?_
          refine WL_nil ?_
          refine W_ret ?_
          exact ⟨_, ⟨_, _, rfl, ldA (vs := flC zeroF) Tryz.isAgg39 Tryz.sizeOf39 (H.get (.there (.there .here))) rfl (by simp [flC]), rfl⟩, .inr ⟨hg, rfl⟩, H.none (by repeat' first | exact kNil | apply kCons | apply kApp | assumption | exact OwnS.keys (by assumption))⟩
        · (refine WI_effnA rfl (.inl rfl) (E_alloc (vs := flC zeroF) H Tryz.zeroValue39 rfl) (fun _ _ _ H => (by first | exact fun h => absurd h (by decide) | exact fun _ => H | exact fun _ => H.none (by repeat' first | exact kNil | apply kCons | apply kApp | assumption | exact OwnS.keys (by assumption)) | exact fun _ => H.dropN (by repeat' first | exact kNil | apply kCons | apply kApp | assumption | exact OwnS.keys (by assumption)) | exact fun _ => H.pop (by assumption) | exact fun _ => (H.pop (by assumption)).pop (by assumption) | exact fun _ => H.kp | exact fun _ => H.kp.tail | exact fun _ => H.kp.tail.tail | exact fun _ => H.kp.tail.tail.tail | exact fun _ => H.kp.sub (by simp) | exact fun _ => Kp.nil | exact fun _ => H.kh (by simp) (by repeat' first | exact kNil | apply kCons | apply kApp | assumption | exact OwnS.keys (by assumption)))) ?_; clear H; intro b7 w72 hb7 H)
          refine WA_one (i := 6) (by kernel_rfl) ?_
          (refine WI_call rfl (.inl rfl) (R_call rfl Tryz.call90 rfl) (get_ret (xs := xs) (RdS.own hO (fun p hp => H.held p (by simp [hp]))) h8) (fun _ _ hR _ => (H.seq0 hR.2).kh (by simp) (by repeat' first | exact kNil | apply kCons | apply kApp | assumption | exact OwnS.keys (by assumption))) ?_; rintro v w74 ⟨hv, H1⟩; rw [decide_eq_false (fun h => hg ⟨h8, h⟩)] at hv; subst hv; replace H := H.seq0 H1; clear H1)
          refine WA_takeM 7 rfl rfl rfl (by kernel_rfl) (by kernel_rfl) (H.kh (by simp) (by repeat' first | exact kNil | apply kCons | apply kApp | assumption | exact OwnS.keys (by assumption))) (fun _ hC => R_mv) ?_
          refine WA_take 8 rfl rfl rfl (by kernel_rfl) (by kernel_rfl) (H.kh (by simp) (by repeat' first | exact kNil | apply kCons | apply kApp | assumption | exact OwnS.keys (by assumption))) (fun _ hC => R_extract rfl rfl) ?_
          refine WA_take 9 rfl rfl rfl (by kernel_rfl) (by kernel_rfl) (H.kh (by simp) (by repeat' first | exact kNil | apply kCons | apply kApp | assumption | exact OwnS.keys (by assumption))) (fun _ hC => R_extract rfl rfl) ?_
          refine WA_one (i := 11) (by kernel_rfl) ?_
          (refine WI_effu rfl (.inl rfl) (E_storeA (vs := flC (ofB xs)) H Tryz.sizeOf39 rfl rfl (by simp [flC, Value.oneCell']) .here (by simp [flC])) (fun _ H => (by first | exact fun h => absurd h (by decide) | exact fun _ => H | exact fun _ => H.none (by repeat' first | exact kNil | apply kCons | apply kApp | assumption | exact OwnS.keys (by assumption)) | exact fun _ => H.dropN (by repeat' first | exact kNil | apply kCons | apply kApp | assumption | exact OwnS.keys (by assumption)) | exact fun _ => H.pop (by assumption) | exact fun _ => (H.pop (by assumption)).pop (by assumption) | exact fun _ => H.kp | exact fun _ => H.kp.tail | exact fun _ => H.kp.tail.tail | exact fun _ => H.kp.tail.tail.tail | exact fun _ => H.kp.sub (by simp) | exact fun _ => Kp.nil | exact fun _ => H.kh (by simp) (by repeat' first | exact kNil | apply kCons | apply kApp | assumption | exact OwnS.keys (by assumption)))) ?_; clear H; intro w79 H; replace H := Hp.dropMid (A := [_]) H hMk)
          refine WA_takeM 12 rfl rfl rfl (by kernel_rfl) (by kernel_rfl) (H.kh (by simp) (by repeat' first | exact kNil | apply kCons | apply kApp | assumption | exact OwnS.keys (by assumption))) (fun _ hC => R_as) ?_
          refine WA_done (by kernel_rfl) ?_
          refine W_seq ?_
          refine W_seq ?_
          refine W_region_l ?_
          refine WL_stepM rfl (R_mv) ?_
          refine WL_step rfl (R_not_f rfl) ?_
          refine WL_nil ?_
          refine W_cond_t rfl ?_
          refine W_seq ?_
          refine W_region_l ?_
          refine WL_step rfl (R_loadA (vs := flC zeroF) Tryz.isAgg39 Tryz.sizeOf39 rfl (H.get (.there .here)) rfl (by simp [flC])) ?_
          (refine WL_effu rfl (E_storeA (vs := flC zeroF) H Tryz.sizeOf39 rfl rfl (by simp [flC, Value.oneCell']) (.there (.there .here)) (by simp [flC])) ?_; clear H; intro w92 H)
          refine WL_stepM rfl (R_as) ?_
          refine WL_nil ?_
          refine W_ret ?_
          exact ⟨_, ⟨_, _, rfl, ldA (vs := flC zeroF) Tryz.isAgg39 Tryz.sizeOf39 (H.get (.there (.there .here))) rfl (by simp [flC]), rfl⟩, .inr ⟨hg, rfl⟩, H.none (by repeat' first | exact kNil | apply kCons | apply kApp | assumption | exact OwnS.keys (by assumption))⟩
      · (refine WI_effnA rfl (.inl rfl) (E_alloc (vs := flC zeroF) H Tryz.zeroValue39 rfl) (fun _ _ _ H => (by first | exact fun h => absurd h (by decide) | exact fun _ => H | exact fun _ => H.none (by repeat' first | exact kNil | apply kCons | apply kApp | assumption | exact OwnS.keys (by assumption)) | exact fun _ => H.dropN (by repeat' first | exact kNil | apply kCons | apply kApp | assumption | exact OwnS.keys (by assumption)) | exact fun _ => H.pop (by assumption) | exact fun _ => (H.pop (by assumption)).pop (by assumption) | exact fun _ => H.kp | exact fun _ => H.kp.tail | exact fun _ => H.kp.tail.tail | exact fun _ => H.kp.tail.tail.tail | exact fun _ => H.kp.sub (by simp) | exact fun _ => Kp.nil | exact fun _ => H.kh (by simp) (by repeat' first | exact kNil | apply kCons | apply kApp | assumption | exact OwnS.keys (by assumption)))) ?_; clear H; intro b7 w97 hb7 H)
        refine WA_one (i := 5) (by kernel_rfl) ?_
        (refine WI_call rfl (.inl rfl) (R_call rfl Tryz.call87 rfl) (clone_ret (xs := xs) (hl.monoN H (by repeat' first | exact kNil | apply kCons | apply kApp | assumption | exact OwnS.keys (by assumption))) (by omega)) (fun _ _ ⟨M, hO, H1⟩ _ => ((H.seqO hO H1).2).kh (by simp) (kApp (H.seqO hO H1).1.keys (by repeat' first | exact kNil | apply kCons | apply kApp | assumption | exact OwnS.keys (by assumption)))) ?_; rintro u w99 ⟨M, hO, H1⟩; have h99 := H.seqO hO H1; clear H H1 hO; obtain ⟨hO, H⟩ := h99; have hMk := hO.keys; obtain ⟨a5, c5, rfl⟩ := hO.form)
        refine WA_one (i := 6) (by kernel_rfl) ?_
        (refine WI_call rfl (.inl rfl) (R_call rfl Tryz.call90 rfl) (get_ret (xs := xs) (RdS.own hO (fun p hp => H.held p (by simp [hp]))) h8) (fun _ _ hR _ => (H.seq0 hR.2).kh (by simp) (by repeat' first | exact kNil | apply kCons | apply kApp | assumption | exact OwnS.keys (by assumption))) ?_; rintro v w101 ⟨hv, H1⟩; rw [decide_eq_false (fun h => hg ⟨h8, h⟩)] at hv; subst hv; replace H := H.seq0 H1; clear H1)
        refine WA_takeM 7 rfl rfl rfl (by kernel_rfl) (by kernel_rfl) (H.kh (by simp) (by repeat' first | exact kNil | apply kCons | apply kApp | assumption | exact OwnS.keys (by assumption))) (fun _ hC => R_mv) ?_
        refine WA_take 8 rfl rfl rfl (by kernel_rfl) (by kernel_rfl) (H.kh (by simp) (by repeat' first | exact kNil | apply kCons | apply kApp | assumption | exact OwnS.keys (by assumption))) (fun _ hC => R_extract rfl rfl) ?_
        refine WA_take 9 rfl rfl rfl (by kernel_rfl) (by kernel_rfl) (H.kh (by simp) (by repeat' first | exact kNil | apply kCons | apply kApp | assumption | exact OwnS.keys (by assumption))) (fun _ hC => R_extract rfl rfl) ?_
        refine WA_one (i := 11) (by kernel_rfl) ?_
        (refine WI_effu rfl (.inl rfl) (E_storeA (vs := flC (ofB xs)) H Tryz.sizeOf39 rfl rfl (by simp [flC, Value.oneCell']) (.app _ .here) (by simp [flC])) (fun _ H => (by first | exact fun h => absurd h (by decide) | exact fun _ => H | exact fun _ => H.none (by repeat' first | exact kNil | apply kCons | apply kApp | assumption | exact OwnS.keys (by assumption)) | exact fun _ => H.dropN (by repeat' first | exact kNil | apply kCons | apply kApp | assumption | exact OwnS.keys (by assumption)) | exact fun _ => H.pop (by assumption) | exact fun _ => (H.pop (by assumption)).pop (by assumption) | exact fun _ => H.kp | exact fun _ => H.kp.tail | exact fun _ => H.kp.tail.tail | exact fun _ => H.kp.tail.tail.tail | exact fun _ => H.kp.sub (by simp) | exact fun _ => Kp.nil | exact fun _ => H.kh (by simp) (by repeat' first | exact kNil | apply kCons | apply kApp | assumption | exact OwnS.keys (by assumption)))) ?_; clear H; intro w106 H; replace H := Hp.dropN H hMk)
        refine WA_takeM 12 rfl rfl rfl (by kernel_rfl) (by kernel_rfl) (H.kh (by simp) (by repeat' first | exact kNil | apply kCons | apply kApp | assumption | exact OwnS.keys (by assumption))) (fun _ hC => R_as) ?_
        refine WA_done (by kernel_rfl) ?_
        refine W_seq ?_
        refine W_seq ?_
        refine W_region_l ?_
        refine WL_stepM rfl (R_mv) ?_
        refine WL_step rfl (R_not_f rfl) ?_
        refine WL_nil ?_
        refine W_cond_t rfl ?_
        refine W_seq ?_
        refine W_region_l ?_
        refine WL_step rfl (R_loadA (vs := flC zeroF) Tryz.isAgg39 Tryz.sizeOf39 rfl (H.get (.there .here)) rfl (by simp [flC])) ?_
        (refine WL_effu rfl (E_storeA (vs := flC zeroF) H Tryz.sizeOf39 rfl rfl (by simp [flC, Value.oneCell']) (.there (.there .here)) (by simp [flC])) ?_; clear H; intro w119 H)
        refine WL_stepM rfl (R_as) ?_
        refine WL_nil ?_
        refine W_ret ?_
        exact ⟨_, ⟨_, _, rfl, ldA (vs := flC zeroF) Tryz.isAgg39 Tryz.sizeOf39 (H.get (.there (.there .here))) rfl (by simp [flC]), rfl⟩, .inr ⟨hg, rfl⟩, H.none (by repeat' first | exact kNil | apply kCons | apply kApp | assumption | exact OwnS.keys (by assumption))⟩
  · refine W_seq ?_
    refine W_region_l ?_
    (refine WL_effn rfl (E_alloc (vs := flC zeroF) H Tryz.zeroValue39 rfl) ?_; clear H; intro b4 w3 hb4 H)
    refine WL_stepM rfl (R_as) ?_
    refine WL_nil ?_
    refine W_seq ?_
    refine W_region_l ?_
    (refine WL_effn rfl (E_alloc (vs := flC zeroF) H Tryz.zeroValue39 rfl) ?_; clear H; intro b6 w8 hb6 H)
    refine WL_nil ?_
    refine W_seq ?_
    refine W_seq ?_
    refine W_region_l ?_
    refine WL_stepM rfl (R_mv) ?_
    refine WL_step rfl (R_nilCheck rfl) ?_
    refine WL_step rfl (R_fieldAddr (off' := 2) Tryz.underlying150 rfl Tryz.sizeOf128 (by decide) rfl rfl) ?_
    refine WL_step rfl (R_load Tryz.isAgg128 rfl (H.blockN hq (by repeat' first | exact kNil | apply kCons | apply kApp | assumption | exact OwnS.keys (by assumption))) rfl) ?_
    refine WL_step rfl (R_eq_fn Tryz.underlying128 rfl rfl) ?_
    refine WL_stepM rfl (R_mv) ?_
    refine WL_guard_t rfl rfl ?_
    refine WL_stepM rfl (R_mv) ?_
    refine WL_guard_t rfl rfl ?_
    refine WL_step rfl (R_len_slice Tryz.underlying22 rfl) ?_
    refine WL_guard_t rfl rfl ?_
    refine WL_stepM rfl (R_mv) ?_
    refine WL_guard_t rfl rfl ?_
    refine WL_step rfl (R_nilCheck rfl) ?_
    refine WL_guard_t rfl rfl ?_
    refine WL_step rfl (R_fieldAddr (off' := 0) Tryz.underlying150 rfl Tryz.sizeOf3 (by decide) rfl rfl) ?_
    refine WL_guard_t rfl rfl ?_
    refine WL_step rfl (R_load Tryz.isAgg3 rfl (H.blockN hq (by repeat' first | exact kNil | apply kCons | apply kApp | assumption | exact OwnS.keys (by assumption))) rfl) ?_
    refine WL_guard_t rfl rfl ?_
    refine WL_step rfl (R_ne_t rfl rfl (by omega)) ?_
    refine WL_stepM rfl (R_pk_f rfl) ?_
    refine WL_nil ?_
    refine W_cond_t rfl ?_
    refine W_seq ?_
    refine W_region_l ?_
    refine WL_step rfl (R_loadA (vs := flC zeroF) Tryz.isAgg39 Tryz.sizeOf39 rfl (H.get .here) rfl (by simp [flC])) ?_
    (refine WL_effu rfl (E_storeA (vs := flC zeroF) H Tryz.sizeOf39 rfl rfl (by simp [flC, Value.oneCell']) (.there .here) (by simp [flC])) ?_; clear H; intro w39 H)
    refine WL_stepM rfl (R_as) ?_
    refine WL_nil ?_
    refine W_ret ?_
    exact ⟨_, ⟨_, _, rfl, ldA (vs := flC zeroF) Tryz.isAgg39 Tryz.sizeOf39 (H.get (.there .here)) rfl (by simp [flC]), rfl⟩, .inr ⟨fun hg => h8 hg.1, rfl⟩, H.none (by repeat' first | exact kNil | apply kCons | apply kApp | assumption | exact OwnS.keys (by assumption))⟩
end Go.Proofs.YthonajikgljgmaaGreat.File

/-
  What bytes are, of both; files made of numbers; package ofile's own try.
-/
namespace Go.Proofs.YthonajikgljgmaaGreat.File
open Go Go.Proofs Go.Proofs.YthonajikgljgmaaGreat.Fx Go.Proofs.YthonajikgljgmaaGreat.Codec
set_option maxRecDepth 100000
set_option linter.unusedVariables false
set_option linter.unusedSimpArgs false
set_option maxHeartbeats 2000000

theorem decP_free {xs : List UInt8} (h8 : xs.length = 8) (hz : ∀ x ∈ xs, x = 0) : decP xs = (zeroF, 0) := if_pos ⟨h8, hz⟩
theorem good_not_free {xs : List UInt8} (h : good xs) : ¬ (xs.length = 8 ∧ ∀ x ∈ xs, x = 0) := by
  rintro ⟨h8, hz⟩
  obtain ⟨a, b, c, d, e, f, g, i, rfl⟩ := len8 h8
  have ha := hz a (.head _)
  have hk := h.2.1.1.1
  subst ha
  simp [ofB] at hk
theorem decP_good {xs : List UInt8} (h : good xs) : decP xs = (ofB xs, 1) := by
  unfold decP; rw [if_neg (good_not_free h), if_pos h]
theorem decP_bad {xs : List UInt8} (h : ¬ good xs) (hf : ¬ (xs.length = 8 ∧ ∀ x ∈ xs, x = 0)) : decP xs = (zeroF, 2) := by
  unfold decP; rw [if_neg hf, if_neg h]
theorem b8_n (k : Int) (h0 : 0 ≤ k) (h1 : k ≤ 255) : (((b8 k).toNat : Nat) : Int) = k := by
  unfold b8
  rw [UInt8.toNat_ofNat']
  omega
theorem ofB_bytes {f : Fl} (h : fileOk f) : ofB (fileBytes f) = f := by
  obtain ⟨k, p, r, g⟩ := f
  simp only [fileOk] at h
  simp only [ofB, fileBytes, fb5, List.cons_append, List.getElem?_cons_zero, List.getElem?_cons_succ, Option.getD_some]
  rw [b8_n k (by omega) (by omega), b8_n p (by omega) (by omega), b8_n r (by omega) (by omega), b8_n g (by omega) (by omega)]
theorem bytes_len (f : Fl) : (fileBytes f).length = 8 := rfl
theorem good_bytes {f : Fl} (h : fileOk f) : good (fileBytes f) := ⟨rfl, by rw [ofB_bytes h]; exact h, by rw [ofB_bytes h]⟩
theorem decP_bytes {f : Fl} (h : fileOk f) : decP (fileBytes f) = (f, 1) := by rw [decP_good (good_bytes h), ofB_bytes h]

theorem dec_ret {xs : List UInt8} {w : World} {l : Value} (hl : RdS w l (xs.map U)) (hb : xs.length ≤ 100000) :
    Ret Tryz.prog 44 #[l] w fun v w' => v = .tuple #[vF (decP xs).1, I (decP xs).2] ∧ Hp w [] w' := by
  refine Ret_of_WC (args := [_]) Tryz.func44 rfl Tryz.ntmps44 Tryz.results44 (by simp) ?_
  have H := Hp.refl w
  obtain ⟨ao, ca, rfl⟩ := hl.form
  simp only [List.length_map] at hl ⊢
  by_cases hf : xs.length = 8 ∧ ∀ x ∈ xs, x = 0
  · have h8 := hf.1
    rw [decP_free hf.1 hf.2]
    refine W_seq ?_
    refine W_region_l ?_
    (refine WL_effn rfl (E_alloc (vs := flC zeroF) H Tryz.zeroValue39 rfl) ?_; clear H; intro b2 w3 hb2 H)
    refine WL_stepM rfl (R_as) ?_
    refine WL_nil ?_
    refine W_seq ?_
    refine W_seq ?_
    refine W_region_l ?_
    refine WL_stepM rfl (R_mv) ?_
    refine WL_step rfl (R_len_slice Tryz.underlying22 rfl) ?_
    refine WL_step rfl (R_eq_t rfl rfl (by omega)) ?_
    refine WL_stepM rfl (R_mv) ?_
    refine WL_guard_t rfl rfl ?_
    refine WL_stepM rfl (R_mv) ?_
    refine WL_guard_t rfl rfl ?_
    (refine WL_call rfl (R_call rfl Tryz.call68 rfl) (blank_ret (hl.monoN H (by repeat' first | exact kNil | apply kCons | apply kApp | assumption | exact OwnS.keys (by assumption))) (by omega)) ?_; rintro v w16 ⟨hv, H1⟩; rw [decide_eq_true hf.2] at hv; subst hv; replace H := H.seq0 H1; clear H1)
    refine WL_stepM rfl (R_pk_t rfl) ?_
    refine WL_nil ?_
    refine W_cond_t rfl ?_
    refine W_seq ?_
    refine W_region_l ?_
    refine WL_step rfl (R_buildL (places := [(0, 1), (1, 1), (2, 1), (3, 1)]) (vs := [(.int _ _), (.int _ _), (.int _ _), (.int _ _)]) Tryz.underlying39 Tryz.typeInfo39 rfl rfl (by kernel_rfl) rfl rfl rfl) ?_
    (refine WL_effu rfl (E_storeA (vs := [(.int _ _), (.int _ _), (.int _ _), (.int _ _)]) H Tryz.sizeOf39 rfl rfl (by simp [Value.oneCell']) .here (Nat.le_of_ble_eq_true rfl)) ?_; clear H; intro w23 H)
    refine WL_stepM rfl (R_as) ?_
    refine WL_nil ?_
    refine W_ret ?_
    exact ⟨_, ⟨_, _, rfl, ldA (vs := flC zeroF) Tryz.isAgg39 Tryz.sizeOf39 (H.get .here) rfl (by simp [flC]), rfl⟩, rfl, H.none (by repeat' first | exact kNil | apply kCons | apply kApp | assumption | exact OwnS.keys (by assumption))⟩
  · by_cases h8 : xs.length = 8
    · refine W_seq ?_
      refine W_region_l ?_
      (refine WL_effn rfl (E_alloc (vs := flC zeroF) H Tryz.zeroValue39 rfl) ?_; clear H; intro b2 w3 hb2 H)
      refine WL_stepM rfl (R_as) ?_
      refine WL_nil ?_
      refine W_seq ?_
      refine W_seq ?_
      refine W_region_l ?_
      refine WL_stepM rfl (R_mv) ?_
      refine WL_step rfl (R_len_slice Tryz.underlying22 rfl) ?_
      refine WL_step rfl (R_eq_t rfl rfl (by omega)) ?_
      refine WL_stepM rfl (R_mv) ?_
      refine WL_guard_t rfl rfl ?_
      refine WL_stepM rfl (R_mv) ?_
      refine WL_guard_t rfl rfl ?_
      (refine WL_call rfl (R_call rfl Tryz.call68 rfl) (blank_ret (hl.monoN H (by repeat' first | exact kNil | apply kCons | apply kApp | assumption | exact OwnS.keys (by assumption))) (by omega)) ?_; rintro v w16 ⟨hv, H1⟩; rw [decide_eq_false (fun h => hf ⟨h8, h⟩)] at hv; subst hv; replace H := H.seq0 H1; clear H1)
      refine WL_stepM rfl (R_pk_t rfl) ?_
      refine WL_nil ?_
      refine W_cond_f rfl ?_
      refine W_skip ?_
      refine W_seq ?_
      refine W_region_l ?_
      (refine WL_call rfl (R_call rfl Tryz.call71 rfl) (codec_ret _) ?_; rintro _ w23 ⟨q, rfl, hq, H1⟩; have hsz := H.size; replace H := H.seqN H1 (kCons hq kNil); replace hq := Nat.le_trans hsz hq; clear H1 hsz)
      refine WL_stepM rfl (R_mv) ?_
      (refine WL_call rfl (R_call rfl Tryz.call72 rfl) (decM_ret (xs := xs) (H.get .here) (hl.monoN H (by repeat' first | exact kNil | apply kCons | apply kApp | assumption | exact OwnS.keys (by assumption))) hb) ?_; rintro _ w25 ⟨(⟨hg, rfl⟩ | ⟨hg, rfl⟩), H1⟩ <;> (replace H := H.seq0 H1; clear H1))
      · refine WL_stepM rfl (R_mv) ?_
        refine WL_step rfl (R_extract rfl rfl) ?_
        refine WL_step rfl (R_extract rfl rfl) ?_
        (refine WL_effn rfl (E_alloc (vs := flC zeroF) H Tryz.zeroValue39 rfl) ?_; clear H; intro b4 w29 hb4 H)
        (have _g := hg.1; refine WL_effu rfl (E_storeA (vs := flC (ofB xs)) H Tryz.sizeOf39 rfl rfl (by simp [flC, Value.oneCell']) .here (by simp [flC])) ?_; clear H; intro w30 H; replace H : Hp w [(b4, blk (flC (ofB xs)) 39), (q, cod), (b2, blk (flC zeroF) 39)] _ := H)
        refine WL_stepM rfl (R_as) ?_
        refine WL_nil ?_
        refine W_seq ?_
        refine W_seq ?_
        refine W_region_l ?_
        refine WL_stepM rfl (R_mv) ?_
        refine WL_step rfl (R_not_t rfl) ?_
        refine WL_nil ?_
        refine W_cond_f rfl ?_
        refine W_skip ?_
        refine W_seq ?_
        refine W_region_l ?_
        refine WL_step rfl (R_loadA (vs := flC (ofB xs)) Tryz.isAgg39 Tryz.sizeOf39 rfl (H.get .here) rfl (by simp [flC])) ?_
        (have _g := hg.1; refine WL_effu rfl (E_storeA (vs := flC (ofB xs)) H Tryz.sizeOf39 rfl rfl (by simp [flC, Value.oneCell']) (.there (.there .here)) (by simp [flC])) ?_; clear H; intro w44 H)
        refine WL_stepM rfl (R_as) ?_
        refine WL_nil ?_
        refine W_ret ?_
        exact ⟨_, ⟨_, _, rfl, ldA (vs := flC (ofB xs)) Tryz.isAgg39 Tryz.sizeOf39 (H.get (.there (.there .here))) rfl (by simp [flC]), rfl⟩, (by rw [decP_good hg]; rfl), H.none (by repeat' first | exact kNil | apply kCons | apply kApp | assumption | exact OwnS.keys (by assumption))⟩
      · refine WL_stepM rfl (R_mv) ?_
        refine WL_step rfl (R_extract rfl rfl) ?_
        refine WL_step rfl (R_extract rfl rfl) ?_
        (refine WL_effn rfl (E_alloc (vs := flC zeroF) H Tryz.zeroValue39 rfl) ?_; clear H; intro b4 w52 hb4 H)
        (refine WL_effu rfl (E_storeA (vs := [(.int _ _), (.int _ _), (.int _ _), (.int _ _)]) H Tryz.sizeOf39 rfl rfl (by simp [Value.oneCell']) .here (Nat.le_of_ble_eq_true rfl)) ?_; clear H; intro w53 H)
        refine WL_stepM rfl (R_as) ?_
        refine WL_nil ?_
        refine W_seq ?_
        refine W_seq ?_
        refine W_region_l ?_
        refine WL_stepM rfl (R_mv) ?_
        refine WL_step rfl (R_not_f rfl) ?_
        refine WL_nil ?_
        refine W_cond_t rfl ?_
        refine W_seq ?_
        refine W_region_l ?_
        refine WL_step rfl (R_buildL (places := [(0, 1), (1, 1), (2, 1), (3, 1)]) (vs := [(.int _ _), (.int _ _), (.int _ _), (.int _ _)]) Tryz.underlying39 Tryz.typeInfo39 rfl rfl (by kernel_rfl) rfl rfl rfl) ?_
        (refine WL_effu rfl (E_storeA (vs := [(.int _ _), (.int _ _), (.int _ _), (.int _ _)]) H Tryz.sizeOf39 rfl rfl (by simp [Value.oneCell']) (.there (.there .here)) (Nat.le_of_ble_eq_true rfl)) ?_; clear H; intro w66 H)
        refine WL_stepM rfl (R_as) ?_
        refine WL_nil ?_
        refine W_ret ?_
        exact ⟨_, ⟨_, _, rfl, ldA (vs := flC zeroF) Tryz.isAgg39 Tryz.sizeOf39 (H.get (.there (.there .here))) rfl (by simp [flC]), rfl⟩, (by rw [decP_bad hg hf]; rfl), H.none (by repeat' first | exact kNil | apply kCons | apply kApp | assumption | exact OwnS.keys (by assumption))⟩
    · refine W_seq ?_
      refine W_region_l ?_
      (refine WL_effn rfl (E_alloc (vs := flC zeroF) H Tryz.zeroValue39 rfl) ?_; clear H; intro b2 w3 hb2 H)
      refine WL_stepM rfl (R_as) ?_
      refine WL_nil ?_
      refine W_seq ?_
      refine W_seq ?_
      refine W_region_l ?_
      refine WL_stepM rfl (R_mv) ?_
      refine WL_step rfl (R_len_slice Tryz.underlying22 rfl) ?_
      refine WL_step rfl (R_eq_f rfl rfl (by omega)) ?_
      refine WL_stepM rfl (R_mv) ?_
      refine WL_guard_f rfl rfl (by decide) ?_
      refine WL_guard_f rfl rfl (by decide) ?_
      refine WL_stepM rfl (R_pk_f rfl) ?_
      refine WL_nil ?_
      refine W_cond_f rfl ?_
      refine W_skip ?_
      refine W_seq ?_
      refine W_region_l ?_
      (refine WL_call rfl (R_call rfl Tryz.call71 rfl) (codec_ret _) ?_; rintro _ w21 ⟨q, rfl, hq, H1⟩; have hsz := H.size; replace H := H.seqN H1 (kCons hq kNil); replace hq := Nat.le_trans hsz hq; clear H1 hsz)
      refine WL_stepM rfl (R_mv) ?_
      (refine WL_call rfl (R_call rfl Tryz.call72 rfl) (decM_ret (xs := xs) (H.get .here) (hl.monoN H (by repeat' first | exact kNil | apply kCons | apply kApp | assumption | exact OwnS.keys (by assumption))) hb) ?_; rintro _ w23 ⟨(⟨hg, rfl⟩ | ⟨hg, rfl⟩), H1⟩ <;> (replace H := H.seq0 H1; clear H1))
      · refine WL_stepM rfl (R_mv) ?_
        refine WL_step rfl (R_extract rfl rfl) ?_
        refine WL_step rfl (R_extract rfl rfl) ?_
        (refine WL_effn rfl (E_alloc (vs := flC zeroF) H Tryz.zeroValue39 rfl) ?_; clear H; intro b4 w27 hb4 H)
        (have _g := hg.1; refine WL_effu rfl (E_storeA (vs := flC (ofB xs)) H Tryz.sizeOf39 rfl rfl (by simp [flC, Value.oneCell']) .here (by simp [flC])) ?_; clear H; intro w28 H; replace H : Hp w [(b4, blk (flC (ofB xs)) 39), (q, cod), (b2, blk (flC zeroF) 39)] _ := H)
        refine WL_stepM rfl (R_as) ?_
        refine WL_nil ?_
        refine W_seq ?_
        refine W_seq ?_
        refine W_region_l ?_
        refine WL_stepM rfl (R_mv) ?_
        refine WL_step rfl (R_not_t rfl) ?_
        refine WL_nil ?_
        refine W_cond_f rfl ?_
        refine W_skip ?_
        refine W_seq ?_
        refine W_region_l ?_
        refine WL_step rfl (R_loadA (vs := flC (ofB xs)) Tryz.isAgg39 Tryz.sizeOf39 rfl (H.get .here) rfl (by simp [flC])) ?_
        (have _g := hg.1; refine WL_effu rfl (E_storeA (vs := flC (ofB xs)) H Tryz.sizeOf39 rfl rfl (by simp [flC, Value.oneCell']) (.there (.there .here)) (by simp [flC])) ?_; clear H; intro w42 H)
        refine WL_stepM rfl (R_as) ?_
        refine WL_nil ?_
        refine W_ret ?_
        exact ⟨_, ⟨_, _, rfl, ldA (vs := flC (ofB xs)) Tryz.isAgg39 Tryz.sizeOf39 (H.get (.there (.there .here))) rfl (by simp [flC]), rfl⟩, (by rw [decP_good hg]; rfl), H.none (by repeat' first | exact kNil | apply kCons | apply kApp | assumption | exact OwnS.keys (by assumption))⟩
      · refine WL_stepM rfl (R_mv) ?_
        refine WL_step rfl (R_extract rfl rfl) ?_
        refine WL_step rfl (R_extract rfl rfl) ?_
        (refine WL_effn rfl (E_alloc (vs := flC zeroF) H Tryz.zeroValue39 rfl) ?_; clear H; intro b4 w50 hb4 H)
        (refine WL_effu rfl (E_storeA (vs := [(.int _ _), (.int _ _), (.int _ _), (.int _ _)]) H Tryz.sizeOf39 rfl rfl (by simp [Value.oneCell']) .here (Nat.le_of_ble_eq_true rfl)) ?_; clear H; intro w51 H)
        refine WL_stepM rfl (R_as) ?_
        refine WL_nil ?_
        refine W_seq ?_
        refine W_seq ?_
        refine W_region_l ?_
        refine WL_stepM rfl (R_mv) ?_
        refine WL_step rfl (R_not_f rfl) ?_
        refine WL_nil ?_
        refine W_cond_t rfl ?_
        refine W_seq ?_
        refine W_region_l ?_
        refine WL_step rfl (R_buildL (places := [(0, 1), (1, 1), (2, 1), (3, 1)]) (vs := [(.int _ _), (.int _ _), (.int _ _), (.int _ _)]) Tryz.underlying39 Tryz.typeInfo39 rfl rfl (by kernel_rfl) rfl rfl rfl) ?_
        (refine WL_effu rfl (E_storeA (vs := [(.int _ _), (.int _ _), (.int _ _), (.int _ _)]) H Tryz.sizeOf39 rfl rfl (by simp [Value.oneCell']) (.there (.there .here)) (Nat.le_of_ble_eq_true rfl)) ?_; clear H; intro w64 H)
        refine WL_stepM rfl (R_as) ?_
        refine WL_nil ?_
        refine W_ret ?_
        exact ⟨_, ⟨_, _, rfl, ldA (vs := flC zeroF) Tryz.isAgg39 Tryz.sizeOf39 (H.get (.there (.there .here))) rfl (by simp [flC]), rfl⟩, (by rw [decP_bad hg hf]; rfl), H.none (by repeat' first | exact kNil | apply kCons | apply kApp | assumption | exact OwnS.keys (by assumption))⟩

theorem refOf_ret {xs : List UInt8} {w : World} (hb : xs.length ≤ 100000) :
    Ret Tryz.prog 28 #[S xs] w fun v w' => v = .tuple #[vF (decP xs).1, I (decP xs).2] ∧ Hp w [] w' := by
  refine Ret_of_WC (args := [_]) Tryz.func28 rfl Tryz.ntmps28 Tryz.results28 (by simp) ?_
  have H := Hp.refl w
  by_cases hf : xs.length = 8 ∧ ∀ x ∈ xs, x = 0
  · have h8 := hf.1
    rw [decP_free hf.1 hf.2]
    refine W_seq ?_
    refine W_region_l ?_
    (refine WL_effn rfl (E_alloc (vs := flC zeroF) H Tryz.zeroValue39 rfl) ?_; clear H; intro b2 w3 hb2 H)
    refine WL_stepM rfl (R_as) ?_
    refine WL_nil ?_
    refine W_seq ?_
    refine W_seq ?_
    refine W_region_l ?_
    refine WL_stepM rfl (R_mv) ?_
    refine WL_step rfl (R_len_S Tryz.underlying9 rfl) ?_
    refine WL_step rfl (R_ne_f rfl rfl (by omega)) ?_
    refine WL_nil ?_
    refine W_cond_f rfl ?_
    refine W_skip ?_
    refine W_seq ?_
    refine W_seq ?_
    refine W_region_l ?_
    refine WL_stepM rfl (R_mv) ?_
    (refine WL_call rfl (R_call rfl Tryz.call60 rfl) (refBlank_ret _ hb) ?_; rintro v w19 ⟨hv, H1⟩; rw [decide_eq_true hf.2] at hv; subst hv; replace H := H.seq0 H1; clear H1)
    refine WL_nil ?_
    refine W_cond_t rfl ?_
    refine W_seq ?_
    refine W_region_l ?_
    refine WL_step rfl (R_buildL (places := [(0, 1), (1, 1), (2, 1), (3, 1)]) (vs := [(.int _ _), (.int _ _), (.int _ _), (.int _ _)]) Tryz.underlying39 Tryz.typeInfo39 rfl rfl (by kernel_rfl) rfl rfl rfl) ?_
    (refine WL_effu rfl (E_storeA (vs := [(.int _ _), (.int _ _), (.int _ _), (.int _ _)]) H Tryz.sizeOf39 rfl rfl (by simp [Value.oneCell']) .here (Nat.le_of_ble_eq_true rfl)) ?_; clear H; intro w25 H)
    refine WL_stepM rfl (R_as) ?_
    refine WL_nil ?_
    refine W_ret ?_
    exact ⟨_, ⟨_, _, rfl, ldA (vs := flC zeroF) Tryz.isAgg39 Tryz.sizeOf39 (H.get .here) rfl (by simp [flC]), rfl⟩, rfl, H.none (by repeat' first | exact kNil | apply kCons | apply kApp | assumption | exact OwnS.keys (by assumption))⟩
  · by_cases h8 : xs.length = 8
    · have hz : ¬ ∀ x ∈ xs, x = 0 := fun h => hf ⟨h8, h⟩
      have hx : ∃ a b c d e f g i, xs = [a, b, c, d, e, f, g, i] := len8 h8
      obtain ⟨a, b, c, d, e, f, g, i, hx⟩ := hx
      have ha := a.toNat_lt
      have hb2 := b.toNat_lt
      have hc := c.toNat_lt
      have hd := d.toNat_lt
      have hab : flC (ofB xs) = [I a.toNat, I b.toNat, I c.toNat, I d.toNat] := by subst hx; rfl
      obtain ⟨ff, hff⟩ : ∃ ff : Fl, ff = ofB xs := ⟨_, rfl⟩
      by_cases hok : fileOk ff <;> by_cases hby : fileBytes ff = xs
      · have hdec : decP xs = (ff, 1) := by rw [hff]; exact decP_good ⟨h8, by rw [← hff]; exact hok, by rw [← hff]; exact hby⟩
        rw [hdec]
        refine W_seq ?_
        refine W_region_l ?_
        (refine WL_effn rfl (E_alloc (vs := flC zeroF) H Tryz.zeroValue39 rfl) ?_; clear H; intro b2 w3 hb2 H)
        refine WL_stepM rfl (R_as) ?_
        refine WL_nil ?_
        refine W_seq ?_
        refine W_seq ?_
        refine W_region_l ?_
        refine WL_stepM rfl (R_mv) ?_
        refine WL_step rfl (R_len_S Tryz.underlying9 rfl) ?_
        refine WL_step rfl (R_ne_f rfl rfl (by omega)) ?_
        refine WL_nil ?_
        refine W_cond_f rfl ?_
        refine W_skip ?_
        refine W_seq ?_
        refine W_seq ?_
        refine W_region_l ?_
        refine WL_stepM rfl (R_mv) ?_
        (refine WL_call rfl (R_call rfl Tryz.call60 rfl) (refBlank_ret _ hb) ?_; rintro v w19 ⟨hv, H1⟩; rw [decide_eq_false hz] at hv; subst hv; replace H := H.seq0 H1; clear H1)
        refine WL_nil ?_
        refine W_cond_f rfl ?_
        refine W_skip ?_
        refine W_seq ?_
        (refine W_draw (KH w [(b2, blk (flC zeroF) 39)]) (fun _ => false) (by kernel_rfl) H ?_; clear H; intro w24 H)
        refine WA_takeM 0 rfl rfl rfl (by kernel_rfl) (by kernel_rfl) (H.kh (by simp) (by repeat' first | exact kNil | apply kCons | apply kApp | assumption | exact OwnS.keys (by assumption))) (fun _ hC => R_mv) ?_
        refine WA_take 1 rfl rfl rfl (by kernel_rfl) (by kernel_rfl) (H.kh (by simp) (by repeat' first | exact kNil | apply kCons | apply kApp | assumption | exact OwnS.keys (by assumption))) (fun _ hC => R_index_S (u := a) (i := 0) Tryz.underlying9 rfl rfl (by omega) (by rw [hx]; rfl)) ?_
        refine WA_take 2 rfl rfl rfl (by kernel_rfl) (by kernel_rfl) (H.kh (by simp) (by repeat' first | exact kNil | apply kCons | apply kApp | assumption | exact OwnS.keys (by assumption))) (fun _ hC => R_conv_int Tryz.underlying5 Tryz.underlying3 rfl u8_in_i64) ?_
        refine WA_takeM 3 rfl rfl rfl (by kernel_rfl) (by kernel_rfl) (H.kh (by simp) (by repeat' first | exact kNil | apply kCons | apply kApp | assumption | exact OwnS.keys (by assumption))) (fun _ hC => R_mv) ?_
        refine WA_take 4 rfl rfl rfl (by kernel_rfl) (by kernel_rfl) (H.kh (by simp) (by repeat' first | exact kNil | apply kCons | apply kApp | assumption | exact OwnS.keys (by assumption))) (fun _ hC => R_index_S (u := b) (i := 1) Tryz.underlying9 rfl rfl (by omega) (by rw [hx]; rfl)) ?_
        refine WA_take 5 rfl rfl rfl (by kernel_rfl) (by kernel_rfl) (H.kh (by simp) (by repeat' first | exact kNil | apply kCons | apply kApp | assumption | exact OwnS.keys (by assumption))) (fun _ hC => R_conv_int Tryz.underlying5 Tryz.underlying3 rfl u8_in_i64) ?_
        refine WA_takeM 6 rfl rfl rfl (by kernel_rfl) (by kernel_rfl) (H.kh (by simp) (by repeat' first | exact kNil | apply kCons | apply kApp | assumption | exact OwnS.keys (by assumption))) (fun _ hC => R_mv) ?_
        refine WA_take 7 rfl rfl rfl (by kernel_rfl) (by kernel_rfl) (H.kh (by simp) (by repeat' first | exact kNil | apply kCons | apply kApp | assumption | exact OwnS.keys (by assumption))) (fun _ hC => R_index_S (u := c) (i := 2) Tryz.underlying9 rfl rfl (by omega) (by rw [hx]; rfl)) ?_
        refine WA_take 8 rfl rfl rfl (by kernel_rfl) (by kernel_rfl) (H.kh (by simp) (by repeat' first | exact kNil | apply kCons | apply kApp | assumption | exact OwnS.keys (by assumption))) (fun _ hC => R_conv_int Tryz.underlying5 Tryz.underlying3 rfl u8_in_i64) ?_
        refine WA_takeM 9 rfl rfl rfl (by kernel_rfl) (by kernel_rfl) (H.kh (by simp) (by repeat' first | exact kNil | apply kCons | apply kApp | assumption | exact OwnS.keys (by assumption))) (fun _ hC => R_mv) ?_
        refine WA_take 10 rfl rfl rfl (by kernel_rfl) (by kernel_rfl) (H.kh (by simp) (by repeat' first | exact kNil | apply kCons | apply kApp | assumption | exact OwnS.keys (by assumption))) (fun _ hC => R_index_S (u := d) (i := 3) Tryz.underlying9 rfl rfl (by omega) (by rw [hx]; rfl)) ?_
        refine WA_take 11 rfl rfl rfl (by kernel_rfl) (by kernel_rfl) (H.kh (by simp) (by repeat' first | exact kNil | apply kCons | apply kApp | assumption | exact OwnS.keys (by assumption))) (fun _ hC => R_conv_int Tryz.underlying5 Tryz.underlying3 rfl u8_in_i64) ?_
        refine WA_take 12 rfl rfl rfl (by kernel_rfl) (by kernel_rfl) (H.kh (by simp) (by repeat' first | exact kNil | apply kCons | apply kApp | assumption | exact OwnS.keys (by assumption))) (fun _ hC => R_buildL (places := [(0, 1), (1, 1), (2, 1), (3, 1)]) (vs := [(.int _ _), (.int _ _), (.int _ _), (.int _ _)]) Tryz.underlying39 Tryz.typeInfo39 rfl rfl (by kernel_rfl) rfl rfl rfl) ?_
        refine WA_one (i := 13) (by kernel_rfl) ?_
        (refine WI_effnA rfl (.inl rfl) (E_alloc (vs := flC zeroF) H Tryz.zeroValue39 rfl) (fun _ _ _ H => (by first | exact fun h => absurd h (by decide) | exact fun _ => H | exact fun _ => H.none (by repeat' first | exact kNil | apply kCons | apply kApp | assumption | exact OwnS.keys (by assumption)) | exact fun _ => H.dropN (by repeat' first | exact kNil | apply kCons | apply kApp | assumption | exact OwnS.keys (by assumption)) | exact fun _ => H.pop (by assumption) | exact fun _ => (H.pop (by assumption)).pop (by assumption) | exact fun _ => H.kp | exact fun _ => H.kp.tail | exact fun _ => H.kp.tail.tail | exact fun _ => H.kp.tail.tail.tail | exact fun _ => H.kp.sub (by simp) | exact fun _ => Kp.nil | exact fun _ => H.kh (by simp) (by repeat' first | exact kNil | apply kCons | apply kApp | assumption | exact OwnS.keys (by assumption)))) ?_; clear H; intro b4 w39 hb4 H)
        refine WA_one (i := 14) (by kernel_rfl) ?_
        (refine WI_effu rfl (.inl rfl) (E_storeA (vs := [I a.toNat, I b.toNat, I c.toNat, I d.toNat]) H Tryz.sizeOf39 rfl rfl (by simp [Value.oneCell']) .here (by simp [flC])) (fun _ H => (by first | exact fun h => absurd h (by decide) | exact fun _ => H | exact fun _ => H.none (by repeat' first | exact kNil | apply kCons | apply kApp | assumption | exact OwnS.keys (by assumption)) | exact fun _ => H.dropN (by repeat' first | exact kNil | apply kCons | apply kApp | assumption | exact OwnS.keys (by assumption)) | exact fun _ => H.pop (by assumption) | exact fun _ => (H.pop (by assumption)).pop (by assumption) | exact fun _ => H.kp | exact fun _ => H.kp.tail | exact fun _ => H.kp.tail.tail | exact fun _ => H.kp.tail.tail.tail | exact fun _ => H.kp.sub (by simp) | exact fun _ => Kp.nil | exact fun _ => H.kh (by simp) (by repeat' first | exact kNil | apply kCons | apply kApp | assumption | exact OwnS.keys (by assumption)))) ?_; clear H; intro w41 H; rw [← hab, ← hff] at H; replace H : Hp w [(b4, blk (flC ff) 39), (b2, blk (flC zeroF) 39)] w41 := H)
        refine WA_done (by kernel_rfl) ?_
        refine W_seq ?_
        refine W_seq ?_
        refine W_region_l ?_
        refine WL_step rfl (R_loadA (vs := flC ff) Tryz.isAgg39 Tryz.sizeOf39 rfl (H.get .here) rfl (by simp [flC])) ?_
        (refine WL_call rfl (R_call rfl Tryz.call62 rfl) (refOk_ret ff _) ?_; rintro v w47 ⟨hv, H1⟩; rw [decide_eq_true hok] at hv; subst hv; replace H := H.seq0 H1; clear H1)
        refine WL_step rfl (R_not_t rfl) ?_
        refine WL_stepM rfl (R_mv) ?_
        refine WL_guard_t rfl rfl ?_
        refine WL_step rfl (R_loadA (vs := flC ff) Tryz.isAgg39 Tryz.sizeOf39 rfl (H.get .here) rfl (by simp [flC])) ?_
        refine WL_guard_t rfl rfl ?_
        (refine WL_call rfl (R_call rfl Tryz.call16 rfl) (refBytes_ret ff hok _) ?_; rintro _ w53 ⟨rfl, H1⟩; replace H := H.seq0 H1; clear H1)
        refine WL_guard_t rfl rfl ?_
        refine WL_stepM rfl (R_mv) ?_
        refine WL_guard_t rfl rfl ?_
        refine WL_step rfl (R_ne_S_f rfl rfl (by assumption)) ?_
        refine WL_stepM rfl (R_pk_f rfl) ?_
        refine WL_nil ?_
        refine W_cond_f rfl ?_
        refine W_skip ?_
        refine W_seq ?_
        refine W_region_l ?_
        refine WL_step rfl (R_loadA (vs := flC ff) Tryz.isAgg39 Tryz.sizeOf39 rfl (H.get .here) rfl (by simp [flC])) ?_
        (refine WL_effu rfl (E_storeA (vs := flC ff) H Tryz.sizeOf39 rfl rfl (by simp [flC, Value.oneCell']) (.there .here) (by simp [flC])) ?_; clear H; intro w65 H)
        refine WL_stepM rfl (R_as) ?_
        refine WL_nil ?_
        refine W_ret ?_
        exact ⟨_, ⟨_, _, rfl, ldA (vs := flC ff) Tryz.isAgg39 Tryz.sizeOf39 (H.get (.there .here)) rfl (by simp [flC]), rfl⟩, rfl, H.none (by repeat' first | exact kNil | apply kCons | apply kApp | assumption | exact OwnS.keys (by assumption))⟩
      · have hdec : decP xs = (zeroF, 2) := decP_bad (fun h => hby (by rw [hff]; exact h.2.2)) hf
        rw [hdec]
        refine W_seq ?_
        refine W_region_l ?_
        (refine WL_effn rfl (E_alloc (vs := flC zeroF) H Tryz.zeroValue39 rfl) ?_; clear H; intro b2 w3 hb2 H)
        refine WL_stepM rfl (R_as) ?_
        refine WL_nil ?_
        refine W_seq ?_
        refine W_seq ?_
        refine W_region_l ?_
        refine WL_stepM rfl (R_mv) ?_
        refine WL_step rfl (R_len_S Tryz.underlying9 rfl) ?_
        refine WL_step rfl (R_ne_f rfl rfl (by omega)) ?_
        refine WL_nil ?_
        refine W_cond_f rfl ?_
        refine W_skip ?_
        refine W_seq ?_
        refine W_seq ?_
        refine W_region_l ?_
        refine WL_stepM rfl (R_mv) ?_
        (refine WL_call rfl (R_call rfl Tryz.call60 rfl) (refBlank_ret _ hb) ?_; rintro v w19 ⟨hv, H1⟩; rw [decide_eq_false hz] at hv; subst hv; replace H := H.seq0 H1; clear H1)
        refine WL_nil ?_
        refine W_cond_f rfl ?_
        refine W_skip ?_
        refine W_seq ?_
        (refine W_draw (KH w [(b2, blk (flC zeroF) 39)]) (fun _ => false) (by kernel_rfl) H ?_; clear H; intro w24 H)
        refine WA_takeM 0 rfl rfl rfl (by kernel_rfl) (by kernel_rfl) (H.kh (by simp) (by repeat' first | exact kNil | apply kCons | apply kApp | assumption | exact OwnS.keys (by assumption))) (fun _ hC => R_mv) ?_
        refine WA_take 1 rfl rfl rfl (by kernel_rfl) (by kernel_rfl) (H.kh (by simp) (by repeat' first | exact kNil | apply kCons | apply kApp | assumption | exact OwnS.keys (by assumption))) (fun _ hC => R_index_S (u := a) (i := 0) Tryz.underlying9 rfl rfl (by omega) (by rw [hx]; rfl)) ?_
        refine WA_take 2 rfl rfl rfl (by kernel_rfl) (by kernel_rfl) (H.kh (by simp) (by repeat' first | exact kNil | apply kCons | apply kApp | assumption | exact OwnS.keys (by assumption))) (fun _ hC => R_conv_int Tryz.underlying5 Tryz.underlying3 rfl u8_in_i64) ?_
        refine WA_takeM 3 rfl rfl rfl (by kernel_rfl) (by kernel_rfl) (H.kh (by simp) (by repeat' first | exact kNil | apply kCons | apply kApp | assumption | exact OwnS.keys (by assumption))) (fun _ hC => R_mv) ?_
        refine WA_take 4 rfl rfl rfl (by kernel_rfl) (by kernel_rfl) (H.kh (by simp) (by repeat' first | exact kNil | apply kCons | apply kApp | assumption | exact OwnS.keys (by assumption))) (fun _ hC => R_index_S (u := b) (i := 1) Tryz.underlying9 rfl rfl (by omega) (by rw [hx]; rfl)) ?_
        refine WA_take 5 rfl rfl rfl (by kernel_rfl) (by kernel_rfl) (H.kh (by simp) (by repeat' first | exact kNil | apply kCons | apply kApp | assumption | exact OwnS.keys (by assumption))) (fun _ hC => R_conv_int Tryz.underlying5 Tryz.underlying3 rfl u8_in_i64) ?_
        refine WA_takeM 6 rfl rfl rfl (by kernel_rfl) (by kernel_rfl) (H.kh (by simp) (by repeat' first | exact kNil | apply kCons | apply kApp | assumption | exact OwnS.keys (by assumption))) (fun _ hC => R_mv) ?_
        refine WA_take 7 rfl rfl rfl (by kernel_rfl) (by kernel_rfl) (H.kh (by simp) (by repeat' first | exact kNil | apply kCons | apply kApp | assumption | exact OwnS.keys (by assumption))) (fun _ hC => R_index_S (u := c) (i := 2) Tryz.underlying9 rfl rfl (by omega) (by rw [hx]; rfl)) ?_
        refine WA_take 8 rfl rfl rfl (by kernel_rfl) (by kernel_rfl) (H.kh (by simp) (by repeat' first | exact kNil | apply kCons | apply kApp | assumption | exact OwnS.keys (by assumption))) (fun _ hC => R_conv_int Tryz.underlying5 Tryz.underlying3 rfl u8_in_i64) ?_
        refine WA_takeM 9 rfl rfl rfl (by kernel_rfl) (by kernel_rfl) (H.kh (by simp) (by repeat' first | exact kNil | apply kCons | apply kApp | assumption | exact OwnS.keys (by assumption))) (fun _ hC => R_mv) ?_
        refine WA_take 10 rfl rfl rfl (by kernel_rfl) (by kernel_rfl) (H.kh (by simp) (by repeat' first | exact kNil | apply kCons | apply kApp | assumption | exact OwnS.keys (by assumption))) (fun _ hC => R_index_S (u := d) (i := 3) Tryz.underlying9 rfl rfl (by omega) (by rw [hx]; rfl)) ?_
        refine WA_take 11 rfl rfl rfl (by kernel_rfl) (by kernel_rfl) (H.kh (by simp) (by repeat' first | exact kNil | apply kCons | apply kApp | assumption | exact OwnS.keys (by assumption))) (fun _ hC => R_conv_int Tryz.underlying5 Tryz.underlying3 rfl u8_in_i64) ?_
        refine WA_take 12 rfl rfl rfl (by kernel_rfl) (by kernel_rfl) (H.kh (by simp) (by repeat' first | exact kNil | apply kCons | apply kApp | assumption | exact OwnS.keys (by assumption))) (fun _ hC => R_buildL (places := [(0, 1), (1, 1), (2, 1), (3, 1)]) (vs := [(.int _ _), (.int _ _), (.int _ _), (.int _ _)]) Tryz.underlying39 Tryz.typeInfo39 rfl rfl (by kernel_rfl) rfl rfl rfl) ?_
        refine WA_one (i := 13) (by kernel_rfl) ?_
        (refine WI_effnA rfl (.inl rfl) (E_alloc (vs := flC zeroF) H Tryz.zeroValue39 rfl) (fun _ _ _ H => (by first | exact fun h => absurd h (by decide) | exact fun _ => H | exact fun _ => H.none (by repeat' first | exact kNil | apply kCons | apply kApp | assumption | exact OwnS.keys (by assumption)) | exact fun _ => H.dropN (by repeat' first | exact kNil | apply kCons | apply kApp | assumption | exact OwnS.keys (by assumption)) | exact fun _ => H.pop (by assumption) | exact fun _ => (H.pop (by assumption)).pop (by assumption) | exact fun _ => H.kp | exact fun _ => H.kp.tail | exact fun _ => H.kp.tail.tail | exact fun _ => H.kp.tail.tail.tail | exact fun _ => H.kp.sub (by simp) | exact fun _ => Kp.nil | exact fun _ => H.kh (by simp) (by repeat' first | exact kNil | apply kCons | apply kApp | assumption | exact OwnS.keys (by assumption)))) ?_; clear H; intro b4 w39 hb4 H)
        refine WA_one (i := 14) (by kernel_rfl) ?_
        (refine WI_effu rfl (.inl rfl) (E_storeA (vs := [I a.toNat, I b.toNat, I c.toNat, I d.toNat]) H Tryz.sizeOf39 rfl rfl (by simp [Value.oneCell']) .here (by simp [flC])) (fun _ H => (by first | exact fun h => absurd h (by decide) | exact fun _ => H | exact fun _ => H.none (by repeat' first | exact kNil | apply kCons | apply kApp | assumption | exact OwnS.keys (by assumption)) | exact fun _ => H.dropN (by repeat' first | exact kNil | apply kCons | apply kApp | assumption | exact OwnS.keys (by assumption)) | exact fun _ => H.pop (by assumption) | exact fun _ => (H.pop (by assumption)).pop (by assumption) | exact fun _ => H.kp | exact fun _ => H.kp.tail | exact fun _ => H.kp.tail.tail | exact fun _ => H.kp.tail.tail.tail | exact fun _ => H.kp.sub (by simp) | exact fun _ => Kp.nil | exact fun _ => H.kh (by simp) (by repeat' first | exact kNil | apply kCons | apply kApp | assumption | exact OwnS.keys (by assumption)))) ?_; clear H; intro w41 H; rw [← hab, ← hff] at H; replace H : Hp w [(b4, blk (flC ff) 39), (b2, blk (flC zeroF) 39)] w41 := H)
        refine WA_done (by kernel_rfl) ?_
        refine W_seq ?_
        refine W_seq ?_
        refine W_region_l ?_
        refine WL_step rfl (R_loadA (vs := flC ff) Tryz.isAgg39 Tryz.sizeOf39 rfl (H.get .here) rfl (by simp [flC])) ?_
        (refine WL_call rfl (R_call rfl Tryz.call62 rfl) (refOk_ret ff _) ?_; rintro v w47 ⟨hv, H1⟩; rw [decide_eq_true hok] at hv; subst hv; replace H := H.seq0 H1; clear H1)
        refine WL_step rfl (R_not_t rfl) ?_
        refine WL_stepM rfl (R_mv) ?_
        refine WL_guard_t rfl rfl ?_
        refine WL_step rfl (R_loadA (vs := flC ff) Tryz.isAgg39 Tryz.sizeOf39 rfl (H.get .here) rfl (by simp [flC])) ?_
        refine WL_guard_t rfl rfl ?_
        (refine WL_call rfl (R_call rfl Tryz.call16 rfl) (refBytes_ret ff hok _) ?_; rintro _ w53 ⟨rfl, H1⟩; replace H := H.seq0 H1; clear H1)
        refine WL_guard_t rfl rfl ?_
        refine WL_stepM rfl (R_mv) ?_
        refine WL_guard_t rfl rfl ?_
        refine WL_step rfl (R_ne_S_t rfl rfl (by assumption)) ?_
        refine WL_stepM rfl (R_pk_f rfl) ?_
        refine WL_nil ?_
        refine W_cond_t rfl ?_
        refine W_seq ?_
        refine W_region_l ?_
        refine WL_step rfl (R_buildL (places := [(0, 1), (1, 1), (2, 1), (3, 1)]) (vs := [(.int _ _), (.int _ _), (.int _ _), (.int _ _)]) Tryz.underlying39 Tryz.typeInfo39 rfl rfl (by kernel_rfl) rfl rfl rfl) ?_
        (refine WL_effu rfl (E_storeA (vs := [(.int _ _), (.int _ _), (.int _ _), (.int _ _)]) H Tryz.sizeOf39 rfl rfl (by simp [Value.oneCell']) (.there .here) (Nat.le_of_ble_eq_true rfl)) ?_; clear H; intro w64 H)
        refine WL_stepM rfl (R_as) ?_
        refine WL_nil ?_
        refine W_ret ?_
        exact ⟨_, ⟨_, _, rfl, ldA (vs := flC zeroF) Tryz.isAgg39 Tryz.sizeOf39 (H.get (.there .here)) rfl (by simp [flC]), rfl⟩, rfl, H.none (by repeat' first | exact kNil | apply kCons | apply kApp | assumption | exact OwnS.keys (by assumption))⟩
      · have hdec : decP xs = (zeroF, 2) := decP_bad (fun h => hok (by rw [hff]; exact h.2.1)) hf
        rw [hdec]
        refine W_seq ?_
        refine W_region_l ?_
        (refine WL_effn rfl (E_alloc (vs := flC zeroF) H Tryz.zeroValue39 rfl) ?_; clear H; intro b2 w3 hb2 H)
        refine WL_stepM rfl (R_as) ?_
        refine WL_nil ?_
        refine W_seq ?_
        refine W_seq ?_
        refine W_region_l ?_
        refine WL_stepM rfl (R_mv) ?_
        refine WL_step rfl (R_len_S Tryz.underlying9 rfl) ?_
        refine WL_step rfl (R_ne_f rfl rfl (by omega)) ?_
        refine WL_nil ?_
        refine W_cond_f rfl ?_
        refine W_skip ?_
        refine W_seq ?_
        refine W_seq ?_
        refine W_region_l ?_
        refine WL_stepM rfl (R_mv) ?_
        (refine WL_call rfl (R_call rfl Tryz.call60 rfl) (refBlank_ret _ hb) ?_; rintro v w19 ⟨hv, H1⟩; rw [decide_eq_false hz] at hv; subst hv; replace H := H.seq0 H1; clear H1)
        refine WL_nil ?_
        refine W_cond_f rfl ?_
        refine W_skip ?_
        refine W_seq ?_
        (refine W_draw (KH w [(b2, blk (flC zeroF) 39)]) (fun _ => false) (by kernel_rfl) H ?_; clear H; intro w24 H)
        refine WA_takeM 0 rfl rfl rfl (by kernel_rfl) (by kernel_rfl) (H.kh (by simp) (by repeat' first | exact kNil | apply kCons | apply kApp | assumption | exact OwnS.keys (by assumption))) (fun _ hC => R_mv) ?_
        refine WA_take 1 rfl rfl rfl (by kernel_rfl) (by kernel_rfl) (H.kh (by simp) (by repeat' first | exact kNil | apply kCons | apply kApp | assumption | exact OwnS.keys (by assumption))) (fun _ hC => R_index_S (u := a) (i := 0) Tryz.underlying9 rfl rfl (by omega) (by rw [hx]; rfl)) ?_
        refine WA_take 2 rfl rfl rfl (by kernel_rfl) (by kernel_rfl) (H.kh (by simp) (by repeat' first | exact kNil | apply kCons | apply kApp | assumption | exact OwnS.keys (by assumption))) (fun _ hC => R_conv_int Tryz.underlying5 Tryz.underlying3 rfl u8_in_i64) ?_
        refine WA_takeM 3 rfl rfl rfl (by kernel_rfl) (by kernel_rfl) (H.kh (by simp) (by repeat' first | exact kNil | apply kCons | apply kApp | assumption | exact OwnS.keys (by assumption))) (fun _ hC => R_mv) ?_
        refine WA_take 4 rfl rfl rfl (by kernel_rfl) (by kernel_rfl) (H.kh (by simp) (by repeat' first | exact kNil | apply kCons | apply kApp | assumption | exact OwnS.keys (by assumption))) (fun _ hC => R_index_S (u := b) (i := 1) Tryz.underlying9 rfl rfl (by omega) (by rw [hx]; rfl)) ?_
        refine WA_take 5 rfl rfl rfl (by kernel_rfl) (by kernel_rfl) (H.kh (by simp) (by repeat' first | exact kNil | apply kCons | apply kApp | assumption | exact OwnS.keys (by assumption))) (fun _ hC => R_conv_int Tryz.underlying5 Tryz.underlying3 rfl u8_in_i64) ?_
        refine WA_takeM 6 rfl rfl rfl (by kernel_rfl) (by kernel_rfl) (H.kh (by simp) (by repeat' first | exact kNil | apply kCons | apply kApp | assumption | exact OwnS.keys (by assumption))) (fun _ hC => R_mv) ?_
        refine WA_take 7 rfl rfl rfl (by kernel_rfl) (by kernel_rfl) (H.kh (by simp) (by repeat' first | exact kNil | apply kCons | apply kApp | assumption | exact OwnS.keys (by assumption))) (fun _ hC => R_index_S (u := c) (i := 2) Tryz.underlying9 rfl rfl (by omega) (by rw [hx]; rfl)) ?_
        refine WA_take 8 rfl rfl rfl (by kernel_rfl) (by kernel_rfl) (H.kh (by simp) (by repeat' first | exact kNil | apply kCons | apply kApp | assumption | exact OwnS.keys (by assumption))) (fun _ hC => R_conv_int Tryz.underlying5 Tryz.underlying3 rfl u8_in_i64) ?_
        refine WA_takeM 9 rfl rfl rfl (by kernel_rfl) (by kernel_rfl) (H.kh (by simp) (by repeat' first | exact kNil | apply kCons | apply kApp | assumption | exact OwnS.keys (by assumption))) (fun _ hC => R_mv) ?_
        refine WA_take 10 rfl rfl rfl (by kernel_rfl) (by kernel_rfl) (H.kh (by simp) (by repeat' first | exact kNil | apply kCons | apply kApp | assumption | exact OwnS.keys (by assumption))) (fun _ hC => R_index_S (u := d) (i := 3) Tryz.underlying9 rfl rfl (by omega) (by rw [hx]; rfl)) ?_
        refine WA_take 11 rfl rfl rfl (by kernel_rfl) (by kernel_rfl) (H.kh (by simp) (by repeat' first | exact kNil | apply kCons | apply kApp | assumption | exact OwnS.keys (by assumption))) (fun _ hC => R_conv_int Tryz.underlying5 Tryz.underlying3 rfl u8_in_i64) ?_
        refine WA_take 12 rfl rfl rfl (by kernel_rfl) (by kernel_rfl) (H.kh (by simp) (by repeat' first | exact kNil | apply kCons | apply kApp | assumption | exact OwnS.keys (by assumption))) (fun _ hC => R_buildL (places := [(0, 1), (1, 1), (2, 1), (3, 1)]) (vs := [(.int _ _), (.int _ _), (.int _ _), (.int _ _)]) Tryz.underlying39 Tryz.typeInfo39 rfl rfl (by kernel_rfl) rfl rfl rfl) ?_
        refine WA_one (i := 13) (by kernel_rfl) ?_
        (refine WI_effnA rfl (.inl rfl) (E_alloc (vs := flC zeroF) H Tryz.zeroValue39 rfl) (fun _ _ _ H => (by first | exact fun h => absurd h (by decide) | exact fun _ => H | exact fun _ => H.none (by repeat' first | exact kNil | apply kCons | apply kApp | assumption | exact OwnS.keys (by assumption)) | exact fun _ => H.dropN (by repeat' first | exact kNil | apply kCons | apply kApp | assumption | exact OwnS.keys (by assumption)) | exact fun _ => H.pop (by assumption) | exact fun _ => (H.pop (by assumption)).pop (by assumption) | exact fun _ => H.kp | exact fun _ => H.kp.tail | exact fun _ => H.kp.tail.tail | exact fun _ => H.kp.tail.tail.tail | exact fun _ => H.kp.sub (by simp) | exact fun _ => Kp.nil | exact fun _ => H.kh (by simp) (by repeat' first | exact kNil | apply kCons | apply kApp | assumption | exact OwnS.keys (by assumption)))) ?_; clear H; intro b4 w39 hb4 H)
        refine WA_one (i := 14) (by kernel_rfl) ?_
        (refine WI_effu rfl (.inl rfl) (E_storeA (vs := [I a.toNat, I b.toNat, I c.toNat, I d.toNat]) H Tryz.sizeOf39 rfl rfl (by simp [Value.oneCell']) .here (by simp [flC])) (fun _ H => (by first | exact fun h => absurd h (by decide) | exact fun _ => H | exact fun _ => H.none (by repeat' first | exact kNil | apply kCons | apply kApp | assumption | exact OwnS.keys (by assumption)) | exact fun _ => H.dropN (by repeat' first | exact kNil | apply kCons | apply kApp | assumption | exact OwnS.keys (by assumption)) | exact fun _ => H.pop (by assumption) | exact fun _ => (H.pop (by assumption)).pop (by assumption) | exact fun _ => H.kp | exact fun _ => H.kp.tail | exact fun _ => H.kp.tail.tail | exact fun _ => H.kp.tail.tail.tail | exact fun _ => H.kp.sub (by simp) | exact fun _ => Kp.nil | exact fun _ => H.kh (by simp) (by repeat' first | exact kNil | apply kCons | apply kApp | assumption | exact OwnS.keys (by assumption)))) ?_; clear H; intro w41 H; rw [← hab, ← hff] at H; replace H : Hp w [(b4, blk (flC ff) 39), (b2, blk (flC zeroF) 39)] w41 := H)
        refine WA_done (by kernel_rfl) ?_
        refine W_seq ?_
        refine W_seq ?_
        refine W_region_l ?_
        refine WL_step rfl (R_loadA (vs := flC ff) Tryz.isAgg39 Tryz.sizeOf39 rfl (H.get .here) rfl (by simp [flC])) ?_
        (refine WL_call rfl (R_call rfl Tryz.call62 rfl) (refOk_ret ff _) ?_; rintro v w47 ⟨hv, H1⟩; rw [decide_eq_false hok] at hv; subst hv; replace H := H.seq0 H1; clear H1)
        refine WL_step rfl (R_not_f rfl) ?_
        refine WL_stepM rfl (R_mv) ?_
        refine WL_guard_f rfl rfl (by decide) ?_
        refine WL_guard_f rfl rfl (by decide) ?_
        refine WL_guard_f rfl rfl (by decide) ?_
        refine WL_guard_f rfl rfl (by decide) ?_
        refine WL_stepM rfl (R_pk_t rfl) ?_
        refine WL_nil ?_
        refine W_cond_t rfl ?_
        refine W_seq ?_
        refine W_region_l ?_
        refine WL_step rfl (R_buildL (places := [(0, 1), (1, 1), (2, 1), (3, 1)]) (vs := [(.int _ _), (.int _ _), (.int _ _), (.int _ _)]) Tryz.underlying39 Tryz.typeInfo39 rfl rfl (by kernel_rfl) rfl rfl rfl) ?_
        (refine WL_effu rfl (E_storeA (vs := [(.int _ _), (.int _ _), (.int _ _), (.int _ _)]) H Tryz.sizeOf39 rfl rfl (by simp [Value.oneCell']) (.there .here) (Nat.le_of_ble_eq_true rfl)) ?_; clear H; intro w60 H)
        refine WL_stepM rfl (R_as) ?_
        refine WL_nil ?_
        refine W_ret ?_
        exact ⟨_, ⟨_, _, rfl, ldA (vs := flC zeroF) Tryz.isAgg39 Tryz.sizeOf39 (H.get (.there .here)) rfl (by simp [flC]), rfl⟩, rfl, H.none (by repeat' first | exact kNil | apply kCons | apply kApp | assumption | exact OwnS.keys (by assumption))⟩
      · have hdec : decP xs = (zeroF, 2) := decP_bad (fun h => hok (by rw [hff]; exact h.2.1)) hf
        rw [hdec]
        refine W_seq ?_
        refine W_region_l ?_
        (refine WL_effn rfl (E_alloc (vs := flC zeroF) H Tryz.zeroValue39 rfl) ?_; clear H; intro b2 w3 hb2 H)
        refine WL_stepM rfl (R_as) ?_
        refine WL_nil ?_
        refine W_seq ?_
        refine W_seq ?_
        refine W_region_l ?_
        refine WL_stepM rfl (R_mv) ?_
        refine WL_step rfl (R_len_S Tryz.underlying9 rfl) ?_
        refine WL_step rfl (R_ne_f rfl rfl (by omega)) ?_
        refine WL_nil ?_
        refine W_cond_f rfl ?_
        refine W_skip ?_
        refine W_seq ?_
        refine W_seq ?_
        refine W_region_l ?_
        refine WL_stepM rfl (R_mv) ?_
        (refine WL_call rfl (R_call rfl Tryz.call60 rfl) (refBlank_ret _ hb) ?_; rintro v w19 ⟨hv, H1⟩; rw [decide_eq_false hz] at hv; subst hv; replace H := H.seq0 H1; clear H1)
        refine WL_nil ?_
        refine W_cond_f rfl ?_
        refine W_skip ?_
        refine W_seq ?_
        (refine W_draw (KH w [(b2, blk (flC zeroF) 39)]) (fun _ => false) (by kernel_rfl) H ?_; clear H; intro w24 H)
        refine WA_takeM 0 rfl rfl rfl (by kernel_rfl) (by kernel_rfl) (H.kh (by simp) (by repeat' first | exact kNil | apply kCons | apply kApp | assumption | exact OwnS.keys (by assumption))) (fun _ hC => R_mv) ?_
        refine WA_take 1 rfl rfl rfl (by kernel_rfl) (by kernel_rfl) (H.kh (by simp) (by repeat' first | exact kNil | apply kCons | apply kApp | assumption | exact OwnS.keys (by assumption))) (fun _ hC => R_index_S (u := a) (i := 0) Tryz.underlying9 rfl rfl (by omega) (by rw [hx]; rfl)) ?_
        refine WA_take 2 rfl rfl rfl (by kernel_rfl) (by kernel_rfl) (H.kh (by simp) (by repeat' first | exact kNil | apply kCons | apply kApp | assumption | exact OwnS.keys (by assumption))) (fun _ hC => R_conv_int Tryz.underlying5 Tryz.underlying3 rfl u8_in_i64) ?_
        refine WA_takeM 3 rfl rfl rfl (by kernel_rfl) (by kernel_rfl) (H.kh (by simp) (by repeat' first | exact kNil | apply kCons | apply kApp | assumption | exact OwnS.keys (by assumption))) (fun _ hC => R_mv) ?_
        refine WA_take 4 rfl rfl rfl (by kernel_rfl) (by kernel_rfl) (H.kh (by simp) (by repeat' first | exact kNil | apply kCons | apply kApp | assumption | exact OwnS.keys (by assumption))) (fun _ hC => R_index_S (u := b) (i := 1) Tryz.underlying9 rfl rfl (by omega) (by rw [hx]; rfl)) ?_
        refine WA_take 5 rfl rfl rfl (by kernel_rfl) (by kernel_rfl) (H.kh (by simp) (by repeat' first | exact kNil | apply kCons | apply kApp | assumption | exact OwnS.keys (by assumption))) (fun _ hC => R_conv_int Tryz.underlying5 Tryz.underlying3 rfl u8_in_i64) ?_
        refine WA_takeM 6 rfl rfl rfl (by kernel_rfl) (by kernel_rfl) (H.kh (by simp) (by repeat' first | exact kNil | apply kCons | apply kApp | assumption | exact OwnS.keys (by assumption))) (fun _ hC => R_mv) ?_
        refine WA_take 7 rfl rfl rfl (by kernel_rfl) (by kernel_rfl) (H.kh (by simp) (by repeat' first | exact kNil | apply kCons | apply kApp | assumption | exact OwnS.keys (by assumption))) (fun _ hC => R_index_S (u := c) (i := 2) Tryz.underlying9 rfl rfl (by omega) (by rw [hx]; rfl)) ?_
        refine WA_take 8 rfl rfl rfl (by kernel_rfl) (by kernel_rfl) (H.kh (by simp) (by repeat' first | exact kNil | apply kCons | apply kApp | assumption | exact OwnS.keys (by assumption))) (fun _ hC => R_conv_int Tryz.underlying5 Tryz.underlying3 rfl u8_in_i64) ?_
        refine WA_takeM 9 rfl rfl rfl (by kernel_rfl) (by kernel_rfl) (H.kh (by simp) (by repeat' first | exact kNil | apply kCons | apply kApp | assumption | exact OwnS.keys (by assumption))) (fun _ hC => R_mv) ?_
        refine WA_take 10 rfl rfl rfl (by kernel_rfl) (by kernel_rfl) (H.kh (by simp) (by repeat' first | exact kNil | apply kCons | apply kApp | assumption | exact OwnS.keys (by assumption))) (fun _ hC => R_index_S (u := d) (i := 3) Tryz.underlying9 rfl rfl (by omega) (by rw [hx]; rfl)) ?_
        refine WA_take 11 rfl rfl rfl (by kernel_rfl) (by kernel_rfl) (H.kh (by simp) (by repeat' first | exact kNil | apply kCons | apply kApp | assumption | exact OwnS.keys (by assumption))) (fun _ hC => R_conv_int Tryz.underlying5 Tryz.underlying3 rfl u8_in_i64) ?_
        refine WA_take 12 rfl rfl rfl (by kernel_rfl) (by kernel_rfl) (H.kh (by simp) (by repeat' first | exact kNil | apply kCons | apply kApp | assumption | exact OwnS.keys (by assumption))) (fun _ hC => R_buildL (places := [(0, 1), (1, 1), (2, 1), (3, 1)]) (vs := [(.int _ _), (.int _ _), (.int _ _), (.int _ _)]) Tryz.underlying39 Tryz.typeInfo39 rfl rfl (by kernel_rfl) rfl rfl rfl) ?_
        refine WA_one (i := 13) (by kernel_rfl) ?_
        (refine WI_effnA rfl (.inl rfl) (E_alloc (vs := flC zeroF) H Tryz.zeroValue39 rfl) (fun _ _ _ H => (by first | exact fun h => absurd h (by decide) | exact fun _ => H | exact fun _ => H.none (by repeat' first | exact kNil | apply kCons | apply kApp | assumption | exact OwnS.keys (by assumption)) | exact fun _ => H.dropN (by repeat' first | exact kNil | apply kCons | apply kApp | assumption | exact OwnS.keys (by assumption)) | exact fun _ => H.pop (by assumption) | exact fun _ => (H.pop (by assumption)).pop (by assumption) | exact fun _ => H.kp | exact fun _ => H.kp.tail | exact fun _ => H.kp.tail.tail | exact fun _ => H.kp.tail.tail.tail | exact fun _ => H.kp.sub (by simp) | exact fun _ => Kp.nil | exact fun _ => H.kh (by simp) (by repeat' first | exact kNil | apply kCons | apply kApp | assumption | exact OwnS.keys (by assumption)))) ?_; clear H; intro b4 w39 hb4 H)
        refine WA_one (i := 14) (by kernel_rfl) ?_
        (refine WI_effu rfl (.inl rfl) (E_storeA (vs := [I a.toNat, I b.toNat, I c.toNat, I d.toNat]) H Tryz.sizeOf39 rfl rfl (by simp [Value.oneCell']) .here (by simp [flC])) (fun _ H => (by first | exact fun h => absurd h (by decide) | exact fun _ => H | exact fun _ => H.none (by repeat' first | exact kNil | apply kCons | apply kApp | assumption | exact OwnS.keys (by assumption)) | exact fun _ => H.dropN (by repeat' first | exact kNil | apply kCons | apply kApp | assumption | exact OwnS.keys (by assumption)) | exact fun _ => H.pop (by assumption) | exact fun _ => (H.pop (by assumption)).pop (by assumption) | exact fun _ => H.kp | exact fun _ => H.kp.tail | exact fun _ => H.kp.tail.tail | exact fun _ => H.kp.tail.tail.tail | exact fun _ => H.kp.sub (by simp) | exact fun _ => Kp.nil | exact fun _ => H.kh (by simp) (by repeat' first | exact kNil | apply kCons | apply kApp | assumption | exact OwnS.keys (by assumption)))) ?_; clear H; intro w41 H; rw [← hab, ← hff] at H; replace H : Hp w [(b4, blk (flC ff) 39), (b2, blk (flC zeroF) 39)] w41 := H)
        refine WA_done (by kernel_rfl) ?_
        refine W_seq ?_
        refine W_seq ?_
        refine W_region_l ?_
        refine WL_step rfl (R_loadA (vs := flC ff) Tryz.isAgg39 Tryz.sizeOf39 rfl (H.get .here) rfl (by simp [flC])) ?_
        (refine WL_call rfl (R_call rfl Tryz.call62 rfl) (refOk_ret ff _) ?_; rintro v w47 ⟨hv, H1⟩; rw [decide_eq_false hok] at hv; subst hv; replace H := H.seq0 H1; clear H1)
        refine WL_step rfl (R_not_f rfl) ?_
        refine WL_stepM rfl (R_mv) ?_
        refine WL_guard_f rfl rfl (by decide) ?_
        refine WL_guard_f rfl rfl (by decide) ?_
        refine WL_guard_f rfl rfl (by decide) ?_
        refine WL_guard_f rfl rfl (by decide) ?_
        refine WL_stepM rfl (R_pk_t rfl) ?_
        refine WL_nil ?_
        refine W_cond_t rfl ?_
        refine W_seq ?_
        refine W_region_l ?_
        refine WL_step rfl (R_buildL (places := [(0, 1), (1, 1), (2, 1), (3, 1)]) (vs := [(.int _ _), (.int _ _), (.int _ _), (.int _ _)]) Tryz.underlying39 Tryz.typeInfo39 rfl rfl (by kernel_rfl) rfl rfl rfl) ?_
        (refine WL_effu rfl (E_storeA (vs := [(.int _ _), (.int _ _), (.int _ _), (.int _ _)]) H Tryz.sizeOf39 rfl rfl (by simp [Value.oneCell']) (.there .here) (Nat.le_of_ble_eq_true rfl)) ?_; clear H; intro w60 H)
        refine WL_stepM rfl (R_as) ?_
        refine WL_nil ?_
        refine W_ret ?_
        exact ⟨_, ⟨_, _, rfl, ldA (vs := flC zeroF) Tryz.isAgg39 Tryz.sizeOf39 (H.get (.there .here)) rfl (by simp [flC]), rfl⟩, rfl, H.none (by repeat' first | exact kNil | apply kCons | apply kApp | assumption | exact OwnS.keys (by assumption))⟩
    · rw [decP_bad (fun h => h8 h.1) hf]
      refine W_seq ?_
      refine W_region_l ?_
      (refine WL_effn rfl (E_alloc (vs := flC zeroF) H Tryz.zeroValue39 rfl) ?_; clear H; intro b2 w3 hb2 H)
      refine WL_stepM rfl (R_as) ?_
      refine WL_nil ?_
      refine W_seq ?_
      refine W_seq ?_
      refine W_region_l ?_
      refine WL_stepM rfl (R_mv) ?_
      refine WL_step rfl (R_len_S Tryz.underlying9 rfl) ?_
      refine WL_step rfl (R_ne_t rfl rfl (by omega)) ?_
      refine WL_nil ?_
      refine W_cond_t rfl ?_
      refine W_seq ?_
      refine W_region_l ?_
      refine WL_step rfl (R_buildL (places := [(0, 1), (1, 1), (2, 1), (3, 1)]) (vs := [(.int _ _), (.int _ _), (.int _ _), (.int _ _)]) Tryz.underlying39 Tryz.typeInfo39 rfl rfl (by kernel_rfl) rfl rfl rfl) ?_
      (refine WL_effu rfl (E_storeA (vs := [(.int _ _), (.int _ _), (.int _ _), (.int _ _)]) H Tryz.sizeOf39 rfl rfl (by simp [Value.oneCell']) .here (Nat.le_of_ble_eq_true rfl)) ?_; clear H; intro w17 H)
      refine WL_stepM rfl (R_as) ?_
      refine WL_nil ?_
      refine W_ret ?_
      exact ⟨_, ⟨_, _, rfl, ldA (vs := flC zeroF) Tryz.isAgg39 Tryz.sizeOf39 (H.get .here) rfl (by simp [flC]), rfl⟩, rfl, H.none (by repeat' first | exact kNil | apply kCons | apply kApp | assumption | exact OwnS.keys (by assumption))⟩

/-- a file made of a number -/
def fileN (a : Int) : Fl := ⟨a % 16777216 % 3 + 1, if a % 16777216 % 3 = 2 then 0 else a % 16777216 / 16 % 8, a % 16777216 / 256 % 64 + 1, a % 16777216 / 32768 % 2⟩
theorem fileN_ok (a : Int) : fileOk (fileN a) := by
  unfold fileN fileOk
  simp only
  split <;> omega

theorem file_ret (a : Int) (w : World) : Ret Tryz.prog 17 #[I a] w fun v w' => v = vF (fileN a) ∧ Hp w [] w' := by
  refine Ret_of_WC (args := [_]) Tryz.func17 rfl Tryz.ntmps17 Tryz.results17 (by simp) ?_
  have H := Hp.refl w
  obtain ⟨y, hy, hy0, hy1⟩ : ∃ y, a % 16777216 = y ∧ 0 ≤ y ∧ y < 16777216 := ⟨_, rfl, by omega, by omega⟩
  have hfn : fileN a = ⟨y % 3 + 1, if y % 3 = 2 then 0 else y / 16 % 8, y / 256 % 64 + 1, y / 32768 % 2⟩ := by unfold fileN; rw [hy]
  rw [hfn]
  by_cases h2 : y % 3 = 2
  · rw [if_pos h2]
    refine W_seq ?_
    refine W_region_l ?_
    (refine WL_effn rfl (E_alloc (vs := flC zeroF) H Tryz.zeroValue39 rfl) ?_; clear H; intro b2 w3 hb2 H)
    refine WL_nil ?_
    refine W_seq ?_
    refine W_region_l ?_
    refine WL_stepM rfl (R_mv) ?_
    refine WL_step rfl (R_bits rfl rfl (by simp) ((and_mask_i64 24 16777216 (by decide) rfl (by decide)).trans hy)) ?_
    refine WL_stepM rfl (R_as) ?_
    refine WL_nil ?_
    refine W_seq ?_
    refine W_region_l ?_
    refine WL_stepM rfl (R_mv) ?_
    refine WL_step rfl (R_rem rfl rfl (by omega) (rem_pos (by omega))) ?_
    refine WL_step rfl (R_add rfl rfl (w_i64 (by omega))) ?_
    refine WL_stepM rfl (R_mv) ?_
    refine WL_step rfl (R_shr rfl rfl (by decide) (shr_any 16 (by decide))) ?_
    refine WL_step rfl (R_bits rfl rfl (by simp) (and_mask_i64 3 8 (by decide) rfl (by decide))) ?_
    refine WL_stepM rfl (R_mv) ?_
    refine WL_step rfl (R_shr rfl rfl (by decide) (shr_any 256 (by decide))) ?_
    refine WL_step rfl (R_bits rfl rfl (by simp) (and_mask_i64 6 64 (by decide) rfl (by decide))) ?_
    refine WL_step rfl (R_add rfl rfl (w_i64 (by omega))) ?_
    refine WL_stepM rfl (R_mv) ?_
    refine WL_step rfl (R_shr rfl rfl (by decide) (shr_any 32768 (by decide))) ?_
    refine WL_step rfl (R_bits rfl rfl (by simp) (and_mask_i64 1 2 (by decide) rfl (by decide))) ?_
    refine WL_step rfl (R_buildL (places := [(0, 1), (1, 1), (2, 1), (3, 1)]) (vs := [(.int _ _), (.int _ _), (.int _ _), (.int _ _)]) Tryz.underlying39 Tryz.typeInfo39 rfl rfl (by kernel_rfl) rfl rfl rfl) ?_
    (refine WL_effn rfl (E_alloc H Tryz.zeroValue39 rfl) ?_; clear H; intro b27 w27 hb27 H)
    (refine WL_effu rfl (E_storeA (vs := [(.int _ _), (.int _ _), (.int _ _), (.int _ _)]) H Tryz.sizeOf39 rfl rfl (by simp [Value.oneCell']) .here (by simp)) ?_; clear H; intro w28 H)
    refine WL_nil ?_
    refine W_seq ?_
    refine W_seq ?_
    refine W_region_l ?_
    refine WL_step rfl (R_fieldAddr (off' := 0) Tryz.underlying39 rfl Tryz.sizeOf3 (by decide) rfl rfl) ?_
    refine WL_step rfl (R_load Tryz.isAgg3 rfl (H.get .here) rfl) ?_
    refine WL_step rfl (R_eq_t rfl rfl (by omega)) ?_
    refine WL_nil ?_
    refine W_cond_t rfl ?_
    refine W_region_l ?_
    refine WL_step rfl (R_fieldAddr (off' := 1) Tryz.underlying39 rfl Tryz.sizeOf3 (by decide) rfl rfl) ?_
    (refine WL_effu rfl (E_store (v := (.int _ _)) H Tryz.sizeOf3 rfl rfl rfl .here (by simp)) ?_; clear H; intro w40 H)
    refine WL_nil ?_
    refine W_seq ?_
    refine W_region_l ?_
    refine WL_step rfl (R_loadA Tryz.isAgg39 Tryz.sizeOf39 rfl (H.get .here) rfl (by simp)) ?_
    (refine WL_effu rfl (E_storeA (vs := [(.int _ _), (.int _ _), (.int _ _), (.int _ _)]) H Tryz.sizeOf39 rfl rfl (by simp [Value.oneCell']) (.there .here) (Nat.le_of_ble_eq_true rfl)) ?_; clear H; intro w45 H)
    refine WL_nil ?_
    refine W_ret ?_
    exact ⟨_, ⟨_, rfl, ldA (vs := flC ⟨y % 3 + 1, 0, y / 256 % 64 + 1, y / 32768 % 2⟩) Tryz.isAgg39 Tryz.sizeOf39 (H.get (.there .here)) rfl (by simp [flC])⟩, rfl, H.none (by repeat' first | exact kNil | apply kCons | apply kApp | assumption | exact OwnS.keys (by assumption))⟩
  · rw [if_neg h2]
    refine W_seq ?_
    refine W_region_l ?_
    (refine WL_effn rfl (E_alloc (vs := flC zeroF) H Tryz.zeroValue39 rfl) ?_; clear H; intro b2 w3 hb2 H)
    refine WL_nil ?_
    refine W_seq ?_
    refine W_region_l ?_
    refine WL_stepM rfl (R_mv) ?_
    refine WL_step rfl (R_bits rfl rfl (by simp) ((and_mask_i64 24 16777216 (by decide) rfl (by decide)).trans hy)) ?_
    refine WL_stepM rfl (R_as) ?_
    refine WL_nil ?_
    refine W_seq ?_
    refine W_region_l ?_
    refine WL_stepM rfl (R_mv) ?_
    refine WL_step rfl (R_rem rfl rfl (by omega) (rem_pos (by omega))) ?_
    refine WL_step rfl (R_add rfl rfl (w_i64 (by omega))) ?_
    refine WL_stepM rfl (R_mv) ?_
    refine WL_step rfl (R_shr rfl rfl (by decide) (shr_any 16 (by decide))) ?_
    refine WL_step rfl (R_bits rfl rfl (by simp) (and_mask_i64 3 8 (by decide) rfl (by decide))) ?_
    refine WL_stepM rfl (R_mv) ?_
    refine WL_step rfl (R_shr rfl rfl (by decide) (shr_any 256 (by decide))) ?_
    refine WL_step rfl (R_bits rfl rfl (by simp) (and_mask_i64 6 64 (by decide) rfl (by decide))) ?_
    refine WL_step rfl (R_add rfl rfl (w_i64 (by omega))) ?_
    refine WL_stepM rfl (R_mv) ?_
    refine WL_step rfl (R_shr rfl rfl (by decide) (shr_any 32768 (by decide))) ?_
    refine WL_step rfl (R_bits rfl rfl (by simp) (and_mask_i64 1 2 (by decide) rfl (by decide))) ?_
    refine WL_step rfl (R_buildL (places := [(0, 1), (1, 1), (2, 1), (3, 1)]) (vs := [(.int _ _), (.int _ _), (.int _ _), (.int _ _)]) Tryz.underlying39 Tryz.typeInfo39 rfl rfl (by kernel_rfl) rfl rfl rfl) ?_
    (refine WL_effn rfl (E_alloc H Tryz.zeroValue39 rfl) ?_; clear H; intro b27 w27 hb27 H)
    (refine WL_effu rfl (E_storeA (vs := [(.int _ _), (.int _ _), (.int _ _), (.int _ _)]) H Tryz.sizeOf39 rfl rfl (by simp [Value.oneCell']) .here (by simp)) ?_; clear H; intro w28 H)
    refine WL_nil ?_
    refine W_seq ?_
    refine W_seq ?_
    refine W_region_l ?_
    refine WL_step rfl (R_fieldAddr (off' := 0) Tryz.underlying39 rfl Tryz.sizeOf3 (by decide) rfl rfl) ?_
    refine WL_step rfl (R_load Tryz.isAgg3 rfl (H.get .here) rfl) ?_
    refine WL_step rfl (R_eq_f rfl rfl (by omega)) ?_
    refine WL_nil ?_
    refine W_cond_f rfl ?_
    refine W_skip ?_
    refine W_seq ?_
    refine W_region_l ?_
    refine WL_step rfl (R_loadA Tryz.isAgg39 Tryz.sizeOf39 rfl (H.get .here) rfl (by simp)) ?_
    (refine WL_effu rfl (E_storeA (vs := [(.int _ _), (.int _ _), (.int _ _), (.int _ _)]) H Tryz.sizeOf39 rfl rfl (by simp [Value.oneCell']) (.there .here) (Nat.le_of_ble_eq_true rfl)) ?_; clear H; intro w42 H)
    refine WL_nil ?_
    refine W_ret ?_
    exact ⟨_, ⟨_, rfl, ldA (vs := flC ⟨y % 3 + 1, y / 16 % 8, y / 256 % 64 + 1, y / 32768 % 2⟩) Tryz.isAgg39 Tryz.sizeOf39 (H.get (.there .here)) rfl (by simp [flC])⟩, rfl, H.none (by repeat' first | exact kNil | apply kCons | apply kApp | assumption | exact OwnS.keys (by assumption))⟩
end Go.Proofs.YthonajikgljgmaaGreat.File

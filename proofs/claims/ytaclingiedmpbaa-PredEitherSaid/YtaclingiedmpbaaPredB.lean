/-
  What a machine does with an instruction; which programs may be.
-/
import Derived.Test.YtaclingiedmpbaaFxO
import Derived.Test.YtaclingiedmpbaaPredA
namespace Go.Proofs.Ytaclingiedmpbaa.Pred
open Go Go.Proofs Go.Proofs.Ytaclingiedmpbaa.Fx
set_option maxRecDepth 100000
set_option linter.unusedVariables false
set_option linter.unusedSimpArgs false
set_option maxHeartbeats 1000000

/-- whether all instructions may be, so many being behind each -/
def allOk : List In → Bool
  | [] => true
  | i :: l => decide (okP i l.length) && allOk l
def chk (l : List In) : Int := if 32 < l.length then 6 else if allOk l = true then 0 else 1

theorem allOk_drop {l : List In} {k : Nat} {i : In} (h : l[k]? = some i) : allOk (l.drop k) = (decide (okP i ((l.length : Int) - 1 - k)) && allOk (l.drop (k + 1))) := by
  obtain ⟨hk, rfl⟩ := List.getElem?_eq_some_iff.1 h
  rw [List.drop_eq_getElem_cons hk]
  show (decide (okP l[k] ((l.drop (k + 1)).length : Nat)) && _) = _
  rw [List.length_drop, show ((l.length - (k + 1) : Nat) : Int) = (l.length : Int) - 1 - k from by omega]

section
variable {w : World} {l : List In} {v : Value}

theorem check_ret (hl : RdR insC w v l) (hb : l.length ≤ 9223372036854775807) :
    Ret Try.prog 24 #[v] w fun v w' => v = I (chk l) ∧ Hp w [] w' := by
  refine Ret_of_W (args := [_]) Try.func24 rfl Try.ntmps24 Try.results24 (by simp) ?_
  have H := Hp.refl w
  obtain ⟨ao, ca, rfl⟩ := hl.form
  refine W_seq ?_
  refine W_region_l ?_
  refine WL_stepM rfl (R_as) ?_
  refine WL_nil ?_
  refine W_seq ?_
  refine W_seq ?_
  refine W_region_l ?_
  refine WL_stepM rfl (R_mv) ?_
  refine WL_step rfl (R_len_slice Try.underlying45 rfl) ?_
  refine WL_step rfl (R_gt rfl rfl) ?_
  refine WL_nil ?_
  refine W_if rfl (fun h12 => ?_) (fun h12 => ?_)
  · refine W_seq ?_
    refine W_region_l ?_
    refine WL_stepM rfl (R_as) ?_
    refine WL_nil ?_
    refine W_ret ?_
    exact ⟨_, rfl, congrArg I (by unfold chk; rw [if_pos (by omega)]), H⟩
  · refine W_skip ?_
    refine W_seq ?_
    refine W_seq ?_
    refine W_region_l ?_
    refine WL_stepM rfl (R_mv) ?_
    refine WL_step rfl (R_len_slice Try.underlying45 rfl) ?_
    refine WL_stepM rfl (R_mv) ?_
    refine WL_nil ?_
    refine W_block ?_
    refine W_loopS [(2, 4), (10, 23)] (fun (k : Nat) E w' => k ≤ l.length ∧ E 10 = I k ∧ allOk (l.drop k) = allOk l ∧ Hp w [] w') (fun k => l.length - k) 0 ?e0 ?r0
    · exact ⟨by omega, rfl, rfl, H⟩
    · (clear H; rintro k E w1 ⟨hk, h0, ha, H⟩; refine W_kn h0 ?_)
      refine W_seq ?_
      refine W_region_l ?_
      refine WL_step rfl (R_lt rfl rfl) ?_
      refine WL_nil ?_
      refine W_seq ?_
      refine W_if rfl (fun h35 => ?_) (fun h35 => ?_)
      · refine W_skip ?_
        refine W_seq ?_
        refine W_block ?_
        refine W_seq ?_
        ((obtain ⟨i, hi⟩ : ∃ i, l[k]? = some i := ⟨_, List.getElem?_eq_getElem (by omega)⟩; obtain ⟨b, off, rfl, hc⟩ := hl.cell insC_len hi; rw [allOk_drop hi] at ha)) <;> refine W_region_l ?_
        refine WL_stepM rfl (R_mv) ?_
        refine WL_step rfl (R_indexAddr Try.underlying45 Try.sizeOf44 rfl rfl (by omega) (by omega) idx_castn) ?_
        refine WL_step rfl (R_loadA_cell (vs := insC i) Try.isAgg44 Try.sizeOf44 rfl (fun j v hj => H.cellN (hc j v hj) (by repeat' first | exact kNil | apply kCons | apply kApp | assumption | exact OwnS.keys (by assumption))) rfl) ?_
        (refine WL_effn rfl (E_alloc H Try.zeroValue44 rfl) ?_; clear H; intro b44 w44 hb44 H)
        refine WL_stepM rfl (R_as) ?_
        (refine WL_effu rfl (E_storeA (vs := insC i) H Try.sizeOf44 rfl rfl (by simp [insC, Value.oneCell']) .here (by simp [insC_len])) ?_; clear H; intro w46 H; rw [show List.take 0 [I 0, I 0, I 0] ++ insC i ++ List.drop (0 + (insC i).length) [I 0, I 0, I 0] = insC i from by simp [insC_len]] at H)
        refine WL_nil ?_
        refine W_seq ?_
        refine W_region_l ?_
        refine WL_step rfl (R_loadA (vs := insC i) Try.isAgg44 Try.sizeOf44 rfl (H.get .here) rfl (by simp [insC_len])) ?_
        refine WL_stepM rfl (R_mv) ?_
        refine WL_step rfl (R_len_slice Try.underlying45 rfl) ?_
        refine WL_step rfl (R_sub rfl rfl (w_i64 (by omega))) ?_
        refine WL_stepM rfl (R_mv) ?_
        refine WL_step rfl (R_sub rfl rfl (w_i64 (by omega))) ?_
        (refine WL_call rfl (R_call rfl Try.call39 rfl) (ok_ret i _ _) ?_; rintro _ w56 ⟨rfl, H1⟩; replace H := H.seq0 H1; clear H1)
        refine WL_step rfl (R_not_d rfl) ?_
        refine WL_nil ?_
        refine W_if rfl (fun h59 => ?_) (fun h59 => ?_)
        · refine W_seq ?_
          refine W_region_l ?_
          refine WL_stepM rfl (R_as) ?_
          refine WL_nil ?_
          refine W_ret ?_
          exact ⟨_, rfl, congrArg I (by unfold chk; rw [if_neg (by omega), if_neg (by rw [← ha, decide_eq_false (by assumption), Bool.false_and]; decide)]), H.none (by repeat' first | exact kNil | apply kCons | apply kApp | assumption | exact OwnS.keys (by assumption))⟩
        · refine W_skip ?_
          refine W_region_l ?_
          refine WL_step rfl (R_add rfl rfl (w_i64 (by omega))) ?_
          refine WL_stepM rfl (R_mv) ?_
          refine WL_nil ?_
          exact ⟨(by repeat' first | refine same_updo rfl ?_ | refine same_mov rfl ?_ | refine same_upd rfl ?_ | refine same_updn ?_ | refine same_know rfl ?_ | exact same_ovr | refine same_in rfl ?_ | exact Same.refl), k + 1, by omega, by omega, rfl, (by rw [← ha, decide_eq_true (Decidable.of_not_not (by assumption)), Bool.true_and]), H.none (by repeat' first | exact kNil | apply kCons | apply kApp | assumption | exact OwnS.keys (by assumption))⟩
      · refine W_exit ?_
        refine (if_pos rfl).mpr ?_
        refine W_seq ?_
        refine W_region_l ?_
        refine WL_stepM rfl (R_as) ?_
        refine WL_nil ?_
        refine W_ret ?_
        exact ⟨_, rfl, congrArg I (by unfold chk; rw [if_neg (by omega), if_pos (by rw [← ha, List.drop_of_length_le (by omega)]; rfl)]), H⟩

/-- what becomes of the machine's number -/
def doN (view : List UInt8) (now n : Int) (i : In) : Int :=
  if i.op = 1 then ((view[i.a.toNat]?).elim 0 fun x => (x.toNat : Int))
  else if i.op = 2 then now
  else if i.op = 3 then bitsOf .and .i64 n i.a
  else if i.op = 4 then (if n < i.a then 1 else 0)
  else if i.op = 7 then (if n = 0 then 1 else 0)
  else n
/-- how many instructions are passed over -/
def doS (n : Int) (i : In) : Int := if i.op = 5 ∧ n ≠ 0 then i.a else 0

theorem do_ret {p : Nat} {view : List UInt8} {n now : Int} {i : In} (hp : w.heap[p]? = some (blk [I n, v, I now] 71)) (hv : RdS w v (view.map U)) (hne : ∀ a m c, v = .slice (some a) m c → view ≠ [] → a.block ≠ p) (ha : 0 ≤ i.a ∧ i.a ≤ 65535) (hb : view.length ≤ 9223372036854775807) :
    Ret Try.prog 38 #[ptr p 0, .agg (insC i).toArray] w fun r w' => r = I (doS n i) ∧ Hp w [(p, blk [I (doN view now n i), v, I now] 71)] w' := by
  refine Ret_of_W (args := [_, _]) Try.func38 rfl Try.ntmps38 Try.results38 (by simp) ?_
  obtain ⟨op, a, b⟩ := i
  obtain ⟨ao, ca, rfl⟩ := hv.form
  simp only [List.length_map] at hv hp ha ⊢
  have H := Hp.focus0 hp
  refine W_seq ?_
  refine W_region_l ?_
  (refine WL_effn rfl (E_box (vs := [I op, I a, I b]) H rfl rfl) ?_; clear H; intro b3 w3 hb3 H)
  refine WL_stepM rfl (R_as) ?_
  refine WL_nil ?_
  refine W_seq ?_
  refine W_seq ?_
  refine W_region_l ?_
  refine WL_step rfl (R_fieldAddr (off' := 0) Try.underlying44 rfl Try.sizeOf3 (by decide) rfl rfl) ?_
  refine WL_step rfl (R_load Try.isAgg3 rfl (H.get .here) rfl) ?_
  refine WL_nil ?_
  refine W_block ?_
  refine W_seq ?_
  refine W_region_l ?_
  refine WL_step rfl (R_eq rfl rfl) ?_
  refine WL_stepM rfl (R_as) ?_
  refine WL_nil ?_
  refine W_if rfl (fun h18 => ?_) (fun h18 => ?_)
  · refine W_seq ?_
    refine W_region_l ?_
    refine WL_stepM rfl (R_mv) ?_
    refine WL_step rfl (R_nilCheck rfl) ?_
    refine WL_step rfl (R_fieldAddr (off' := 0) Try.underlying71 rfl Try.sizeOf3 (by decide) rfl rfl) ?_
    (refine WL_effu rfl (E_store (v := (.int _ _)) H Try.sizeOf3 rfl rfl rfl (.there .here) (by simp)) ?_; clear H; intro w24 H)
    refine WL_nil ?_
    refine W_seq ?_
    (refine W_drawH (fun _ => false) (by kernel_rfl) H ?_; clear H; intro w27 H)
    refine WA_take 0 rfl rfl rfl (by kernel_rfl) (by kernel_rfl) H (fun _ hC => R_fieldAddr (off' := 1) Try.underlying44 rfl Try.sizeOf3 (by decide) rfl rfl) ?_
    refine WA_take 1 rfl rfl rfl (by kernel_rfl) (by kernel_rfl) H (fun _ hC => R_load Try.isAgg3 rfl (hC.get .here) rfl) ?_
    refine WA_takeM 2 rfl rfl rfl (by kernel_rfl) (by kernel_rfl) H (fun _ hC => R_mv) ?_
    refine WA_take 3 rfl rfl rfl (by kernel_rfl) (by kernel_rfl) H (fun _ hC => R_nilCheck rfl) ?_
    refine WA_take 4 rfl rfl rfl (by kernel_rfl) (by kernel_rfl) H (fun _ hC => R_fieldAddr (off' := 1) Try.underlying71 rfl Try.sizeOf42 (by decide) rfl rfl) ?_
    refine WA_take 5 rfl rfl rfl (by kernel_rfl) (by kernel_rfl) H (fun _ hC => R_load Try.isAgg42 rfl (hC.get (.there .here)) rfl) ?_
    refine WA_take 6 rfl rfl rfl (by kernel_rfl) (by kernel_rfl) H (fun _ hC => R_len_slice Try.underlying42 rfl) ?_
    refine WA_take 7 rfl rfl rfl (by kernel_rfl) (by kernel_rfl) H (fun _ hC => R_lt rfl rfl) ?_
    refine WA_done (by kernel_rfl) ?_
    refine W_if rfl (fun h37 => ?_) (fun h37 => ?_)
    · (obtain ⟨u, hu⟩ : ∃ u, view[a.toNat]? = some u := ⟨_, List.getElem?_eq_getElem (by omega)⟩; obtain ⟨b1, o1, rfl, hc1⟩ := hv.cell (i := a.toNat) (u := U u) (by rw [List.getElem?_map, hu]; rfl); have hb1 := lt_of_cell hc1; have hbp := hne _ _ _ rfl (by rintro rfl; cases hu); simp only at hb1 hbp) <;> (refine W_drawH (fun i => Nat.ble 10 i) (by kernel_rfl) H ?_; clear H; intro w38 H)
      refine WA_takeM 0 rfl rfl rfl (by kernel_rfl) (by kernel_rfl) H (fun _ hC => R_mv) ?_
      refine WA_takeM 1 rfl rfl rfl (by kernel_rfl) (by kernel_rfl) H (fun _ hC => R_mv) ?_
      refine WA_take 2 rfl rfl rfl (by kernel_rfl) (by kernel_rfl) H (fun _ hC => R_nilCheck rfl) ?_
      refine WA_take 3 rfl rfl rfl (by kernel_rfl) (by kernel_rfl) H (fun _ hC => R_fieldAddr (off' := 1) Try.underlying71 rfl Try.sizeOf42 (by decide) rfl rfl) ?_
      refine WA_take 4 rfl rfl rfl (by kernel_rfl) (by kernel_rfl) H (fun _ hC => R_load Try.isAgg42 rfl (hC.get (.there .here)) rfl) ?_
      refine WA_take 5 rfl rfl rfl (by kernel_rfl) (by kernel_rfl) H (fun _ hC => R_fieldAddr (off' := 1) Try.underlying44 rfl Try.sizeOf3 (by decide) rfl rfl) ?_
      refine WA_take 6 rfl rfl rfl (by kernel_rfl) (by kernel_rfl) H (fun _ hC => R_load Try.isAgg3 rfl (hC.get .here) rfl) ?_
      refine WA_take 7 rfl rfl rfl (by kernel_rfl) (by kernel_rfl) H (fun _ hC => R_indexAddr Try.underlying42 Try.sizeOf5 rfl rfl (by omega) (by omega) idx_cast1) ?_
      refine WA_take 8 rfl rfl rfl (by kernel_rfl) (by kernel_rfl) H (fun _ hC => R_load_cell Try.isAgg5 rfl (hC.cell hc1 (by simp only [List.map_cons, List.map_nil, List.mem_cons, List.not_mem_nil, or_false]; omega))) ?_
      refine WA_take 9 rfl rfl rfl (by kernel_rfl) (by kernel_rfl) H (fun _ hC => R_conv_int Try.underlying5 Try.underlying3 rfl u8_in_i64) ?_
      refine WA_one (i := 10) (by kernel_rfl) ?_
      refine WI_value rfl (.inl rfl) (R_nilCheck rfl) (by first | exact fun h => absurd h (by decide) | exact fun _ => H | exact fun _ => H.none (by repeat' first | exact kNil | apply kCons | apply kApp | assumption | exact OwnS.keys (by assumption)) | exact fun _ => H.dropN (by repeat' first | exact kNil | apply kCons | apply kApp | assumption | exact OwnS.keys (by assumption)) | exact fun _ => H.pop (by assumption) | exact fun _ => (H.pop (by assumption)).pop (by assumption) | exact fun _ => H.kp | exact fun _ => H.kp.tail | exact fun _ => H.kp.tail.tail | exact fun _ => H.kp.tail.tail.tail | exact fun _ => H.kp.sub (by simp) | exact fun _ => Kp.nil) ?_
      refine WA_one (i := 11) (by kernel_rfl) ?_
      refine WI_value rfl (.inl rfl) (R_fieldAddr (off' := 0) Try.underlying71 rfl Try.sizeOf3 (by decide) rfl rfl) (by first | exact fun h => absurd h (by decide) | exact fun _ => H | exact fun _ => H.none (by repeat' first | exact kNil | apply kCons | apply kApp | assumption | exact OwnS.keys (by assumption)) | exact fun _ => H.dropN (by repeat' first | exact kNil | apply kCons | apply kApp | assumption | exact OwnS.keys (by assumption)) | exact fun _ => H.pop (by assumption) | exact fun _ => (H.pop (by assumption)).pop (by assumption) | exact fun _ => H.kp | exact fun _ => H.kp.tail | exact fun _ => H.kp.tail.tail | exact fun _ => H.kp.tail.tail.tail | exact fun _ => H.kp.sub (by simp) | exact fun _ => Kp.nil) ?_
      refine WA_one (i := 12) (by kernel_rfl) ?_
      (refine WI_effu rfl (.inl rfl) (E_store (v := (.int _ _)) H Try.sizeOf3 rfl rfl rfl (.there .here) (by simp)) (fun _ H => (by first | exact fun h => absurd h (by decide) | exact fun _ => H | exact fun _ => H.none (by repeat' first | exact kNil | apply kCons | apply kApp | assumption | exact OwnS.keys (by assumption)) | exact fun _ => H.dropN (by repeat' first | exact kNil | apply kCons | apply kApp | assumption | exact OwnS.keys (by assumption)) | exact fun _ => H.pop (by assumption) | exact fun _ => (H.pop (by assumption)).pop (by assumption) | exact fun _ => H.kp | exact fun _ => H.kp.tail | exact fun _ => H.kp.tail.tail | exact fun _ => H.kp.tail.tail.tail | exact fun _ => H.kp.sub (by simp) | exact fun _ => Kp.nil)) ?_; clear H; intro w54 H)
      refine WA_done (by kernel_rfl) ?_
      refine W_seq ?_
      refine W_region_l ?_
      refine WL_stepM rfl (R_as) ?_
      refine WL_nil ?_
      refine W_ret ?_
      exact ⟨_, rfl, congrArg I (by unfold doS; simp only; rw [if_neg (by omega)]), (by unfold doN; simp only [hu, Option.elim]; rw [if_pos (by omega)]; exact H.pop hb3)⟩
    · refine W_skip ?_
      refine W_seq ?_
      refine W_region_l ?_
      refine WL_stepM rfl (R_as) ?_
      refine WL_nil ?_
      refine W_ret ?_
      exact ⟨_, rfl, congrArg I (by unfold doS; simp only; rw [if_neg (by omega)]), (by unfold doN; simp only; rw [if_pos (by omega), List.getElem?_eq_none (by omega)]; exact H.pop hb3)⟩
  · refine W_seq ?_
    refine W_region_l ?_
    refine WL_step rfl (R_eq rfl rfl) ?_
    refine WL_stepM rfl (R_as) ?_
    refine WL_nil ?_
    refine W_if rfl (fun h74 => ?_) (fun h74 => ?_)
    · refine W_region_l ?_
      refine WL_stepM rfl (R_mv) ?_
      refine WL_stepM rfl (R_mv) ?_
      refine WL_step rfl (R_nilCheck rfl) ?_
      refine WL_step rfl (R_fieldAddr (off' := 2) Try.underlying71 rfl Try.sizeOf3 (by decide) rfl rfl) ?_
      refine WL_step rfl (R_load Try.isAgg3 rfl (H.get (.there .here)) rfl) ?_
      refine WL_step rfl (R_nilCheck rfl) ?_
      refine WL_step rfl (R_fieldAddr (off' := 0) Try.underlying71 rfl Try.sizeOf3 (by decide) rfl rfl) ?_
      (refine WL_effu rfl (E_store (v := (.int _ _)) H Try.sizeOf3 rfl rfl rfl (.there .here) (by simp)) ?_; clear H; intro w83 H)
      refine WL_nil ?_
      refine W_seq ?_
      refine W_region_l ?_
      refine WL_stepM rfl (R_as) ?_
      refine WL_nil ?_
      refine W_ret ?_
      exact ⟨_, rfl, congrArg I (by unfold doS; simp only; first | rw [if_pos (by omega)] | rw [if_neg (by omega)]), (by unfold doN; simp only; (repeat' first | rw [if_pos (by omega)] | rw [if_neg (by omega)] | fail); exact H.pop hb3)⟩
    · refine W_seq ?_
      refine W_region_l ?_
      refine WL_step rfl (R_eq rfl rfl) ?_
      refine WL_stepM rfl (R_as) ?_
      refine WL_nil ?_
      refine W_if rfl (fun h96 => ?_) (fun h96 => ?_)
      · (refine W_drawH (fun i => Nat.ble 7 i) (by kernel_rfl) H ?_; clear H; intro w97 H)
        refine WA_takeM 0 rfl rfl rfl (by kernel_rfl) (by kernel_rfl) H (fun _ hC => R_mv) ?_
        refine WA_take 1 rfl rfl rfl (by kernel_rfl) (by kernel_rfl) H (fun _ hC => R_nilCheck rfl) ?_
        refine WA_take 2 rfl rfl rfl (by kernel_rfl) (by kernel_rfl) H (fun _ hC => R_fieldAddr (off' := 0) Try.underlying71 rfl Try.sizeOf3 (by decide) rfl rfl) ?_
        refine WA_take 3 rfl rfl rfl (by kernel_rfl) (by kernel_rfl) H (fun _ hC => R_load Try.isAgg3 rfl (hC.get (.there .here)) rfl) ?_
        refine WA_take 4 rfl rfl rfl (by kernel_rfl) (by kernel_rfl) H (fun _ hC => R_fieldAddr (off' := 1) Try.underlying44 rfl Try.sizeOf3 (by decide) rfl rfl) ?_
        refine WA_take 5 rfl rfl rfl (by kernel_rfl) (by kernel_rfl) H (fun _ hC => R_load Try.isAgg3 rfl (hC.get .here) rfl) ?_
        refine WA_take 6 rfl rfl rfl (by kernel_rfl) (by kernel_rfl) H (fun _ hC => R_bits rfl rfl (by simp) rfl) ?_
        refine WA_one (i := 7) (by kernel_rfl) ?_
        refine WI_value rfl (.inl rfl) (R_nilCheck rfl) (by first | exact fun h => absurd h (by decide) | exact fun _ => H | exact fun _ => H.none (by repeat' first | exact kNil | apply kCons | apply kApp | assumption | exact OwnS.keys (by assumption)) | exact fun _ => H.dropN (by repeat' first | exact kNil | apply kCons | apply kApp | assumption | exact OwnS.keys (by assumption)) | exact fun _ => H.pop (by assumption) | exact fun _ => (H.pop (by assumption)).pop (by assumption) | exact fun _ => H.kp | exact fun _ => H.kp.tail | exact fun _ => H.kp.tail.tail | exact fun _ => H.kp.tail.tail.tail | exact fun _ => H.kp.sub (by simp) | exact fun _ => Kp.nil) ?_
        refine WA_one (i := 8) (by kernel_rfl) ?_
        refine WI_value rfl (.inl rfl) (R_fieldAddr (off' := 0) Try.underlying71 rfl Try.sizeOf3 (by decide) rfl rfl) (by first | exact fun h => absurd h (by decide) | exact fun _ => H | exact fun _ => H.none (by repeat' first | exact kNil | apply kCons | apply kApp | assumption | exact OwnS.keys (by assumption)) | exact fun _ => H.dropN (by repeat' first | exact kNil | apply kCons | apply kApp | assumption | exact OwnS.keys (by assumption)) | exact fun _ => H.pop (by assumption) | exact fun _ => (H.pop (by assumption)).pop (by assumption) | exact fun _ => H.kp | exact fun _ => H.kp.tail | exact fun _ => H.kp.tail.tail | exact fun _ => H.kp.tail.tail.tail | exact fun _ => H.kp.sub (by simp) | exact fun _ => Kp.nil) ?_
        refine WA_one (i := 9) (by kernel_rfl) ?_
        (refine WI_effu rfl (.inl rfl) (E_store (v := (.int _ _)) H Try.sizeOf3 rfl rfl rfl (.there .here) (by simp)) (fun _ H => (by first | exact fun h => absurd h (by decide) | exact fun _ => H | exact fun _ => H.none (by repeat' first | exact kNil | apply kCons | apply kApp | assumption | exact OwnS.keys (by assumption)) | exact fun _ => H.dropN (by repeat' first | exact kNil | apply kCons | apply kApp | assumption | exact OwnS.keys (by assumption)) | exact fun _ => H.pop (by assumption) | exact fun _ => (H.pop (by assumption)).pop (by assumption) | exact fun _ => H.kp | exact fun _ => H.kp.tail | exact fun _ => H.kp.tail.tail | exact fun _ => H.kp.tail.tail.tail | exact fun _ => H.kp.sub (by simp) | exact fun _ => Kp.nil)) ?_; clear H; intro w110 H)
        refine WA_done (by kernel_rfl) ?_
        refine W_seq ?_
        refine W_region_l ?_
        refine WL_stepM rfl (R_as) ?_
        refine WL_nil ?_
        refine W_ret ?_
        exact ⟨_, rfl, congrArg I (by unfold doS; simp only; first | rw [if_pos (by omega)] | rw [if_neg (by omega)]), (by unfold doN; simp only; (repeat' first | rw [if_pos (by omega)] | rw [if_neg (by omega)] | fail); exact H.pop hb3)⟩
      · refine W_seq ?_
        refine W_region_l ?_
        refine WL_step rfl (R_eq rfl rfl) ?_
        refine WL_stepM rfl (R_as) ?_
        refine WL_nil ?_
        refine W_if rfl (fun h123 => ?_) (fun h123 => ?_)
        · (refine W_drawH (fun i => Nat.ble 9 i) (by kernel_rfl) H ?_; clear H; intro w124 H)
          refine WA_takeM 0 rfl rfl rfl (by kernel_rfl) (by kernel_rfl) H (fun _ hC => R_mv) ?_
          refine WA_takeM 1 rfl rfl rfl (by kernel_rfl) (by kernel_rfl) H (fun _ hC => R_mv) ?_
          refine WA_take 2 rfl rfl rfl (by kernel_rfl) (by kernel_rfl) H (fun _ hC => R_nilCheck rfl) ?_
          refine WA_take 3 rfl rfl rfl (by kernel_rfl) (by kernel_rfl) H (fun _ hC => R_fieldAddr (off' := 0) Try.underlying71 rfl Try.sizeOf3 (by decide) rfl rfl) ?_
          refine WA_take 4 rfl rfl rfl (by kernel_rfl) (by kernel_rfl) H (fun _ hC => R_load Try.isAgg3 rfl (hC.get (.there .here)) rfl) ?_
          refine WA_take 5 rfl rfl rfl (by kernel_rfl) (by kernel_rfl) H (fun _ hC => R_fieldAddr (off' := 1) Try.underlying44 rfl Try.sizeOf3 (by decide) rfl rfl) ?_
          refine WA_take 6 rfl rfl rfl (by kernel_rfl) (by kernel_rfl) H (fun _ hC => R_load Try.isAgg3 rfl (hC.get .here) rfl) ?_
          refine WA_take 7 rfl rfl rfl (by kernel_rfl) (by kernel_rfl) H (fun _ hC => R_lt rfl rfl) ?_
          refine WA_one (i := 8) (by kernel_rfl) ?_
          (refine WI_call rfl (.inl rfl) (R_call rfl Try.call45 rfl) (by exact one_ret _ _) (by first | exact fun _ _ hR _ => H.seq0 hR.2 | exact fun _ _ hR h => Bool.noConfusion h | exact fun _ _ hR _ => (H.seq0 hR.2).none (by repeat' first | exact kNil | apply kCons | apply kApp | assumption | exact OwnS.keys (by assumption)) | exact fun _ _ hR _ => (H.seq0 hR.2).dropN (by repeat' first | exact kNil | apply kCons | apply kApp | assumption | exact OwnS.keys (by assumption))) ?_; rintro _ w134 ⟨rfl, H1⟩; replace H := H.seq0 H1; clear H1)
          refine WA_one (i := 9) (by kernel_rfl) ?_
          refine WI_value rfl (.inl rfl) (R_nilCheck rfl) (by first | exact fun h => absurd h (by decide) | exact fun _ => H | exact fun _ => H.none (by repeat' first | exact kNil | apply kCons | apply kApp | assumption | exact OwnS.keys (by assumption)) | exact fun _ => H.dropN (by repeat' first | exact kNil | apply kCons | apply kApp | assumption | exact OwnS.keys (by assumption)) | exact fun _ => H.pop (by assumption) | exact fun _ => (H.pop (by assumption)).pop (by assumption) | exact fun _ => H.kp | exact fun _ => H.kp.tail | exact fun _ => H.kp.tail.tail | exact fun _ => H.kp.tail.tail.tail | exact fun _ => H.kp.sub (by simp) | exact fun _ => Kp.nil) ?_
          refine WA_one (i := 10) (by kernel_rfl) ?_
          refine WI_value rfl (.inl rfl) (R_fieldAddr (off' := 0) Try.underlying71 rfl Try.sizeOf3 (by decide) rfl rfl) (by first | exact fun h => absurd h (by decide) | exact fun _ => H | exact fun _ => H.none (by repeat' first | exact kNil | apply kCons | apply kApp | assumption | exact OwnS.keys (by assumption)) | exact fun _ => H.dropN (by repeat' first | exact kNil | apply kCons | apply kApp | assumption | exact OwnS.keys (by assumption)) | exact fun _ => H.pop (by assumption) | exact fun _ => (H.pop (by assumption)).pop (by assumption) | exact fun _ => H.kp | exact fun _ => H.kp.tail | exact fun _ => H.kp.tail.tail | exact fun _ => H.kp.tail.tail.tail | exact fun _ => H.kp.sub (by simp) | exact fun _ => Kp.nil) ?_
          refine WA_one (i := 11) (by kernel_rfl) ?_
          (refine WI_effu rfl (.inl rfl) (E_store (v := (.int _ _)) H Try.sizeOf3 rfl rfl rfl (.there .here) (by simp)) (fun _ H => (by first | exact fun h => absurd h (by decide) | exact fun _ => H | exact fun _ => H.none (by repeat' first | exact kNil | apply kCons | apply kApp | assumption | exact OwnS.keys (by assumption)) | exact fun _ => H.dropN (by repeat' first | exact kNil | apply kCons | apply kApp | assumption | exact OwnS.keys (by assumption)) | exact fun _ => H.pop (by assumption) | exact fun _ => (H.pop (by assumption)).pop (by assumption) | exact fun _ => H.kp | exact fun _ => H.kp.tail | exact fun _ => H.kp.tail.tail | exact fun _ => H.kp.tail.tail.tail | exact fun _ => H.kp.sub (by simp) | exact fun _ => Kp.nil)) ?_; clear H; intro w140 H)
          refine WA_done (by kernel_rfl) ?_
          refine W_seq ?_
          refine W_region_l ?_
          refine WL_stepM rfl (R_as) ?_
          refine WL_nil ?_
          refine W_ret ?_
          exact ⟨_, rfl, congrArg I (by unfold doS; simp only; first | rw [if_pos (by omega)] | rw [if_neg (by omega)]), (by unfold doN; simp only; (repeat' first | rw [if_pos (by omega)] | rw [if_neg (by omega)] | fail); exact H.pop hb3)⟩
        · refine W_seq ?_
          refine W_region_l ?_
          refine WL_step rfl (R_eq rfl rfl) ?_
          refine WL_stepM rfl (R_as) ?_
          refine WL_nil ?_
          refine W_if rfl (fun h153 => ?_) (fun h153 => ?_)
          · refine W_region_l ?_
            refine WL_stepM rfl (R_mv) ?_
            refine WL_stepM rfl (R_mv) ?_
            refine WL_step rfl (R_nilCheck rfl) ?_
            refine WL_step rfl (R_fieldAddr (off' := 0) Try.underlying71 rfl Try.sizeOf3 (by decide) rfl rfl) ?_
            refine WL_step rfl (R_load Try.isAgg3 rfl (H.get (.there .here)) rfl) ?_
            refine WL_step rfl (R_eq rfl rfl) ?_
            (refine WL_call rfl (R_call rfl Try.call45 rfl) (one_ret _ _) ?_; rintro _ w161 ⟨rfl, H1⟩; replace H := H.seq0 H1; clear H1)
            refine WL_step rfl (R_nilCheck rfl) ?_
            refine WL_step rfl (R_fieldAddr (off' := 0) Try.underlying71 rfl Try.sizeOf3 (by decide) rfl rfl) ?_
            (refine WL_effu rfl (E_store (v := (.int _ _)) H Try.sizeOf3 rfl rfl rfl (.there .here) (by simp)) ?_; clear H; intro w164 H)
            refine WL_nil ?_
            refine W_seq ?_
            refine W_region_l ?_
            refine WL_stepM rfl (R_as) ?_
            refine WL_nil ?_
            refine W_ret ?_
            exact ⟨_, rfl, congrArg I (by unfold doS; simp only; first | rw [if_pos (by omega)] | rw [if_neg (by omega)]), (by unfold doN; simp only; (repeat' first | rw [if_pos (by omega)] | rw [if_neg (by omega)] | fail); exact H.pop hb3)⟩
          · refine W_seq ?_
            refine W_region_l ?_
            refine WL_step rfl (R_eq rfl rfl) ?_
            refine WL_stepM rfl (R_as) ?_
            refine WL_nil ?_
            refine W_if rfl (fun h177 => ?_) (fun h177 => ?_)
            · refine W_seq ?_
              refine W_region_l ?_
              refine WL_stepM rfl (R_mv) ?_
              refine WL_step rfl (R_nilCheck rfl) ?_
              refine WL_step rfl (R_fieldAddr (off' := 0) Try.underlying71 rfl Try.sizeOf3 (by decide) rfl rfl) ?_
              refine WL_step rfl (R_load Try.isAgg3 rfl (H.get (.there .here)) rfl) ?_
              refine WL_step rfl (R_ne rfl rfl) ?_
              refine WL_nil ?_
              refine W_if rfl (fun h186 => ?_) (fun h186 => ?_)
              · refine W_seq ?_
                refine W_region_l ?_
                refine WL_step rfl (R_fieldAddr (off' := 1) Try.underlying44 rfl Try.sizeOf3 (by decide) rfl rfl) ?_
                refine WL_step rfl (R_load Try.isAgg3 rfl (H.get .here) rfl) ?_
                refine WL_stepM rfl (R_as) ?_
                refine WL_nil ?_
                refine W_ret ?_
                exact ⟨_, rfl, congrArg I (by unfold doS; simp only; first | rw [if_pos (by omega)] | rw [if_neg (by omega)]), (by unfold doN; simp only; (repeat' first | rw [if_pos (by omega)] | rw [if_neg (by omega)] | fail); exact H.pop hb3)⟩
              · refine W_skip ?_
                refine W_seq ?_
                refine W_region_l ?_
                refine WL_stepM rfl (R_as) ?_
                refine WL_nil ?_
                refine W_ret ?_
                exact ⟨_, rfl, congrArg I (by unfold doS; simp only; first | rw [if_pos (by omega)] | rw [if_neg (by omega)]), (by unfold doN; simp only; (repeat' first | rw [if_pos (by omega)] | rw [if_neg (by omega)] | fail); exact H.pop hb3)⟩
            · refine W_skip ?_
              refine W_seq ?_
              refine W_region_l ?_
              refine WL_stepM rfl (R_as) ?_
              refine WL_nil ?_
              refine W_ret ?_
              exact ⟨_, rfl, congrArg I (by unfold doS; simp only; first | rw [if_pos (by omega)] | rw [if_neg (by omega)]), (by unfold doN; simp only; (repeat' first | rw [if_pos (by omega)] | rw [if_neg (by omega)] | fail); exact H.pop hb3)⟩
end
end Go.Proofs.Ytaclingiedmpbaa.Pred

/-
  The law CapsAlone.
-/
import Derived.Test.YthonajikgljgmaaCapsF
import Derived.Test.YthonajikgljgmaaRevN
import Derived.Test.YthonajikgljgmaaSameI
import Derived.Test.YthonajikgljgmaaFxO
namespace Go.Proofs.Ythonajikgljgmaa.Reg
open Go Go.Proofs Go.Proofs.Ythonajikgljgmaa.Fx Go.Proofs.Ythonajikgljgmaa.TabC Go.Proofs.Ythonajikgljgmaa.Caps
set_option maxRecDepth 100000
set_option linter.unusedVariables false
set_option linter.unusedSimpArgs false
set_option maxHeartbeats 40000000

structure COp where
  k : Int
  h : Int
  t : Int
  r : Int
  l : Int
  n : Int
  a1 : Int
  a2 : Int
  a3 : Int
  a4 : Int
  a5 : Int
  a6 : Int
  a7 : Int
  a8 : Int
def coC (o : COp) : List Value := [I o.k, I o.h, I o.t, I o.r, I o.l, I o.n, I o.a1, I o.a2, I o.a3, I o.a4, I o.a5, I o.a6, I o.a7, I o.a8]
theorem coC_len (o : COp) : (coC o).length = 14 := rfl

structure Tb (t : List Pl) (G : Nat) : Prop where
  len : t.length = 32
  hi : ∀ a ∈ t, a.g ≤ G
  lo : ∀ a ∈ t, 0 < a.g
  rt : ∀ a ∈ t, a.u = true → ∃ o r l n, a.v = cp o r l n 0 0
  hG : G ≤ 1000000
theorem Tb.gn {t : List Pl} {G : Nat} (h : Tb t G) : ∀ a ∈ t, a.g ≤ 1000001 := fun a ha => by have := h.hi a ha; have := h.hG; omega
theorem Tb.mono {t : List Pl} {G G' : Nat} (h : Tb t G) (hg : G ≤ G') (hG : G' ≤ 1000000) : Tb t G' := ⟨h.len, fun a ha => Nat.le_trans (h.hi a ha) hg, h.lo, h.rt, hG⟩
theorem Tb.start : Tb t0 1 := ⟨t0_len, fun a ha => (by rw [List.eq_of_mem_replicate ha]; decide), fun a ha => (by rw [List.eq_of_mem_replicate ha]; decide), fun a ha hu => (by rw [List.eq_of_mem_replicate ha] at hu; cases hu), by decide⟩
theorem Tb.put {t : List Pl} {G : Nat} (h : Tb t G) {i : Nat} {a : Pl} (ha : t[i]? = some a) (o r l n : Int) : Tb (t.set i ⟨cp o r l n 0 0, a.g, true⟩) G := by
  have hm := List.mem_of_getElem? ha
  refine ⟨by rw [List.length_set]; exact h.len, fun x hx => ?_, fun x hx => ?_, fun x hx hu => ?_, h.hG⟩ <;> rcases List.mem_or_eq_of_mem_set hx with h1 | rfl
  · exact h.hi x h1
  · exact h.hi a hm
  · exact h.lo x h1
  · exact h.lo a hm
  · exact h.rt x h1 hu
  · exact ⟨_, _, _, _, rfl⟩
theorem Tb.drop {t : List Pl} {G : Nat} (h : Tb t G) {i : Nat} {a : Pl} (ha : t[i]? = some a) (hG : G + 1 ≤ 1000000) : Tb (t.set i ⟨zk, a.g + 1, false⟩) (G + 1) := by
  have hm := List.mem_of_getElem? ha
  refine ⟨by rw [List.length_set]; exact h.len, fun x hx => ?_, fun x hx => ?_, fun x hx hu => ?_, hG⟩ <;> rcases List.mem_or_eq_of_mem_set hx with h1 | rfl
  · exact Nat.le_succ_of_le (h.hi x h1)
  · exact Nat.succ_le_succ (h.hi a hm)
  · exact h.lo x h1
  · exact Nat.succ_pos _
  · exact h.rt x h1 hu
  · cases hu
theorem leastP {P : Nat → Prop} : ∀ n, P n → ∃ i, P i ∧ ∀ j, j < i → ¬ P j := by
  intro n
  induction n using Nat.strongRecOn with
  | _ n ih =>
    intro hn
    by_cases h : ∃ j, j < n ∧ P j
    · obtain ⟨j, hj, hp⟩ := h; exact ih j hj hp
    · exact ⟨n, hn, fun j hj hp => h ⟨j, hj, hp⟩⟩
theorem first_free (lt : List Pl) : (∃ (i : Nat) (a : Pl), lt[i]? = some a ∧ free a ∧ ∀ (j : Nat) (a' : Pl), j < i → lt[j]? = some a' → ¬ free a') ∨ (∀ a ∈ lt, ¬ free a) := by
  by_cases h : ∃ (i : Nat) (a : Pl), lt[i]? = some a ∧ free a
  · obtain ⟨i, hi⟩ := h
    obtain ⟨i, ⟨a, ha, hf⟩, hl⟩ := leastP (P := fun i => ∃ a, lt[i]? = some a ∧ free a) i hi
    exact .inl ⟨i, a, ha, hf, fun j a' hj ha' hf' => hl j hj ⟨a', ha', hf'⟩⟩
  · exact .inr fun a ha hf => by obtain ⟨i, hi⟩ := List.mem_iff_getElem?.1 ha; exact h ⟨i, a, hi, hf⟩
theorem named (lt : List Pl) (nm : Int) : (∃ (i : Nat) (a : Pl), lt[i]? = some a ∧ a.u = true ∧ nm = ((i + 256 * a.g : Nat) : Int)) ∨ (∀ (i : Nat) (a : Pl), lt[i]? = some a → a.u = true → nm ≠ ((i + 256 * a.g : Nat) : Int)) := by
  by_cases h : ∃ (i : Nat) (a : Pl), lt[i]? = some a ∧ a.u = true ∧ nm = ((i + 256 * a.g : Nat) : Int)
  · exact .inl h
  · exact .inr fun i a h1 h2 h3 => h ⟨i, a, h1, h2, h3⟩
theorem hz2 {x y : List Pl} {G G' : Nat} (hx : Tb x G) (hy : Tb y G') : ∀ t ∈ [x, y], ∀ a ∈ t, a.u = true → ∃ o r l n, a.v = cp o r l n 0 0 := by
  simp only [List.mem_cons, List.not_mem_nil, or_false]
  rintro t (rfl | rfl)
  · exact hx.rt
  · exact hy.rt
theorem R_ne_cap_f {E : Env} {w : World} {d : Option Nat} {ty : TypeId} {pos : String} {after : Array Edge} {t' : TypeId} {x y : Operand} {o r lo n re rn : Int} (hx : ev E x = vk (cp o r lo n re rn)) (hy : ev E y = vk (cp o r lo n re rn)) :
    (execOp (ev E) (mk d (.binOp .neq 38 x y t') ty pos after)).run Try.prog w = .ok (.value (.bool false)) w := by
  rw [R_ne_C eq_cap (ns := [o, r, lo, n, re, rn]) (ms := [o, r, lo, n, re, rn]) (by decide) (by kernel_rfl) hx hy rfl rfl rfl rfl, decide_eq_false (fun h => h rfl)]

theorem alone_ret {os : List COp} {w : World} {lo : Value} (ho : RdR coC w lo os) (hob : os.length ≤ 9223372036854775807) : Ret Try.prog 8 #[lo] w fun v w' => v = .bool true ∧ Hp w [] w' := by
  refine Ret_of_W (args := [_]) Try.func8 rfl Try.ntmps8 Try.results8 (by simp) ?_
  have H := Hp.refl w
  obtain ⟨ao, co, rfl⟩ := ho.form
  refine W_seq ?_
  refine W_region_l ?_
  refine WL_stepM rfl (R_as) ?_
  refine WL_nil ?_
  refine W_seq ?_
  refine W_region_l ?_
  (refine WL_call rfl (R_call rfl Try.call13 rfl) (Caps.new_ret (E := 2) (by decide) (by decide) _) ?_; rintro _ w7 ⟨sa, ba, ca, qa, PB, rfl, hPl, hsa, hba, hPB, H1⟩; obtain ⟨p0, b0, p1, b1, rfl⟩ := two hPl; have hsz := H.size; replace H := H.seqN H1 (spB_keys hsa hba hPB); clear H1; obtain ⟨hp0, hb0⟩ := hPB (p0, b0) (.head _); obtain ⟨hp1, hb1⟩ := hPB (p1, b1) (.tail _ (.head _)); replace hsa := Nat.le_trans hsz hsa; replace hba := Nat.le_trans hsz hba; replace hp0 : w.heap.size ≤ p0 := Nat.le_trans hsz hp0; replace hb0 : w.heap.size ≤ b0 := Nat.le_trans hsz hb0; replace hp1 : w.heap.size ≤ p1 := Nat.le_trans hsz hp1; replace hb1 : w.heap.size ≤ b1 := Nat.le_trans hsz hb1; clear hPB hPl hsz; replace H : Hp w ([(sa, blk [sl ba 0 2 ca] 90), (ba, blk (ptrs [(p0, b0), (p1, b1)] ++ qa) 91), (p0, blk [sl b0 0 32 32] 135), (b0, blk (rows plc t0) 137), (p1, blk [sl b1 0 32 32] 135), (b1, blk (rows plc t0) 137)]) w7 := H)
  (refine WL_call rfl (R_call rfl Try.call13 rfl) (Caps.new_ret (E := 2) (by decide) (by decide) _) ?_; rintro _ w8 ⟨sb, bb, cb, qb, PB, rfl, hPl, hsb, hbb, hPB, H1⟩; obtain ⟨r0, c0, r1, c1, rfl⟩ := two hPl; have hsz := H.size; replace H := H.seqN H1 (spB_keys hsb hbb hPB); clear H1; obtain ⟨hr0, hc0⟩ := hPB (r0, c0) (.head _); obtain ⟨hr1, hc1⟩ := hPB (r1, c1) (.tail _ (.head _)); replace hsb := Nat.le_trans hsz hsb; replace hbb := Nat.le_trans hsz hbb; replace hr0 : w.heap.size ≤ r0 := Nat.le_trans hsz hr0; replace hc0 : w.heap.size ≤ c0 := Nat.le_trans hsz hc0; replace hr1 : w.heap.size ≤ r1 := Nat.le_trans hsz hr1; replace hc1 : w.heap.size ≤ c1 := Nat.le_trans hsz hc1; clear hPB hPl hsz; replace H : Hp w ((sb, blk [sl bb 0 2 cb] 90) :: (bb, blk (ptrs [(r0, c0), (r1, c1)] ++ qb) 91) :: (r0, blk [sl c0 0 32 32] 135) :: (c0, blk (rows plc t0) 137) :: (r1, blk [sl c1 0 32 32] 135) :: (c1, blk (rows plc t0) 137) :: (sa, blk [sl ba 0 2 ca] 90) :: (ba, blk (ptrs [(p0, b0), (p1, b1)] ++ qa) 91) :: (p0, blk [sl b0 0 32 32] 135) :: (b0, blk (rows plc t0) 137) :: (p1, blk [sl b1 0 32 32] 135) :: (b1, blk (rows plc t0) 137) :: []) w8 := H)
  refine WL_stepM rfl (R_as) ?_
  refine WL_stepM rfl (R_as) ?_
  refine WL_nil ?_
  refine W_seq ?_
  refine W_seq ?_
  refine W_region_l ?_
  refine WL_stepM rfl (R_mv) ?_
  refine WL_step rfl (R_eq_ptr_nil Try.underlying25 rfl rfl) ?_
  refine WL_stepM rfl (R_mv) ?_
  refine WL_guard_t rfl rfl ?_
  refine WL_stepM rfl (R_mv) ?_
  refine WL_guard_t rfl rfl ?_
  refine WL_step rfl (R_eq_ptr_nil Try.underlying25 rfl rfl) ?_
  refine WL_stepM rfl (R_pk_f rfl) ?_
  refine WL_nil ?_
  refine W_cond_f rfl ?_
  refine W_skip ?_
  refine W_seq ?_
  refine W_region_l ?_
  refine WL_stepM rfl (R_as) ?_
  refine WL_nil ?_
  refine W_seq ?_
  refine W_region_l ?_
  refine WL_stepM rfl (R_as) ?_
  refine WL_nil ?_
  refine W_seq ?_
  refine W_seq ?_
  refine W_region_l ?_
  refine WL_stepM rfl (R_as) ?_
  refine WL_nil ?_
  refine W_block ?_
  refine W_loopS [(2, 2), (5, 24), (33, 162)] (fun (i : Nat) E w' => ∃ (x y : List Pl) (al1 al2 : List Int) (v1 v2 : Value) (M1 M2 : List (Nat × Obj)), i ≤ os.length ∧ i ≤ 80 ∧ Tb x (i + 1) ∧ Tb y (i + 1) ∧ al1.length ≤ i ∧ al2.length ≤ i ∧ E 5 = v1 ∧ E 6 = v2 ∧ E 7 = I i ∧ OwnS w.heap.size 3 1 v1 al1.length (al1.map I) M1 ∧ OwnS w.heap.size 3 1 v2 al2.length (al2.map I) M2 ∧ Hp w ((sb, blk [sl bb 0 2 cb] 90) :: (bb, blk (ptrs [(r0, c0), (r1, c1)] ++ qb) 91) :: (r0, blk [sl c0 0 32 32] 135) :: (c0, blk (rows plc x) 137) :: (r1, blk [sl c1 0 32 32] 135) :: (c1, blk (rows plc t0) 137) :: (sa, blk [sl ba 0 2 ca] 90) :: (ba, blk (ptrs [(p0, b0), (p1, b1)] ++ qa) 91) :: (p0, blk [sl b0 0 32 32] 135) :: (b0, blk (rows plc x) 137) :: (p1, blk [sl b1 0 32 32] 135) :: (b1, blk (rows plc y) 137) :: (M1 ++ M2)) w') (fun i => 80 - i) 0 ?e0 ?r0
  · exact ⟨t0, t0, [], [], _, _, [], [], by omega, by omega, Tb.start, Tb.start, by simp, by simp, rfl, rfl, rfl, OwnS.nil _ _ _, OwnS.nil _ _ _, H⟩
  · (clear H; rintro i E w1 ⟨x, y, al1, al2, v1, v2, M1, M2, hi, hi2, hx, hy, hl1, hl2, h5, h6, h7, hO1, hO2, H⟩; obtain ⟨u1, cc1, rfl⟩ := hO1.form; obtain ⟨u2, cc2, rfl⟩ := hO2.form; refine W_kn3 h5 h6 h7 ?_)
    refine W_seq ?_
    refine W_seq ?_
    refine W_region_l ?_
    refine WL_stepM rfl (R_mv) ?_
    refine WL_stepM rfl (R_mv) ?_
    refine WL_step rfl (R_len_slice Try.underlying55 rfl) ?_
    refine WL_step rfl (R_lt rfl rfl) ?_
    refine WL_stepM rfl (R_mv) ?_
    apply WL_andK 3 37 40 [(38, 40)] H
    case hc => rfl
    case h1 =>
      intro h50
      refine WL_guard_t rfl rfl ?_
      refine WL_stepM rfl (R_mv) ?_
      refine WL_guard_t rfl rfl ?_
      refine WL_step rfl (R_lt rfl rfl) ?_
      refine WL_stepM rfl (R_pk_t rfl) ?_
      refine WL_nil ?_
      exact ⟨(same_mov rfl (same_updo rfl (same_mov rfl Same.refl))), rfl, H⟩
    case h0 =>
      intro h50
      refine WL_guard_f rfl rfl (by decide) ?_
      refine WL_guard_f rfl rfl (by decide) ?_
      refine WL_stepM rfl (R_pk_f rfl) ?_
      refine WL_nil ?_
      exact ⟨(same_mov rfl (same_updo rfl (same_updo rfl Same.refl))), rfl, H⟩
    case h2 =>
      (clear H; intro E50 w50 H)
      refine WL_nil ?_
      refine W_if rfl (fun h64 => ?_) (fun h64 => ?_)
      · refine W_skip ?_
        refine W_seq ?_
        refine W_block ?_
        refine W_seq ?_
        ((obtain ⟨⟨ok, oh, oto, ori, olo, onn, x1, x2, x3, x4, x5, x6, x7, x8⟩, ho1⟩ : ∃ o, os[i]? = some o := ⟨_, List.getElem?_eq_getElem (by omega)⟩; obtain ⟨bz, oz, rfl, hc⟩ := ho.cell coC_len ho1; obtain ⟨R, hR, hR8⟩ : ∃ N : Nat, ori % 8 = (N : Int) ∧ N < 8 := ⟨(ori % 8).toNat, by omega, by omega⟩; have hx2 := hx.mono (show i + 1 ≤ i + 2 by omega) (by omega); have hy2 := hy.mono (show i + 1 ≤ i + 2 by omega) (by omega); rcases (by omega : oto % 2 = 0 ∨ oto % 2 = 1) with he | he)) <;> refine W_region_l ?_
        · refine WL_stepM rfl (R_mv) ?_
          refine WL_stepM rfl (R_mv) ?_
          refine WL_step rfl (R_indexAddr Try.underlying55 Try.sizeOf57 rfl rfl (by omega) (by omega) idx_castn) ?_
          refine WL_step rfl (R_loadA_cell (vs := [I ok, I oh, I oto, I ori, I olo, I onn, I x1, I x2, I x3, I x4, I x5, I x6, I x7, I x8]) Try.isAgg57 Try.sizeOf57 rfl (fun j v hj => H.cellN (hc j v hj) (by repeat' first | exact kNil | apply kCons | apply kApp | assumption | exact OwnS.keys (by assumption))) rfl) ?_
          (refine WL_effn rfl (E_alloc H Try.zeroValue57 rfl) ?_; clear H; intro c8 w74 hc8 H)
          (refine WL_effu rfl (E_storeA (vs := [I ok, I oh, I oto, I ori, I olo, I onn, I x1, I x2, I x3, I x4, I x5, I x6, I x7, I x8]) H Try.sizeOf57 rfl rfl (by simp [Value.oneCell']) .here (by simp)) ?_; clear H; intro w75 H; replace H : Hp w ((c8, blk [I ok, I oh, I oto, I ori, I olo, I onn, I x1, I x2, I x3, I x4, I x5, I x6, I x7, I x8] 57) :: (sb, blk [sl bb 0 2 cb] 90) :: (bb, blk (ptrs [(r0, c0), (r1, c1)] ++ qb) 91) :: (r0, blk [sl c0 0 32 32] 135) :: (c0, blk (rows plc x) 137) :: (r1, blk [sl c1 0 32 32] 135) :: (c1, blk (rows plc t0) 137) :: (sa, blk [sl ba 0 2 ca] 90) :: (ba, blk (ptrs [(p0, b0), (p1, b1)] ++ qa) 91) :: (p0, blk [sl b0 0 32 32] 135) :: (b0, blk (rows plc x) 137) :: (p1, blk [sl b1 0 32 32] 135) :: (b1, blk (rows plc y) 137) :: (M1 ++ M2)) w75 := H)
          refine WL_nil ?_
          refine W_seq ?_
          refine W_region_l ?_
          refine WL_step rfl (R_fieldAddr (off' := 2) Try.underlying57 rfl Try.sizeOf3 (by decide) rfl rfl) ?_
          refine WL_step rfl (R_load Try.isAgg3 rfl (H.get .here) rfl) ?_
          refine WL_step rfl (R_bits (r := 0) rfl rfl (by simp) ((and_mask_i64 1 2 (by decide) rfl (by decide)).trans he)) ?_
          refine WL_stepM rfl (R_as) ?_
          refine WL_nil ?_
          refine W_seq ?_
          refine W_region_l ?_
          refine WL_stepM rfl (R_mv) ?_
          refine WL_stepM rfl (R_as) ?_
          refine WL_nil ?_
          refine W_seq ?_
          refine W_seq ?_
          refine W_region_l ?_
          refine WL_stepM rfl (R_mv) ?_
          refine WL_step rfl (R_eq_f rfl rfl (by omega)) ?_
          refine WL_nil ?_
          refine W_cond_f rfl ?_
          refine W_skip ?_
          refine W_seq ?_
          refine W_region_l ?_
          refine WL_stepM rfl (R_as) ?_
          refine WL_nil ?_
          refine W_seq ?_
          refine W_seq ?_
          refine W_region_l ?_
          refine WL_stepM rfl (R_mv) ?_
          refine WL_step rfl (R_len_slice Try.underlying59 rfl) ?_
          refine WL_step rfl (R_gt rfl rfl) ?_
          refine WL_nil ?_
          refine W_if rfl (fun h108 => ?_) (fun h108 => ?_)
          · ((have _g : oto % 2 = 0 := he; have hRd := RdS.own hO1 (fun p hp => H.held p (by simp [hp])); obtain ⟨k, hk, hkl⟩ : ∃ k : Nat, (k : Int) = (oh % 65536) % al1.length ∧ k < al1.length := ⟨((oh % 65536) % al1.length).toNat, Int.toNat_of_nonneg (Int.emod_nonneg _ (by omega)), by have := Int.emod_lt_of_pos (oh % 65536) (b := (al1.length : Int)) (by omega); omega⟩; obtain ⟨b9, o9, rfl, hc1⟩ := hRd.cell (i := k) (u := I al1[k]) (by rw [List.getElem?_map, List.getElem?_eq_getElem hkl]; rfl))) <;> refine W_region_l ?_
            refine WL_stepM rfl (R_mv) ?_
            refine WL_step rfl (R_fieldAddr (off' := 1) Try.underlying57 rfl Try.sizeOf3 (by decide) rfl rfl) ?_
            refine WL_step rfl (R_load (v := I oh) Try.isAgg3 rfl (H.get .here) rfl) ?_
            refine WL_step rfl (R_bits rfl rfl (by simp) (and_mask_i64 16 65536 (by decide) rfl (by decide))) ?_
            refine WL_stepM rfl (R_mv) ?_
            refine WL_step rfl (R_len_slice Try.underlying59 rfl) ?_
            refine WL_step rfl (R_rem rfl rfl (by omega) ((rem_pos (by omega)).trans hk.symm)) ?_
            refine WL_step rfl (R_indexAddr Try.underlying59 Try.sizeOf3 rfl rfl (by omega) (by omega) idx_cast1) ?_
            refine WL_step rfl (R_load_cell Try.isAgg3 rfl hc1) ?_
            refine WL_stepM rfl (R_as) ?_
            refine WL_nil ?_
            refine W_seq ?_
            refine W_region_l ?_
            refine WL_step rfl (R_fieldAddr (off' := 5) Try.underlying57 rfl Try.sizeOf3 (by decide) rfl rfl) ?_
            refine WL_step rfl (R_load Try.isAgg3 rfl (H.get .here) rfl) ?_
            refine WL_step rfl (R_fieldAddr (off' := 3) Try.underlying57 rfl Try.sizeOf3 (by decide) rfl rfl) ?_
            refine WL_step rfl (R_load Try.isAgg3 rfl (H.get .here) rfl) ?_
            refine WL_step rfl (R_bits (r := (R : Int)) rfl rfl (by simp) ((and_mask_i64 3 8 (by decide) rfl (by decide)).trans hR)) ?_
            refine WL_step rfl (R_fieldAddr (off' := 4) Try.underlying57 rfl Try.sizeOf3 (by decide) rfl rfl) ?_
            refine WL_step rfl (R_load Try.isAgg3 rfl (H.get .here) rfl) ?_
            refine WL_step rfl (R_bits rfl rfl (by simp) (and_mask_i64 8 256 (by decide) rfl (by decide))) ?_
            refine WL_step rfl (R_buildL (places := [(0, 1), (1, 1), (2, 1), (3, 1), (4, 2)]) (vs := (cp onn (R : Int) 0 (olo % 256) 0 0).c) Try.underlying38 Try.typeInfo38 rfl rfl (by kernel_rfl) rfl rfl rfl) ?_
            (refine WL_effn rfl (E_allocK H) ?_; clear H; intro c12 w132 hc12 H)
            (refine WL_effu rfl (E_storeK (q := cp onn (R : Int) 0 (olo % 256) 0 0) H rfl rfl .here) ?_; clear H; intro w133 H; replace H : Hp w ((c12, blk (cp onn (R : Int) 0 (olo % 256) 0 0).c 38) :: (c8, blk [I ok, I oh, I oto, I ori, I olo, I onn, I x1, I x2, I x3, I x4, I x5, I x6, I x7, I x8] 57) :: (sb, blk [sl bb 0 2 cb] 90) :: (bb, blk (ptrs [(r0, c0), (r1, c1)] ++ qb) 91) :: (r0, blk [sl c0 0 32 32] 135) :: (c0, blk (rows plc x) 137) :: (r1, blk [sl c1 0 32 32] 135) :: (c1, blk (rows plc t0) 137) :: (sa, blk [sl ba 0 2 ca] 90) :: (ba, blk (ptrs [(p0, b0), (p1, b1)] ++ qa) 91) :: (p0, blk [sl b0 0 32 32] 135) :: (b0, blk (rows plc x) 137) :: (p1, blk [sl b1 0 32 32] 135) :: (b1, blk (rows plc y) 137) :: (M1 ++ M2)) w133 := H)
            refine WL_nil ?_
            refine W_seq ?_
            ((rcases (by omega : ok % 4 = 0 ∨ ok % 4 = 1 ∨ (ok % 4 ≠ 0 ∧ ok % 4 ≠ 1)) with hkk | hkk | hkk)) <;> refine W_region_l ?_
            · refine WL_step rfl (R_fieldAddr (off' := 0) Try.underlying57 rfl Try.sizeOf3 (by decide) rfl rfl) ?_
              refine WL_step rfl (R_load Try.isAgg3 rfl (H.get (.there .here)) rfl) ?_
              refine WL_step rfl (R_bits rfl rfl (by simp) (and_mask_i64 2 4 (by decide) rfl (by decide))) ?_
              refine WL_nil ?_
              refine W_block ?_
              refine W_seq ?_
              refine W_region_l ?_
              refine WL_step rfl (R_eq_t rfl rfl (by omega)) ?_
              refine WL_stepM rfl (R_as) ?_
              refine WL_nil ?_
              refine W_cond_t rfl ?_
              refine W_seq ?_
              ((have _g : oto % 2 = 0 := he; rcases first_free x with ⟨i3, a3, h3, hf3, hl3⟩ | hnf)) <;> refine W_region_l ?_
              · refine WL_stepM rfl (R_mv) ?_
                refine WL_stepM rfl (R_mv) ?_
                refine WL_step rfl (R_loadK (q := cp onn (R : Int) 0 (olo % 256) 0 0) rfl (H.get .here)) ?_
                (have _g : oto % 2 = 0 := he; refine WL_call rfl (R_call rfl Try.call18 rfl) (put_yes (j := 0) (i := i3) (r := R) (o := onn) (lo := 0) (n := olo % 256) (re := 0) (rn := 0) (Sp.from H (PB := [(p0, b0), (p1, b1)]) (ts := [x, y]) ba ca qa (inv2 hx.len hx.gn hy.len hy.gn) (fun _ hp => .tail _ (.tail _ (.tail _ (.tail _ (.tail _ (.tail _ (.tail _ (.tail _ (List.mem_append_left _ hp)))))))))) rfl rfl hR8 (by decide) (by omega) h3 hf3 hl3) ?_; rintro _ w153 ⟨rfl, H1⟩; replace H := H.seq H1 (okSeq_set (.there (.there (.there (.there (.there (.there (.there (.there (.there (.there (.there .here))))))))))) okSeq_nil); clear H1)
                refine WL_stepM rfl (R_mv) ?_
                refine WL_step rfl (R_extract rfl rfl) ?_
                refine WL_step rfl (R_extract rfl rfl) ?_
                refine WL_stepM rfl (R_as) ?_
                refine WL_stepM rfl (R_as) ?_
                refine WL_nil ?_
                refine W_seq ?_
                refine W_seq ?_
                refine W_region_l ?_
                refine WL_stepM rfl (R_mv) ?_
                refine WL_step rfl (R_eq_f rfl rfl (by omega)) ?_
                refine WL_nil ?_
                refine W_cond_f rfl ?_
                refine W_skip ?_
                refine W_seq ?_
                refine W_region_l ?_
                refine WL_stepM rfl (R_mv) ?_
                refine WL_step rfl (R_loadK (q := cp onn (R : Int) 0 (olo % 256) 0 0) rfl (H.get .here)) ?_
                (refine WL_call rfl (R_call rfl Try.call18 rfl) (put_yes (j := 0) (i := i3) (r := R) (o := onn) (lo := 0) (n := olo % 256) (re := 0) (rn := 0) (Sp.from H (PB := [(r0, c0), (r1, c1)]) (ts := [x, t0]) bb cb qb (inv2 hx.len hx.gn t0_len t0_g) (fun _ hp => .tail _ (.tail _ (List.mem_append_left _ hp)))) rfl rfl hR8 (by decide) (by omega) h3 hf3 hl3) ?_; rintro _ w172 ⟨rfl, H1⟩; replace H := H.seq H1 (okSeq_set (.there (.there (.there (.there (.there .here))))) okSeq_nil); clear H1)
                refine WL_stepM rfl (R_mv) ?_
                refine WL_step rfl (R_extract rfl rfl) ?_
                refine WL_step rfl (R_extract rfl rfl) ?_
                refine WL_stepM rfl (R_as) ?_
                refine WL_stepM rfl (R_as) ?_
                refine WL_nil ?_
                refine W_seq ?_
                refine W_seq ?_
                refine W_region_l ?_
                refine WL_stepM rfl (R_mv) ?_
                refine WL_stepM rfl (R_mv) ?_
                refine WL_step rfl (R_ne_f rfl rfl (by omega)) ?_
                refine WL_stepM rfl (R_mv) ?_
                refine WL_guard_t rfl rfl ?_
                refine WL_stepM rfl (R_mv) ?_
                refine WL_guard_t rfl rfl ?_
                refine WL_stepM rfl (R_mv) ?_
                refine WL_guard_t rfl rfl ?_
                refine WL_step rfl (R_ne_f rfl rfl (by omega)) ?_
                refine WL_stepM rfl (R_pk_f rfl) ?_
                refine WL_nil ?_
                refine W_cond_f rfl ?_
                refine W_skip ?_
                refine W_seq ?_
                refine W_region_l ?_
                refine WL_stepM rfl (R_mv) ?_
                refine WL_step rfl (R_eq_t rfl rfl (by omega)) ?_
                refine WL_nil ?_
                refine W_cond_t rfl ?_
                refine W_region_l ?_
                refine WL_stepM rfl (R_mv) ?_
                refine WL_stepM rfl (R_mv) ?_
                (have _g : oto % 2 = 0 := he; refine WL_effn rfl (E_buildOnes (vs := [I (i3 + 256 * a3.g : Nat)]) H Try.underlying59 Try.sizeOf3 Try.zeroValue3 rfl rfl (by decide) rfl rfl (by simp [Value.oneCell'])) ?_; clear H; intro cz w205 hcz H)
                (have _g : oto % 2 = 0 := he; refine WL_effm rfl (E_append (news := [I (i3 + 256 * a3.g : Nat)]) (m := 1) H (.there (.there (.there (.there (.there (.there (.there (.there (.there (.there (.there (.there (.there (.there (.there .here))))))))))))))) hO1 Try.underlying59 Try.typeInfo3 rfl rfl rfl rfl rfl rfl (src_one Try.underlying59 (H.get .here) rfl) (by omega) (by simp only [Try.t3]; omega)) ?_; clear H; intro vN MN w206 hON H; rw [show al1.map I ++ [I (i3 + 256 * a3.g : Nat)] = (al1 ++ [((i3 + 256 * a3.g : Nat) : Int)]).map I from by simp, show al1.length + 1 = (al1 ++ [((i3 + 256 * a3.g : Nat) : Int)]).length from by simp] at hON)
                refine WL_stepM rfl (R_as) ?_
                refine WL_nil ?_
                refine W_region_l ?_
                refine WL_stepM rfl (R_mv) ?_
                refine WL_step rfl (R_add rfl rfl (w_i64 (by omega))) ?_
                refine WL_stepM rfl (R_as) ?_
                refine WL_nil ?_
                (have _g : oto % 2 = 0 := he; have _g2 := hON; exact ⟨(same_mov rfl (same_updo rfl (same_mov rfl (same_mov rfl (same_updo rfl (same_updo rfl (same_mov rfl (same_mov rfl (same_updo rfl (same_mov rfl (same_mov rfl (same_updo rfl (same_mov rfl (same_mov rfl (same_mov rfl (same_updo rfl (same_mov rfl (same_mov rfl (same_mov rfl (same_mov rfl (same_updo rfl (same_updo rfl (same_mov rfl (same_updo rfl (same_updo rfl (same_mov rfl (same_updo rfl (same_mov rfl (same_mov rfl (same_mov rfl (same_updo rfl (same_updo rfl (same_mov rfl (same_updo rfl (same_updo rfl (same_mov rfl (same_mov rfl (same_mov rfl (same_updo rfl (same_updo rfl (same_updo rfl (same_updo rfl (same_updn (same_updo rfl (same_updo rfl (same_updo rfl (same_updo rfl (same_updo rfl (same_updo rfl (same_updo rfl (same_updo rfl (same_updo rfl (same_updo rfl (same_mov rfl (same_updo rfl (same_updo rfl (same_updo rfl (same_updo rfl (same_mov rfl (same_updo rfl (same_updo rfl (same_updo rfl (same_mov rfl (same_know rfl (same_updo rfl (same_updo rfl (same_mov rfl (same_mov rfl (same_updo rfl (same_mov rfl (same_mov rfl (same_mov rfl (same_mov rfl (same_updo rfl (same_updo rfl (same_updo rfl (same_updn (same_updo rfl (same_updo rfl (same_updo rfl (same_mov rfl (same_mov rfl (same_know rfl (same_in rfl (same_mov rfl (same_updo rfl (same_updo rfl (same_mov rfl (same_mov rfl same_ovr))))))))))))))))))))))))))))))))))))))))))))))))))))))))))))))))))))))))))))))))))))))))), i + 1, by omega, _, y, _, al2, _, _, MN, M2, by omega, by omega, (hx2.put h3 onn (R : Int) 0 (olo % 256)), hy2, (by rw [List.length_append]; simp; omega), by omega, rfl, rfl, rfl, hON, hO2, ((H.pop (by assumption)).pop (by assumption)).pop (by assumption)⟩)
              · refine WL_stepM rfl (R_mv) ?_
                refine WL_stepM rfl (R_mv) ?_
                refine WL_step rfl (R_loadK (q := cp onn (R : Int) 0 (olo % 256) 0 0) rfl (H.get .here)) ?_
                (have _g : oto % 2 = 0 := he; refine WL_call rfl (R_call rfl Try.call18 rfl) (put_full (j := 0) (r := R) (o := onn) (lo := 0) (n := olo % 256) (re := 0) (rn := 0) (Sp.from H (PB := [(p0, b0), (p1, b1)]) (ts := [x, y]) ba ca qa (inv2 hx.len hx.gn hy.len hy.gn) (fun _ hp => .tail _ (.tail _ (.tail _ (.tail _ (.tail _ (.tail _ (.tail _ (.tail _ (List.mem_append_left _ hp)))))))))) rfl rfl hR8 (by decide) (by omega) hnf) ?_; rintro _ w218 ⟨rfl, H1⟩; replace H := H.seq0 H1; clear H1)
                refine WL_stepM rfl (R_mv) ?_
                refine WL_step rfl (R_extract rfl rfl) ?_
                refine WL_step rfl (R_extract rfl rfl) ?_
                refine WL_stepM rfl (R_as) ?_
                refine WL_stepM rfl (R_as) ?_
                refine WL_nil ?_
                refine W_seq ?_
                refine W_seq ?_
                refine W_region_l ?_
                refine WL_stepM rfl (R_mv) ?_
                refine WL_step rfl (R_eq_f rfl rfl (by omega)) ?_
                refine WL_nil ?_
                refine W_cond_f rfl ?_
                refine W_skip ?_
                refine W_seq ?_
                refine W_region_l ?_
                refine WL_stepM rfl (R_mv) ?_
                refine WL_step rfl (R_loadK (q := cp onn (R : Int) 0 (olo % 256) 0 0) rfl (H.get .here)) ?_
                (refine WL_call rfl (R_call rfl Try.call18 rfl) (put_full (j := 0) (r := R) (o := onn) (lo := 0) (n := olo % 256) (re := 0) (rn := 0) (Sp.from H (PB := [(r0, c0), (r1, c1)]) (ts := [x, t0]) bb cb qb (inv2 hx.len hx.gn t0_len t0_g) (fun _ hp => .tail _ (.tail _ (List.mem_append_left _ hp)))) rfl rfl hR8 (by decide) (by omega) hnf) ?_; rintro _ w237 ⟨rfl, H1⟩; replace H := H.seq0 H1; clear H1)
                refine WL_stepM rfl (R_mv) ?_
                refine WL_step rfl (R_extract rfl rfl) ?_
                refine WL_step rfl (R_extract rfl rfl) ?_
                refine WL_stepM rfl (R_as) ?_
                refine WL_stepM rfl (R_as) ?_
                refine WL_nil ?_
                refine W_seq ?_
                refine W_seq ?_
                refine W_region_l ?_
                refine WL_stepM rfl (R_mv) ?_
                refine WL_stepM rfl (R_mv) ?_
                refine WL_step rfl (R_ne_f rfl rfl (by omega)) ?_
                refine WL_stepM rfl (R_mv) ?_
                refine WL_guard_t rfl rfl ?_
                refine WL_stepM rfl (R_mv) ?_
                refine WL_guard_t rfl rfl ?_
                refine WL_stepM rfl (R_mv) ?_
                refine WL_guard_t rfl rfl ?_
                refine WL_step rfl (R_ne_f rfl rfl (by omega)) ?_
                refine WL_stepM rfl (R_pk_f rfl) ?_
                refine WL_nil ?_
                refine W_cond_f rfl ?_
                refine W_skip ?_
                refine W_seq ?_
                refine W_region_l ?_
                refine WL_stepM rfl (R_mv) ?_
                refine WL_step rfl (R_eq_f rfl rfl (by omega)) ?_
                refine WL_nil ?_
                refine W_cond_f rfl ?_
                refine W_skip ?_
                refine W_region_l ?_
                refine WL_stepM rfl (R_mv) ?_
                refine WL_step rfl (R_add rfl rfl (w_i64 (by omega))) ?_
                refine WL_stepM rfl (R_as) ?_
                refine WL_nil ?_
                exact ⟨(same_mov rfl (same_updo rfl (same_mov rfl (same_updo rfl (same_mov rfl (same_mov rfl (same_updo rfl (same_mov rfl (same_mov rfl (same_mov rfl (same_updo rfl (same_mov rfl (same_mov rfl (same_mov rfl (same_mov rfl (same_updo rfl (same_updo rfl (same_mov rfl (same_updo rfl (same_updo rfl (same_mov rfl (same_updo rfl (same_mov rfl (same_mov rfl (same_mov rfl (same_updo rfl (same_updo rfl (same_mov rfl (same_updo rfl (same_updo rfl (same_mov rfl (same_mov rfl (same_mov rfl (same_updo rfl (same_updo rfl (same_updo rfl (same_updo rfl (same_updn (same_updo rfl (same_updo rfl (same_updo rfl (same_updo rfl (same_updo rfl (same_updo rfl (same_updo rfl (same_updo rfl (same_updo rfl (same_updo rfl (same_mov rfl (same_updo rfl (same_updo rfl (same_updo rfl (same_updo rfl (same_mov rfl (same_updo rfl (same_updo rfl (same_updo rfl (same_mov rfl (same_know rfl (same_updo rfl (same_updo rfl (same_mov rfl (same_mov rfl (same_updo rfl (same_mov rfl (same_mov rfl (same_mov rfl (same_mov rfl (same_updo rfl (same_updo rfl (same_updo rfl (same_updn (same_updo rfl (same_updo rfl (same_updo rfl (same_mov rfl (same_mov rfl (same_know rfl (same_in rfl (same_mov rfl (same_updo rfl (same_updo rfl (same_mov rfl (same_mov rfl same_ovr)))))))))))))))))))))))))))))))))))))))))))))))))))))))))))))))))))))))))))))))))))), i + 1, by omega, x, y, al1, al2, _, _, M1, M2, by omega, by omega, hx2, hy2, by omega, by omega, rfl, rfl, rfl, hO1, hO2, (H.pop (by assumption)).pop (by assumption)⟩
            · refine WL_step rfl (R_fieldAddr (off' := 0) Try.underlying57 rfl Try.sizeOf3 (by decide) rfl rfl) ?_
              refine WL_step rfl (R_load Try.isAgg3 rfl (H.get (.there .here)) rfl) ?_
              refine WL_step rfl (R_bits rfl rfl (by simp) (and_mask_i64 2 4 (by decide) rfl (by decide))) ?_
              refine WL_nil ?_
              refine W_block ?_
              refine W_seq ?_
              refine W_region_l ?_
              refine WL_step rfl (R_eq_f rfl rfl (by omega)) ?_
              refine WL_stepM rfl (R_as) ?_
              refine WL_nil ?_
              refine W_cond_f rfl ?_
              refine W_seq ?_
              refine W_region_l ?_
              refine WL_step rfl (R_eq_t rfl rfl (by omega)) ?_
              refine WL_stepM rfl (R_as) ?_
              refine WL_nil ?_
              refine W_cond_t rfl ?_
              refine W_seq ?_
              ((have _g : oto % 2 = 0 := he; rcases named x (al1[k]) with ⟨i3, a3, h3, hu3, hn3⟩ | hno3)) <;> refine W_region_l ?_
              · refine WL_stepM rfl (R_mv) ?_
                refine WL_stepM rfl (R_mv) ?_
                refine WL_stepM rfl (R_mv) ?_
                (have _g : oto % 2 = 0 := he; obtain ⟨o3, r3, l3, n3, hv3⟩ := hx.rt a3 (List.mem_of_getElem? h3) hu3; refine WL_call rfl (R_call rfl Try.call26 rfl) (show Ret Try.prog 26 #[ptr sa 0, I 0, I (al1[k])] _ (fun v w' => v = .tuple #[vk (cp o3 r3 l3 n3 0 0), I 0] ∧ Hp _ [] w') from by rw [hn3, ← hv3]; exact Caps.get_yes (j := 0) (Sp.from H (PB := [(p0, b0), (p1, b1)]) (ts := [x, y]) ba ca qa (inv2 hx.len hx.gn hy.len hy.gn) (fun _ hp => .tail _ (.tail _ (.tail _ (.tail _ (.tail _ (.tail _ (.tail _ (.tail _ (List.mem_append_left _ hp)))))))))) rfl rfl h3 hu3) ?_; rintro _ w296 ⟨rfl, H1⟩; replace H := H.seq0 H1; clear H1)
                refine WL_stepM rfl (R_mv) ?_
                refine WL_step rfl (R_extract rfl rfl) ?_
                refine WL_step rfl (R_extract rfl rfl) ?_
                (refine WL_effn rfl (E_allocK H) ?_; clear H; intro c17 w300 hc17 H)
                (refine WL_effu rfl (E_storeK (q := cp o3 r3 l3 n3 0 0) H rfl rfl .here) ?_; clear H; intro w301 H)
                refine WL_stepM rfl (R_as) ?_
                refine WL_nil ?_
                refine W_seq ?_
                refine W_region_l ?_
                refine WL_stepM rfl (R_mv) ?_
                refine WL_step rfl (R_eq_t rfl rfl (by omega)) ?_
                refine WL_nil ?_
                refine W_cond_t rfl ?_
                refine W_seq ?_
                refine W_region_l ?_
                refine WL_stepM rfl (R_mv) ?_
                refine WL_stepM rfl (R_mv) ?_
                (refine WL_call rfl (R_call rfl Try.call26 rfl) (show Ret Try.prog 26 #[ptr sb 0, I 0, I (al1[k])] _ (fun v w' => v = .tuple #[vk (cp o3 r3 l3 n3 0 0), I 0] ∧ Hp _ [] w') from by rw [hn3, ← hv3]; exact Caps.get_yes (j := 0) (Sp.from H (PB := [(r0, c0), (r1, c1)]) (ts := [x, t0]) bb cb qb (inv2 hx.len hx.gn t0_len t0_g) (fun _ hp => .tail _ (.tail _ (.tail _ (List.mem_append_left _ hp))))) rfl rfl h3 hu3) ?_; rintro _ w314 ⟨rfl, H1⟩; replace H := H.seq0 H1; clear H1)
                refine WL_stepM rfl (R_mv) ?_
                refine WL_step rfl (R_extract rfl rfl) ?_
                refine WL_step rfl (R_extract rfl rfl) ?_
                (refine WL_effn rfl (E_allocK H) ?_; clear H; intro c19 w318 hc19 H)
                (refine WL_effu rfl (E_storeK (q := cp o3 r3 l3 n3 0 0) H rfl rfl .here) ?_; clear H; intro w319 H)
                refine WL_stepM rfl (R_as) ?_
                refine WL_nil ?_
                refine W_seq ?_
                refine W_region_l ?_
                refine WL_step rfl (R_loadK (q := cp o3 r3 l3 n3 0 0) rfl (H.get (.there .here))) ?_
                refine WL_step rfl (R_loadK (q := cp o3 r3 l3 n3 0 0) rfl (H.get .here)) ?_
                refine WL_step rfl (R_ne_cap_f (o := o3) (r := r3) (lo := l3) (n := n3) (re := 0) (rn := 0) rfl rfl) ?_
                refine WL_stepM rfl (R_mv) ?_
                refine WL_guard_t rfl rfl ?_
                refine WL_stepM rfl (R_mv) ?_
                refine WL_guard_t rfl rfl ?_
                refine WL_stepM rfl (R_mv) ?_
                refine WL_guard_t rfl rfl ?_
                refine WL_step rfl (R_ne_f rfl rfl (by omega)) ?_
                refine WL_stepM rfl (R_pk_f rfl) ?_
                refine WL_nil ?_
                refine W_cond_f rfl ?_
                refine W_skip ?_
                refine W_region_l ?_
                refine WL_stepM rfl (R_mv) ?_
                refine WL_step rfl (R_add rfl rfl (w_i64 (by omega))) ?_
                refine WL_stepM rfl (R_as) ?_
                refine WL_nil ?_
                exact ⟨(same_mov rfl (same_updo rfl (same_mov rfl (same_mov rfl (same_updo rfl (same_mov rfl (same_mov rfl (same_mov rfl (same_updo rfl (same_updo rfl (same_updo rfl (same_mov rfl (same_updn (same_updo rfl (same_updo rfl (same_updo rfl (same_mov rfl (same_updo rfl (same_mov rfl (same_mov rfl (same_updo rfl (same_mov rfl (same_mov rfl (same_updn (same_updo rfl (same_updo rfl (same_updo rfl (same_mov rfl (same_updo rfl (same_mov rfl (same_mov rfl (same_mov rfl (same_mov rfl (same_updo rfl (same_mov rfl (same_updo rfl (same_updo rfl (same_updo rfl (same_updo rfl (same_updn (same_updo rfl (same_updo rfl (same_updo rfl (same_updo rfl (same_updo rfl (same_updo rfl (same_updo rfl (same_updo rfl (same_updo rfl (same_updo rfl (same_mov rfl (same_updo rfl (same_updo rfl (same_updo rfl (same_updo rfl (same_mov rfl (same_updo rfl (same_updo rfl (same_updo rfl (same_mov rfl (same_know rfl (same_updo rfl (same_updo rfl (same_mov rfl (same_mov rfl (same_updo rfl (same_mov rfl (same_mov rfl (same_mov rfl (same_mov rfl (same_updo rfl (same_updo rfl (same_updo rfl (same_updn (same_updo rfl (same_updo rfl (same_updo rfl (same_mov rfl (same_mov rfl (same_know rfl (same_in rfl (same_mov rfl (same_updo rfl (same_updo rfl (same_mov rfl (same_mov rfl same_ovr)))))))))))))))))))))))))))))))))))))))))))))))))))))))))))))))))))))))))))))))))))))), i + 1, by omega, x, y, al1, al2, _, _, M1, M2, by omega, by omega, hx2, hy2, by omega, by omega, rfl, rfl, rfl, hO1, hO2, (((H.pop (by assumption)).pop (by assumption)).pop (by assumption)).pop (by assumption)⟩
              · refine WL_stepM rfl (R_mv) ?_
                refine WL_stepM rfl (R_mv) ?_
                refine WL_stepM rfl (R_mv) ?_
                (have _g : oto % 2 = 0 := he; refine WL_call rfl (R_call rfl Try.call26 rfl) (Caps.get_no (j := 0) (Sp.from H (PB := [(p0, b0), (p1, b1)]) (ts := [x, y]) ba ca qa (inv2 hx.len hx.gn hy.len hy.gn) (fun _ hp => .tail _ (.tail _ (.tail _ (.tail _ (.tail _ (.tail _ (.tail _ (.tail _ (List.mem_append_left _ hp)))))))))) rfl rfl _ hno3) ?_; rintro _ w347 ⟨rfl, H1⟩; replace H := H.seq0 H1; clear H1)
                refine WL_stepM rfl (R_mv) ?_
                refine WL_step rfl (R_extract rfl rfl) ?_
                refine WL_step rfl (R_extract rfl rfl) ?_
                (refine WL_effn rfl (E_allocK H) ?_; clear H; intro c17 w351 hc17 H)
                (refine WL_effu rfl (E_storeK (q := zk) H rfl rfl .here) ?_; clear H; intro w352 H)
                refine WL_stepM rfl (R_as) ?_
                refine WL_nil ?_
                refine W_seq ?_
                refine W_region_l ?_
                refine WL_stepM rfl (R_mv) ?_
                refine WL_step rfl (R_eq_t rfl rfl (by omega)) ?_
                refine WL_nil ?_
                refine W_cond_t rfl ?_
                refine W_seq ?_
                refine W_region_l ?_
                refine WL_stepM rfl (R_mv) ?_
                refine WL_stepM rfl (R_mv) ?_
                (refine WL_call rfl (R_call rfl Try.call26 rfl) (Caps.get_no (j := 0) (Sp.from H (PB := [(r0, c0), (r1, c1)]) (ts := [x, t0]) bb cb qb (inv2 hx.len hx.gn t0_len t0_g) (fun _ hp => .tail _ (.tail _ (.tail _ (List.mem_append_left _ hp))))) rfl rfl _ hno3) ?_; rintro _ w365 ⟨rfl, H1⟩; replace H := H.seq0 H1; clear H1)
                refine WL_stepM rfl (R_mv) ?_
                refine WL_step rfl (R_extract rfl rfl) ?_
                refine WL_step rfl (R_extract rfl rfl) ?_
                (refine WL_effn rfl (E_allocK H) ?_; clear H; intro c19 w369 hc19 H)
                (refine WL_effu rfl (E_storeK (q := zk) H rfl rfl .here) ?_; clear H; intro w370 H)
                refine WL_stepM rfl (R_as) ?_
                refine WL_nil ?_
                refine W_seq ?_
                refine W_region_l ?_
                refine WL_step rfl (R_loadK (q := zk) rfl (H.get (.there .here))) ?_
                refine WL_step rfl (R_loadK (q := zk) rfl (H.get .here)) ?_
                refine WL_step rfl (R_ne_cap_f (o := 0) (r := 0) (lo := 0) (n := 0) (re := 0) (rn := 0) rfl rfl) ?_
                refine WL_stepM rfl (R_mv) ?_
                refine WL_guard_t rfl rfl ?_
                refine WL_stepM rfl (R_mv) ?_
                refine WL_guard_t rfl rfl ?_
                refine WL_stepM rfl (R_mv) ?_
                refine WL_guard_t rfl rfl ?_
                refine WL_step rfl (R_ne_f rfl rfl (by omega)) ?_
                refine WL_stepM rfl (R_pk_f rfl) ?_
                refine WL_nil ?_
                refine W_cond_f rfl ?_
                refine W_skip ?_
                refine W_region_l ?_
                refine WL_stepM rfl (R_mv) ?_
                refine WL_step rfl (R_add rfl rfl (w_i64 (by omega))) ?_
                refine WL_stepM rfl (R_as) ?_
                refine WL_nil ?_
                exact ⟨(same_mov rfl (same_updo rfl (same_mov rfl (same_mov rfl (same_updo rfl (same_mov rfl (same_mov rfl (same_mov rfl (same_updo rfl (same_updo rfl (same_updo rfl (same_mov rfl (same_updn (same_updo rfl (same_updo rfl (same_updo rfl (same_mov rfl (same_updo rfl (same_mov rfl (same_mov rfl (same_updo rfl (same_mov rfl (same_mov rfl (same_updn (same_updo rfl (same_updo rfl (same_updo rfl (same_mov rfl (same_updo rfl (same_mov rfl (same_mov rfl (same_mov rfl (same_mov rfl (same_updo rfl (same_mov rfl (same_updo rfl (same_updo rfl (same_updo rfl (same_updo rfl (same_updn (same_updo rfl (same_updo rfl (same_updo rfl (same_updo rfl (same_updo rfl (same_updo rfl (same_updo rfl (same_updo rfl (same_updo rfl (same_updo rfl (same_mov rfl (same_updo rfl (same_updo rfl (same_updo rfl (same_updo rfl (same_mov rfl (same_updo rfl (same_updo rfl (same_updo rfl (same_mov rfl (same_know rfl (same_updo rfl (same_updo rfl (same_mov rfl (same_mov rfl (same_updo rfl (same_mov rfl (same_mov rfl (same_mov rfl (same_mov rfl (same_updo rfl (same_updo rfl (same_updo rfl (same_updn (same_updo rfl (same_updo rfl (same_updo rfl (same_mov rfl (same_mov rfl (same_know rfl (same_in rfl (same_mov rfl (same_updo rfl (same_updo rfl (same_mov rfl (same_mov rfl same_ovr)))))))))))))))))))))))))))))))))))))))))))))))))))))))))))))))))))))))))))))))))))))), i + 1, by omega, x, y, al1, al2, _, _, M1, M2, by omega, by omega, hx2, hy2, by omega, by omega, rfl, rfl, rfl, hO1, hO2, (((H.pop (by assumption)).pop (by assumption)).pop (by assumption)).pop (by assumption)⟩
            · refine WL_step rfl (R_fieldAddr (off' := 0) Try.underlying57 rfl Try.sizeOf3 (by decide) rfl rfl) ?_
              refine WL_step rfl (R_load Try.isAgg3 rfl (H.get (.there .here)) rfl) ?_
              refine WL_step rfl (R_bits rfl rfl (by simp) (and_mask_i64 2 4 (by decide) rfl (by decide))) ?_
              refine WL_nil ?_
              refine W_block ?_
              refine W_seq ?_
              refine W_region_l ?_
              refine WL_step rfl (R_eq_f rfl rfl (by omega)) ?_
              refine WL_stepM rfl (R_as) ?_
              refine WL_nil ?_
              refine W_cond_f rfl ?_
              refine W_seq ?_
              refine W_region_l ?_
              refine WL_step rfl (R_eq_f rfl rfl (by omega)) ?_
              refine WL_stepM rfl (R_as) ?_
              refine WL_nil ?_
              refine W_cond_f rfl ?_
              refine W_seq ?_
              ((have _g : oto % 2 = 0 := he; rcases named x (al1[k]) with ⟨i3, a3, h3, hu3, hn3⟩ | hno3)) <;> refine W_region_l ?_
              · refine WL_stepM rfl (R_mv) ?_
                refine WL_stepM rfl (R_mv) ?_
                refine WL_stepM rfl (R_mv) ?_
                (have _g : oto % 2 = 0 := he; refine WL_call rfl (R_call rfl Try.call24 rfl) (show Ret Try.prog 24 #[ptr sa 0, I 0, I (al1[k])] _ (fun v w' => v = .tuple #[I 1, I 0] ∧ Hp _ [(b0, blk (rows plc (x.set i3 ⟨zk, a3.g + 1, false⟩)) 137)] w') from by rw [hn3]; exact revoke_none (j := 0) (Sp.from H (PB := [(p0, b0), (p1, b1)]) (ts := [x, y]) ba ca qa (inv2 hx.len hx.gn hy.len hy.gn) (fun _ hp => .tail _ (.tail _ (.tail _ (.tail _ (.tail _ (.tail _ (.tail _ (.tail _ (List.mem_append_left _ hp)))))))))) (by simp) rfl rfl h3 hu3 (hx.lo a3 (List.mem_of_getElem? h3)) (hz2 hx hy)) ?_; rintro _ w417 ⟨rfl, H1⟩; replace H := H.seq H1 (okSeq_set (.there (.there (.there (.there (.there (.there (.there (.there (.there (.there (.there .here))))))))))) okSeq_nil); clear H1)
                refine WL_stepM rfl (R_mv) ?_
                refine WL_step rfl (R_extract rfl rfl) ?_
                refine WL_step rfl (R_extract rfl rfl) ?_
                refine WL_stepM rfl (R_as) ?_
                refine WL_stepM rfl (R_as) ?_
                refine WL_nil ?_
                refine W_seq ?_
                refine W_region_l ?_
                refine WL_stepM rfl (R_mv) ?_
                refine WL_step rfl (R_eq_t rfl rfl (by omega)) ?_
                refine WL_nil ?_
                refine W_cond_t rfl ?_
                refine W_seq ?_
                refine W_region_l ?_
                refine WL_stepM rfl (R_mv) ?_
                refine WL_stepM rfl (R_mv) ?_
                (refine WL_call rfl (R_call rfl Try.call24 rfl) (show Ret Try.prog 24 #[ptr sb 0, I 0, I (al1[k])] _ (fun v w' => v = .tuple #[I 1, I 0] ∧ Hp _ [(c0, blk (rows plc (x.set i3 ⟨zk, a3.g + 1, false⟩)) 137)] w') from by rw [hn3]; exact revoke_none (j := 0) (Sp.from H (PB := [(r0, c0), (r1, c1)]) (ts := [x, t0]) bb cb qb (inv2 hx.len hx.gn t0_len t0_g) (fun _ hp => .tail _ (.tail _ (List.mem_append_left _ hp)))) (by simp) rfl rfl h3 hu3 (hx.lo a3 (List.mem_of_getElem? h3)) (hz2 hx Tb.start)) ?_; rintro _ w434 ⟨rfl, H1⟩; replace H := H.seq H1 (okSeq_set (.there (.there (.there (.there (.there .here))))) okSeq_nil); clear H1)
                refine WL_stepM rfl (R_mv) ?_
                refine WL_step rfl (R_extract rfl rfl) ?_
                refine WL_step rfl (R_extract rfl rfl) ?_
                refine WL_stepM rfl (R_as) ?_
                refine WL_stepM rfl (R_as) ?_
                refine WL_nil ?_
                refine W_seq ?_
                refine W_region_l ?_
                refine WL_stepM rfl (R_mv) ?_
                refine WL_stepM rfl (R_mv) ?_
                refine WL_step rfl (R_ne_f rfl rfl (by omega)) ?_
                refine WL_stepM rfl (R_mv) ?_
                refine WL_guard_t rfl rfl ?_
                refine WL_stepM rfl (R_mv) ?_
                refine WL_guard_t rfl rfl ?_
                refine WL_stepM rfl (R_mv) ?_
                refine WL_guard_t rfl rfl ?_
                refine WL_step rfl (R_ne_f rfl rfl (by omega)) ?_
                refine WL_stepM rfl (R_pk_f rfl) ?_
                refine WL_nil ?_
                refine W_cond_f rfl ?_
                refine W_skip ?_
                refine W_region_l ?_
                refine WL_stepM rfl (R_mv) ?_
                refine WL_step rfl (R_add rfl rfl (w_i64 (by omega))) ?_
                refine WL_stepM rfl (R_as) ?_
                refine WL_nil ?_
                (have _g : oto % 2 = 0 := he; have _g2 := hn3; exact ⟨(same_mov rfl (same_updo rfl (same_mov rfl (same_mov rfl (same_updo rfl (same_mov rfl (same_mov rfl (same_mov rfl (same_updo rfl (same_mov rfl (same_mov rfl (same_mov rfl (same_mov rfl (same_updo rfl (same_updo rfl (same_mov rfl (same_updo rfl (same_mov rfl (same_mov rfl (same_updo rfl (same_mov rfl (same_mov rfl (same_mov rfl (same_updo rfl (same_updo rfl (same_mov rfl (same_updo rfl (same_mov rfl (same_mov rfl (same_mov rfl (same_mov rfl (same_updo rfl (same_mov rfl (same_updo rfl (same_updo rfl (same_updo rfl (same_updo rfl (same_updn (same_updo rfl (same_updo rfl (same_updo rfl (same_updo rfl (same_updo rfl (same_updo rfl (same_updo rfl (same_updo rfl (same_updo rfl (same_updo rfl (same_mov rfl (same_updo rfl (same_updo rfl (same_updo rfl (same_updo rfl (same_mov rfl (same_updo rfl (same_updo rfl (same_updo rfl (same_mov rfl (same_know rfl (same_updo rfl (same_updo rfl (same_mov rfl (same_mov rfl (same_updo rfl (same_mov rfl (same_mov rfl (same_mov rfl (same_mov rfl (same_updo rfl (same_updo rfl (same_updo rfl (same_updn (same_updo rfl (same_updo rfl (same_updo rfl (same_mov rfl (same_mov rfl (same_know rfl (same_in rfl (same_mov rfl (same_updo rfl (same_updo rfl (same_mov rfl (same_mov rfl same_ovr)))))))))))))))))))))))))))))))))))))))))))))))))))))))))))))))))))))))))))))))))))), i + 1, by omega, _, y, al1, al2, _, _, M1, M2, by omega, by omega, (hx.drop h3 (by omega)), hy2, by omega, by omega, rfl, rfl, rfl, hO1, hO2, (H.pop (by assumption)).pop (by assumption)⟩)
              · refine WL_stepM rfl (R_mv) ?_
                refine WL_stepM rfl (R_mv) ?_
                refine WL_stepM rfl (R_mv) ?_
                (have _g : oto % 2 = 0 := he; refine WL_call rfl (R_call rfl Try.call24 rfl) (revoke_no (j := 0) (Sp.from H (PB := [(p0, b0), (p1, b1)]) (ts := [x, y]) ba ca qa (inv2 hx.len hx.gn hy.len hy.gn) (fun _ hp => .tail _ (.tail _ (.tail _ (.tail _ (.tail _ (.tail _ (.tail _ (.tail _ (List.mem_append_left _ hp)))))))))) rfl rfl hno3) ?_; rintro _ w466 ⟨rfl, H1⟩; replace H := H.seq0 H1; clear H1)
                refine WL_stepM rfl (R_mv) ?_
                refine WL_step rfl (R_extract rfl rfl) ?_
                refine WL_step rfl (R_extract rfl rfl) ?_
                refine WL_stepM rfl (R_as) ?_
                refine WL_stepM rfl (R_as) ?_
                refine WL_nil ?_
                refine W_seq ?_
                refine W_region_l ?_
                refine WL_stepM rfl (R_mv) ?_
                refine WL_step rfl (R_eq_t rfl rfl (by omega)) ?_
                refine WL_nil ?_
                refine W_cond_t rfl ?_
                refine W_seq ?_
                refine W_region_l ?_
                refine WL_stepM rfl (R_mv) ?_
                refine WL_stepM rfl (R_mv) ?_
                (refine WL_call rfl (R_call rfl Try.call24 rfl) (revoke_no (j := 0) (Sp.from H (PB := [(r0, c0), (r1, c1)]) (ts := [x, t0]) bb cb qb (inv2 hx.len hx.gn t0_len t0_g) (fun _ hp => .tail _ (.tail _ (List.mem_append_left _ hp)))) rfl rfl hno3) ?_; rintro _ w483 ⟨rfl, H1⟩; replace H := H.seq0 H1; clear H1)
                refine WL_stepM rfl (R_mv) ?_
                refine WL_step rfl (R_extract rfl rfl) ?_
                refine WL_step rfl (R_extract rfl rfl) ?_
                refine WL_stepM rfl (R_as) ?_
                refine WL_stepM rfl (R_as) ?_
                refine WL_nil ?_
                refine W_seq ?_
                refine W_region_l ?_
                refine WL_stepM rfl (R_mv) ?_
                refine WL_stepM rfl (R_mv) ?_
                refine WL_step rfl (R_ne_f rfl rfl (by omega)) ?_
                refine WL_stepM rfl (R_mv) ?_
                refine WL_guard_t rfl rfl ?_
                refine WL_stepM rfl (R_mv) ?_
                refine WL_guard_t rfl rfl ?_
                refine WL_stepM rfl (R_mv) ?_
                refine WL_guard_t rfl rfl ?_
                refine WL_step rfl (R_ne_f rfl rfl (by omega)) ?_
                refine WL_stepM rfl (R_pk_f rfl) ?_
                refine WL_nil ?_
                refine W_cond_f rfl ?_
                refine W_skip ?_
                refine W_region_l ?_
                refine WL_stepM rfl (R_mv) ?_
                refine WL_step rfl (R_add rfl rfl (w_i64 (by omega))) ?_
                refine WL_stepM rfl (R_as) ?_
                refine WL_nil ?_
                exact ⟨(same_mov rfl (same_updo rfl (same_mov rfl (same_mov rfl (same_updo rfl (same_mov rfl (same_mov rfl (same_mov rfl (same_updo rfl (same_mov rfl (same_mov rfl (same_mov rfl (same_mov rfl (same_updo rfl (same_updo rfl (same_mov rfl (same_updo rfl (same_mov rfl (same_mov rfl (same_updo rfl (same_mov rfl (same_mov rfl (same_mov rfl (same_updo rfl (same_updo rfl (same_mov rfl (same_updo rfl (same_mov rfl (same_mov rfl (same_mov rfl (same_mov rfl (same_updo rfl (same_mov rfl (same_updo rfl (same_updo rfl (same_updo rfl (same_updo rfl (same_updn (same_updo rfl (same_updo rfl (same_updo rfl (same_updo rfl (same_updo rfl (same_updo rfl (same_updo rfl (same_updo rfl (same_updo rfl (same_updo rfl (same_mov rfl (same_updo rfl (same_updo rfl (same_updo rfl (same_updo rfl (same_mov rfl (same_updo rfl (same_updo rfl (same_updo rfl (same_mov rfl (same_know rfl (same_updo rfl (same_updo rfl (same_mov rfl (same_mov rfl (same_updo rfl (same_mov rfl (same_mov rfl (same_mov rfl (same_mov rfl (same_updo rfl (same_updo rfl (same_updo rfl (same_updn (same_updo rfl (same_updo rfl (same_updo rfl (same_mov rfl (same_mov rfl (same_know rfl (same_in rfl (same_mov rfl (same_updo rfl (same_updo rfl (same_mov rfl (same_mov rfl same_ovr)))))))))))))))))))))))))))))))))))))))))))))))))))))))))))))))))))))))))))))))))))), i + 1, by omega, x, y, al1, al2, _, _, M1, M2, by omega, by omega, hx2, hy2, by omega, by omega, rfl, rfl, rfl, hO1, hO2, (H.pop (by assumption)).pop (by assumption)⟩
          · refine W_skip ?_
            refine W_seq ?_
            refine W_region_l ?_
            refine WL_step rfl (R_fieldAddr (off' := 5) Try.underlying57 rfl Try.sizeOf3 (by decide) rfl rfl) ?_
            refine WL_step rfl (R_load Try.isAgg3 rfl (H.get .here) rfl) ?_
            refine WL_step rfl (R_fieldAddr (off' := 3) Try.underlying57 rfl Try.sizeOf3 (by decide) rfl rfl) ?_
            refine WL_step rfl (R_load Try.isAgg3 rfl (H.get .here) rfl) ?_
            refine WL_step rfl (R_bits (r := (R : Int)) rfl rfl (by simp) ((and_mask_i64 3 8 (by decide) rfl (by decide)).trans hR)) ?_
            refine WL_step rfl (R_fieldAddr (off' := 4) Try.underlying57 rfl Try.sizeOf3 (by decide) rfl rfl) ?_
            refine WL_step rfl (R_load Try.isAgg3 rfl (H.get .here) rfl) ?_
            refine WL_step rfl (R_bits rfl rfl (by simp) (and_mask_i64 8 256 (by decide) rfl (by decide))) ?_
            refine WL_step rfl (R_buildL (places := [(0, 1), (1, 1), (2, 1), (3, 1), (4, 2)]) (vs := (cp onn (R : Int) 0 (olo % 256) 0 0).c) Try.underlying38 Try.typeInfo38 rfl rfl (by kernel_rfl) rfl rfl rfl) ?_
            (refine WL_effn rfl (E_allocK H) ?_; clear H; intro c12 w524 hc12 H)
            (refine WL_effu rfl (E_storeK (q := cp onn (R : Int) 0 (olo % 256) 0 0) H rfl rfl .here) ?_; clear H; intro w525 H; replace H : Hp w ((c12, blk (cp onn (R : Int) 0 (olo % 256) 0 0).c 38) :: (c8, blk [I ok, I oh, I oto, I ori, I olo, I onn, I x1, I x2, I x3, I x4, I x5, I x6, I x7, I x8] 57) :: (sb, blk [sl bb 0 2 cb] 90) :: (bb, blk (ptrs [(r0, c0), (r1, c1)] ++ qb) 91) :: (r0, blk [sl c0 0 32 32] 135) :: (c0, blk (rows plc x) 137) :: (r1, blk [sl c1 0 32 32] 135) :: (c1, blk (rows plc t0) 137) :: (sa, blk [sl ba 0 2 ca] 90) :: (ba, blk (ptrs [(p0, b0), (p1, b1)] ++ qa) 91) :: (p0, blk [sl b0 0 32 32] 135) :: (b0, blk (rows plc x) 137) :: (p1, blk [sl b1 0 32 32] 135) :: (b1, blk (rows plc y) 137) :: (M1 ++ M2)) w525 := H)
            refine WL_nil ?_
            refine W_seq ?_
            ((rcases (by omega : ok % 4 = 0 ∨ ok % 4 = 1 ∨ (ok % 4 ≠ 0 ∧ ok % 4 ≠ 1)) with hkk | hkk | hkk)) <;> refine W_region_l ?_
            · refine WL_step rfl (R_fieldAddr (off' := 0) Try.underlying57 rfl Try.sizeOf3 (by decide) rfl rfl) ?_
              refine WL_step rfl (R_load Try.isAgg3 rfl (H.get (.there .here)) rfl) ?_
              refine WL_step rfl (R_bits rfl rfl (by simp) (and_mask_i64 2 4 (by decide) rfl (by decide))) ?_
              refine WL_nil ?_
              refine W_block ?_
              refine W_seq ?_
              refine W_region_l ?_
              refine WL_step rfl (R_eq_t rfl rfl (by omega)) ?_
              refine WL_stepM rfl (R_as) ?_
              refine WL_nil ?_
              refine W_cond_t rfl ?_
              refine W_seq ?_
              ((have _g : oto % 2 = 0 := he; rcases first_free x with ⟨i3, a3, h3, hf3, hl3⟩ | hnf)) <;> refine W_region_l ?_
              · refine WL_stepM rfl (R_mv) ?_
                refine WL_stepM rfl (R_mv) ?_
                refine WL_step rfl (R_loadK (q := cp onn (R : Int) 0 (olo % 256) 0 0) rfl (H.get .here)) ?_
                (have _g : oto % 2 = 0 := he; refine WL_call rfl (R_call rfl Try.call18 rfl) (put_yes (j := 0) (i := i3) (r := R) (o := onn) (lo := 0) (n := olo % 256) (re := 0) (rn := 0) (Sp.from H (PB := [(p0, b0), (p1, b1)]) (ts := [x, y]) ba ca qa (inv2 hx.len hx.gn hy.len hy.gn) (fun _ hp => .tail _ (.tail _ (.tail _ (.tail _ (.tail _ (.tail _ (.tail _ (.tail _ (List.mem_append_left _ hp)))))))))) rfl rfl hR8 (by decide) (by omega) h3 hf3 hl3) ?_; rintro _ w545 ⟨rfl, H1⟩; replace H := H.seq H1 (okSeq_set (.there (.there (.there (.there (.there (.there (.there (.there (.there (.there (.there .here))))))))))) okSeq_nil); clear H1)
                refine WL_stepM rfl (R_mv) ?_
                refine WL_step rfl (R_extract rfl rfl) ?_
                refine WL_step rfl (R_extract rfl rfl) ?_
                refine WL_stepM rfl (R_as) ?_
                refine WL_stepM rfl (R_as) ?_
                refine WL_nil ?_
                refine W_seq ?_
                refine W_seq ?_
                refine W_region_l ?_
                refine WL_stepM rfl (R_mv) ?_
                refine WL_step rfl (R_eq_f rfl rfl (by omega)) ?_
                refine WL_nil ?_
                refine W_cond_f rfl ?_
                refine W_skip ?_
                refine W_seq ?_
                refine W_region_l ?_
                refine WL_stepM rfl (R_mv) ?_
                refine WL_step rfl (R_loadK (q := cp onn (R : Int) 0 (olo % 256) 0 0) rfl (H.get .here)) ?_
                (refine WL_call rfl (R_call rfl Try.call18 rfl) (put_yes (j := 0) (i := i3) (r := R) (o := onn) (lo := 0) (n := olo % 256) (re := 0) (rn := 0) (Sp.from H (PB := [(r0, c0), (r1, c1)]) (ts := [x, t0]) bb cb qb (inv2 hx.len hx.gn t0_len t0_g) (fun _ hp => .tail _ (.tail _ (List.mem_append_left _ hp)))) rfl rfl hR8 (by decide) (by omega) h3 hf3 hl3) ?_; rintro _ w564 ⟨rfl, H1⟩; replace H := H.seq H1 (okSeq_set (.there (.there (.there (.there (.there .here))))) okSeq_nil); clear H1)
                refine WL_stepM rfl (R_mv) ?_
                refine WL_step rfl (R_extract rfl rfl) ?_
                refine WL_step rfl (R_extract rfl rfl) ?_
                refine WL_stepM rfl (R_as) ?_
                refine WL_stepM rfl (R_as) ?_
                refine WL_nil ?_
                refine W_seq ?_
                refine W_seq ?_
                refine W_region_l ?_
                refine WL_stepM rfl (R_mv) ?_
                refine WL_stepM rfl (R_mv) ?_
                refine WL_step rfl (R_ne_f rfl rfl (by omega)) ?_
                refine WL_stepM rfl (R_mv) ?_
                refine WL_guard_t rfl rfl ?_
                refine WL_stepM rfl (R_mv) ?_
                refine WL_guard_t rfl rfl ?_
                refine WL_stepM rfl (R_mv) ?_
                refine WL_guard_t rfl rfl ?_
                refine WL_step rfl (R_ne_f rfl rfl (by omega)) ?_
                refine WL_stepM rfl (R_pk_f rfl) ?_
                refine WL_nil ?_
                refine W_cond_f rfl ?_
                refine W_skip ?_
                refine W_seq ?_
                refine W_region_l ?_
                refine WL_stepM rfl (R_mv) ?_
                refine WL_step rfl (R_eq_t rfl rfl (by omega)) ?_
                refine WL_nil ?_
                refine W_cond_t rfl ?_
                refine W_region_l ?_
                refine WL_stepM rfl (R_mv) ?_
                refine WL_stepM rfl (R_mv) ?_
                (have _g : oto % 2 = 0 := he; refine WL_effn rfl (E_buildOnes (vs := [I (i3 + 256 * a3.g : Nat)]) H Try.underlying59 Try.sizeOf3 Try.zeroValue3 rfl rfl (by decide) rfl rfl (by simp [Value.oneCell'])) ?_; clear H; intro cz w597 hcz H)
                (have _g : oto % 2 = 0 := he; refine WL_effm rfl (E_append (news := [I (i3 + 256 * a3.g : Nat)]) (m := 1) H (.there (.there (.there (.there (.there (.there (.there (.there (.there (.there (.there (.there (.there (.there (.there .here))))))))))))))) hO1 Try.underlying59 Try.typeInfo3 rfl rfl rfl rfl rfl rfl (src_one Try.underlying59 (H.get .here) rfl) (by omega) (by simp only [Try.t3]; omega)) ?_; clear H; intro vN MN w598 hON H; rw [show al1.map I ++ [I (i3 + 256 * a3.g : Nat)] = (al1 ++ [((i3 + 256 * a3.g : Nat) : Int)]).map I from by simp, show al1.length + 1 = (al1 ++ [((i3 + 256 * a3.g : Nat) : Int)]).length from by simp] at hON)
                refine WL_stepM rfl (R_as) ?_
                refine WL_nil ?_
                refine W_region_l ?_
                refine WL_stepM rfl (R_mv) ?_
                refine WL_step rfl (R_add rfl rfl (w_i64 (by omega))) ?_
                refine WL_stepM rfl (R_as) ?_
                refine WL_nil ?_
                (have _g : oto % 2 = 0 := he; have _g2 := hON; exact ⟨(same_mov rfl (same_updo rfl (same_mov rfl (same_mov rfl (same_updo rfl (same_updo rfl (same_mov rfl (same_mov rfl (same_updo rfl (same_mov rfl (same_mov rfl (same_updo rfl (same_mov rfl (same_mov rfl (same_mov rfl (same_updo rfl (same_mov rfl (same_mov rfl (same_mov rfl (same_mov rfl (same_updo rfl (same_updo rfl (same_mov rfl (same_updo rfl (same_updo rfl (same_mov rfl (same_updo rfl (same_mov rfl (same_mov rfl (same_mov rfl (same_updo rfl (same_updo rfl (same_mov rfl (same_updo rfl (same_updo rfl (same_mov rfl (same_mov rfl (same_mov rfl (same_updo rfl (same_updo rfl (same_updo rfl (same_updo rfl (same_updn (same_updo rfl (same_updo rfl (same_updo rfl (same_updo rfl (same_updo rfl (same_updo rfl (same_updo rfl (same_updo rfl (same_updo rfl (same_updo rfl (same_know rfl (same_updo rfl (same_updo rfl (same_mov rfl (same_mov rfl (same_updo rfl (same_mov rfl (same_mov rfl (same_mov rfl (same_mov rfl (same_updo rfl (same_updo rfl (same_updo rfl (same_updn (same_updo rfl (same_updo rfl (same_updo rfl (same_mov rfl (same_mov rfl (same_know rfl (same_in rfl (same_mov rfl (same_updo rfl (same_updo rfl (same_mov rfl (same_mov rfl same_ovr))))))))))))))))))))))))))))))))))))))))))))))))))))))))))))))))))))))))))))))), i + 1, by omega, _, y, _, al2, _, _, MN, M2, by omega, by omega, (hx2.put h3 onn (R : Int) 0 (olo % 256)), hy2, (by rw [List.length_append]; simp; omega), by omega, rfl, rfl, rfl, hON, hO2, ((H.pop (by assumption)).pop (by assumption)).pop (by assumption)⟩)
              · refine WL_stepM rfl (R_mv) ?_
                refine WL_stepM rfl (R_mv) ?_
                refine WL_step rfl (R_loadK (q := cp onn (R : Int) 0 (olo % 256) 0 0) rfl (H.get .here)) ?_
                (have _g : oto % 2 = 0 := he; refine WL_call rfl (R_call rfl Try.call18 rfl) (put_full (j := 0) (r := R) (o := onn) (lo := 0) (n := olo % 256) (re := 0) (rn := 0) (Sp.from H (PB := [(p0, b0), (p1, b1)]) (ts := [x, y]) ba ca qa (inv2 hx.len hx.gn hy.len hy.gn) (fun _ hp => .tail _ (.tail _ (.tail _ (.tail _ (.tail _ (.tail _ (.tail _ (.tail _ (List.mem_append_left _ hp)))))))))) rfl rfl hR8 (by decide) (by omega) hnf) ?_; rintro _ w610 ⟨rfl, H1⟩; replace H := H.seq0 H1; clear H1)
                refine WL_stepM rfl (R_mv) ?_
                refine WL_step rfl (R_extract rfl rfl) ?_
                refine WL_step rfl (R_extract rfl rfl) ?_
                refine WL_stepM rfl (R_as) ?_
                refine WL_stepM rfl (R_as) ?_
                refine WL_nil ?_
                refine W_seq ?_
                refine W_seq ?_
                refine W_region_l ?_
                refine WL_stepM rfl (R_mv) ?_
                refine WL_step rfl (R_eq_f rfl rfl (by omega)) ?_
                refine WL_nil ?_
                refine W_cond_f rfl ?_
                refine W_skip ?_
                refine W_seq ?_
                refine W_region_l ?_
                refine WL_stepM rfl (R_mv) ?_
                refine WL_step rfl (R_loadK (q := cp onn (R : Int) 0 (olo % 256) 0 0) rfl (H.get .here)) ?_
                (refine WL_call rfl (R_call rfl Try.call18 rfl) (put_full (j := 0) (r := R) (o := onn) (lo := 0) (n := olo % 256) (re := 0) (rn := 0) (Sp.from H (PB := [(r0, c0), (r1, c1)]) (ts := [x, t0]) bb cb qb (inv2 hx.len hx.gn t0_len t0_g) (fun _ hp => .tail _ (.tail _ (List.mem_append_left _ hp)))) rfl rfl hR8 (by decide) (by omega) hnf) ?_; rintro _ w629 ⟨rfl, H1⟩; replace H := H.seq0 H1; clear H1)
                refine WL_stepM rfl (R_mv) ?_
                refine WL_step rfl (R_extract rfl rfl) ?_
                refine WL_step rfl (R_extract rfl rfl) ?_
                refine WL_stepM rfl (R_as) ?_
                refine WL_stepM rfl (R_as) ?_
                refine WL_nil ?_
                refine W_seq ?_
                refine W_seq ?_
                refine W_region_l ?_
                refine WL_stepM rfl (R_mv) ?_
                refine WL_stepM rfl (R_mv) ?_
                refine WL_step rfl (R_ne_f rfl rfl (by omega)) ?_
                refine WL_stepM rfl (R_mv) ?_
                refine WL_guard_t rfl rfl ?_
                refine WL_stepM rfl (R_mv) ?_
                refine WL_guard_t rfl rfl ?_
                refine WL_stepM rfl (R_mv) ?_
                refine WL_guard_t rfl rfl ?_
                refine WL_step rfl (R_ne_f rfl rfl (by omega)) ?_
                refine WL_stepM rfl (R_pk_f rfl) ?_
                refine WL_nil ?_
                refine W_cond_f rfl ?_
                refine W_skip ?_
                refine W_seq ?_
                refine W_region_l ?_
                refine WL_stepM rfl (R_mv) ?_
                refine WL_step rfl (R_eq_f rfl rfl (by omega)) ?_
                refine WL_nil ?_
                refine W_cond_f rfl ?_
                refine W_skip ?_
                refine W_region_l ?_
                refine WL_stepM rfl (R_mv) ?_
                refine WL_step rfl (R_add rfl rfl (w_i64 (by omega))) ?_
                refine WL_stepM rfl (R_as) ?_
                refine WL_nil ?_
                exact ⟨(same_mov rfl (same_updo rfl (same_mov rfl (same_updo rfl (same_mov rfl (same_mov rfl (same_updo rfl (same_mov rfl (same_mov rfl (same_mov rfl (same_updo rfl (same_mov rfl (same_mov rfl (same_mov rfl (same_mov rfl (same_updo rfl (same_updo rfl (same_mov rfl (same_updo rfl (same_updo rfl (same_mov rfl (same_updo rfl (same_mov rfl (same_mov rfl (same_mov rfl (same_updo rfl (same_updo rfl (same_mov rfl (same_updo rfl (same_updo rfl (same_mov rfl (same_mov rfl (same_mov rfl (same_updo rfl (same_updo rfl (same_updo rfl (same_updo rfl (same_updn (same_updo rfl (same_updo rfl (same_updo rfl (same_updo rfl (same_updo rfl (same_updo rfl (same_updo rfl (same_updo rfl (same_updo rfl (same_updo rfl (same_know rfl (same_updo rfl (same_updo rfl (same_mov rfl (same_mov rfl (same_updo rfl (same_mov rfl (same_mov rfl (same_mov rfl (same_mov rfl (same_updo rfl (same_updo rfl (same_updo rfl (same_updn (same_updo rfl (same_updo rfl (same_updo rfl (same_mov rfl (same_mov rfl (same_know rfl (same_in rfl (same_mov rfl (same_updo rfl (same_updo rfl (same_mov rfl (same_mov rfl same_ovr)))))))))))))))))))))))))))))))))))))))))))))))))))))))))))))))))))))))))), i + 1, by omega, x, y, al1, al2, _, _, M1, M2, by omega, by omega, hx2, hy2, by omega, by omega, rfl, rfl, rfl, hO1, hO2, (H.pop (by assumption)).pop (by assumption)⟩
            · refine WL_step rfl (R_fieldAddr (off' := 0) Try.underlying57 rfl Try.sizeOf3 (by decide) rfl rfl) ?_
              refine WL_step rfl (R_load Try.isAgg3 rfl (H.get (.there .here)) rfl) ?_
              refine WL_step rfl (R_bits rfl rfl (by simp) (and_mask_i64 2 4 (by decide) rfl (by decide))) ?_
              refine WL_nil ?_
              refine W_block ?_
              refine W_seq ?_
              refine W_region_l ?_
              refine WL_step rfl (R_eq_f rfl rfl (by omega)) ?_
              refine WL_stepM rfl (R_as) ?_
              refine WL_nil ?_
              refine W_cond_f rfl ?_
              refine W_seq ?_
              refine W_region_l ?_
              refine WL_step rfl (R_eq_t rfl rfl (by omega)) ?_
              refine WL_stepM rfl (R_as) ?_
              refine WL_nil ?_
              refine W_cond_t rfl ?_
              refine W_seq ?_
              ((have _g : oto % 2 = 0 := he; have hno3 : ∀ (i : Nat) (a : Pl), x[i]? = some a → a.u = true → (0 : Int) ≠ ((i + 256 * a.g : Nat) : Int) := (fun i a h _ => by have := hx.lo a (List.mem_of_getElem? h); omega))) <;> refine W_region_l ?_
              refine WL_stepM rfl (R_mv) ?_
              refine WL_stepM rfl (R_mv) ?_
              refine WL_stepM rfl (R_mv) ?_
              (have _g : oto % 2 = 0 := he; refine WL_call rfl (R_call rfl Try.call26 rfl) (Caps.get_no (j := 0) (Sp.from H (PB := [(p0, b0), (p1, b1)]) (ts := [x, y]) ba ca qa (inv2 hx.len hx.gn hy.len hy.gn) (fun _ hp => .tail _ (.tail _ (.tail _ (.tail _ (.tail _ (.tail _ (.tail _ (.tail _ (List.mem_append_left _ hp)))))))))) rfl rfl _ hno3) ?_; rintro _ w688 ⟨rfl, H1⟩; replace H := H.seq0 H1; clear H1)
              refine WL_stepM rfl (R_mv) ?_
              refine WL_step rfl (R_extract rfl rfl) ?_
              refine WL_step rfl (R_extract rfl rfl) ?_
              (refine WL_effn rfl (E_allocK H) ?_; clear H; intro c17 w692 hc17 H)
              (refine WL_effu rfl (E_storeK (q := zk) H rfl rfl .here) ?_; clear H; intro w693 H)
              refine WL_stepM rfl (R_as) ?_
              refine WL_nil ?_
              refine W_seq ?_
              refine W_region_l ?_
              refine WL_stepM rfl (R_mv) ?_
              refine WL_step rfl (R_eq_t rfl rfl (by omega)) ?_
              refine WL_nil ?_
              refine W_cond_t rfl ?_
              refine W_seq ?_
              refine W_region_l ?_
              refine WL_stepM rfl (R_mv) ?_
              refine WL_stepM rfl (R_mv) ?_
              (refine WL_call rfl (R_call rfl Try.call26 rfl) (Caps.get_no (j := 0) (Sp.from H (PB := [(r0, c0), (r1, c1)]) (ts := [x, t0]) bb cb qb (inv2 hx.len hx.gn t0_len t0_g) (fun _ hp => .tail _ (.tail _ (.tail _ (List.mem_append_left _ hp))))) rfl rfl _ hno3) ?_; rintro _ w706 ⟨rfl, H1⟩; replace H := H.seq0 H1; clear H1)
              refine WL_stepM rfl (R_mv) ?_
              refine WL_step rfl (R_extract rfl rfl) ?_
              refine WL_step rfl (R_extract rfl rfl) ?_
              (refine WL_effn rfl (E_allocK H) ?_; clear H; intro c19 w710 hc19 H)
              (refine WL_effu rfl (E_storeK (q := zk) H rfl rfl .here) ?_; clear H; intro w711 H)
              refine WL_stepM rfl (R_as) ?_
              refine WL_nil ?_
              refine W_seq ?_
              refine W_region_l ?_
              refine WL_step rfl (R_loadK (q := zk) rfl (H.get (.there .here))) ?_
              refine WL_step rfl (R_loadK (q := zk) rfl (H.get .here)) ?_
              refine WL_step rfl (R_ne_cap_f (o := 0) (r := 0) (lo := 0) (n := 0) (re := 0) (rn := 0) rfl rfl) ?_
              refine WL_stepM rfl (R_mv) ?_
              refine WL_guard_t rfl rfl ?_
              refine WL_stepM rfl (R_mv) ?_
              refine WL_guard_t rfl rfl ?_
              refine WL_stepM rfl (R_mv) ?_
              refine WL_guard_t rfl rfl ?_
              refine WL_step rfl (R_ne_f rfl rfl (by omega)) ?_
              refine WL_stepM rfl (R_pk_f rfl) ?_
              refine WL_nil ?_
              refine W_cond_f rfl ?_
              refine W_skip ?_
              refine W_region_l ?_
              refine WL_stepM rfl (R_mv) ?_
              refine WL_step rfl (R_add rfl rfl (w_i64 (by omega))) ?_
              refine WL_stepM rfl (R_as) ?_
              refine WL_nil ?_
              exact ⟨(same_mov rfl (same_updo rfl (same_mov rfl (same_mov rfl (same_updo rfl (same_mov rfl (same_mov rfl (same_mov rfl (same_updo rfl (same_updo rfl (same_updo rfl (same_mov rfl (same_updn (same_updo rfl (same_updo rfl (same_updo rfl (same_mov rfl (same_updo rfl (same_mov rfl (same_mov rfl (same_updo rfl (same_mov rfl (same_mov rfl (same_updn (same_updo rfl (same_updo rfl (same_updo rfl (same_mov rfl (same_updo rfl (same_mov rfl (same_mov rfl (same_mov rfl (same_mov rfl (same_updo rfl (same_mov rfl (same_updo rfl (same_updo rfl (same_updo rfl (same_updo rfl (same_updn (same_updo rfl (same_updo rfl (same_updo rfl (same_updo rfl (same_updo rfl (same_updo rfl (same_updo rfl (same_updo rfl (same_updo rfl (same_updo rfl (same_know rfl (same_updo rfl (same_updo rfl (same_mov rfl (same_mov rfl (same_updo rfl (same_mov rfl (same_mov rfl (same_mov rfl (same_mov rfl (same_updo rfl (same_updo rfl (same_updo rfl (same_updn (same_updo rfl (same_updo rfl (same_updo rfl (same_mov rfl (same_mov rfl (same_know rfl (same_in rfl (same_mov rfl (same_updo rfl (same_updo rfl (same_mov rfl (same_mov rfl same_ovr)))))))))))))))))))))))))))))))))))))))))))))))))))))))))))))))))))))))))))), i + 1, by omega, x, y, al1, al2, _, _, M1, M2, by omega, by omega, hx2, hy2, by omega, by omega, rfl, rfl, rfl, hO1, hO2, (((H.pop (by assumption)).pop (by assumption)).pop (by assumption)).pop (by assumption)⟩
            · refine WL_step rfl (R_fieldAddr (off' := 0) Try.underlying57 rfl Try.sizeOf3 (by decide) rfl rfl) ?_
              refine WL_step rfl (R_load Try.isAgg3 rfl (H.get (.there .here)) rfl) ?_
              refine WL_step rfl (R_bits rfl rfl (by simp) (and_mask_i64 2 4 (by decide) rfl (by decide))) ?_
              refine WL_nil ?_
              refine W_block ?_
              refine W_seq ?_
              refine W_region_l ?_
              refine WL_step rfl (R_eq_f rfl rfl (by omega)) ?_
              refine WL_stepM rfl (R_as) ?_
              refine WL_nil ?_
              refine W_cond_f rfl ?_
              refine W_seq ?_
              refine W_region_l ?_
              refine WL_step rfl (R_eq_f rfl rfl (by omega)) ?_
              refine WL_stepM rfl (R_as) ?_
              refine WL_nil ?_
              refine W_cond_f rfl ?_
              refine W_seq ?_
              ((have _g : oto % 2 = 0 := he; have hno3 : ∀ (i : Nat) (a : Pl), x[i]? = some a → a.u = true → (0 : Int) ≠ ((i + 256 * a.g : Nat) : Int) := (fun i a h _ => by have := hx.lo a (List.mem_of_getElem? h); omega))) <;> refine W_region_l ?_
              refine WL_stepM rfl (R_mv) ?_
              refine WL_stepM rfl (R_mv) ?_
              refine WL_stepM rfl (R_mv) ?_
              (have _g : oto % 2 = 0 := he; refine WL_call rfl (R_call rfl Try.call24 rfl) (revoke_no (j := 0) (Sp.from H (PB := [(p0, b0), (p1, b1)]) (ts := [x, y]) ba ca qa (inv2 hx.len hx.gn hy.len hy.gn) (fun _ hp => .tail _ (.tail _ (.tail _ (.tail _ (.tail _ (.tail _ (.tail _ (.tail _ (List.mem_append_left _ hp)))))))))) rfl rfl hno3) ?_; rintro _ w758 ⟨rfl, H1⟩; replace H := H.seq0 H1; clear H1)
              refine WL_stepM rfl (R_mv) ?_
              refine WL_step rfl (R_extract rfl rfl) ?_
              refine WL_step rfl (R_extract rfl rfl) ?_
              refine WL_stepM rfl (R_as) ?_
              refine WL_stepM rfl (R_as) ?_
              refine WL_nil ?_
              refine W_seq ?_
              refine W_region_l ?_
              refine WL_stepM rfl (R_mv) ?_
              refine WL_step rfl (R_eq_t rfl rfl (by omega)) ?_
              refine WL_nil ?_
              refine W_cond_t rfl ?_
              refine W_seq ?_
              refine W_region_l ?_
              refine WL_stepM rfl (R_mv) ?_
              refine WL_stepM rfl (R_mv) ?_
              (refine WL_call rfl (R_call rfl Try.call24 rfl) (revoke_no (j := 0) (Sp.from H (PB := [(r0, c0), (r1, c1)]) (ts := [x, t0]) bb cb qb (inv2 hx.len hx.gn t0_len t0_g) (fun _ hp => .tail _ (.tail _ (List.mem_append_left _ hp)))) rfl rfl hno3) ?_; rintro _ w775 ⟨rfl, H1⟩; replace H := H.seq0 H1; clear H1)
              refine WL_stepM rfl (R_mv) ?_
              refine WL_step rfl (R_extract rfl rfl) ?_
              refine WL_step rfl (R_extract rfl rfl) ?_
              refine WL_stepM rfl (R_as) ?_
              refine WL_stepM rfl (R_as) ?_
              refine WL_nil ?_
              refine W_seq ?_
              refine W_region_l ?_
              refine WL_stepM rfl (R_mv) ?_
              refine WL_stepM rfl (R_mv) ?_
              refine WL_step rfl (R_ne_f rfl rfl (by omega)) ?_
              refine WL_stepM rfl (R_mv) ?_
              refine WL_guard_t rfl rfl ?_
              refine WL_stepM rfl (R_mv) ?_
              refine WL_guard_t rfl rfl ?_
              refine WL_stepM rfl (R_mv) ?_
              refine WL_guard_t rfl rfl ?_
              refine WL_step rfl (R_ne_f rfl rfl (by omega)) ?_
              refine WL_stepM rfl (R_pk_f rfl) ?_
              refine WL_nil ?_
              refine W_cond_f rfl ?_
              refine W_skip ?_
              refine W_region_l ?_
              refine WL_stepM rfl (R_mv) ?_
              refine WL_step rfl (R_add rfl rfl (w_i64 (by omega))) ?_
              refine WL_stepM rfl (R_as) ?_
              refine WL_nil ?_
              exact ⟨(same_mov rfl (same_updo rfl (same_mov rfl (same_mov rfl (same_updo rfl (same_mov rfl (same_mov rfl (same_mov rfl (same_updo rfl (same_mov rfl (same_mov rfl (same_mov rfl (same_mov rfl (same_updo rfl (same_updo rfl (same_mov rfl (same_updo rfl (same_mov rfl (same_mov rfl (same_updo rfl (same_mov rfl (same_mov rfl (same_mov rfl (same_updo rfl (same_updo rfl (same_mov rfl (same_updo rfl (same_mov rfl (same_mov rfl (same_mov rfl (same_mov rfl (same_updo rfl (same_mov rfl (same_updo rfl (same_updo rfl (same_updo rfl (same_updo rfl (same_updn (same_updo rfl (same_updo rfl (same_updo rfl (same_updo rfl (same_updo rfl (same_updo rfl (same_updo rfl (same_updo rfl (same_updo rfl (same_updo rfl (same_know rfl (same_updo rfl (same_updo rfl (same_mov rfl (same_mov rfl (same_updo rfl (same_mov rfl (same_mov rfl (same_mov rfl (same_mov rfl (same_updo rfl (same_updo rfl (same_updo rfl (same_updn (same_updo rfl (same_updo rfl (same_updo rfl (same_mov rfl (same_mov rfl (same_know rfl (same_in rfl (same_mov rfl (same_updo rfl (same_updo rfl (same_mov rfl (same_mov rfl same_ovr)))))))))))))))))))))))))))))))))))))))))))))))))))))))))))))))))))))))))), i + 1, by omega, x, y, al1, al2, _, _, M1, M2, by omega, by omega, hx2, hy2, by omega, by omega, rfl, rfl, rfl, hO1, hO2, (H.pop (by assumption)).pop (by assumption)⟩
        · refine WL_stepM rfl (R_mv) ?_
          refine WL_stepM rfl (R_mv) ?_
          refine WL_step rfl (R_indexAddr Try.underlying55 Try.sizeOf57 rfl rfl (by omega) (by omega) idx_castn) ?_
          refine WL_step rfl (R_loadA_cell (vs := [I ok, I oh, I oto, I ori, I olo, I onn, I x1, I x2, I x3, I x4, I x5, I x6, I x7, I x8]) Try.isAgg57 Try.sizeOf57 rfl (fun j v hj => H.cellN (hc j v hj) (by repeat' first | exact kNil | apply kCons | apply kApp | assumption | exact OwnS.keys (by assumption))) rfl) ?_
          (refine WL_effn rfl (E_alloc H Try.zeroValue57 rfl) ?_; clear H; intro c8 w808 hc8 H)
          (refine WL_effu rfl (E_storeA (vs := [I ok, I oh, I oto, I ori, I olo, I onn, I x1, I x2, I x3, I x4, I x5, I x6, I x7, I x8]) H Try.sizeOf57 rfl rfl (by simp [Value.oneCell']) .here (by simp)) ?_; clear H; intro w809 H; replace H : Hp w ((c8, blk [I ok, I oh, I oto, I ori, I olo, I onn, I x1, I x2, I x3, I x4, I x5, I x6, I x7, I x8] 57) :: (sb, blk [sl bb 0 2 cb] 90) :: (bb, blk (ptrs [(r0, c0), (r1, c1)] ++ qb) 91) :: (r0, blk [sl c0 0 32 32] 135) :: (c0, blk (rows plc x) 137) :: (r1, blk [sl c1 0 32 32] 135) :: (c1, blk (rows plc t0) 137) :: (sa, blk [sl ba 0 2 ca] 90) :: (ba, blk (ptrs [(p0, b0), (p1, b1)] ++ qa) 91) :: (p0, blk [sl b0 0 32 32] 135) :: (b0, blk (rows plc x) 137) :: (p1, blk [sl b1 0 32 32] 135) :: (b1, blk (rows plc y) 137) :: (M1 ++ M2)) w809 := H)
          refine WL_nil ?_
          refine W_seq ?_
          refine W_region_l ?_
          refine WL_step rfl (R_fieldAddr (off' := 2) Try.underlying57 rfl Try.sizeOf3 (by decide) rfl rfl) ?_
          refine WL_step rfl (R_load Try.isAgg3 rfl (H.get .here) rfl) ?_
          refine WL_step rfl (R_bits (r := 1) rfl rfl (by simp) ((and_mask_i64 1 2 (by decide) rfl (by decide)).trans he)) ?_
          refine WL_stepM rfl (R_as) ?_
          refine WL_nil ?_
          refine W_seq ?_
          refine W_region_l ?_
          refine WL_stepM rfl (R_mv) ?_
          refine WL_stepM rfl (R_as) ?_
          refine WL_nil ?_
          refine W_seq ?_
          refine W_seq ?_
          refine W_region_l ?_
          refine WL_stepM rfl (R_mv) ?_
          refine WL_step rfl (R_eq_t rfl rfl (by omega)) ?_
          refine WL_nil ?_
          refine W_cond_t rfl ?_
          refine W_region_l ?_
          refine WL_stepM rfl (R_mv) ?_
          refine WL_stepM rfl (R_as) ?_
          refine WL_nil ?_
          refine W_seq ?_
          refine W_region_l ?_
          refine WL_stepM rfl (R_as) ?_
          refine WL_nil ?_
          refine W_seq ?_
          refine W_seq ?_
          refine W_region_l ?_
          refine WL_stepM rfl (R_mv) ?_
          refine WL_step rfl (R_len_slice Try.underlying59 rfl) ?_
          refine WL_step rfl (R_gt rfl rfl) ?_
          refine WL_nil ?_
          refine W_if rfl (fun h845 => ?_) (fun h845 => ?_)
          · ((have _g : oto % 2 = 1 := he; have hRd := RdS.own hO2 (fun p hp => H.held p (by simp [hp])); obtain ⟨k, hk, hkl⟩ : ∃ k : Nat, (k : Int) = (oh % 65536) % al2.length ∧ k < al2.length := ⟨((oh % 65536) % al2.length).toNat, Int.toNat_of_nonneg (Int.emod_nonneg _ (by omega)), by have := Int.emod_lt_of_pos (oh % 65536) (b := (al2.length : Int)) (by omega); omega⟩; obtain ⟨b9, o9, rfl, hc1⟩ := hRd.cell (i := k) (u := I al2[k]) (by rw [List.getElem?_map, List.getElem?_eq_getElem hkl]; rfl))) <;> refine W_region_l ?_
            refine WL_stepM rfl (R_mv) ?_
            refine WL_step rfl (R_fieldAddr (off' := 1) Try.underlying57 rfl Try.sizeOf3 (by decide) rfl rfl) ?_
            refine WL_step rfl (R_load (v := I oh) Try.isAgg3 rfl (H.get .here) rfl) ?_
            refine WL_step rfl (R_bits rfl rfl (by simp) (and_mask_i64 16 65536 (by decide) rfl (by decide))) ?_
            refine WL_stepM rfl (R_mv) ?_
            refine WL_step rfl (R_len_slice Try.underlying59 rfl) ?_
            refine WL_step rfl (R_rem rfl rfl (by omega) ((rem_pos (by omega)).trans hk.symm)) ?_
            refine WL_step rfl (R_indexAddr Try.underlying59 Try.sizeOf3 rfl rfl (by omega) (by omega) idx_cast1) ?_
            refine WL_step rfl (R_load_cell Try.isAgg3 rfl hc1) ?_
            refine WL_stepM rfl (R_as) ?_
            refine WL_nil ?_
            refine W_seq ?_
            refine W_region_l ?_
            refine WL_step rfl (R_fieldAddr (off' := 5) Try.underlying57 rfl Try.sizeOf3 (by decide) rfl rfl) ?_
            refine WL_step rfl (R_load Try.isAgg3 rfl (H.get .here) rfl) ?_
            refine WL_step rfl (R_fieldAddr (off' := 3) Try.underlying57 rfl Try.sizeOf3 (by decide) rfl rfl) ?_
            refine WL_step rfl (R_load Try.isAgg3 rfl (H.get .here) rfl) ?_
            refine WL_step rfl (R_bits (r := (R : Int)) rfl rfl (by simp) ((and_mask_i64 3 8 (by decide) rfl (by decide)).trans hR)) ?_
            refine WL_step rfl (R_fieldAddr (off' := 4) Try.underlying57 rfl Try.sizeOf3 (by decide) rfl rfl) ?_
            refine WL_step rfl (R_load Try.isAgg3 rfl (H.get .here) rfl) ?_
            refine WL_step rfl (R_bits rfl rfl (by simp) (and_mask_i64 8 256 (by decide) rfl (by decide))) ?_
            refine WL_step rfl (R_buildL (places := [(0, 1), (1, 1), (2, 1), (3, 1), (4, 2)]) (vs := (cp onn (R : Int) 0 (olo % 256) 0 0).c) Try.underlying38 Try.typeInfo38 rfl rfl (by kernel_rfl) rfl rfl rfl) ?_
            (refine WL_effn rfl (E_allocK H) ?_; clear H; intro c12 w869 hc12 H)
            (refine WL_effu rfl (E_storeK (q := cp onn (R : Int) 0 (olo % 256) 0 0) H rfl rfl .here) ?_; clear H; intro w870 H; replace H : Hp w ((c12, blk (cp onn (R : Int) 0 (olo % 256) 0 0).c 38) :: (c8, blk [I ok, I oh, I oto, I ori, I olo, I onn, I x1, I x2, I x3, I x4, I x5, I x6, I x7, I x8] 57) :: (sb, blk [sl bb 0 2 cb] 90) :: (bb, blk (ptrs [(r0, c0), (r1, c1)] ++ qb) 91) :: (r0, blk [sl c0 0 32 32] 135) :: (c0, blk (rows plc x) 137) :: (r1, blk [sl c1 0 32 32] 135) :: (c1, blk (rows plc t0) 137) :: (sa, blk [sl ba 0 2 ca] 90) :: (ba, blk (ptrs [(p0, b0), (p1, b1)] ++ qa) 91) :: (p0, blk [sl b0 0 32 32] 135) :: (b0, blk (rows plc x) 137) :: (p1, blk [sl b1 0 32 32] 135) :: (b1, blk (rows plc y) 137) :: (M1 ++ M2)) w870 := H)
            refine WL_nil ?_
            refine W_seq ?_
            ((rcases (by omega : ok % 4 = 0 ∨ ok % 4 = 1 ∨ (ok % 4 ≠ 0 ∧ ok % 4 ≠ 1)) with hkk | hkk | hkk)) <;> refine W_region_l ?_
            · refine WL_step rfl (R_fieldAddr (off' := 0) Try.underlying57 rfl Try.sizeOf3 (by decide) rfl rfl) ?_
              refine WL_step rfl (R_load Try.isAgg3 rfl (H.get (.there .here)) rfl) ?_
              refine WL_step rfl (R_bits rfl rfl (by simp) (and_mask_i64 2 4 (by decide) rfl (by decide))) ?_
              refine WL_nil ?_
              refine W_block ?_
              refine W_seq ?_
              refine W_region_l ?_
              refine WL_step rfl (R_eq_t rfl rfl (by omega)) ?_
              refine WL_stepM rfl (R_as) ?_
              refine WL_nil ?_
              refine W_cond_t rfl ?_
              refine W_seq ?_
              ((have _g : oto % 2 = 1 := he; rcases first_free y with ⟨i3, a3, h3, hf3, hl3⟩ | hnf)) <;> refine W_region_l ?_
              · refine WL_stepM rfl (R_mv) ?_
                refine WL_stepM rfl (R_mv) ?_
                refine WL_step rfl (R_loadK (q := cp onn (R : Int) 0 (olo % 256) 0 0) rfl (H.get .here)) ?_
                (have _g : oto % 2 = 1 := he; refine WL_call rfl (R_call rfl Try.call18 rfl) (put_yes (j := 1) (i := i3) (r := R) (o := onn) (lo := 0) (n := olo % 256) (re := 0) (rn := 0) (Sp.from H (PB := [(p0, b0), (p1, b1)]) (ts := [x, y]) ba ca qa (inv2 hx.len hx.gn hy.len hy.gn) (fun _ hp => .tail _ (.tail _ (.tail _ (.tail _ (.tail _ (.tail _ (.tail _ (.tail _ (List.mem_append_left _ hp)))))))))) rfl rfl hR8 (by decide) (by omega) h3 hf3 hl3) ?_; rintro _ w890 ⟨rfl, H1⟩; replace H := H.seq H1 (okSeq_set (.there (.there (.there (.there (.there (.there (.there (.there (.there (.there (.there (.there (.there .here))))))))))))) okSeq_nil); clear H1)
                refine WL_stepM rfl (R_mv) ?_
                refine WL_step rfl (R_extract rfl rfl) ?_
                refine WL_step rfl (R_extract rfl rfl) ?_
                refine WL_stepM rfl (R_as) ?_
                refine WL_stepM rfl (R_as) ?_
                refine WL_nil ?_
                refine W_seq ?_
                refine W_seq ?_
                refine W_region_l ?_
                refine WL_stepM rfl (R_mv) ?_
                refine WL_step rfl (R_eq_t rfl rfl (by omega)) ?_
                refine WL_nil ?_
                refine W_cond_t rfl ?_
                refine W_seq ?_
                refine W_seq ?_
                refine W_region_l ?_
                refine WL_stepM rfl (R_mv) ?_
                refine WL_step rfl (R_eq_t rfl rfl (by omega)) ?_
                refine WL_nil ?_
                refine W_cond_t rfl ?_
                refine W_region_l ?_
                refine WL_stepM rfl (R_mv) ?_
                refine WL_stepM rfl (R_mv) ?_
                (have _g : oto % 2 = 1 := he; refine WL_effn rfl (E_buildOnes (vs := [I (i3 + 256 * a3.g : Nat)]) H Try.underlying59 Try.sizeOf3 Try.zeroValue3 rfl rfl (by decide) rfl rfl (by simp [Value.oneCell'])) ?_; clear H; intro cz w914 hcz H)
                (have _g : oto % 2 = 1 := he; refine WL_effm rfl (E_append (news := [I (i3 + 256 * a3.g : Nat)]) (m := 1) H (.there (.there (.there (.there (.there (.there (.there (.there (.there (.there (.there (.there (.there (.there (.there (AtM.app _ .last)))))))))))))))) hO2 Try.underlying59 Try.typeInfo3 rfl rfl rfl rfl rfl rfl (src_one Try.underlying59 (H.get .here) rfl) (by omega) (by simp only [Try.t3]; omega)) ?_; clear H; intro vN MN w915 hON H; rw [show al2.map I ++ [I (i3 + 256 * a3.g : Nat)] = (al2 ++ [((i3 + 256 * a3.g : Nat) : Int)]).map I from by simp, show al2.length + 1 = (al2 ++ [((i3 + 256 * a3.g : Nat) : Int)]).length from by simp] at hON)
                refine WL_stepM rfl (R_as) ?_
                refine WL_nil ?_
                refine W_exit ?_
                refine (if_neg (by decide)).mpr ?_
                refine (if_pos rfl).mpr ?_
                refine W_region_l ?_
                refine WL_stepM rfl (R_mv) ?_
                refine WL_step rfl (R_add rfl rfl (w_i64 (by omega))) ?_
                refine WL_stepM rfl (R_as) ?_
                refine WL_nil ?_
                (have _g : oto % 2 = 1 := he; have _g2 := hON; exact ⟨(same_mov rfl (same_updo rfl (same_mov rfl (same_mov rfl (same_updo rfl (same_updo rfl (same_mov rfl (same_mov rfl (same_updo rfl (same_mov rfl (same_updo rfl (same_mov rfl (same_mov rfl (same_mov rfl (same_updo rfl (same_updo rfl (same_mov rfl (same_updo rfl (same_updo rfl (same_mov rfl (same_mov rfl (same_mov rfl (same_updo rfl (same_updo rfl (same_updo rfl (same_updo rfl (same_updn (same_updo rfl (same_updo rfl (same_updo rfl (same_updo rfl (same_updo rfl (same_updo rfl (same_updo rfl (same_updo rfl (same_updo rfl (same_updo rfl (same_mov rfl (same_updo rfl (same_updo rfl (same_updo rfl (same_updo rfl (same_mov rfl (same_updo rfl (same_updo rfl (same_updo rfl (same_mov rfl (same_know rfl (same_updo rfl (same_updo rfl (same_mov rfl (same_mov rfl (same_mov rfl (same_mov rfl (same_updo rfl (same_mov rfl (same_mov rfl (same_mov rfl (same_mov rfl (same_updo rfl (same_updo rfl (same_updo rfl (same_updn (same_updo rfl (same_updo rfl (same_updo rfl (same_mov rfl (same_mov rfl (same_know rfl (same_in rfl (same_mov rfl (same_updo rfl (same_updo rfl (same_mov rfl (same_mov rfl same_ovr))))))))))))))))))))))))))))))))))))))))))))))))))))))))))))))))))))))))))), i + 1, by omega, x, _, al1, _, _, _, M1, MN, by omega, by omega, hx2, (hy2.put h3 onn (R : Int) 0 (olo % 256)), by omega, (by rw [List.length_append]; simp; omega), rfl, rfl, rfl, hO1, hON, ((H.pop (by assumption)).pop (by assumption)).pop (by assumption)⟩)
              · refine WL_stepM rfl (R_mv) ?_
                refine WL_stepM rfl (R_mv) ?_
                refine WL_step rfl (R_loadK (q := cp onn (R : Int) 0 (olo % 256) 0 0) rfl (H.get .here)) ?_
                (have _g : oto % 2 = 1 := he; refine WL_call rfl (R_call rfl Try.call18 rfl) (put_full (j := 1) (r := R) (o := onn) (lo := 0) (n := olo % 256) (re := 0) (rn := 0) (Sp.from H (PB := [(p0, b0), (p1, b1)]) (ts := [x, y]) ba ca qa (inv2 hx.len hx.gn hy.len hy.gn) (fun _ hp => .tail _ (.tail _ (.tail _ (.tail _ (.tail _ (.tail _ (.tail _ (.tail _ (List.mem_append_left _ hp)))))))))) rfl rfl hR8 (by decide) (by omega) hnf) ?_; rintro _ w930 ⟨rfl, H1⟩; replace H := H.seq0 H1; clear H1)
                refine WL_stepM rfl (R_mv) ?_
                refine WL_step rfl (R_extract rfl rfl) ?_
                refine WL_step rfl (R_extract rfl rfl) ?_
                refine WL_stepM rfl (R_as) ?_
                refine WL_stepM rfl (R_as) ?_
                refine WL_nil ?_
                refine W_seq ?_
                refine W_seq ?_
                refine W_region_l ?_
                refine WL_stepM rfl (R_mv) ?_
                refine WL_step rfl (R_eq_t rfl rfl (by omega)) ?_
                refine WL_nil ?_
                refine W_cond_t rfl ?_
                refine W_seq ?_
                refine W_seq ?_
                refine W_region_l ?_
                refine WL_stepM rfl (R_mv) ?_
                refine WL_step rfl (R_eq_f rfl rfl (by omega)) ?_
                refine WL_nil ?_
                refine W_cond_f rfl ?_
                refine W_skip ?_
                refine W_exit ?_
                refine (if_neg (by decide)).mpr ?_
                refine (if_pos rfl).mpr ?_
                refine W_region_l ?_
                refine WL_stepM rfl (R_mv) ?_
                refine WL_step rfl (R_add rfl rfl (w_i64 (by omega))) ?_
                refine WL_stepM rfl (R_as) ?_
                refine WL_nil ?_
                exact ⟨(same_mov rfl (same_updo rfl (same_mov rfl (same_updo rfl (same_mov rfl (same_updo rfl (same_mov rfl (same_mov rfl (same_mov rfl (same_updo rfl (same_updo rfl (same_mov rfl (same_updo rfl (same_updo rfl (same_mov rfl (same_mov rfl (same_mov rfl (same_updo rfl (same_updo rfl (same_updo rfl (same_updo rfl (same_updn (same_updo rfl (same_updo rfl (same_updo rfl (same_updo rfl (same_updo rfl (same_updo rfl (same_updo rfl (same_updo rfl (same_updo rfl (same_updo rfl (same_mov rfl (same_updo rfl (same_updo rfl (same_updo rfl (same_updo rfl (same_mov rfl (same_updo rfl (same_updo rfl (same_updo rfl (same_mov rfl (same_know rfl (same_updo rfl (same_updo rfl (same_mov rfl (same_mov rfl (same_mov rfl (same_mov rfl (same_updo rfl (same_mov rfl (same_mov rfl (same_mov rfl (same_mov rfl (same_updo rfl (same_updo rfl (same_updo rfl (same_updn (same_updo rfl (same_updo rfl (same_updo rfl (same_mov rfl (same_mov rfl (same_know rfl (same_in rfl (same_mov rfl (same_updo rfl (same_updo rfl (same_mov rfl (same_mov rfl same_ovr)))))))))))))))))))))))))))))))))))))))))))))))))))))))))))))))))))))), i + 1, by omega, x, y, al1, al2, _, _, M1, M2, by omega, by omega, hx2, hy2, by omega, by omega, rfl, rfl, rfl, hO1, hO2, (H.pop (by assumption)).pop (by assumption)⟩
            · refine WL_step rfl (R_fieldAddr (off' := 0) Try.underlying57 rfl Try.sizeOf3 (by decide) rfl rfl) ?_
              refine WL_step rfl (R_load Try.isAgg3 rfl (H.get (.there .here)) rfl) ?_
              refine WL_step rfl (R_bits rfl rfl (by simp) (and_mask_i64 2 4 (by decide) rfl (by decide))) ?_
              refine WL_nil ?_
              refine W_block ?_
              refine W_seq ?_
              refine W_region_l ?_
              refine WL_step rfl (R_eq_f rfl rfl (by omega)) ?_
              refine WL_stepM rfl (R_as) ?_
              refine WL_nil ?_
              refine W_cond_f rfl ?_
              refine W_seq ?_
              refine W_region_l ?_
              refine WL_step rfl (R_eq_t rfl rfl (by omega)) ?_
              refine WL_stepM rfl (R_as) ?_
              refine WL_nil ?_
              refine W_cond_t rfl ?_
              refine W_seq ?_
              ((have _g : oto % 2 = 1 := he; rcases named y (al2[k]) with ⟨i3, a3, h3, hu3, hn3⟩ | hno3)) <;> refine W_region_l ?_
              · refine WL_stepM rfl (R_mv) ?_
                refine WL_stepM rfl (R_mv) ?_
                refine WL_stepM rfl (R_mv) ?_
                (have _g : oto % 2 = 1 := he; obtain ⟨o3, r3, l3, n3, hv3⟩ := hy.rt a3 (List.mem_of_getElem? h3) hu3; refine WL_call rfl (R_call rfl Try.call26 rfl) (show Ret Try.prog 26 #[ptr sa 0, I 1, I (al2[k])] _ (fun v w' => v = .tuple #[vk (cp o3 r3 l3 n3 0 0), I 0] ∧ Hp _ [] w') from by rw [hn3, ← hv3]; exact Caps.get_yes (j := 1) (Sp.from H (PB := [(p0, b0), (p1, b1)]) (ts := [x, y]) ba ca qa (inv2 hx.len hx.gn hy.len hy.gn) (fun _ hp => .tail _ (.tail _ (.tail _ (.tail _ (.tail _ (.tail _ (.tail _ (.tail _ (List.mem_append_left _ hp)))))))))) rfl rfl h3 hu3) ?_; rintro _ w983 ⟨rfl, H1⟩; replace H := H.seq0 H1; clear H1)
                refine WL_stepM rfl (R_mv) ?_
                refine WL_step rfl (R_extract rfl rfl) ?_
                refine WL_step rfl (R_extract rfl rfl) ?_
                (refine WL_effn rfl (E_allocK H) ?_; clear H; intro c17 w987 hc17 H)
                (refine WL_effu rfl (E_storeK (q := cp o3 r3 l3 n3 0 0) H rfl rfl .here) ?_; clear H; intro w988 H)
                refine WL_stepM rfl (R_as) ?_
                refine WL_nil ?_
                refine W_seq ?_
                refine W_region_l ?_
                refine WL_stepM rfl (R_mv) ?_
                refine WL_step rfl (R_eq_f rfl rfl (by omega)) ?_
                refine WL_nil ?_
                refine W_cond_f rfl ?_
                refine W_skip ?_
                refine W_region_l ?_
                refine WL_stepM rfl (R_mv) ?_
                refine WL_step rfl (R_add rfl rfl (w_i64 (by omega))) ?_
                refine WL_stepM rfl (R_as) ?_
                refine WL_nil ?_
                exact ⟨(same_mov rfl (same_updo rfl (same_mov rfl (same_updo rfl (same_mov rfl (same_mov rfl (same_updn (same_updo rfl (same_updo rfl (same_updo rfl (same_mov rfl (same_updo rfl (same_mov rfl (same_mov rfl (same_mov rfl (same_mov rfl (same_updo rfl (same_mov rfl (same_updo rfl (same_updo rfl (same_updo rfl (same_updo rfl (same_updn (same_updo rfl (same_updo rfl (same_updo rfl (same_updo rfl (same_updo rfl (same_updo rfl (same_updo rfl (same_updo rfl (same_updo rfl (same_updo rfl (same_mov rfl (same_updo rfl (same_updo rfl (same_updo rfl (same_updo rfl (same_mov rfl (same_updo rfl (same_updo rfl (same_updo rfl (same_mov rfl (same_know rfl (same_updo rfl (same_updo rfl (same_mov rfl (same_mov rfl (same_mov rfl (same_mov rfl (same_updo rfl (same_mov rfl (same_mov rfl (same_mov rfl (same_mov rfl (same_updo rfl (same_updo rfl (same_updo rfl (same_updn (same_updo rfl (same_updo rfl (same_updo rfl (same_mov rfl (same_mov rfl (same_know rfl (same_in rfl (same_mov rfl (same_updo rfl (same_updo rfl (same_mov rfl (same_mov rfl same_ovr))))))))))))))))))))))))))))))))))))))))))))))))))))))))))))))))))))))), i + 1, by omega, x, y, al1, al2, _, _, M1, M2, by omega, by omega, hx2, hy2, by omega, by omega, rfl, rfl, rfl, hO1, hO2, ((H.pop (by assumption)).pop (by assumption)).pop (by assumption)⟩
              · refine WL_stepM rfl (R_mv) ?_
                refine WL_stepM rfl (R_mv) ?_
                refine WL_stepM rfl (R_mv) ?_
                (have _g : oto % 2 = 1 := he; refine WL_call rfl (R_call rfl Try.call26 rfl) (Caps.get_no (j := 1) (Sp.from H (PB := [(p0, b0), (p1, b1)]) (ts := [x, y]) ba ca qa (inv2 hx.len hx.gn hy.len hy.gn) (fun _ hp => .tail _ (.tail _ (.tail _ (.tail _ (.tail _ (.tail _ (.tail _ (.tail _ (List.mem_append_left _ hp)))))))))) rfl rfl _ hno3) ?_; rintro _ w1007 ⟨rfl, H1⟩; replace H := H.seq0 H1; clear H1)
                refine WL_stepM rfl (R_mv) ?_
                refine WL_step rfl (R_extract rfl rfl) ?_
                refine WL_step rfl (R_extract rfl rfl) ?_
                (refine WL_effn rfl (E_allocK H) ?_; clear H; intro c17 w1011 hc17 H)
                (refine WL_effu rfl (E_storeK (q := zk) H rfl rfl .here) ?_; clear H; intro w1012 H)
                refine WL_stepM rfl (R_as) ?_
                refine WL_nil ?_
                refine W_seq ?_
                refine W_region_l ?_
                refine WL_stepM rfl (R_mv) ?_
                refine WL_step rfl (R_eq_f rfl rfl (by omega)) ?_
                refine WL_nil ?_
                refine W_cond_f rfl ?_
                refine W_skip ?_
                refine W_region_l ?_
                refine WL_stepM rfl (R_mv) ?_
                refine WL_step rfl (R_add rfl rfl (w_i64 (by omega))) ?_
                refine WL_stepM rfl (R_as) ?_
                refine WL_nil ?_
                exact ⟨(same_mov rfl (same_updo rfl (same_mov rfl (same_updo rfl (same_mov rfl (same_mov rfl (same_updn (same_updo rfl (same_updo rfl (same_updo rfl (same_mov rfl (same_updo rfl (same_mov rfl (same_mov rfl (same_mov rfl (same_mov rfl (same_updo rfl (same_mov rfl (same_updo rfl (same_updo rfl (same_updo rfl (same_updo rfl (same_updn (same_updo rfl (same_updo rfl (same_updo rfl (same_updo rfl (same_updo rfl (same_updo rfl (same_updo rfl (same_updo rfl (same_updo rfl (same_updo rfl (same_mov rfl (same_updo rfl (same_updo rfl (same_updo rfl (same_updo rfl (same_mov rfl (same_updo rfl (same_updo rfl (same_updo rfl (same_mov rfl (same_know rfl (same_updo rfl (same_updo rfl (same_mov rfl (same_mov rfl (same_mov rfl (same_mov rfl (same_updo rfl (same_mov rfl (same_mov rfl (same_mov rfl (same_mov rfl (same_updo rfl (same_updo rfl (same_updo rfl (same_updn (same_updo rfl (same_updo rfl (same_updo rfl (same_mov rfl (same_mov rfl (same_know rfl (same_in rfl (same_mov rfl (same_updo rfl (same_updo rfl (same_mov rfl (same_mov rfl same_ovr))))))))))))))))))))))))))))))))))))))))))))))))))))))))))))))))))))))), i + 1, by omega, x, y, al1, al2, _, _, M1, M2, by omega, by omega, hx2, hy2, by omega, by omega, rfl, rfl, rfl, hO1, hO2, ((H.pop (by assumption)).pop (by assumption)).pop (by assumption)⟩
            · refine WL_step rfl (R_fieldAddr (off' := 0) Try.underlying57 rfl Try.sizeOf3 (by decide) rfl rfl) ?_
              refine WL_step rfl (R_load Try.isAgg3 rfl (H.get (.there .here)) rfl) ?_
              refine WL_step rfl (R_bits rfl rfl (by simp) (and_mask_i64 2 4 (by decide) rfl (by decide))) ?_
              refine WL_nil ?_
              refine W_block ?_
              refine W_seq ?_
              refine W_region_l ?_
              refine WL_step rfl (R_eq_f rfl rfl (by omega)) ?_
              refine WL_stepM rfl (R_as) ?_
              refine WL_nil ?_
              refine W_cond_f rfl ?_
              refine W_seq ?_
              refine W_region_l ?_
              refine WL_step rfl (R_eq_f rfl rfl (by omega)) ?_
              refine WL_stepM rfl (R_as) ?_
              refine WL_nil ?_
              refine W_cond_f rfl ?_
              refine W_seq ?_
              ((have _g : oto % 2 = 1 := he; rcases named y (al2[k]) with ⟨i3, a3, h3, hu3, hn3⟩ | hno3)) <;> refine W_region_l ?_
              · refine WL_stepM rfl (R_mv) ?_
                refine WL_stepM rfl (R_mv) ?_
                refine WL_stepM rfl (R_mv) ?_
                (have _g : oto % 2 = 1 := he; refine WL_call rfl (R_call rfl Try.call24 rfl) (show Ret Try.prog 24 #[ptr sa 0, I 1, I (al2[k])] _ (fun v w' => v = .tuple #[I 1, I 0] ∧ Hp _ [(b1, blk (rows plc (y.set i3 ⟨zk, a3.g + 1, false⟩)) 137)] w') from by rw [hn3]; exact revoke_none (j := 1) (Sp.from H (PB := [(p0, b0), (p1, b1)]) (ts := [x, y]) ba ca qa (inv2 hx.len hx.gn hy.len hy.gn) (fun _ hp => .tail _ (.tail _ (.tail _ (.tail _ (.tail _ (.tail _ (.tail _ (.tail _ (List.mem_append_left _ hp)))))))))) (by simp) rfl rfl h3 hu3 (hy.lo a3 (List.mem_of_getElem? h3)) (hz2 hx hy)) ?_; rintro _ w1050 ⟨rfl, H1⟩; replace H := H.seq H1 (okSeq_set (.there (.there (.there (.there (.there (.there (.there (.there (.there (.there (.there (.there (.there .here))))))))))))) okSeq_nil); clear H1)
                refine WL_stepM rfl (R_mv) ?_
                refine WL_step rfl (R_extract rfl rfl) ?_
                refine WL_step rfl (R_extract rfl rfl) ?_
                refine WL_stepM rfl (R_as) ?_
                refine WL_stepM rfl (R_as) ?_
                refine WL_nil ?_
                refine W_seq ?_
                refine W_region_l ?_
                refine WL_stepM rfl (R_mv) ?_
                refine WL_step rfl (R_eq_f rfl rfl (by omega)) ?_
                refine WL_nil ?_
                refine W_cond_f rfl ?_
                refine W_skip ?_
                refine W_region_l ?_
                refine WL_stepM rfl (R_mv) ?_
                refine WL_step rfl (R_add rfl rfl (w_i64 (by omega))) ?_
                refine WL_stepM rfl (R_as) ?_
                refine WL_nil ?_
                (have _g : oto % 2 = 1 := he; have _g2 := hn3; exact ⟨(same_mov rfl (same_updo rfl (same_mov rfl (same_updo rfl (same_mov rfl (same_mov rfl (same_mov rfl (same_updo rfl (same_updo rfl (same_mov rfl (same_updo rfl (same_mov rfl (same_mov rfl (same_mov rfl (same_mov rfl (same_updo rfl (same_mov rfl (same_updo rfl (same_updo rfl (same_updo rfl (same_updo rfl (same_updn (same_updo rfl (same_updo rfl (same_updo rfl (same_updo rfl (same_updo rfl (same_updo rfl (same_updo rfl (same_updo rfl (same_updo rfl (same_updo rfl (same_mov rfl (same_updo rfl (same_updo rfl (same_updo rfl (same_updo rfl (same_mov rfl (same_updo rfl (same_updo rfl (same_updo rfl (same_mov rfl (same_know rfl (same_updo rfl (same_updo rfl (same_mov rfl (same_mov rfl (same_mov rfl (same_mov rfl (same_updo rfl (same_mov rfl (same_mov rfl (same_mov rfl (same_mov rfl (same_updo rfl (same_updo rfl (same_updo rfl (same_updn (same_updo rfl (same_updo rfl (same_updo rfl (same_mov rfl (same_mov rfl (same_know rfl (same_in rfl (same_mov rfl (same_updo rfl (same_updo rfl (same_mov rfl (same_mov rfl same_ovr)))))))))))))))))))))))))))))))))))))))))))))))))))))))))))))))))))))), i + 1, by omega, x, _, al1, al2, _, _, M1, M2, by omega, by omega, hx2, (hy.drop h3 (by omega)), by omega, by omega, rfl, rfl, rfl, hO1, hO2, (H.pop (by assumption)).pop (by assumption)⟩)
              · refine WL_stepM rfl (R_mv) ?_
                refine WL_stepM rfl (R_mv) ?_
                refine WL_stepM rfl (R_mv) ?_
                (have _g : oto % 2 = 1 := he; refine WL_call rfl (R_call rfl Try.call24 rfl) (revoke_no (j := 1) (Sp.from H (PB := [(p0, b0), (p1, b1)]) (ts := [x, y]) ba ca qa (inv2 hx.len hx.gn hy.len hy.gn) (fun _ hp => .tail _ (.tail _ (.tail _ (.tail _ (.tail _ (.tail _ (.tail _ (.tail _ (List.mem_append_left _ hp)))))))))) rfl rfl hno3) ?_; rintro _ w1073 ⟨rfl, H1⟩; replace H := H.seq0 H1; clear H1)
                refine WL_stepM rfl (R_mv) ?_
                refine WL_step rfl (R_extract rfl rfl) ?_
                refine WL_step rfl (R_extract rfl rfl) ?_
                refine WL_stepM rfl (R_as) ?_
                refine WL_stepM rfl (R_as) ?_
                refine WL_nil ?_
                refine W_seq ?_
                refine W_region_l ?_
                refine WL_stepM rfl (R_mv) ?_
                refine WL_step rfl (R_eq_f rfl rfl (by omega)) ?_
                refine WL_nil ?_
                refine W_cond_f rfl ?_
                refine W_skip ?_
                refine W_region_l ?_
                refine WL_stepM rfl (R_mv) ?_
                refine WL_step rfl (R_add rfl rfl (w_i64 (by omega))) ?_
                refine WL_stepM rfl (R_as) ?_
                refine WL_nil ?_
                exact ⟨(same_mov rfl (same_updo rfl (same_mov rfl (same_updo rfl (same_mov rfl (same_mov rfl (same_mov rfl (same_updo rfl (same_updo rfl (same_mov rfl (same_updo rfl (same_mov rfl (same_mov rfl (same_mov rfl (same_mov rfl (same_updo rfl (same_mov rfl (same_updo rfl (same_updo rfl (same_updo rfl (same_updo rfl (same_updn (same_updo rfl (same_updo rfl (same_updo rfl (same_updo rfl (same_updo rfl (same_updo rfl (same_updo rfl (same_updo rfl (same_updo rfl (same_updo rfl (same_mov rfl (same_updo rfl (same_updo rfl (same_updo rfl (same_updo rfl (same_mov rfl (same_updo rfl (same_updo rfl (same_updo rfl (same_mov rfl (same_know rfl (same_updo rfl (same_updo rfl (same_mov rfl (same_mov rfl (same_mov rfl (same_mov rfl (same_updo rfl (same_mov rfl (same_mov rfl (same_mov rfl (same_mov rfl (same_updo rfl (same_updo rfl (same_updo rfl (same_updn (same_updo rfl (same_updo rfl (same_updo rfl (same_mov rfl (same_mov rfl (same_know rfl (same_in rfl (same_mov rfl (same_updo rfl (same_updo rfl (same_mov rfl (same_mov rfl same_ovr)))))))))))))))))))))))))))))))))))))))))))))))))))))))))))))))))))))), i + 1, by omega, x, y, al1, al2, _, _, M1, M2, by omega, by omega, hx2, hy2, by omega, by omega, rfl, rfl, rfl, hO1, hO2, (H.pop (by assumption)).pop (by assumption)⟩
          · refine W_skip ?_
            refine W_seq ?_
            refine W_region_l ?_
            refine WL_step rfl (R_fieldAddr (off' := 5) Try.underlying57 rfl Try.sizeOf3 (by decide) rfl rfl) ?_
            refine WL_step rfl (R_load Try.isAgg3 rfl (H.get .here) rfl) ?_
            refine WL_step rfl (R_fieldAddr (off' := 3) Try.underlying57 rfl Try.sizeOf3 (by decide) rfl rfl) ?_
            refine WL_step rfl (R_load Try.isAgg3 rfl (H.get .here) rfl) ?_
            refine WL_step rfl (R_bits (r := (R : Int)) rfl rfl (by simp) ((and_mask_i64 3 8 (by decide) rfl (by decide)).trans hR)) ?_
            refine WL_step rfl (R_fieldAddr (off' := 4) Try.underlying57 rfl Try.sizeOf3 (by decide) rfl rfl) ?_
            refine WL_step rfl (R_load Try.isAgg3 rfl (H.get .here) rfl) ?_
            refine WL_step rfl (R_bits rfl rfl (by simp) (and_mask_i64 8 256 (by decide) rfl (by decide))) ?_
            refine WL_step rfl (R_buildL (places := [(0, 1), (1, 1), (2, 1), (3, 1), (4, 2)]) (vs := (cp onn (R : Int) 0 (olo % 256) 0 0).c) Try.underlying38 Try.typeInfo38 rfl rfl (by kernel_rfl) rfl rfl rfl) ?_
            (refine WL_effn rfl (E_allocK H) ?_; clear H; intro c12 w1105 hc12 H)
            (refine WL_effu rfl (E_storeK (q := cp onn (R : Int) 0 (olo % 256) 0 0) H rfl rfl .here) ?_; clear H; intro w1106 H; replace H : Hp w ((c12, blk (cp onn (R : Int) 0 (olo % 256) 0 0).c 38) :: (c8, blk [I ok, I oh, I oto, I ori, I olo, I onn, I x1, I x2, I x3, I x4, I x5, I x6, I x7, I x8] 57) :: (sb, blk [sl bb 0 2 cb] 90) :: (bb, blk (ptrs [(r0, c0), (r1, c1)] ++ qb) 91) :: (r0, blk [sl c0 0 32 32] 135) :: (c0, blk (rows plc x) 137) :: (r1, blk [sl c1 0 32 32] 135) :: (c1, blk (rows plc t0) 137) :: (sa, blk [sl ba 0 2 ca] 90) :: (ba, blk (ptrs [(p0, b0), (p1, b1)] ++ qa) 91) :: (p0, blk [sl b0 0 32 32] 135) :: (b0, blk (rows plc x) 137) :: (p1, blk [sl b1 0 32 32] 135) :: (b1, blk (rows plc y) 137) :: (M1 ++ M2)) w1106 := H)
            refine WL_nil ?_
            refine W_seq ?_
            ((rcases (by omega : ok % 4 = 0 ∨ ok % 4 = 1 ∨ (ok % 4 ≠ 0 ∧ ok % 4 ≠ 1)) with hkk | hkk | hkk)) <;> refine W_region_l ?_
            · refine WL_step rfl (R_fieldAddr (off' := 0) Try.underlying57 rfl Try.sizeOf3 (by decide) rfl rfl) ?_
              refine WL_step rfl (R_load Try.isAgg3 rfl (H.get (.there .here)) rfl) ?_
              refine WL_step rfl (R_bits rfl rfl (by simp) (and_mask_i64 2 4 (by decide) rfl (by decide))) ?_
              refine WL_nil ?_
              refine W_block ?_
              refine W_seq ?_
              refine W_region_l ?_
              refine WL_step rfl (R_eq_t rfl rfl (by omega)) ?_
              refine WL_stepM rfl (R_as) ?_
              refine WL_nil ?_
              refine W_cond_t rfl ?_
              refine W_seq ?_
              ((have _g : oto % 2 = 1 := he; rcases first_free y with ⟨i3, a3, h3, hf3, hl3⟩ | hnf)) <;> refine W_region_l ?_
              · refine WL_stepM rfl (R_mv) ?_
                refine WL_stepM rfl (R_mv) ?_
                refine WL_step rfl (R_loadK (q := cp onn (R : Int) 0 (olo % 256) 0 0) rfl (H.get .here)) ?_
                (have _g : oto % 2 = 1 := he; refine WL_call rfl (R_call rfl Try.call18 rfl) (put_yes (j := 1) (i := i3) (r := R) (o := onn) (lo := 0) (n := olo % 256) (re := 0) (rn := 0) (Sp.from H (PB := [(p0, b0), (p1, b1)]) (ts := [x, y]) ba ca qa (inv2 hx.len hx.gn hy.len hy.gn) (fun _ hp => .tail _ (.tail _ (.tail _ (.tail _ (.tail _ (.tail _ (.tail _ (.tail _ (List.mem_append_left _ hp)))))))))) rfl rfl hR8 (by decide) (by omega) h3 hf3 hl3) ?_; rintro _ w1126 ⟨rfl, H1⟩; replace H := H.seq H1 (okSeq_set (.there (.there (.there (.there (.there (.there (.there (.there (.there (.there (.there (.there (.there .here))))))))))))) okSeq_nil); clear H1)
                refine WL_stepM rfl (R_mv) ?_
                refine WL_step rfl (R_extract rfl rfl) ?_
                refine WL_step rfl (R_extract rfl rfl) ?_
                refine WL_stepM rfl (R_as) ?_
                refine WL_stepM rfl (R_as) ?_
                refine WL_nil ?_
                refine W_seq ?_
                refine W_seq ?_
                refine W_region_l ?_
                refine WL_stepM rfl (R_mv) ?_
                refine WL_step rfl (R_eq_t rfl rfl (by omega)) ?_
                refine WL_nil ?_
                refine W_cond_t rfl ?_
                refine W_seq ?_
                refine W_seq ?_
                refine W_region_l ?_
                refine WL_stepM rfl (R_mv) ?_
                refine WL_step rfl (R_eq_t rfl rfl (by omega)) ?_
                refine WL_nil ?_
                refine W_cond_t rfl ?_
                refine W_region_l ?_
                refine WL_stepM rfl (R_mv) ?_
                refine WL_stepM rfl (R_mv) ?_
                (have _g : oto % 2 = 1 := he; refine WL_effn rfl (E_buildOnes (vs := [I (i3 + 256 * a3.g : Nat)]) H Try.underlying59 Try.sizeOf3 Try.zeroValue3 rfl rfl (by decide) rfl rfl (by simp [Value.oneCell'])) ?_; clear H; intro cz w1150 hcz H)
                (have _g : oto % 2 = 1 := he; refine WL_effm rfl (E_append (news := [I (i3 + 256 * a3.g : Nat)]) (m := 1) H (.there (.there (.there (.there (.there (.there (.there (.there (.there (.there (.there (.there (.there (.there (.there (AtM.app _ .last)))))))))))))))) hO2 Try.underlying59 Try.typeInfo3 rfl rfl rfl rfl rfl rfl (src_one Try.underlying59 (H.get .here) rfl) (by omega) (by simp only [Try.t3]; omega)) ?_; clear H; intro vN MN w1151 hON H; rw [show al2.map I ++ [I (i3 + 256 * a3.g : Nat)] = (al2 ++ [((i3 + 256 * a3.g : Nat) : Int)]).map I from by simp, show al2.length + 1 = (al2 ++ [((i3 + 256 * a3.g : Nat) : Int)]).length from by simp] at hON)
                refine WL_stepM rfl (R_as) ?_
                refine WL_nil ?_
                refine W_exit ?_
                refine (if_neg (by decide)).mpr ?_
                refine (if_pos rfl).mpr ?_
                refine W_region_l ?_
                refine WL_stepM rfl (R_mv) ?_
                refine WL_step rfl (R_add rfl rfl (w_i64 (by omega))) ?_
                refine WL_stepM rfl (R_as) ?_
                refine WL_nil ?_
                (have _g : oto % 2 = 1 := he; have _g2 := hON; exact ⟨(same_mov rfl (same_updo rfl (same_mov rfl (same_mov rfl (same_updo rfl (same_updo rfl (same_mov rfl (same_mov rfl (same_updo rfl (same_mov rfl (same_updo rfl (same_mov rfl (same_mov rfl (same_mov rfl (same_updo rfl (same_updo rfl (same_mov rfl (same_updo rfl (same_updo rfl (same_mov rfl (same_mov rfl (same_mov rfl (same_updo rfl (same_updo rfl (same_updo rfl (same_updo rfl (same_updn (same_updo rfl (same_updo rfl (same_updo rfl (same_updo rfl (same_updo rfl (same_updo rfl (same_updo rfl (same_updo rfl (same_updo rfl (same_updo rfl (same_know rfl (same_updo rfl (same_updo rfl (same_mov rfl (same_mov rfl (same_mov rfl (same_mov rfl (same_updo rfl (same_mov rfl (same_mov rfl (same_mov rfl (same_mov rfl (same_updo rfl (same_updo rfl (same_updo rfl (same_updn (same_updo rfl (same_updo rfl (same_updo rfl (same_mov rfl (same_mov rfl (same_know rfl (same_in rfl (same_mov rfl (same_updo rfl (same_updo rfl (same_mov rfl (same_mov rfl same_ovr))))))))))))))))))))))))))))))))))))))))))))))))))))))))))))))))), i + 1, by omega, x, _, al1, _, _, _, M1, MN, by omega, by omega, hx2, (hy2.put h3 onn (R : Int) 0 (olo % 256)), by omega, (by rw [List.length_append]; simp; omega), rfl, rfl, rfl, hO1, hON, ((H.pop (by assumption)).pop (by assumption)).pop (by assumption)⟩)
              · refine WL_stepM rfl (R_mv) ?_
                refine WL_stepM rfl (R_mv) ?_
                refine WL_step rfl (R_loadK (q := cp onn (R : Int) 0 (olo % 256) 0 0) rfl (H.get .here)) ?_
                (have _g : oto % 2 = 1 := he; refine WL_call rfl (R_call rfl Try.call18 rfl) (put_full (j := 1) (r := R) (o := onn) (lo := 0) (n := olo % 256) (re := 0) (rn := 0) (Sp.from H (PB := [(p0, b0), (p1, b1)]) (ts := [x, y]) ba ca qa (inv2 hx.len hx.gn hy.len hy.gn) (fun _ hp => .tail _ (.tail _ (.tail _ (.tail _ (.tail _ (.tail _ (.tail _ (.tail _ (List.mem_append_left _ hp)))))))))) rfl rfl hR8 (by decide) (by omega) hnf) ?_; rintro _ w1166 ⟨rfl, H1⟩; replace H := H.seq0 H1; clear H1)
                refine WL_stepM rfl (R_mv) ?_
                refine WL_step rfl (R_extract rfl rfl) ?_
                refine WL_step rfl (R_extract rfl rfl) ?_
                refine WL_stepM rfl (R_as) ?_
                refine WL_stepM rfl (R_as) ?_
                refine WL_nil ?_
                refine W_seq ?_
                refine W_seq ?_
                refine W_region_l ?_
                refine WL_stepM rfl (R_mv) ?_
                refine WL_step rfl (R_eq_t rfl rfl (by omega)) ?_
                refine WL_nil ?_
                refine W_cond_t rfl ?_
                refine W_seq ?_
                refine W_seq ?_
                refine W_region_l ?_
                refine WL_stepM rfl (R_mv) ?_
                refine WL_step rfl (R_eq_f rfl rfl (by omega)) ?_
                refine WL_nil ?_
                refine W_cond_f rfl ?_
                refine W_skip ?_
                refine W_exit ?_
                refine (if_neg (by decide)).mpr ?_
                refine (if_pos rfl).mpr ?_
                refine W_region_l ?_
                refine WL_stepM rfl (R_mv) ?_
                refine WL_step rfl (R_add rfl rfl (w_i64 (by omega))) ?_
                refine WL_stepM rfl (R_as) ?_
                refine WL_nil ?_
                exact ⟨(same_mov rfl (same_updo rfl (same_mov rfl (same_updo rfl (same_mov rfl (same_updo rfl (same_mov rfl (same_mov rfl (same_mov rfl (same_updo rfl (same_updo rfl (same_mov rfl (same_updo rfl (same_updo rfl (same_mov rfl (same_mov rfl (same_mov rfl (same_updo rfl (same_updo rfl (same_updo rfl (same_updo rfl (same_updn (same_updo rfl (same_updo rfl (same_updo rfl (same_updo rfl (same_updo rfl (same_updo rfl (same_updo rfl (same_updo rfl (same_updo rfl (same_updo rfl (same_know rfl (same_updo rfl (same_updo rfl (same_mov rfl (same_mov rfl (same_mov rfl (same_mov rfl (same_updo rfl (same_mov rfl (same_mov rfl (same_mov rfl (same_mov rfl (same_updo rfl (same_updo rfl (same_updo rfl (same_updn (same_updo rfl (same_updo rfl (same_updo rfl (same_mov rfl (same_mov rfl (same_know rfl (same_in rfl (same_mov rfl (same_updo rfl (same_updo rfl (same_mov rfl (same_mov rfl same_ovr)))))))))))))))))))))))))))))))))))))))))))))))))))))))))))), i + 1, by omega, x, y, al1, al2, _, _, M1, M2, by omega, by omega, hx2, hy2, by omega, by omega, rfl, rfl, rfl, hO1, hO2, (H.pop (by assumption)).pop (by assumption)⟩
            · refine WL_step rfl (R_fieldAddr (off' := 0) Try.underlying57 rfl Try.sizeOf3 (by decide) rfl rfl) ?_
              refine WL_step rfl (R_load Try.isAgg3 rfl (H.get (.there .here)) rfl) ?_
              refine WL_step rfl (R_bits rfl rfl (by simp) (and_mask_i64 2 4 (by decide) rfl (by decide))) ?_
              refine WL_nil ?_
              refine W_block ?_
              refine W_seq ?_
              refine W_region_l ?_
              refine WL_step rfl (R_eq_f rfl rfl (by omega)) ?_
              refine WL_stepM rfl (R_as) ?_
              refine WL_nil ?_
              refine W_cond_f rfl ?_
              refine W_seq ?_
              refine W_region_l ?_
              refine WL_step rfl (R_eq_t rfl rfl (by omega)) ?_
              refine WL_stepM rfl (R_as) ?_
              refine WL_nil ?_
              refine W_cond_t rfl ?_
              refine W_seq ?_
              ((have _g : oto % 2 = 1 := he; have hno3 : ∀ (i : Nat) (a : Pl), y[i]? = some a → a.u = true → (0 : Int) ≠ ((i + 256 * a.g : Nat) : Int) := (fun i a h _ => by have := hy.lo a (List.mem_of_getElem? h); omega))) <;> refine W_region_l ?_
              refine WL_stepM rfl (R_mv) ?_
              refine WL_stepM rfl (R_mv) ?_
              refine WL_stepM rfl (R_mv) ?_
              (have _g : oto % 2 = 1 := he; refine WL_call rfl (R_call rfl Try.call26 rfl) (Caps.get_no (j := 1) (Sp.from H (PB := [(p0, b0), (p1, b1)]) (ts := [x, y]) ba ca qa (inv2 hx.len hx.gn hy.len hy.gn) (fun _ hp => .tail _ (.tail _ (.tail _ (.tail _ (.tail _ (.tail _ (.tail _ (.tail _ (List.mem_append_left _ hp)))))))))) rfl rfl _ hno3) ?_; rintro _ w1219 ⟨rfl, H1⟩; replace H := H.seq0 H1; clear H1)
              refine WL_stepM rfl (R_mv) ?_
              refine WL_step rfl (R_extract rfl rfl) ?_
              refine WL_step rfl (R_extract rfl rfl) ?_
              (refine WL_effn rfl (E_allocK H) ?_; clear H; intro c17 w1223 hc17 H)
              (refine WL_effu rfl (E_storeK (q := zk) H rfl rfl .here) ?_; clear H; intro w1224 H)
              refine WL_stepM rfl (R_as) ?_
              refine WL_nil ?_
              refine W_seq ?_
              refine W_region_l ?_
              refine WL_stepM rfl (R_mv) ?_
              refine WL_step rfl (R_eq_f rfl rfl (by omega)) ?_
              refine WL_nil ?_
              refine W_cond_f rfl ?_
              refine W_skip ?_
              refine W_region_l ?_
              refine WL_stepM rfl (R_mv) ?_
              refine WL_step rfl (R_add rfl rfl (w_i64 (by omega))) ?_
              refine WL_stepM rfl (R_as) ?_
              refine WL_nil ?_
              exact ⟨(same_mov rfl (same_updo rfl (same_mov rfl (same_updo rfl (same_mov rfl (same_mov rfl (same_updn (same_updo rfl (same_updo rfl (same_updo rfl (same_mov rfl (same_updo rfl (same_mov rfl (same_mov rfl (same_mov rfl (same_mov rfl (same_updo rfl (same_mov rfl (same_updo rfl (same_updo rfl (same_updo rfl (same_updo rfl (same_updn (same_updo rfl (same_updo rfl (same_updo rfl (same_updo rfl (same_updo rfl (same_updo rfl (same_updo rfl (same_updo rfl (same_updo rfl (same_updo rfl (same_know rfl (same_updo rfl (same_updo rfl (same_mov rfl (same_mov rfl (same_mov rfl (same_mov rfl (same_updo rfl (same_mov rfl (same_mov rfl (same_mov rfl (same_mov rfl (same_updo rfl (same_updo rfl (same_updo rfl (same_updn (same_updo rfl (same_updo rfl (same_updo rfl (same_mov rfl (same_mov rfl (same_know rfl (same_in rfl (same_mov rfl (same_updo rfl (same_updo rfl (same_mov rfl (same_mov rfl same_ovr))))))))))))))))))))))))))))))))))))))))))))))))))))))))))))), i + 1, by omega, x, y, al1, al2, _, _, M1, M2, by omega, by omega, hx2, hy2, by omega, by omega, rfl, rfl, rfl, hO1, hO2, ((H.pop (by assumption)).pop (by assumption)).pop (by assumption)⟩
            · refine WL_step rfl (R_fieldAddr (off' := 0) Try.underlying57 rfl Try.sizeOf3 (by decide) rfl rfl) ?_
              refine WL_step rfl (R_load Try.isAgg3 rfl (H.get (.there .here)) rfl) ?_
              refine WL_step rfl (R_bits rfl rfl (by simp) (and_mask_i64 2 4 (by decide) rfl (by decide))) ?_
              refine WL_nil ?_
              refine W_block ?_
              refine W_seq ?_
              refine W_region_l ?_
              refine WL_step rfl (R_eq_f rfl rfl (by omega)) ?_
              refine WL_stepM rfl (R_as) ?_
              refine WL_nil ?_
              refine W_cond_f rfl ?_
              refine W_seq ?_
              refine W_region_l ?_
              refine WL_step rfl (R_eq_f rfl rfl (by omega)) ?_
              refine WL_stepM rfl (R_as) ?_
              refine WL_nil ?_
              refine W_cond_f rfl ?_
              refine W_seq ?_
              ((have _g : oto % 2 = 1 := he; have hno3 : ∀ (i : Nat) (a : Pl), y[i]? = some a → a.u = true → (0 : Int) ≠ ((i + 256 * a.g : Nat) : Int) := (fun i a h _ => by have := hy.lo a (List.mem_of_getElem? h); omega))) <;> refine W_region_l ?_
              refine WL_stepM rfl (R_mv) ?_
              refine WL_stepM rfl (R_mv) ?_
              refine WL_stepM rfl (R_mv) ?_
              (have _g : oto % 2 = 1 := he; refine WL_call rfl (R_call rfl Try.call24 rfl) (revoke_no (j := 1) (Sp.from H (PB := [(p0, b0), (p1, b1)]) (ts := [x, y]) ba ca qa (inv2 hx.len hx.gn hy.len hy.gn) (fun _ hp => .tail _ (.tail _ (.tail _ (.tail _ (.tail _ (.tail _ (.tail _ (.tail _ (List.mem_append_left _ hp)))))))))) rfl rfl hno3) ?_; rintro _ w1262 ⟨rfl, H1⟩; replace H := H.seq0 H1; clear H1)
              refine WL_stepM rfl (R_mv) ?_
              refine WL_step rfl (R_extract rfl rfl) ?_
              refine WL_step rfl (R_extract rfl rfl) ?_
              refine WL_stepM rfl (R_as) ?_
              refine WL_stepM rfl (R_as) ?_
              refine WL_nil ?_
              refine W_seq ?_
              refine W_region_l ?_
              refine WL_stepM rfl (R_mv) ?_
              refine WL_step rfl (R_eq_f rfl rfl (by omega)) ?_
              refine WL_nil ?_
              refine W_cond_f rfl ?_
              refine W_skip ?_
              refine W_region_l ?_
              refine WL_stepM rfl (R_mv) ?_
              refine WL_step rfl (R_add rfl rfl (w_i64 (by omega))) ?_
              refine WL_stepM rfl (R_as) ?_
              refine WL_nil ?_
              exact ⟨(same_mov rfl (same_updo rfl (same_mov rfl (same_updo rfl (same_mov rfl (same_mov rfl (same_mov rfl (same_updo rfl (same_updo rfl (same_mov rfl (same_updo rfl (same_mov rfl (same_mov rfl (same_mov rfl (same_mov rfl (same_updo rfl (same_mov rfl (same_updo rfl (same_updo rfl (same_updo rfl (same_updo rfl (same_updn (same_updo rfl (same_updo rfl (same_updo rfl (same_updo rfl (same_updo rfl (same_updo rfl (same_updo rfl (same_updo rfl (same_updo rfl (same_updo rfl (same_know rfl (same_updo rfl (same_updo rfl (same_mov rfl (same_mov rfl (same_mov rfl (same_mov rfl (same_updo rfl (same_mov rfl (same_mov rfl (same_mov rfl (same_mov rfl (same_updo rfl (same_updo rfl (same_updo rfl (same_updn (same_updo rfl (same_updo rfl (same_updo rfl (same_mov rfl (same_mov rfl (same_know rfl (same_in rfl (same_mov rfl (same_updo rfl (same_updo rfl (same_mov rfl (same_mov rfl same_ovr)))))))))))))))))))))))))))))))))))))))))))))))))))))))))))), i + 1, by omega, x, y, al1, al2, _, _, M1, M2, by omega, by omega, hx2, hy2, by omega, by omega, rfl, rfl, rfl, hO1, hO2, (H.pop (by assumption)).pop (by assumption)⟩
      · refine W_exit ?_
        refine (if_pos rfl).mpr ?_
        refine W_seq ?_
        refine W_region_l ?_
        refine WL_stepM rfl (R_mv) ?_
        (refine WL_call rfl (R_call rfl Try.call29 rfl) (spnames_yes (j := 0) (Sp.from H (PB := [(p0, b0), (p1, b1)]) (ts := [x, y]) ba ca qa (inv2 hx.len hx.gn hy.len hy.gn) (fun _ hp => .tail _ (.tail _ (.tail _ (.tail _ (.tail _ (.tail _ (List.mem_append_left _ hp)))))))) rfl rfl) ?_; rintro _ w1287 ⟨M3, hO3, H1⟩; have h1287 := H.seqO hO3 H1; clear H H1 hO3; obtain ⟨hO3, H⟩ := h1287; obtain ⟨u3, cc3, rfl⟩ := hO3.form; have hnl := namesFrom_le x 0; rw [hx.len] at hnl)
        refine WL_stepM rfl (R_mv) ?_
        (refine WL_call rfl (R_call rfl Try.call29 rfl) (spnames_yes (j := 0) (Sp.from H (PB := [(r0, c0), (r1, c1)]) (ts := [x, t0]) bb cb qb (inv2 hx.len hx.gn t0_len t0_g) (fun _ hp => List.mem_append_right _ (List.mem_append_left _ hp))) rfl rfl) ?_; rintro _ w1289 ⟨M4, hO4, H1⟩; have h1289 := H.seqO hO4 H1; clear H H1 hO4; obtain ⟨hO4, H⟩ := h1289; obtain ⟨u4, cc4, rfl⟩ := hO4.form)
        (refine WL_call rfl (R_call rfl Try.call28 rfl) (Bell.sameInts_ret (RdS.own hO3 (fun p hp => H.held p (by simp [hp]))) (RdS.own hO4 (fun p hp => H.held p (by simp [hp]))) (by omega) (by omega)) ?_; rintro _ w1290 ⟨rfl, H1⟩; rw [decide_eq_true rfl]; replace H := H.seq0 H1; clear H1)
        refine WL_stepM rfl (R_mv) ?_
        refine WL_guard_t rfl rfl ?_
        (refine WL_call rfl (R_call rfl Try.call25 rfl) (awake3_ret _) ?_; rintro _ w1293 ⟨rfl, H1⟩; replace H := H.seq0 H1; clear H1)
        refine WL_stepM rfl (R_pk_t rfl) ?_
        refine WL_stepM rfl (R_as) ?_
        refine WL_nil ?_
        refine W_ret ?_
        exact ⟨_, rfl, rfl, H.none (by repeat' first | exact kNil | apply kCons | apply kApp | assumption | exact OwnS.keys (by assumption))⟩
end Go.Proofs.Ythonajikgljgmaa.Reg

/-
  The law TablePlays: the walk.
-/
import Derived.Test.YtjkkfahjgaidbaaTabP
namespace Go.Proofs.Ytjkkfahjgaidbaa.TabR
open Go Go.Proofs Go.Proofs.Ytjkkfahjgaidbaa.Fx Go.Proofs.Ytjkkfahjgaidbaa.Tab
set_option maxRecDepth 100000
set_option linter.unusedVariables false
set_option linter.unusedSimpArgs false
set_option maxHeartbeats 16000000

/-- a call that comes in -/
structure TOp where
  k : Int
  h : Int
  r : Int
  v : Int
def topC (o : TOp) : List Value := [I o.k, I o.h, I o.r, I o.v]
theorem topC_len (o : TOp) : (topC o).length = 4 := rfl

theorem has_ret {w : World} {nb bL cap : Nat} {l : List Pl} {sp : List Value} {N : Nat} (n : Int) (hn : w.heap[nb]? = some (blk [vR N bL cap] 120)) (hb : ∀ p ∈ LR N bL l sp, w.heap[p.1]? = some p.2) (hN : l.length = N) (hN2 : N ≤ 256) (hg : ∀ a ∈ l, a.g ≤ 1000001) :
    Ret Try.prog 45 #[ptr nb 0, I n] w fun v w' => ∃ b, v = .bool b ∧ ((b = true ∧ ∃ (i : Nat) (a : Pl), l[i]? = some a ∧ a.u = true ∧ n = ((i + 256 * a.g : Nat) : Int)) ∨ (b = false ∧ ∀ (i : Nat) (a : Pl), l[i]? = some a → a.u = true → n ≠ ((i + 256 * a.g : Nat) : Int))) ∧ Hp w [] w' := by
  rcases there_cases l n with ⟨i, a, ha, hu, rfl⟩ | hno
  · exact (has_yes hn hb hN hN2 ha (hg a (List.mem_of_getElem? ha)) hu).mono fun v w' ⟨h1, h2⟩ => ⟨true, h1, .inl ⟨rfl, i, a, ha, hu, rfl⟩, h2⟩
  · exact (has_no hn hb hN hN2 hg hno).mono fun v w' ⟨h1, h2⟩ => ⟨false, h1, .inr ⟨rfl, hno⟩, h2⟩

theorem plays_ret {os : List TOp} {w : World} {lo : Value} (a : Int) (ho : RdR topC w lo os) (hob : os.length ≤ 9223372036854775807) :
    Ret Try.prog 12 #[I a, lo] w fun v w' => v = .bool true ∧ Hp w [] w' := by
  refine Ret_of_W (args := [_, _]) Try.func12 rfl Try.ntmps12 Try.results12 (by simp) ?_
  have H := Hp.refl w
  obtain ⟨ao, co, rfl⟩ := ho.form
  refine W_seq ?_
  refine W_region_l ?_
  refine WL_stepM rfl (R_as) ?_
  refine WL_nil ?_
  refine W_seqS [(0, 0), (24, 27)] (fun E w' => ∃ m : Int, E 0 = I m ∧ Hp w [] w') ?c1 ?k1
  · refine W_seq ?_
    refine W_region_l ?_
    refine WL_stepM rfl (R_mv) ?_
    refine WL_step rfl (R_gt rfl rfl) ?_
    refine WL_nil ?_
    refine W_if rfl (fun h11 => ?_) (fun h11 => ?_)
    · refine W_region_l ?_
      refine WL_stepM rfl (R_mv) ?_
      refine WL_step rfl (R_rem (r := a.tmod 300) rfl rfl (by decide) rfl) ?_
      refine WL_stepM rfl (R_as) ?_
      refine WL_nil ?_
      exact ⟨(same_mov rfl (same_updo rfl (same_mov rfl (same_know rfl (same_updo rfl (same_mov rfl Same.refl)))))), _, rfl, H⟩
    · refine W_skip ?_
      exact ⟨(same_know rfl (same_updo rfl (same_mov rfl Same.refl))), _, rfl, H⟩
  · (clear H; rintro E w1 ⟨m, h0, H⟩; refine W_kn h0 ?_; obtain ⟨N, hN⟩ : ∃ N, szOf m = N := ⟨_, rfl⟩; have hN2 : N ≤ 256 := (by unfold szOf at hN; omega))
    refine W_seq ?_
    refine W_region_l ?_
    refine WL_stepM rfl (R_mv) ?_
    (refine WL_call rfl (R_call rfl Try.call26 rfl) (new_ret m _) ?_; rintro _ w24 ⟨pt, bt0, rfl, H1, hpt, hbt⟩; rw [hN] at H1; have hsz := H.size; replace H := H.seqN H1 (kCons hpt (kCons hbt kNil)); replace hpt := Nat.le_trans hsz hpt; replace hbt := Nat.le_trans hsz hbt; clear H1 hsz)
    refine WL_stepM rfl (R_mv) ?_
    (refine WL_call rfl (R_call rfl Try.call43 rfl) (TabS.new_ret m _) ?_; rintro _ w26 ⟨pu, bu, rfl, H1, hpu, hbu⟩; rw [hN, s_start] at H1; have hsz := H.size; replace H := H.seqN H1 (kCons hpu (kCons hbu kNil)); replace hpu := Nat.le_trans hsz hpu; replace hbu := Nat.le_trans hsz hbu; clear H1 hsz)
    refine WL_stepM rfl (R_as) ?_
    refine WL_stepM rfl (R_as) ?_
    refine WL_nil ?_
    refine W_seq ?_
    refine W_seq ?_
    refine W_region_l ?_
    refine WL_stepM rfl (R_mv) ?_
    refine WL_step rfl (R_eq_ptr_nil Try.underlying52 rfl rfl) ?_
    refine WL_stepM rfl (R_mv) ?_
    refine WL_guard_t rfl rfl ?_
    refine WL_stepM rfl (R_mv) ?_
    refine WL_guard_t rfl rfl ?_
    refine WL_step rfl (R_eq_ptr_nil Try.underlying73 rfl rfl) ?_
    refine WL_stepM rfl (R_pk_f rfl) ?_
    refine WL_stepM rfl (R_mv) ?_
    refine WL_guard_t rfl rfl ?_
    (refine WL_call rfl (R_call rfl Try.call31 rfl) (awake_ret _) ?_; rintro _ w43 ⟨rfl, H1⟩; replace H := H.seq0 H1; clear H1)
    refine WL_guard_t rfl rfl ?_
    refine WL_step rfl (R_not_t rfl) ?_
    refine WL_stepM rfl (R_pk_f rfl) ?_
    refine WL_nil ?_
    refine W_cond_f rfl ?_
    refine W_skip ?_
    refine W_seq ?_
    refine W_region_l ?_
    refine WL_stepM rfl (R_mv) ?_
    (refine WL_call rfl (R_call rfl Try.call44 rfl) (rnew_ret m _) ?_; rintro _ w53 ⟨nb, bL, cap, sp, rfl, hnb, hbL, H1⟩; rw [hN] at H1; have hsz := H.size; replace H := H.seqN H1 (kCons hnb (LR_keys hbL)); replace hnb := Nat.le_trans hsz hnb; replace hbL := Nat.le_trans hsz hbL; clear H1 hsz; have hLK : ∀ l, ∀ p ∈ LR N bL l sp, w.heap.size ≤ p.1 := (fun l => LR_keys hbL))
    refine WL_stepM rfl (R_as) ?_
    refine WL_nil ?_
    refine W_seq ?_
    refine W_region_l ?_
    (refine WL_effn rfl (E_makeSlice H Try.underlying51 Try.sizeOf3 Try.typeInfo3 Try.zeroValue3 rfl rfl rfl (by decide) (by decide) (by decide) (by simp only [Try.t3]; omega)) ?_; clear H; intro bv w58 hbv H)
    refine WL_stepM rfl (R_as) ?_
    refine WL_nil ?_
    refine W_seq ?_
    refine W_region_l ?_
    refine WL_stepM rfl (R_as) ?_
    refine WL_nil ?_
    refine W_seq ?_
    refine W_seq ?_
    refine W_region_l ?_
    refine WL_stepM rfl (R_as) ?_
    refine WL_nil ?_
    refine W_block ?_
    refine W_loopS [(4, 4), (9, 23), (45, 264)] (fun (i : Nat) E w' => ∃ (lt : List Pl) (vs al : List Int) (va : Value) (Ma : List (Nat × Obj)), i ≤ os.length ∧ i ≤ 100 ∧ St N (i + 1) lt vs ∧ al.length ≤ i ∧ E 9 = va ∧ E 10 = I i ∧ OwnS w.heap.size 3 1 va al.length (al.map I) Ma ∧ Hp w (Ma ++ ((bv, blk (vs.map I) 3) :: (nb, blk [vR N bL cap] 120) :: (LR N bL lt sp ++ [(pu, blk [sl bu 0 N N] 115), (bu, blk (rows plc (lt.map strP)) 117), (pt, blk [sl bt0 0 N N] 93), (bt0, blk (rows plc lt) 95)]))) w') (fun i => 100 - i) 0 ?e0 ?r0
    · exact ⟨List.replicate N newPl, List.replicate 256 0, [], _, [], by omega, by omega, St.start N, by simp, rfl, rfl, OwnS.nil _ _ _, H⟩
    · (clear H; rintro i E w1 ⟨lt, vs, al, va, Ma, hi, hi2, hS, hal, h0, h1, hOa, H⟩; obtain ⟨aa, ca, rfl⟩ := hOa.form; refine W_kn2 h0 h1 ?_)
      refine W_seq ?_
      refine W_seq ?_
      refine W_region_l ?_
      refine WL_stepM rfl (R_mv) ?_
      refine WL_stepM rfl (R_mv) ?_
      refine WL_step rfl (R_len_slice Try.underlying72 rfl) ?_
      refine WL_step rfl (R_lt rfl rfl) ?_
      refine WL_stepM rfl (R_mv) ?_
      apply WL_andK 3 49 52 [(50, 52)] H
      case hc => rfl
      case h1 =>
        intro h81
        refine WL_guard_t rfl rfl ?_
        refine WL_stepM rfl (R_mv) ?_
        refine WL_guard_t rfl rfl ?_
        refine WL_step rfl (R_lt rfl rfl) ?_
        refine WL_stepM rfl (R_pk_t rfl) ?_
        refine WL_nil ?_
        exact ⟨(same_mov rfl (same_updo rfl (same_mov rfl Same.refl))), rfl, H⟩
      case h0 =>
        intro h81
        refine WL_guard_f rfl rfl (by decide) ?_
        refine WL_guard_f rfl rfl (by decide) ?_
        refine WL_stepM rfl (R_pk_f rfl) ?_
        refine WL_nil ?_
        exact ⟨(same_mov rfl (same_updo rfl (same_updo rfl Same.refl))), rfl, H⟩
      case h2 =>
        (clear H; intro E81 w81 H)
        refine WL_nil ?_
        refine W_if rfl (fun h95 => ?_) (fun h95 => ?_)
        · refine W_skip ?_
          refine W_seq ?_
          refine W_block ?_
          refine W_seq ?_
          ((obtain ⟨⟨ok, oh, orw, ov⟩, ho1⟩ : ∃ o, os[i]? = some o := ⟨_, List.getElem?_eq_getElem (by omega)⟩; obtain ⟨bz, oz, rfl, hc⟩ := ho.cell topC_len ho1)) <;> refine W_region_l ?_
          refine WL_stepM rfl (R_mv) ?_
          refine WL_stepM rfl (R_mv) ?_
          refine WL_step rfl (R_indexAddr Try.underlying72 Try.sizeOf78 rfl rfl (by omega) (by omega) idx_castn) ?_
          refine WL_step rfl (R_loadA_cell (vs := [I ok, I oh, I orw, I ov]) Try.isAgg78 Try.sizeOf78 rfl (fun j v hj => H.cellN (hc j v hj) (kApp hOa.keys (kCons (by assumption) (kCons (by assumption) (kApp (hLK _) (by repeat' first | exact kNil | apply kCons | apply kApp | assumption | exact OwnS.keys (by assumption))))))) rfl) ?_
          (refine WL_effn rfl (E_alloc H Try.zeroValue78 rfl) ?_; clear H; intro c11 w105 hc11 H)
          (refine WL_effu rfl (E_storeA (vs := [(.int _ _), (.int _ _), (.int _ _), (.int _ _)]) H Try.sizeOf78 rfl rfl (by simp [Value.oneCell']) .here (by simp)) ?_; clear H; intro w106 H)
          refine WL_nil ?_
          refine W_seq ?_
          refine W_region_l ?_
          refine WL_step rfl (R_fieldAddr (off' := 2) Try.underlying78 rfl Try.sizeOf3 (by decide) rfl rfl) ?_
          refine WL_step rfl (R_load Try.isAgg3 rfl (H.get .here) rfl) ?_
          refine WL_stepM rfl (R_as) ?_
          refine WL_nil ?_
          refine W_seqS [(12, 12), (61, 79)] (fun E w' => ∃ n : Int, E 12 = I n ∧ Hp w ((c11, blk [I ok, I oh, I orw, I ov] 78) :: (Ma ++ ((bv, blk (vs.map I) 3) :: (nb, blk [vR N bL cap] 120) :: (LR N bL lt sp ++ [(pu, blk [sl bu 0 N N] 115), (bu, blk (rows plc (lt.map strP)) 117), (pt, blk [sl bt0 0 N N] 93), (bt0, blk (rows plc lt) 95)])))) w') ?c14 ?k14
          · refine W_seq ?_
            refine W_region_l ?_
            refine WL_stepM rfl (R_mv) ?_
            refine WL_step rfl (R_len_slice Try.underlying51 rfl) ?_
            refine WL_step rfl (R_gt rfl rfl) ?_
            refine WL_stepM rfl (R_mv) ?_
            apply WL_andK 5 64 69 [(65, 69)] H
            case hc => rfl
            case h1 =>
              intro h121
              refine WL_guard_t rfl rfl ?_
              refine WL_step rfl (R_fieldAddr (off' := 1) Try.underlying78 rfl Try.sizeOf3 (by decide) rfl rfl) ?_
              refine WL_guard_t rfl rfl ?_
              refine WL_step rfl (R_load Try.isAgg3 rfl (H.get .here) rfl) ?_
              refine WL_guard_t rfl rfl ?_
              refine WL_step rfl (R_bits rfl rfl (by simp) (and_mask_i64 3 8 (by decide) rfl (by decide))) ?_
              refine WL_guard_t rfl rfl ?_
              refine WL_step rfl (R_ne rfl rfl) ?_
              refine WL_stepM rfl (R_pk_t rfl) ?_
              refine WL_nil ?_
              exact ⟨(same_mov rfl (same_updo rfl (same_updo rfl (same_updo rfl (same_updo rfl Same.refl))))), rfl, H⟩
            case h0 =>
              intro h121
              refine WL_guard_f rfl rfl (by decide) ?_
              refine WL_guard_f rfl rfl (by decide) ?_
              refine WL_guard_f rfl rfl (by decide) ?_
              refine WL_guard_f rfl rfl (by decide) ?_
              refine WL_stepM rfl (R_pk_f rfl) ?_
              refine WL_nil ?_
              exact ⟨(same_mov rfl (same_updo rfl (same_updo rfl (same_updo rfl (same_updo rfl Same.refl))))), rfl, H⟩
            case h2 =>
              (clear H; intro E121 w121 H)
              refine WL_nil ?_
              refine W_if rfl (fun h141 => ?_) (fun h141 => ?_)
              · ((have hR := RdS.own hOa (fun p hp => H.held p (by simp [hp])); obtain ⟨k, hk, hkl⟩ : ∃ k : Nat, (k : Int) = (oh / 8 % 65536) % al.length ∧ k < al.length := ⟨((oh / 8 % 65536) % al.length).toNat, Int.toNat_of_nonneg (Int.emod_nonneg _ (by omega)), by have := Int.emod_lt_of_pos (oh / 8 % 65536) (b := (al.length : Int)) (by omega); omega⟩; obtain ⟨b1, o1, rfl, hc1⟩ := hR.cell (i := k) (u := I al[k]) (by rw [List.getElem?_map, List.getElem?_eq_getElem hkl]; rfl))) <;> refine W_region_l ?_
                refine WL_stepM rfl (R_mv) ?_
                refine WL_step rfl (R_fieldAddr (off' := 1) Try.underlying78 rfl Try.sizeOf3 (by decide) rfl rfl) ?_
                refine WL_step rfl (R_load Try.isAgg3 rfl (H.get .here) rfl) ?_
                refine WL_step rfl (R_shr rfl rfl (by decide) (shr_any 8 (by decide))) ?_
                refine WL_step rfl (R_bits rfl rfl (by simp) (and_mask_i64 16 65536 (by decide) rfl (by decide))) ?_
                refine WL_stepM rfl (R_mv) ?_
                refine WL_step rfl (R_len_slice Try.underlying51 rfl) ?_
                refine WL_step rfl (R_rem rfl rfl (by omega) ((rem_pos (by omega)).trans hk.symm)) ?_
                refine WL_step rfl (R_indexAddr Try.underlying51 Try.sizeOf3 rfl rfl (by omega) (by omega) idx_cast1) ?_
                refine WL_step rfl (R_load_cell Try.isAgg3 rfl hc1) ?_
                refine WL_stepM rfl (R_as) ?_
                refine WL_nil ?_
                exact ⟨(same_mov rfl (same_updo rfl (same_updo rfl (same_updo rfl (same_updo rfl (same_mov rfl (same_updo rfl (same_updo rfl (same_updo rfl (same_updo rfl (same_mov rfl (same_know rfl (same_in rfl (same_mov rfl (same_updo rfl (same_updo rfl (same_mov rfl Same.refl))))))))))))))))), _, rfl, H⟩
              · refine W_skip ?_
                exact ⟨(same_know rfl (same_in rfl (same_mov rfl (same_updo rfl (same_updo rfl (same_mov rfl Same.refl)))))), _, rfl, H⟩
          · (clear H; rintro E w1 ⟨n, h0, H⟩; refine W_kn h0 ?_)
            refine W_seq ?_
            refine W_region_l ?_
            refine WL_stepM rfl (R_mv) ?_
            refine WL_stepM rfl (R_mv) ?_
            (refine WL_call rfl (R_call rfl Try.call45 rfl) (has_ret (l := lt) (sp := sp) n (H.get (.there (.app _ (.there .here)))) (fun p hp => H.held p (by simp [hp])) hS.len hN2 (fun a ha => by have := hS.gen a ha; omega)) ?_; rintro _ w163 ⟨bh, rfl, hbh, H1⟩; replace H := H.seq0 H1; clear H1)
            refine WL_stepM rfl (R_as) ?_
            refine WL_nil ?_
            refine W_seqS [(4, 4), (9, 9), (14, 23), (83, 242)] (fun E w' => ∃ (lt : List Pl) (vs al : List Int) (va : Value) (Ma : List (Nat × Obj)), St N (i + 2) lt vs ∧ al.length ≤ i + 1 ∧ E 9 = va ∧ OwnS w.heap.size 3 1 va al.length (al.map I) Ma ∧ Hp w ((c11, blk [I ok, I oh, I orw, I ov] 78) :: (Ma ++ ((bv, blk (vs.map I) 3) :: (nb, blk [vR N bL cap] 120) :: (LR N bL lt sp ++ [(pu, blk [sl bu 0 N N] 115), (bu, blk (rows plc (lt.map strP)) 117), (pt, blk [sl bt0 0 N N] 93), (bt0, blk (rows plc lt) 95)])))) w') ?c17 ?k17
            · refine W_seq ?_
              (((rcases hbh with ⟨rfl, i2, a2, ha2, hu2, rfl⟩ | ⟨rfl, hno⟩; have hg2 := hS.gen a2 (List.mem_of_getElem? ha2); obtain ⟨x2, hx2, hv2⟩ := hS.val i2 a2 ha2 hu2; have hi2l := (List.getElem?_eq_some_iff.1 ha2).1; rw [hS.len] at hi2l) <;> rcases (show ok = 0 ∨ ok = 1 ∨ ok = 2 ∨ (ok ≠ 0 ∧ ok ≠ 1 ∧ ok ≠ 2) by omega) with hk | hk | hk | hk)) <;> refine W_region_l ?_
              · refine WL_step rfl (R_fieldAddr (off' := 0) Try.underlying78 rfl Try.sizeOf3 (by decide) rfl rfl) ?_
                refine WL_step rfl (R_load Try.isAgg3 rfl (H.get .here) rfl) ?_
                refine WL_nil ?_
                refine W_block ?_
                refine W_seq ?_
                refine W_region_l ?_
                refine WL_step rfl (R_eq_t rfl rfl (by omega)) ?_
                refine WL_stepM rfl (R_as) ?_
                refine WL_nil ?_
                refine W_cond_t rfl ?_
                refine W_seq ?_
                ((rcases first_free lt with ⟨i3, a3, ha3, hf3, hl3⟩ | hnf; have hg3 := hS.gen a3 (List.mem_of_getElem? ha3); have hi3l := (List.getElem?_eq_some_iff.1 ha3).1; rw [hS.len] at hi3l)) <;> refine W_region_l ?_
                · refine WL_stepM rfl (R_mv) ?_
                  refine WL_step rfl (R_fieldAddr (off' := 3) Try.underlying78 rfl Try.sizeOf3 (by decide) rfl rfl) ?_
                  refine WL_step rfl (R_load Try.isAgg3 rfl (H.get .here) rfl) ?_
                  (refine WL_call rfl (R_call rfl Try.call27 rfl) (add_yes (H.get (.there (.app _ (.there (.there (.app _ (.there (.there .here)))))))) (H.get (.there (.app _ (.there (.there (.app _ (.there (.there (.there .here))))))))) hS.len hN2 (fun a ha => by have := hS.gen a ha; omega) hS.one ov ha3 hf3 hl3) ?_; rintro _ w184 ⟨rfl, H1⟩; replace H := H.seq H1 (okSeq_set (.there (.app _ (.there (.there (.app _ (.there (.there (.there .here)))))))) okSeq_nil); clear H1)
                  refine WL_stepM rfl (R_mv) ?_
                  refine WL_step rfl (R_extract rfl rfl) ?_
                  refine WL_step rfl (R_extract rfl rfl) ?_
                  refine WL_stepM rfl (R_as) ?_
                  refine WL_stepM rfl (R_as) ?_
                  refine WL_nil ?_
                  refine W_seq ?_
                  refine W_region_l ?_
                  refine WL_stepM rfl (R_mv) ?_
                  refine WL_step rfl (R_fieldAddr (off' := 3) Try.underlying78 rfl Try.sizeOf3 (by decide) rfl rfl) ?_
                  refine WL_step rfl (R_load Try.isAgg3 rfl (H.get .here) rfl) ?_
                  refine WL_step rfl (R_conv_int (r := ((bt ov).toNat : Int)) Try.underlying3 Try.underlying5 rfl (bt_wrap ov)) ?_
                  (refine WL_effn rfl (E_buildOnes (vs := [(.int _ _)]) H Try.underlying26 Try.sizeOf5 Try.zeroValue5 rfl rfl (by decide) rfl rfl (by simp [Value.oneCell'])) ?_; clear H; intro b197 w197 hb197 H)
                  (refine WL_step rfl (R_conv_bs (xs := [bt ov]) Try.underlying26 Try.underlying5 Try.underlying9 rfl (RdS.blk (c := [U (bt ov)]) (off := 0) (H.get .here) rfl (by simp) (by decide))) ?_; replace H := H.pop (by assumption))
                  (refine WL_call rfl (R_call rfl Try.call46 rfl) (TabS.add_yes (a := strP a3) (H.get (.there (.app _ (.there (.there (.app _ .here)))))) (H.get (.there (.app _ (.there (.there (.app _ (.there .here))))))) hS.slen hN2 (hS.sgen (by omega)) sone ⟨#[bt ov]⟩ (s_get ha3) hf3 (s_free hl3)) ?_; rintro _ w199 ⟨rfl, H1⟩; rw [show (strP a3).g = a3.g from rfl, s_set] at H1; rw [show (strP a3).g = a3.g from rfl]; replace H := H.seq H1 (okSeq_set (.there (.app _ (.there (.there (.app _ (.there .here)))))) okSeq_nil); clear H1)
                  refine WL_stepM rfl (R_mv) ?_
                  refine WL_step rfl (R_extract rfl rfl) ?_
                  refine WL_step rfl (R_extract rfl rfl) ?_
                  refine WL_stepM rfl (R_as) ?_
                  refine WL_stepM rfl (R_as) ?_
                  refine WL_nil ?_
                  refine W_seq ?_
                  refine W_region_l ?_
                  refine WL_stepM rfl (R_mv) ?_
                  (refine WL_call rfl (R_call rfl Try.call47 rfl) (radd_yes (l := lt) (sp := sp) (H.get (.there (.app _ (.there .here)))) (fun p hp => H.held p (by simp [hp])) hS.len hN2 ha3 hf3 hl3 (I ov)) ?_; rintro _ w209 ⟨rfl, H1⟩; replace H := seqLR (A := (c11, blk [I ok, I oh, I orw, I ov] 78) :: Ma) H H1; clear H1; have hS3 := hS.put ha3 ov hN2)
                  refine WL_stepM rfl (R_mv) ?_
                  refine WL_step rfl (R_extract rfl rfl) ?_
                  refine WL_step rfl (R_extract rfl rfl) ?_
                  refine WL_stepM rfl (R_as) ?_
                  refine WL_stepM rfl (R_as) ?_
                  refine WL_nil ?_
                  refine W_seq ?_
                  refine W_seq ?_
                  refine W_region_l ?_
                  refine WL_stepM rfl (R_mv) ?_
                  refine WL_stepM rfl (R_mv) ?_
                  refine WL_step rfl (R_ne_f rfl rfl rfl) ?_
                  refine WL_stepM rfl (R_mv) ?_
                  refine WL_guard_t rfl rfl ?_
                  refine WL_stepM rfl (R_mv) ?_
                  refine WL_guard_t rfl rfl ?_
                  refine WL_stepM rfl (R_mv) ?_
                  refine WL_guard_t rfl rfl ?_
                  refine WL_step rfl (R_ne_f rfl rfl rfl) ?_
                  refine WL_stepM rfl (R_pk_f rfl) ?_
                  refine WL_stepM rfl (R_mv) ?_
                  refine WL_guard_t rfl rfl ?_
                  refine WL_stepM rfl (R_mv) ?_
                  refine WL_guard_t rfl rfl ?_
                  refine WL_stepM rfl (R_mv) ?_
                  refine WL_guard_t rfl rfl ?_
                  refine WL_step rfl (R_ne_bool_f Try.underlying4 rfl rfl (by decide)) ?_
                  refine WL_stepM rfl (R_pk_f rfl) ?_
                  refine WL_stepM rfl (R_mv) ?_
                  refine WL_guard_t rfl rfl ?_
                  refine WL_stepM rfl (R_mv) ?_
                  refine WL_guard_t rfl rfl ?_
                  refine WL_stepM rfl (R_mv) ?_
                  refine WL_guard_t rfl rfl ?_
                  refine WL_step rfl (R_ne_bool_f Try.underlying4 rfl rfl (by decide)) ?_
                  refine WL_stepM rfl (R_pk_f rfl) ?_
                  refine WL_nil ?_
                  refine W_cond_f rfl ?_
                  refine W_skip ?_
                  refine W_seq ?_
                  refine W_region_l ?_
                  refine WL_stepM rfl (R_mv) ?_
                  refine WL_nil ?_
                  refine W_cond_t rfl ?_
                  refine W_seq ?_
                  refine W_region_l ?_
                  refine WL_stepM rfl (R_mv) ?_
                  refine WL_stepM rfl (R_mv) ?_
                  (refine WL_effn rfl (E_buildOnes (vs := [(.int _ _)]) H Try.underlying51 Try.sizeOf3 Try.zeroValue3 rfl rfl (by decide) rfl rfl (by simp [Value.oneCell'])) ?_; clear H; intro b258 w258 hb258 H)
                  (refine WL_effm rfl (E_append H (.there (.there .here)) hOa Try.underlying51 Try.typeInfo3 rfl rfl rfl rfl rfl rfl (src_one Try.underlying51 (H.get .here) rfl) (by omega) (by simp only [Try.t3]; omega)) ?_; clear H hOa; intro va2 Ma2 w259 hOa H; replace H := H.pop (by assumption))
                  refine WL_stepM rfl (R_as) ?_
                  refine WL_nil ?_
                  refine W_region_l ?_
                  refine WL_stepM rfl (R_mv) ?_
                  refine WL_stepM rfl (R_mv) ?_
                  refine WL_step rfl (R_bits (r := (i3 : Int)) rfl rfl (by simp) ((and_mask_i64 8 256 (by decide) rfl (by decide)).trans (by omega))) ?_
                  refine WL_step rfl (R_fieldAddr (off' := 3) Try.underlying78 rfl Try.sizeOf3 (by decide) rfl rfl) ?_
                  refine WL_step rfl (R_load Try.isAgg3 rfl (H.get .here) rfl) ?_
                  refine WL_step rfl (R_indexAddr (off' := i3) Try.underlying51 Try.sizeOf3 rfl rfl (by omega) (by omega) (by omega)) ?_
                  (have _g := hS3; refine WL_effu rfl (E_store (v := I ov) H Try.sizeOf3 rfl rfl rfl (.there (.app _ .here)) (by rw [List.length_map, hS.vl]; omega)) ?_; clear H; intro w269 H; rw [vs_set] at H)
                  refine WL_nil ?_
                  exact ⟨(same_updn (same_updo rfl (same_updo rfl (same_updo rfl (same_updo rfl (same_mov rfl (same_mov rfl (same_mov rfl (same_updo rfl (same_updo rfl (same_mov rfl (same_mov rfl (same_mov rfl (same_mov rfl (same_updo rfl (same_mov rfl (same_mov rfl (same_mov rfl (same_mov rfl (same_updo rfl (same_mov rfl (same_mov rfl (same_mov rfl (same_mov rfl (same_updo rfl (same_mov rfl (same_mov rfl (same_mov rfl (same_updo rfl (same_mov rfl (same_mov rfl (same_mov rfl (same_mov rfl (same_updo rfl (same_updo rfl (same_mov rfl (same_updo rfl (same_mov rfl (same_mov rfl (same_mov rfl (same_updo rfl (same_updo rfl (same_mov rfl (same_updo rfl (same_updo rfl (same_updo rfl (same_updo rfl (same_updo rfl (same_updo rfl (same_mov rfl (same_mov rfl (same_mov rfl (same_updo rfl (same_updo rfl (same_mov rfl (same_updo rfl (same_updo rfl (same_updo rfl (same_mov rfl (same_mov rfl (same_updo rfl (same_updo rfl (same_updo rfl Same.refl))))))))))))))))))))))))))))))))))))))))))))))))))))))))))))))), _, _, _, _, _, hS3.mono (by omega), (show (al ++ [((i3 + 256 * a3.g : Nat) : Int)]).length ≤ i + 1 by rw [List.length_append, List.length_singleton]; omega), rfl, (by rw [List.length_append, List.map_append]; exact hOa), H⟩
                · refine WL_stepM rfl (R_mv) ?_
                  refine WL_step rfl (R_fieldAddr (off' := 3) Try.underlying78 rfl Try.sizeOf3 (by decide) rfl rfl) ?_
                  refine WL_step rfl (R_load Try.isAgg3 rfl (H.get .here) rfl) ?_
                  (refine WL_call rfl (R_call rfl Try.call27 rfl) (add_no (H.get (.there (.app _ (.there (.there (.app _ (.there (.there .here)))))))) (H.get (.there (.app _ (.there (.there (.app _ (.there (.there (.there .here))))))))) hS.len hN2 (fun a ha => by have := hS.gen a ha; omega) hS.one ov hnf) ?_; rintro _ w275 ⟨rfl, H1⟩; replace H := H.seq0 H1; clear H1)
                  refine WL_stepM rfl (R_mv) ?_
                  refine WL_step rfl (R_extract rfl rfl) ?_
                  refine WL_step rfl (R_extract rfl rfl) ?_
                  refine WL_stepM rfl (R_as) ?_
                  refine WL_stepM rfl (R_as) ?_
                  refine WL_nil ?_
                  refine W_seq ?_
                  refine W_region_l ?_
                  refine WL_stepM rfl (R_mv) ?_
                  refine WL_step rfl (R_fieldAddr (off' := 3) Try.underlying78 rfl Try.sizeOf3 (by decide) rfl rfl) ?_
                  refine WL_step rfl (R_load Try.isAgg3 rfl (H.get .here) rfl) ?_
                  refine WL_step rfl (R_conv_int (r := ((bt ov).toNat : Int)) Try.underlying3 Try.underlying5 rfl (bt_wrap ov)) ?_
                  (refine WL_effn rfl (E_buildOnes (vs := [(.int _ _)]) H Try.underlying26 Try.sizeOf5 Try.zeroValue5 rfl rfl (by decide) rfl rfl (by simp [Value.oneCell'])) ?_; clear H; intro b288 w288 hb288 H)
                  (refine WL_step rfl (R_conv_bs (xs := [bt ov]) Try.underlying26 Try.underlying5 Try.underlying9 rfl (RdS.blk (c := [U (bt ov)]) (off := 0) (H.get .here) rfl (by simp) (by decide))) ?_; replace H := H.pop (by assumption))
                  (refine WL_call rfl (R_call rfl Try.call46 rfl) (TabS.add_no (H.get (.there (.app _ (.there (.there (.app _ .here)))))) (H.get (.there (.app _ (.there (.there (.app _ (.there .here))))))) hS.slen hN2 (hS.sgen (by omega)) sone ⟨#[bt ov]⟩ (s_nofree hnf)) ?_; rintro _ w290 ⟨rfl, H1⟩; replace H := H.seq0 H1; clear H1)
                  refine WL_stepM rfl (R_mv) ?_
                  refine WL_step rfl (R_extract rfl rfl) ?_
                  refine WL_step rfl (R_extract rfl rfl) ?_
                  refine WL_stepM rfl (R_as) ?_
                  refine WL_stepM rfl (R_as) ?_
                  refine WL_nil ?_
                  refine W_seq ?_
                  refine W_region_l ?_
                  refine WL_stepM rfl (R_mv) ?_
                  (refine WL_call rfl (R_call rfl Try.call47 rfl) (radd_no (l := lt) (sp := sp) (H.get (.there (.app _ (.there .here)))) (fun p hp => H.held p (by simp [hp])) hS.len hN2 (fun a ha => by have := hS.gen a ha; omega) hnf) ?_; rintro _ w300 ⟨rfl, H1⟩; replace H := H.seq0 H1; clear H1)
                  refine WL_stepM rfl (R_mv) ?_
                  refine WL_step rfl (R_extract rfl rfl) ?_
                  refine WL_step rfl (R_extract rfl rfl) ?_
                  refine WL_stepM rfl (R_as) ?_
                  refine WL_stepM rfl (R_as) ?_
                  refine WL_nil ?_
                  refine W_seq ?_
                  refine W_seq ?_
                  refine W_region_l ?_
                  refine WL_stepM rfl (R_mv) ?_
                  refine WL_stepM rfl (R_mv) ?_
                  refine WL_step rfl (R_ne_f rfl rfl rfl) ?_
                  refine WL_stepM rfl (R_mv) ?_
                  refine WL_guard_t rfl rfl ?_
                  refine WL_stepM rfl (R_mv) ?_
                  refine WL_guard_t rfl rfl ?_
                  refine WL_stepM rfl (R_mv) ?_
                  refine WL_guard_t rfl rfl ?_
                  refine WL_step rfl (R_ne_f rfl rfl rfl) ?_
                  refine WL_stepM rfl (R_pk_f rfl) ?_
                  refine WL_stepM rfl (R_mv) ?_
                  refine WL_guard_t rfl rfl ?_
                  refine WL_stepM rfl (R_mv) ?_
                  refine WL_guard_t rfl rfl ?_
                  refine WL_stepM rfl (R_mv) ?_
                  refine WL_guard_t rfl rfl ?_
                  refine WL_step rfl (R_ne_bool_f Try.underlying4 rfl rfl (by decide)) ?_
                  refine WL_stepM rfl (R_pk_f rfl) ?_
                  refine WL_stepM rfl (R_mv) ?_
                  refine WL_guard_t rfl rfl ?_
                  refine WL_stepM rfl (R_mv) ?_
                  refine WL_guard_t rfl rfl ?_
                  refine WL_stepM rfl (R_mv) ?_
                  refine WL_guard_t rfl rfl ?_
                  refine WL_step rfl (R_ne_bool_f Try.underlying4 rfl rfl (by decide)) ?_
                  refine WL_stepM rfl (R_pk_f rfl) ?_
                  refine WL_nil ?_
                  refine W_cond_f rfl ?_
                  refine W_skip ?_
                  refine W_seq ?_
                  refine W_region_l ?_
                  refine WL_stepM rfl (R_mv) ?_
                  refine WL_nil ?_
                  refine W_cond_f rfl ?_
                  refine W_skip ?_
                  exact ⟨(same_mov rfl (same_mov rfl (same_updo rfl (same_mov rfl (same_mov rfl (same_mov rfl (same_mov rfl (same_updo rfl (same_mov rfl (same_mov rfl (same_mov rfl (same_mov rfl (same_updo rfl (same_mov rfl (same_mov rfl (same_mov rfl (same_updo rfl (same_mov rfl (same_mov rfl (same_mov rfl (same_mov rfl (same_updo rfl (same_updo rfl (same_mov rfl (same_updo rfl (same_mov rfl (same_mov rfl (same_mov rfl (same_updo rfl (same_updo rfl (same_mov rfl (same_updo rfl (same_updo rfl (same_updo rfl (same_updo rfl (same_updo rfl (same_updo rfl (same_mov rfl (same_mov rfl (same_mov rfl (same_updo rfl (same_updo rfl (same_mov rfl (same_updo rfl (same_updo rfl (same_updo rfl (same_mov rfl (same_mov rfl (same_updo rfl (same_updo rfl (same_updo rfl Same.refl))))))))))))))))))))))))))))))))))))))))))))))))))), lt, vs, al, _, Ma, hS.mono (by omega), by omega, rfl, hOa, H⟩
              · refine WL_step rfl (R_fieldAddr (off' := 0) Try.underlying78 rfl Try.sizeOf3 (by decide) rfl rfl) ?_
                refine WL_step rfl (R_load Try.isAgg3 rfl (H.get .here) rfl) ?_
                refine WL_nil ?_
                refine W_block ?_
                refine W_seq ?_
                refine W_region_l ?_
                refine WL_step rfl (R_eq_f rfl rfl (by omega)) ?_
                refine WL_stepM rfl (R_as) ?_
                refine WL_nil ?_
                refine W_cond_f rfl ?_
                refine W_seq ?_
                refine W_region_l ?_
                refine WL_step rfl (R_eq_t rfl rfl (by omega)) ?_
                refine WL_stepM rfl (R_as) ?_
                refine WL_nil ?_
                refine W_cond_t rfl ?_
                refine W_seq ?_
                refine W_region_l ?_
                refine WL_stepM rfl (R_mv) ?_
                refine WL_stepM rfl (R_mv) ?_
                (refine WL_call rfl (R_call rfl Try.call29 rfl) (get_yes (H.get (.there (.app _ (.there (.there (.app _ (.there (.there .here)))))))) (H.get (.there (.app _ (.there (.there (.app _ (.there (.there (.there .here))))))))) hS.len hN2 ha2 (by omega) hu2) ?_; rintro _ w367 ⟨rfl, H1⟩; rw [hx2]; replace H := H.seq0 H1; clear H1)
                refine WL_stepM rfl (R_mv) ?_
                refine WL_step rfl (R_extract rfl rfl) ?_
                refine WL_step rfl (R_extract rfl rfl) ?_
                refine WL_stepM rfl (R_as) ?_
                refine WL_stepM rfl (R_as) ?_
                refine WL_nil ?_
                refine W_seq ?_
                refine W_region_l ?_
                refine WL_stepM rfl (R_mv) ?_
                refine WL_stepM rfl (R_mv) ?_
                (refine WL_call rfl (R_call rfl Try.call48 rfl) (TabS.get_yes (a := strP a2) (H.get (.there (.app _ (.there (.there (.app _ .here)))))) (H.get (.there (.app _ (.there (.there (.app _ (.there .here))))))) hS.slen hN2 (s_get ha2) (show a2.g ≤ 1000001 by omega) hu2) ?_; rintro _ w378 ⟨rfl, H1⟩; rw [show (strP a2).v = S [bt x2] from by show (if a2.u then S [bt (ix a2.v)] else TabS.zS) = _; rw [hu2, hx2]; rfl]; replace H := H.seq0 H1; clear H1)
                refine WL_stepM rfl (R_mv) ?_
                refine WL_step rfl (R_extract rfl rfl) ?_
                refine WL_step rfl (R_extract rfl rfl) ?_
                refine WL_stepM rfl (R_as) ?_
                refine WL_stepM rfl (R_as) ?_
                refine WL_nil ?_
                refine W_seq ?_
                refine W_region_l ?_
                refine WL_stepM rfl (R_mv) ?_
                refine WL_stepM rfl (R_mv) ?_
                refine WL_step rfl (R_ne_bool_f Try.underlying4 rfl rfl (by decide)) ?_
                refine WL_stepM rfl (R_mv) ?_
                refine WL_guard_t rfl rfl ?_
                refine WL_stepM rfl (R_mv) ?_
                refine WL_guard_t rfl rfl ?_
                refine WL_stepM rfl (R_mv) ?_
                refine WL_guard_t rfl rfl ?_
                refine WL_step rfl (R_ne_bool_f Try.underlying4 rfl rfl (by decide)) ?_
                refine WL_stepM rfl (R_pk_f rfl) ?_
                refine WL_stepM rfl (R_mv) ?_
                refine WL_guard_t rfl rfl ?_
                refine WL_stepM rfl (R_mv) ?_
                refine WL_guard_t rfl rfl ?_
                refine WL_stepM rfl (R_mv) ?_
                refine WL_guard_t rfl rfl ?_
                refine WL_stepM rfl (R_mv) ?_
                refine WL_guard_t rfl rfl ?_
                refine WL_stepM rfl (R_mv) ?_
                refine WL_guard_t rfl rfl ?_
                refine WL_stepM rfl (R_mv) ?_
                refine WL_guard_t rfl rfl ?_
                refine WL_step rfl (R_bits (r := (i2 : Int)) rfl rfl (by simp) ((and_mask_i64 8 256 (by decide) rfl (by decide)).trans (by omega))) ?_
                refine WL_guard_t rfl rfl ?_
                refine WL_step rfl (R_indexAddr (off' := i2) Try.underlying51 Try.sizeOf3 rfl rfl (by omega) (by omega) (by omega)) ?_
                refine WL_guard_t rfl rfl ?_
                refine WL_step rfl (R_load (v := I x2) Try.isAgg3 rfl (H.get (.there (.app _ .here))) (vs_get hv2)) ?_
                refine WL_guard_t rfl rfl ?_
                refine WL_step rfl (R_ne_f rfl rfl rfl) ?_
                refine WL_guard_t rfl rfl ?_
                refine WL_stepM rfl (R_mv) ?_
                refine WL_guard_t rfl rfl ?_
                refine WL_stepM rfl (R_mv) ?_
                refine WL_guard_t rfl rfl ?_
                refine WL_stepM rfl (R_mv) ?_
                refine WL_guard_t rfl rfl ?_
                refine WL_stepM rfl (R_mv) ?_
                refine WL_guard_t rfl rfl ?_
                refine WL_step rfl (R_bits (r := (i2 : Int)) rfl rfl (by simp) ((and_mask_i64 8 256 (by decide) rfl (by decide)).trans (by omega))) ?_
                refine WL_guard_t rfl rfl ?_
                refine WL_step rfl (R_indexAddr (off' := i2) Try.underlying51 Try.sizeOf3 rfl rfl (by omega) (by omega) (by omega)) ?_
                refine WL_guard_t rfl rfl ?_
                refine WL_step rfl (R_load (v := I x2) Try.isAgg3 rfl (H.get (.there (.app _ .here))) (vs_get hv2)) ?_
                refine WL_guard_t rfl rfl ?_
                refine WL_step rfl (R_conv_int (r := ((bt x2).toNat : Int)) Try.underlying3 Try.underlying5 rfl (bt_wrap x2)) ?_
                refine WL_guard_t rfl rfl ?_
                (refine WL_effn rfl (E_buildOnes (vs := [(.int _ _)]) H Try.underlying26 Try.sizeOf5 Try.zeroValue5 rfl rfl (by decide) rfl rfl (by simp [Value.oneCell'])) ?_; clear H; intro b434 w434 hb434 H)
                refine WL_guard_t rfl rfl ?_
                (refine WL_step rfl (R_conv_bs (xs := [bt x2]) Try.underlying26 Try.underlying5 Try.underlying9 rfl (RdS.blk (c := [U (bt x2)]) (off := 0) (H.get .here) rfl (by simp) (by decide))) ?_; replace H := H.pop (by assumption))
                refine WL_guard_t rfl rfl ?_
                refine WL_step rfl (R_ne_S_f (xs := [bt x2]) (ys := [bt x2]) rfl rfl rfl) ?_
                refine WL_guard_t rfl rfl ?_
                refine WL_stepM rfl (R_pk_f rfl) ?_
                refine WL_guard_t rfl rfl ?_
                refine WL_stepM rfl (R_pk_t rfl) ?_
                refine WL_stepM rfl (R_pk_f rfl) ?_
                refine WL_stepM rfl (R_mv) ?_
                refine WL_guard_t rfl rfl ?_
                refine WL_stepM rfl (R_mv) ?_
                refine WL_guard_t rfl rfl ?_
                refine WL_step rfl (R_not_t rfl) ?_
                refine WL_guard_t rfl rfl ?_
                refine WL_stepM rfl (R_mv) ?_
                refine WL_guard_f rfl rfl (by decide) ?_
                refine WL_guard_f rfl rfl (by decide) ?_
                refine WL_guard_f rfl rfl (by decide) ?_
                refine WL_guard_n rfl rfl ?_
                refine WL_guard_n rfl rfl ?_
                refine WL_guard_f rfl rfl (by decide) ?_
                refine WL_guard_t rfl rfl ?_
                refine WL_stepM rfl (R_pk_f rfl) ?_
                refine WL_stepM rfl (R_pk_f rfl) ?_
                refine WL_nil ?_
                refine W_cond_f rfl ?_
                refine W_skip ?_
                exact ⟨(same_mov rfl (same_mov rfl (same_updo rfl (same_updo rfl (same_updo rfl (same_updo rfl (same_updo rfl (same_updo rfl (same_mov rfl (same_updo rfl (same_mov rfl (same_mov rfl (same_mov rfl (same_mov rfl (same_mov rfl (same_updo rfl (same_updo rfl (same_updo rfl (same_updo rfl (same_updo rfl (same_updo rfl (same_updo rfl (same_mov rfl (same_mov rfl (same_mov rfl (same_mov rfl (same_updo rfl (same_updo rfl (same_updo rfl (same_updo rfl (same_mov rfl (same_mov rfl (same_mov rfl (same_mov rfl (same_mov rfl (same_mov rfl (same_mov rfl (same_updo rfl (same_mov rfl (same_mov rfl (same_mov rfl (same_updo rfl (same_mov rfl (same_mov rfl (same_mov rfl (same_mov rfl (same_updo rfl (same_updo rfl (same_mov rfl (same_updo rfl (same_mov rfl (same_mov rfl (same_mov rfl (same_mov rfl (same_updo rfl (same_updo rfl (same_mov rfl (same_updo rfl (same_mov rfl (same_mov rfl (same_mov rfl (same_updo rfl (same_mov rfl (same_updo rfl (same_updo rfl (same_updo rfl Same.refl)))))))))))))))))))))))))))))))))))))))))))))))))))))))))))))))))), lt, vs, al, _, Ma, hS.mono (by omega), by omega, rfl, hOa, H⟩
              · refine WL_step rfl (R_fieldAddr (off' := 0) Try.underlying78 rfl Try.sizeOf3 (by decide) rfl rfl) ?_
                refine WL_step rfl (R_load Try.isAgg3 rfl (H.get .here) rfl) ?_
                refine WL_nil ?_
                refine W_block ?_
                refine W_seq ?_
                refine W_region_l ?_
                refine WL_step rfl (R_eq_f rfl rfl (by omega)) ?_
                refine WL_stepM rfl (R_as) ?_
                refine WL_nil ?_
                refine W_cond_f rfl ?_
                refine W_seq ?_
                refine W_region_l ?_
                refine WL_step rfl (R_eq_f rfl rfl (by omega)) ?_
                refine WL_stepM rfl (R_as) ?_
                refine WL_nil ?_
                refine W_cond_f rfl ?_
                refine W_seq ?_
                refine W_region_l ?_
                refine WL_step rfl (R_eq_t rfl rfl (by omega)) ?_
                refine WL_stepM rfl (R_as) ?_
                refine WL_nil ?_
                refine W_cond_t rfl ?_
                refine W_seq ?_
                refine W_seq ?_
                refine W_region_l ?_
                refine WL_stepM rfl (R_mv) ?_
                refine WL_stepM rfl (R_mv) ?_
                refine WL_step rfl (R_fieldAddr (off' := 3) Try.underlying78 rfl Try.sizeOf3 (by decide) rfl rfl) ?_
                refine WL_step rfl (R_load Try.isAgg3 rfl (H.get .here) rfl) ?_
                (refine WL_call rfl (R_call rfl Try.call49 rfl) (set_yes (H.get (.there (.app _ (.there (.there (.app _ (.there (.there .here)))))))) (H.get (.there (.app _ (.there (.there (.app _ (.there (.there (.there .here))))))))) hS.len hN2 ha2 (by omega) hu2 ov) ?_; rintro _ w493 ⟨rfl, H1⟩; rw [hu2] at H1; replace H := H.seq H1 (okSeq_set (.there (.app _ (.there (.there (.app _ (.there (.there (.there .here)))))))) okSeq_nil); clear H1)
                refine WL_stepM rfl (R_mv) ?_
                refine WL_step rfl (R_ne_bool_f Try.underlying4 rfl rfl (by decide)) ?_
                refine WL_stepM rfl (R_mv) ?_
                refine WL_guard_t rfl rfl ?_
                refine WL_stepM rfl (R_mv) ?_
                refine WL_guard_t rfl rfl ?_
                refine WL_stepM rfl (R_mv) ?_
                refine WL_guard_t rfl rfl ?_
                refine WL_step rfl (R_fieldAddr (off' := 3) Try.underlying78 rfl Try.sizeOf3 (by decide) rfl rfl) ?_
                refine WL_guard_t rfl rfl ?_
                refine WL_step rfl (R_load Try.isAgg3 rfl (H.get .here) rfl) ?_
                refine WL_guard_t rfl rfl ?_
                refine WL_step rfl (R_conv_int (r := ((bt ov).toNat : Int)) Try.underlying3 Try.underlying5 rfl (bt_wrap ov)) ?_
                refine WL_guard_t rfl rfl ?_
                (refine WL_effn rfl (E_buildOnes (vs := [(.int _ _)]) H Try.underlying26 Try.sizeOf5 Try.zeroValue5 rfl rfl (by decide) rfl rfl (by simp [Value.oneCell'])) ?_; clear H; intro b508 w508 hb508 H)
                refine WL_guard_t rfl rfl ?_
                (refine WL_step rfl (R_conv_bs (xs := [bt ov]) Try.underlying26 Try.underlying5 Try.underlying9 rfl (RdS.blk (c := [U (bt ov)]) (off := 0) (H.get .here) rfl (by simp) (by decide))) ?_; replace H := H.pop (by assumption))
                refine WL_guard_t rfl rfl ?_
                (refine WL_call rfl (R_call rfl Try.call50 rfl) (TabS.set_yes (a := strP a2) (H.get (.there (.app _ (.there (.there (.app _ .here)))))) (H.get (.there (.app _ (.there (.there (.app _ (.there .here))))))) hS.slen hN2 (s_get ha2) (show a2.g ≤ 1000001 by omega) hu2 ⟨#[bt ov]⟩) ?_; rintro _ w512 ⟨rfl, H1⟩; rw [show (strP a2).g = a2.g from rfl, show (strP a2).u = true from hu2, s_set] at H1; replace H := H.seq H1 (okSeq_set (.there (.app _ (.there (.there (.app _ (.there .here)))))) okSeq_nil); clear H1)
                refine WL_guard_t rfl rfl ?_
                refine WL_stepM rfl (R_mv) ?_
                refine WL_guard_t rfl rfl ?_
                refine WL_step rfl (R_ne_bool_f Try.underlying4 rfl rfl (by decide)) ?_
                refine WL_stepM rfl (R_pk_f rfl) ?_
                refine WL_nil ?_
                refine W_cond_f rfl ?_
                refine W_skip ?_
                refine W_seq ?_
                refine W_region_l ?_
                refine WL_stepM rfl (R_mv) ?_
                refine WL_nil ?_
                refine W_cond_t rfl ?_
                refine W_region_l ?_
                refine WL_stepM rfl (R_mv) ?_
                refine WL_stepM rfl (R_mv) ?_
                refine WL_step rfl (R_bits (r := (i2 : Int)) rfl rfl (by simp) ((and_mask_i64 8 256 (by decide) rfl (by decide)).trans (by omega))) ?_
                refine WL_step rfl (R_fieldAddr (off' := 3) Try.underlying78 rfl Try.sizeOf3 (by decide) rfl rfl) ?_
                refine WL_step rfl (R_load Try.isAgg3 rfl (H.get .here) rfl) ?_
                refine WL_step rfl (R_indexAddr (off' := i2) Try.underlying51 Try.sizeOf3 rfl rfl (by omega) (by omega) (by omega)) ?_
                (have _g := hv2; refine WL_effu rfl (E_store (v := I ov) H Try.sizeOf3 rfl rfl rfl (.there (.app _ .here)) (by rw [List.length_map, hS.vl]; omega)) ?_; clear H; intro w533 H; rw [vs_set, ← LR_same (v := I ov) ha2 hu2] at H)
                refine WL_nil ?_
                exact ⟨(same_updn (same_updo rfl (same_updo rfl (same_updo rfl (same_updo rfl (same_mov rfl (same_mov rfl (same_mov rfl (same_mov rfl (same_updo rfl (same_mov rfl (same_updo rfl (same_updo rfl (same_updo rfl (same_updo rfl (same_updo rfl (same_updo rfl (same_mov rfl (same_mov rfl (same_mov rfl (same_updo rfl (same_mov rfl (same_updo rfl (same_updo rfl (same_updo rfl (same_mov rfl (same_mov rfl (same_mov rfl (same_updo rfl (same_mov rfl (same_updo rfl (same_mov rfl (same_updo rfl (same_updo rfl (same_updo rfl Same.refl))))))))))))))))))))))))))))))))))), _, _, al, _, Ma, (hS.put ha2 ov hN2).mono (by omega), by omega, rfl, hOa, H⟩
              · refine WL_step rfl (R_fieldAddr (off' := 0) Try.underlying78 rfl Try.sizeOf3 (by decide) rfl rfl) ?_
                refine WL_step rfl (R_load Try.isAgg3 rfl (H.get .here) rfl) ?_
                refine WL_nil ?_
                refine W_block ?_
                refine W_seq ?_
                refine W_region_l ?_
                refine WL_step rfl (R_eq_f rfl rfl (by omega)) ?_
                refine WL_stepM rfl (R_as) ?_
                refine WL_nil ?_
                refine W_cond_f rfl ?_
                refine W_seq ?_
                refine W_region_l ?_
                refine WL_step rfl (R_eq_f rfl rfl (by omega)) ?_
                refine WL_stepM rfl (R_as) ?_
                refine WL_nil ?_
                refine W_cond_f rfl ?_
                refine W_seq ?_
                refine W_region_l ?_
                refine WL_step rfl (R_eq_f rfl rfl (by omega)) ?_
                refine WL_stepM rfl (R_as) ?_
                refine WL_nil ?_
                refine W_cond_f rfl ?_
                refine W_seq ?_
                refine W_region_l ?_
                refine WL_stepM rfl (R_mv) ?_
                refine WL_stepM rfl (R_mv) ?_
                (refine WL_call rfl (R_call rfl Try.call28 rfl) (drop_yes (H.get (.there (.app _ (.there (.there (.app _ (.there (.there .here)))))))) (H.get (.there (.app _ (.there (.there (.app _ (.there (.there (.there .here))))))))) hS.len hN2 ha2 (by omega) hu2) ?_; rintro _ w562 ⟨rfl, H1⟩; replace H := H.seq H1 (okSeq_set (.there (.app _ (.there (.there (.app _ (.there (.there (.there .here)))))))) okSeq_nil); clear H1)
                refine WL_stepM rfl (R_mv) ?_
                refine WL_step rfl (R_ne_bool_f Try.underlying4 rfl rfl (by decide)) ?_
                refine WL_stepM rfl (R_mv) ?_
                refine WL_guard_t rfl rfl ?_
                refine WL_stepM rfl (R_mv) ?_
                refine WL_guard_t rfl rfl ?_
                refine WL_stepM rfl (R_mv) ?_
                refine WL_guard_t rfl rfl ?_
                (refine WL_call rfl (R_call rfl Try.call51 rfl) (TabS.drop_yes (a := strP a2) (H.get (.there (.app _ (.there (.there (.app _ .here)))))) (H.get (.there (.app _ (.there (.there (.app _ (.there .here))))))) hS.slen hN2 (s_get ha2) (show a2.g ≤ 1000001 by omega) hu2) ?_; rintro _ w571 ⟨rfl, H1⟩; rw [show (strP a2).g = a2.g from rfl, s_drop] at H1; replace H := H.seq H1 (okSeq_set (.there (.app _ (.there (.there (.app _ (.there .here)))))) okSeq_nil); clear H1)
                refine WL_guard_t rfl rfl ?_
                refine WL_stepM rfl (R_mv) ?_
                refine WL_guard_t rfl rfl ?_
                refine WL_step rfl (R_ne_bool_f Try.underlying4 rfl rfl (by decide)) ?_
                refine WL_stepM rfl (R_pk_f rfl) ?_
                refine WL_stepM rfl (R_mv) ?_
                refine WL_guard_t rfl rfl ?_
                refine WL_stepM rfl (R_mv) ?_
                refine WL_guard_t rfl rfl ?_
                refine WL_stepM rfl (R_mv) ?_
                refine WL_guard_t rfl rfl ?_
                (refine WL_call rfl (R_call rfl Try.call52 rfl) (rdrop_yes (l := lt) (sp := sp) (H.get (.there (.app _ (.there .here)))) (fun p hp => H.held p (by simp [hp])) hS.len hN2 ha2 (by omega) hu2 (I 0)) ?_; rintro _ w583 ⟨rfl, H1⟩; replace H := seqLR (A := (c11, blk [I ok, I oh, I orw, I ov] 78) :: Ma) H H1; clear H1)
                refine WL_guard_t rfl rfl ?_
                refine WL_stepM rfl (R_mv) ?_
                refine WL_guard_t rfl rfl ?_
                refine WL_step rfl (R_ne_bool_f Try.underlying4 rfl rfl (by decide)) ?_
                refine WL_stepM rfl (R_pk_f rfl) ?_
                refine WL_nil ?_
                refine W_cond_f rfl ?_
                refine W_skip ?_
                exact ⟨(same_mov rfl (same_updo rfl (same_mov rfl (same_updo rfl (same_mov rfl (same_mov rfl (same_mov rfl (same_mov rfl (same_updo rfl (same_mov rfl (same_updo rfl (same_mov rfl (same_mov rfl (same_mov rfl (same_updo rfl (same_mov rfl (same_updo rfl (same_mov rfl (same_mov rfl (same_mov rfl (same_updo rfl (same_mov rfl (same_updo rfl (same_mov rfl (same_updo rfl (same_updo rfl (same_updo rfl Same.refl))))))))))))))))))))))))))), _, vs, al, _, Ma, (hS.drop ha2).mono (by omega), by omega, rfl, hOa, H⟩
              · refine WL_step rfl (R_fieldAddr (off' := 0) Try.underlying78 rfl Try.sizeOf3 (by decide) rfl rfl) ?_
                refine WL_step rfl (R_load Try.isAgg3 rfl (H.get .here) rfl) ?_
                refine WL_nil ?_
                refine W_block ?_
                refine W_seq ?_
                refine W_region_l ?_
                refine WL_step rfl (R_eq_t rfl rfl (by omega)) ?_
                refine WL_stepM rfl (R_as) ?_
                refine WL_nil ?_
                refine W_cond_t rfl ?_
                refine W_seq ?_
                ((rcases first_free lt with ⟨i3, a3, ha3, hf3, hl3⟩ | hnf; have hg3 := hS.gen a3 (List.mem_of_getElem? ha3); have hi3l := (List.getElem?_eq_some_iff.1 ha3).1; rw [hS.len] at hi3l)) <;> refine W_region_l ?_
                · refine WL_stepM rfl (R_mv) ?_
                  refine WL_step rfl (R_fieldAddr (off' := 3) Try.underlying78 rfl Try.sizeOf3 (by decide) rfl rfl) ?_
                  refine WL_step rfl (R_load Try.isAgg3 rfl (H.get .here) rfl) ?_
                  (refine WL_call rfl (R_call rfl Try.call27 rfl) (add_yes (H.get (.there (.app _ (.there (.there (.app _ (.there (.there .here)))))))) (H.get (.there (.app _ (.there (.there (.app _ (.there (.there (.there .here))))))))) hS.len hN2 (fun a ha => by have := hS.gen a ha; omega) hS.one ov ha3 hf3 hl3) ?_; rintro _ w608 ⟨rfl, H1⟩; replace H := H.seq H1 (okSeq_set (.there (.app _ (.there (.there (.app _ (.there (.there (.there .here)))))))) okSeq_nil); clear H1)
                  refine WL_stepM rfl (R_mv) ?_
                  refine WL_step rfl (R_extract rfl rfl) ?_
                  refine WL_step rfl (R_extract rfl rfl) ?_
                  refine WL_stepM rfl (R_as) ?_
                  refine WL_stepM rfl (R_as) ?_
                  refine WL_nil ?_
                  refine W_seq ?_
                  refine W_region_l ?_
                  refine WL_stepM rfl (R_mv) ?_
                  refine WL_step rfl (R_fieldAddr (off' := 3) Try.underlying78 rfl Try.sizeOf3 (by decide) rfl rfl) ?_
                  refine WL_step rfl (R_load Try.isAgg3 rfl (H.get .here) rfl) ?_
                  refine WL_step rfl (R_conv_int (r := ((bt ov).toNat : Int)) Try.underlying3 Try.underlying5 rfl (bt_wrap ov)) ?_
                  (refine WL_effn rfl (E_buildOnes (vs := [(.int _ _)]) H Try.underlying26 Try.sizeOf5 Try.zeroValue5 rfl rfl (by decide) rfl rfl (by simp [Value.oneCell'])) ?_; clear H; intro b621 w621 hb621 H)
                  (refine WL_step rfl (R_conv_bs (xs := [bt ov]) Try.underlying26 Try.underlying5 Try.underlying9 rfl (RdS.blk (c := [U (bt ov)]) (off := 0) (H.get .here) rfl (by simp) (by decide))) ?_; replace H := H.pop (by assumption))
                  (refine WL_call rfl (R_call rfl Try.call46 rfl) (TabS.add_yes (a := strP a3) (H.get (.there (.app _ (.there (.there (.app _ .here)))))) (H.get (.there (.app _ (.there (.there (.app _ (.there .here))))))) hS.slen hN2 (hS.sgen (by omega)) sone ⟨#[bt ov]⟩ (s_get ha3) hf3 (s_free hl3)) ?_; rintro _ w623 ⟨rfl, H1⟩; rw [show (strP a3).g = a3.g from rfl, s_set] at H1; rw [show (strP a3).g = a3.g from rfl]; replace H := H.seq H1 (okSeq_set (.there (.app _ (.there (.there (.app _ (.there .here)))))) okSeq_nil); clear H1)
                  refine WL_stepM rfl (R_mv) ?_
                  refine WL_step rfl (R_extract rfl rfl) ?_
                  refine WL_step rfl (R_extract rfl rfl) ?_
                  refine WL_stepM rfl (R_as) ?_
                  refine WL_stepM rfl (R_as) ?_
                  refine WL_nil ?_
                  refine W_seq ?_
                  refine W_region_l ?_
                  refine WL_stepM rfl (R_mv) ?_
                  (refine WL_call rfl (R_call rfl Try.call47 rfl) (radd_yes (l := lt) (sp := sp) (H.get (.there (.app _ (.there .here)))) (fun p hp => H.held p (by simp [hp])) hS.len hN2 ha3 hf3 hl3 (I ov)) ?_; rintro _ w633 ⟨rfl, H1⟩; replace H := seqLR (A := (c11, blk [I ok, I oh, I orw, I ov] 78) :: Ma) H H1; clear H1; have hS3 := hS.put ha3 ov hN2)
                  refine WL_stepM rfl (R_mv) ?_
                  refine WL_step rfl (R_extract rfl rfl) ?_
                  refine WL_step rfl (R_extract rfl rfl) ?_
                  refine WL_stepM rfl (R_as) ?_
                  refine WL_stepM rfl (R_as) ?_
                  refine WL_nil ?_
                  refine W_seq ?_
                  refine W_seq ?_
                  refine W_region_l ?_
                  refine WL_stepM rfl (R_mv) ?_
                  refine WL_stepM rfl (R_mv) ?_
                  refine WL_step rfl (R_ne_f rfl rfl rfl) ?_
                  refine WL_stepM rfl (R_mv) ?_
                  refine WL_guard_t rfl rfl ?_
                  refine WL_stepM rfl (R_mv) ?_
                  refine WL_guard_t rfl rfl ?_
                  refine WL_stepM rfl (R_mv) ?_
                  refine WL_guard_t rfl rfl ?_
                  refine WL_step rfl (R_ne_f rfl rfl rfl) ?_
                  refine WL_stepM rfl (R_pk_f rfl) ?_
                  refine WL_stepM rfl (R_mv) ?_
                  refine WL_guard_t rfl rfl ?_
                  refine WL_stepM rfl (R_mv) ?_
                  refine WL_guard_t rfl rfl ?_
                  refine WL_stepM rfl (R_mv) ?_
                  refine WL_guard_t rfl rfl ?_
                  refine WL_step rfl (R_ne_bool_f Try.underlying4 rfl rfl (by decide)) ?_
                  refine WL_stepM rfl (R_pk_f rfl) ?_
                  refine WL_stepM rfl (R_mv) ?_
                  refine WL_guard_t rfl rfl ?_
                  refine WL_stepM rfl (R_mv) ?_
                  refine WL_guard_t rfl rfl ?_
                  refine WL_stepM rfl (R_mv) ?_
                  refine WL_guard_t rfl rfl ?_
                  refine WL_step rfl (R_ne_bool_f Try.underlying4 rfl rfl (by decide)) ?_
                  refine WL_stepM rfl (R_pk_f rfl) ?_
                  refine WL_nil ?_
                  refine W_cond_f rfl ?_
                  refine W_skip ?_
                  refine W_seq ?_
                  refine W_region_l ?_
                  refine WL_stepM rfl (R_mv) ?_
                  refine WL_nil ?_
                  refine W_cond_t rfl ?_
                  refine W_seq ?_
                  refine W_region_l ?_
                  refine WL_stepM rfl (R_mv) ?_
                  refine WL_stepM rfl (R_mv) ?_
                  (refine WL_effn rfl (E_buildOnes (vs := [(.int _ _)]) H Try.underlying51 Try.sizeOf3 Try.zeroValue3 rfl rfl (by decide) rfl rfl (by simp [Value.oneCell'])) ?_; clear H; intro b682 w682 hb682 H)
                  (refine WL_effm rfl (E_append H (.there (.there .here)) hOa Try.underlying51 Try.typeInfo3 rfl rfl rfl rfl rfl rfl (src_one Try.underlying51 (H.get .here) rfl) (by omega) (by simp only [Try.t3]; omega)) ?_; clear H hOa; intro va2 Ma2 w683 hOa H; replace H := H.pop (by assumption))
                  refine WL_stepM rfl (R_as) ?_
                  refine WL_nil ?_
                  refine W_region_l ?_
                  refine WL_stepM rfl (R_mv) ?_
                  refine WL_stepM rfl (R_mv) ?_
                  refine WL_step rfl (R_bits (r := (i3 : Int)) rfl rfl (by simp) ((and_mask_i64 8 256 (by decide) rfl (by decide)).trans (by omega))) ?_
                  refine WL_step rfl (R_fieldAddr (off' := 3) Try.underlying78 rfl Try.sizeOf3 (by decide) rfl rfl) ?_
                  refine WL_step rfl (R_load Try.isAgg3 rfl (H.get .here) rfl) ?_
                  refine WL_step rfl (R_indexAddr (off' := i3) Try.underlying51 Try.sizeOf3 rfl rfl (by omega) (by omega) (by omega)) ?_
                  (have _g := hS3; refine WL_effu rfl (E_store (v := I ov) H Try.sizeOf3 rfl rfl rfl (.there (.app _ .here)) (by rw [List.length_map, hS.vl]; omega)) ?_; clear H; intro w693 H; rw [vs_set] at H)
                  refine WL_nil ?_
                  exact ⟨(same_updn (same_updo rfl (same_updo rfl (same_updo rfl (same_updo rfl (same_mov rfl (same_mov rfl (same_mov rfl (same_updo rfl (same_updo rfl (same_mov rfl (same_mov rfl (same_mov rfl (same_mov rfl (same_updo rfl (same_mov rfl (same_mov rfl (same_mov rfl (same_mov rfl (same_updo rfl (same_mov rfl (same_mov rfl (same_mov rfl (same_mov rfl (same_updo rfl (same_mov rfl (same_mov rfl (same_mov rfl (same_updo rfl (same_mov rfl (same_mov rfl (same_mov rfl (same_mov rfl (same_updo rfl (same_updo rfl (same_mov rfl (same_updo rfl (same_mov rfl (same_mov rfl (same_mov rfl (same_updo rfl (same_updo rfl (same_mov rfl (same_updo rfl (same_updo rfl (same_updo rfl (same_updo rfl (same_updo rfl (same_updo rfl (same_mov rfl (same_mov rfl (same_mov rfl (same_updo rfl (same_updo rfl (same_mov rfl (same_updo rfl (same_updo rfl (same_updo rfl (same_mov rfl (same_mov rfl (same_updo rfl (same_updo rfl (same_updo rfl Same.refl))))))))))))))))))))))))))))))))))))))))))))))))))))))))))))))), _, _, _, _, _, hS3.mono (by omega), (show (al ++ [((i3 + 256 * a3.g : Nat) : Int)]).length ≤ i + 1 by rw [List.length_append, List.length_singleton]; omega), rfl, (by rw [List.length_append, List.map_append]; exact hOa), H⟩
                · refine WL_stepM rfl (R_mv) ?_
                  refine WL_step rfl (R_fieldAddr (off' := 3) Try.underlying78 rfl Try.sizeOf3 (by decide) rfl rfl) ?_
                  refine WL_step rfl (R_load Try.isAgg3 rfl (H.get .here) rfl) ?_
                  (refine WL_call rfl (R_call rfl Try.call27 rfl) (add_no (H.get (.there (.app _ (.there (.there (.app _ (.there (.there .here)))))))) (H.get (.there (.app _ (.there (.there (.app _ (.there (.there (.there .here))))))))) hS.len hN2 (fun a ha => by have := hS.gen a ha; omega) hS.one ov hnf) ?_; rintro _ w699 ⟨rfl, H1⟩; replace H := H.seq0 H1; clear H1)
                  refine WL_stepM rfl (R_mv) ?_
                  refine WL_step rfl (R_extract rfl rfl) ?_
                  refine WL_step rfl (R_extract rfl rfl) ?_
                  refine WL_stepM rfl (R_as) ?_
                  refine WL_stepM rfl (R_as) ?_
                  refine WL_nil ?_
                  refine W_seq ?_
                  refine W_region_l ?_
                  refine WL_stepM rfl (R_mv) ?_
                  refine WL_step rfl (R_fieldAddr (off' := 3) Try.underlying78 rfl Try.sizeOf3 (by decide) rfl rfl) ?_
                  refine WL_step rfl (R_load Try.isAgg3 rfl (H.get .here) rfl) ?_
                  refine WL_step rfl (R_conv_int (r := ((bt ov).toNat : Int)) Try.underlying3 Try.underlying5 rfl (bt_wrap ov)) ?_
                  (refine WL_effn rfl (E_buildOnes (vs := [(.int _ _)]) H Try.underlying26 Try.sizeOf5 Try.zeroValue5 rfl rfl (by decide) rfl rfl (by simp [Value.oneCell'])) ?_; clear H; intro b712 w712 hb712 H)
                  (refine WL_step rfl (R_conv_bs (xs := [bt ov]) Try.underlying26 Try.underlying5 Try.underlying9 rfl (RdS.blk (c := [U (bt ov)]) (off := 0) (H.get .here) rfl (by simp) (by decide))) ?_; replace H := H.pop (by assumption))
                  (refine WL_call rfl (R_call rfl Try.call46 rfl) (TabS.add_no (H.get (.there (.app _ (.there (.there (.app _ .here)))))) (H.get (.there (.app _ (.there (.there (.app _ (.there .here))))))) hS.slen hN2 (hS.sgen (by omega)) sone ⟨#[bt ov]⟩ (s_nofree hnf)) ?_; rintro _ w714 ⟨rfl, H1⟩; replace H := H.seq0 H1; clear H1)
                  refine WL_stepM rfl (R_mv) ?_
                  refine WL_step rfl (R_extract rfl rfl) ?_
                  refine WL_step rfl (R_extract rfl rfl) ?_
                  refine WL_stepM rfl (R_as) ?_
                  refine WL_stepM rfl (R_as) ?_
                  refine WL_nil ?_
                  refine W_seq ?_
                  refine W_region_l ?_
                  refine WL_stepM rfl (R_mv) ?_
                  (refine WL_call rfl (R_call rfl Try.call47 rfl) (radd_no (l := lt) (sp := sp) (H.get (.there (.app _ (.there .here)))) (fun p hp => H.held p (by simp [hp])) hS.len hN2 (fun a ha => by have := hS.gen a ha; omega) hnf) ?_; rintro _ w724 ⟨rfl, H1⟩; replace H := H.seq0 H1; clear H1)
                  refine WL_stepM rfl (R_mv) ?_
                  refine WL_step rfl (R_extract rfl rfl) ?_
                  refine WL_step rfl (R_extract rfl rfl) ?_
                  refine WL_stepM rfl (R_as) ?_
                  refine WL_stepM rfl (R_as) ?_
                  refine WL_nil ?_
                  refine W_seq ?_
                  refine W_seq ?_
                  refine W_region_l ?_
                  refine WL_stepM rfl (R_mv) ?_
                  refine WL_stepM rfl (R_mv) ?_
                  refine WL_step rfl (R_ne_f rfl rfl rfl) ?_
                  refine WL_stepM rfl (R_mv) ?_
                  refine WL_guard_t rfl rfl ?_
                  refine WL_stepM rfl (R_mv) ?_
                  refine WL_guard_t rfl rfl ?_
                  refine WL_stepM rfl (R_mv) ?_
                  refine WL_guard_t rfl rfl ?_
                  refine WL_step rfl (R_ne_f rfl rfl rfl) ?_
                  refine WL_stepM rfl (R_pk_f rfl) ?_
                  refine WL_stepM rfl (R_mv) ?_
                  refine WL_guard_t rfl rfl ?_
                  refine WL_stepM rfl (R_mv) ?_
                  refine WL_guard_t rfl rfl ?_
                  refine WL_stepM rfl (R_mv) ?_
                  refine WL_guard_t rfl rfl ?_
                  refine WL_step rfl (R_ne_bool_f Try.underlying4 rfl rfl (by decide)) ?_
                  refine WL_stepM rfl (R_pk_f rfl) ?_
                  refine WL_stepM rfl (R_mv) ?_
                  refine WL_guard_t rfl rfl ?_
                  refine WL_stepM rfl (R_mv) ?_
                  refine WL_guard_t rfl rfl ?_
                  refine WL_stepM rfl (R_mv) ?_
                  refine WL_guard_t rfl rfl ?_
                  refine WL_step rfl (R_ne_bool_f Try.underlying4 rfl rfl (by decide)) ?_
                  refine WL_stepM rfl (R_pk_f rfl) ?_
                  refine WL_nil ?_
                  refine W_cond_f rfl ?_
                  refine W_skip ?_
                  refine W_seq ?_
                  refine W_region_l ?_
                  refine WL_stepM rfl (R_mv) ?_
                  refine WL_nil ?_
                  refine W_cond_f rfl ?_
                  refine W_skip ?_
                  exact ⟨(same_mov rfl (same_mov rfl (same_updo rfl (same_mov rfl (same_mov rfl (same_mov rfl (same_mov rfl (same_updo rfl (same_mov rfl (same_mov rfl (same_mov rfl (same_mov rfl (same_updo rfl (same_mov rfl (same_mov rfl (same_mov rfl (same_updo rfl (same_mov rfl (same_mov rfl (same_mov rfl (same_mov rfl (same_updo rfl (same_updo rfl (same_mov rfl (same_updo rfl (same_mov rfl (same_mov rfl (same_mov rfl (same_updo rfl (same_updo rfl (same_mov rfl (same_updo rfl (same_updo rfl (same_updo rfl (same_updo rfl (same_updo rfl (same_updo rfl (same_mov rfl (same_mov rfl (same_mov rfl (same_updo rfl (same_updo rfl (same_mov rfl (same_updo rfl (same_updo rfl (same_updo rfl (same_mov rfl (same_mov rfl (same_updo rfl (same_updo rfl (same_updo rfl Same.refl))))))))))))))))))))))))))))))))))))))))))))))))))), lt, vs, al, _, Ma, hS.mono (by omega), by omega, rfl, hOa, H⟩
              · refine WL_step rfl (R_fieldAddr (off' := 0) Try.underlying78 rfl Try.sizeOf3 (by decide) rfl rfl) ?_
                refine WL_step rfl (R_load Try.isAgg3 rfl (H.get .here) rfl) ?_
                refine WL_nil ?_
                refine W_block ?_
                refine W_seq ?_
                refine W_region_l ?_
                refine WL_step rfl (R_eq_f rfl rfl (by omega)) ?_
                refine WL_stepM rfl (R_as) ?_
                refine WL_nil ?_
                refine W_cond_f rfl ?_
                refine W_seq ?_
                refine W_region_l ?_
                refine WL_step rfl (R_eq_t rfl rfl (by omega)) ?_
                refine WL_stepM rfl (R_as) ?_
                refine WL_nil ?_
                refine W_cond_t rfl ?_
                refine W_seq ?_
                refine W_region_l ?_
                refine WL_stepM rfl (R_mv) ?_
                refine WL_stepM rfl (R_mv) ?_
                (refine WL_call rfl (R_call rfl Try.call29 rfl) (get_no (H.get (.there (.app _ (.there (.there (.app _ (.there (.there .here)))))))) (H.get (.there (.app _ (.there (.there (.app _ (.there (.there (.there .here))))))))) hS.len hN2 (fun a ha => by have := hS.gen a ha; omega) hno) ?_; rintro _ w791 ⟨rfl, H1⟩; replace H := H.seq0 H1; clear H1)
                refine WL_stepM rfl (R_mv) ?_
                refine WL_step rfl (R_extract rfl rfl) ?_
                refine WL_step rfl (R_extract rfl rfl) ?_
                refine WL_stepM rfl (R_as) ?_
                refine WL_stepM rfl (R_as) ?_
                refine WL_nil ?_
                refine W_seq ?_
                refine W_region_l ?_
                refine WL_stepM rfl (R_mv) ?_
                refine WL_stepM rfl (R_mv) ?_
                (refine WL_call rfl (R_call rfl Try.call48 rfl) (TabS.get_no (H.get (.there (.app _ (.there (.there (.app _ .here)))))) (H.get (.there (.app _ (.there (.there (.app _ (.there .here))))))) hS.slen hN2 (hS.sgen (by omega)) (s_no hno)) ?_; rintro _ w802 ⟨rfl, H1⟩; replace H := H.seq0 H1; clear H1)
                refine WL_stepM rfl (R_mv) ?_
                refine WL_step rfl (R_extract rfl rfl) ?_
                refine WL_step rfl (R_extract rfl rfl) ?_
                refine WL_stepM rfl (R_as) ?_
                refine WL_stepM rfl (R_as) ?_
                refine WL_nil ?_
                refine W_seq ?_
                refine W_region_l ?_
                refine WL_stepM rfl (R_mv) ?_
                refine WL_stepM rfl (R_mv) ?_
                refine WL_step rfl (R_ne_bool_f Try.underlying4 rfl rfl (by decide)) ?_
                refine WL_stepM rfl (R_mv) ?_
                refine WL_guard_t rfl rfl ?_
                refine WL_stepM rfl (R_mv) ?_
                refine WL_guard_t rfl rfl ?_
                refine WL_stepM rfl (R_mv) ?_
                refine WL_guard_t rfl rfl ?_
                refine WL_step rfl (R_ne_bool_f Try.underlying4 rfl rfl (by decide)) ?_
                refine WL_stepM rfl (R_pk_f rfl) ?_
                refine WL_stepM rfl (R_mv) ?_
                refine WL_guard_t rfl rfl ?_
                refine WL_stepM rfl (R_mv) ?_
                refine WL_guard_t rfl rfl ?_
                refine WL_stepM rfl (R_mv) ?_
                refine WL_guard_f rfl rfl (by decide) ?_
                refine WL_guard_f rfl rfl (by decide) ?_
                refine WL_guard_f rfl rfl (by decide) ?_
                refine WL_guard_f rfl rfl (by decide) ?_
                refine WL_guard_f rfl rfl (by decide) ?_
                refine WL_guard_f rfl rfl (by decide) ?_
                refine WL_guard_f rfl rfl (by decide) ?_
                refine WL_guard_f rfl rfl (by decide) ?_
                refine WL_guard_n rfl rfl ?_
                refine WL_guard_n rfl rfl ?_
                refine WL_guard_n rfl rfl ?_
                refine WL_guard_n rfl rfl ?_
                refine WL_guard_n rfl rfl ?_
                refine WL_guard_n rfl rfl ?_
                refine WL_guard_n rfl rfl ?_
                refine WL_guard_n rfl rfl ?_
                refine WL_guard_n rfl rfl ?_
                refine WL_guard_n rfl rfl ?_
                refine WL_guard_f rfl rfl (by decide) ?_
                refine WL_guard_t rfl rfl ?_
                refine WL_stepM rfl (R_pk_f rfl) ?_
                refine WL_stepM rfl (R_pk_f rfl) ?_
                refine WL_stepM rfl (R_mv) ?_
                refine WL_guard_t rfl rfl ?_
                refine WL_stepM rfl (R_mv) ?_
                refine WL_guard_t rfl rfl ?_
                refine WL_step rfl (R_not_f rfl) ?_
                refine WL_guard_t rfl rfl ?_
                refine WL_stepM rfl (R_mv) ?_
                refine WL_guard_t rfl rfl ?_
                refine WL_stepM rfl (R_mv) ?_
                refine WL_guard_t rfl rfl ?_
                refine WL_step rfl (R_ne_f rfl rfl (by omega)) ?_
                refine WL_guard_t rfl rfl ?_
                refine WL_stepM rfl (R_mv) ?_
                refine WL_guard_t rfl rfl ?_
                refine WL_stepM rfl (R_mv) ?_
                refine WL_guard_t rfl rfl ?_
                refine WL_step rfl (R_ne_S_f (xs := []) (ys := []) rfl rfl rfl) ?_
                refine WL_guard_t rfl rfl ?_
                refine WL_stepM rfl (R_pk_f rfl) ?_
                refine WL_guard_t rfl rfl ?_
                refine WL_stepM rfl (R_pk_t rfl) ?_
                refine WL_stepM rfl (R_pk_f rfl) ?_
                refine WL_nil ?_
                refine W_cond_f rfl ?_
                refine W_skip ?_
                exact ⟨(same_mov rfl (same_mov rfl (same_mov rfl (same_updo rfl (same_mov rfl (same_mov rfl (same_updo rfl (same_mov rfl (same_mov rfl (same_updo rfl (same_mov rfl (same_mov rfl (same_mov rfl (same_mov rfl (same_updo rfl (same_updo rfl (same_updo rfl (same_updo rfl (same_updo rfl (same_updo rfl (same_updo rfl (same_updo rfl (same_updo rfl (same_updo rfl (same_updo rfl (same_updo rfl (same_updo rfl (same_updo rfl (same_updo rfl (same_updo rfl (same_updo rfl (same_updo rfl (same_updo rfl (same_mov rfl (same_mov rfl (same_mov rfl (same_mov rfl (same_updo rfl (same_mov rfl (same_mov rfl (same_mov rfl (same_updo rfl (same_mov rfl (same_mov rfl (same_mov rfl (same_mov rfl (same_updo rfl (same_updo rfl (same_mov rfl (same_updo rfl (same_mov rfl (same_mov rfl (same_mov rfl (same_mov rfl (same_updo rfl (same_updo rfl (same_mov rfl (same_updo rfl (same_mov rfl (same_mov rfl (same_mov rfl (same_updo rfl (same_mov rfl (same_updo rfl (same_updo rfl (same_updo rfl Same.refl)))))))))))))))))))))))))))))))))))))))))))))))))))))))))))))))))), lt, vs, al, _, Ma, hS.mono (by omega), by omega, rfl, hOa, H⟩
              · refine WL_step rfl (R_fieldAddr (off' := 0) Try.underlying78 rfl Try.sizeOf3 (by decide) rfl rfl) ?_
                refine WL_step rfl (R_load Try.isAgg3 rfl (H.get .here) rfl) ?_
                refine WL_nil ?_
                refine W_block ?_
                refine W_seq ?_
                refine W_region_l ?_
                refine WL_step rfl (R_eq_f rfl rfl (by omega)) ?_
                refine WL_stepM rfl (R_as) ?_
                refine WL_nil ?_
                refine W_cond_f rfl ?_
                refine W_seq ?_
                refine W_region_l ?_
                refine WL_step rfl (R_eq_f rfl rfl (by omega)) ?_
                refine WL_stepM rfl (R_as) ?_
                refine WL_nil ?_
                refine W_cond_f rfl ?_
                refine W_seq ?_
                refine W_region_l ?_
                refine WL_step rfl (R_eq_t rfl rfl (by omega)) ?_
                refine WL_stepM rfl (R_as) ?_
                refine WL_nil ?_
                refine W_cond_t rfl ?_
                refine W_seq ?_
                refine W_seq ?_
                refine W_region_l ?_
                refine WL_stepM rfl (R_mv) ?_
                refine WL_stepM rfl (R_mv) ?_
                refine WL_step rfl (R_fieldAddr (off' := 3) Try.underlying78 rfl Try.sizeOf3 (by decide) rfl rfl) ?_
                refine WL_step rfl (R_load Try.isAgg3 rfl (H.get .here) rfl) ?_
                (refine WL_call rfl (R_call rfl Try.call49 rfl) (set_no (H.get (.there (.app _ (.there (.there (.app _ (.there (.there .here)))))))) (H.get (.there (.app _ (.there (.there (.app _ (.there (.there (.there .here))))))))) hS.len hN2 (fun a ha => by have := hS.gen a ha; omega) hno ov) ?_; rintro _ w904 ⟨rfl, H1⟩; replace H := H.seq0 H1; clear H1)
                refine WL_stepM rfl (R_mv) ?_
                refine WL_step rfl (R_ne_bool_f Try.underlying4 rfl rfl (by decide)) ?_
                refine WL_stepM rfl (R_mv) ?_
                refine WL_guard_t rfl rfl ?_
                refine WL_stepM rfl (R_mv) ?_
                refine WL_guard_t rfl rfl ?_
                refine WL_stepM rfl (R_mv) ?_
                refine WL_guard_t rfl rfl ?_
                refine WL_step rfl (R_fieldAddr (off' := 3) Try.underlying78 rfl Try.sizeOf3 (by decide) rfl rfl) ?_
                refine WL_guard_t rfl rfl ?_
                refine WL_step rfl (R_load Try.isAgg3 rfl (H.get .here) rfl) ?_
                refine WL_guard_t rfl rfl ?_
                refine WL_step rfl (R_conv_int (r := ((bt ov).toNat : Int)) Try.underlying3 Try.underlying5 rfl (bt_wrap ov)) ?_
                refine WL_guard_t rfl rfl ?_
                (refine WL_effn rfl (E_buildOnes (vs := [(.int _ _)]) H Try.underlying26 Try.sizeOf5 Try.zeroValue5 rfl rfl (by decide) rfl rfl (by simp [Value.oneCell'])) ?_; clear H; intro b919 w919 hb919 H)
                refine WL_guard_t rfl rfl ?_
                (refine WL_step rfl (R_conv_bs (xs := [bt ov]) Try.underlying26 Try.underlying5 Try.underlying9 rfl (RdS.blk (c := [U (bt ov)]) (off := 0) (H.get .here) rfl (by simp) (by decide))) ?_; replace H := H.pop (by assumption))
                refine WL_guard_t rfl rfl ?_
                (refine WL_call rfl (R_call rfl Try.call50 rfl) (TabS.set_no (H.get (.there (.app _ (.there (.there (.app _ .here)))))) (H.get (.there (.app _ (.there (.there (.app _ (.there .here))))))) hS.slen hN2 (hS.sgen (by omega)) (s_no hno) ⟨#[bt ov]⟩) ?_; rintro _ w923 ⟨rfl, H1⟩; replace H := H.seq0 H1; clear H1)
                refine WL_guard_t rfl rfl ?_
                refine WL_stepM rfl (R_mv) ?_
                refine WL_guard_t rfl rfl ?_
                refine WL_step rfl (R_ne_bool_f Try.underlying4 rfl rfl (by decide)) ?_
                refine WL_stepM rfl (R_pk_f rfl) ?_
                refine WL_nil ?_
                refine W_cond_f rfl ?_
                refine W_skip ?_
                refine W_seq ?_
                refine W_region_l ?_
                refine WL_stepM rfl (R_mv) ?_
                refine WL_nil ?_
                refine W_cond_f rfl ?_
                refine W_skip ?_
                exact ⟨(same_mov rfl (same_mov rfl (same_updo rfl (same_mov rfl (same_updo rfl (same_updo rfl (same_updo rfl (same_updo rfl (same_updo rfl (same_updo rfl (same_mov rfl (same_mov rfl (same_mov rfl (same_updo rfl (same_mov rfl (same_updo rfl (same_updo rfl (same_updo rfl (same_mov rfl (same_mov rfl (same_mov rfl (same_updo rfl (same_mov rfl (same_updo rfl (same_mov rfl (same_updo rfl (same_updo rfl (same_updo rfl Same.refl)))))))))))))))))))))))))))), lt, vs, al, _, Ma, hS.mono (by omega), by omega, rfl, hOa, H⟩
              · refine WL_step rfl (R_fieldAddr (off' := 0) Try.underlying78 rfl Try.sizeOf3 (by decide) rfl rfl) ?_
                refine WL_step rfl (R_load Try.isAgg3 rfl (H.get .here) rfl) ?_
                refine WL_nil ?_
                refine W_block ?_
                refine W_seq ?_
                refine W_region_l ?_
                refine WL_step rfl (R_eq_f rfl rfl (by omega)) ?_
                refine WL_stepM rfl (R_as) ?_
                refine WL_nil ?_
                refine W_cond_f rfl ?_
                refine W_seq ?_
                refine W_region_l ?_
                refine WL_step rfl (R_eq_f rfl rfl (by omega)) ?_
                refine WL_stepM rfl (R_as) ?_
                refine WL_nil ?_
                refine W_cond_f rfl ?_
                refine W_seq ?_
                refine W_region_l ?_
                refine WL_step rfl (R_eq_f rfl rfl (by omega)) ?_
                refine WL_stepM rfl (R_as) ?_
                refine WL_nil ?_
                refine W_cond_f rfl ?_
                refine W_seq ?_
                refine W_region_l ?_
                refine WL_stepM rfl (R_mv) ?_
                refine WL_stepM rfl (R_mv) ?_
                (refine WL_call rfl (R_call rfl Try.call28 rfl) (drop_no (H.get (.there (.app _ (.there (.there (.app _ (.there (.there .here)))))))) (H.get (.there (.app _ (.there (.there (.app _ (.there (.there (.there .here))))))))) hS.len hN2 (fun a ha => by have := hS.gen a ha; omega) hno) ?_; rintro _ w965 ⟨rfl, H1⟩; replace H := H.seq0 H1; clear H1)
                refine WL_stepM rfl (R_mv) ?_
                refine WL_step rfl (R_ne_bool_f Try.underlying4 rfl rfl (by decide)) ?_
                refine WL_stepM rfl (R_mv) ?_
                refine WL_guard_t rfl rfl ?_
                refine WL_stepM rfl (R_mv) ?_
                refine WL_guard_t rfl rfl ?_
                refine WL_stepM rfl (R_mv) ?_
                refine WL_guard_t rfl rfl ?_
                (refine WL_call rfl (R_call rfl Try.call51 rfl) (TabS.drop_no (H.get (.there (.app _ (.there (.there (.app _ .here)))))) (H.get (.there (.app _ (.there (.there (.app _ (.there .here))))))) hS.slen hN2 (hS.sgen (by omega)) (s_no hno)) ?_; rintro _ w974 ⟨rfl, H1⟩; replace H := H.seq0 H1; clear H1)
                refine WL_guard_t rfl rfl ?_
                refine WL_stepM rfl (R_mv) ?_
                refine WL_guard_t rfl rfl ?_
                refine WL_step rfl (R_ne_bool_f Try.underlying4 rfl rfl (by decide)) ?_
                refine WL_stepM rfl (R_pk_f rfl) ?_
                refine WL_stepM rfl (R_mv) ?_
                refine WL_guard_t rfl rfl ?_
                refine WL_stepM rfl (R_mv) ?_
                refine WL_guard_t rfl rfl ?_
                refine WL_stepM rfl (R_mv) ?_
                refine WL_guard_t rfl rfl ?_
                (refine WL_call rfl (R_call rfl Try.call52 rfl) (rdrop_no (l := lt) (sp := sp) (H.get (.there (.app _ (.there .here)))) (fun p hp => H.held p (by simp [hp])) hS.len hN2 (fun a ha => by have := hS.gen a ha; omega) hno) ?_; rintro _ w986 ⟨rfl, H1⟩; replace H := H.seq0 H1; clear H1)
                refine WL_guard_t rfl rfl ?_
                refine WL_stepM rfl (R_mv) ?_
                refine WL_guard_t rfl rfl ?_
                refine WL_step rfl (R_ne_bool_f Try.underlying4 rfl rfl (by decide)) ?_
                refine WL_stepM rfl (R_pk_f rfl) ?_
                refine WL_nil ?_
                refine W_cond_f rfl ?_
                refine W_skip ?_
                exact ⟨(same_mov rfl (same_updo rfl (same_mov rfl (same_updo rfl (same_mov rfl (same_mov rfl (same_mov rfl (same_mov rfl (same_updo rfl (same_mov rfl (same_updo rfl (same_mov rfl (same_mov rfl (same_mov rfl (same_updo rfl (same_mov rfl (same_updo rfl (same_mov rfl (same_mov rfl (same_mov rfl (same_updo rfl (same_mov rfl (same_updo rfl (same_mov rfl (same_updo rfl (same_updo rfl (same_updo rfl Same.refl))))))))))))))))))))))))))), lt, vs, al, _, Ma, hS.mono (by omega), by omega, rfl, hOa, H⟩
            · (clear H hOa hS hal; rintro E w1 ⟨lt, vs, al, va, Ma, hS, hal, h0, hOa, H⟩; obtain ⟨aa, ca, rfl⟩ := hOa.form; refine W_kn h0 ?_; have hnl := namesFrom_le lt 0; rw [hS.len] at hnl)
              refine W_seq ?_
              refine W_region_l ?_
              refine WL_stepM rfl (R_mv) ?_
              (refine WL_call rfl (R_call rfl Try.call30 rfl) (len_ret (H.get (.there (.app _ (.there (.there (.app _ (.there (.there .here)))))))) (H.get (.there (.app _ (.there (.there (.app _ (.there (.there (.there .here))))))))) hS.len hN2 (fun a ha => by have := hS.gen a ha; omega) hS.one) ?_; rintro _ w1000 ⟨rfl, H1⟩; replace H := H.seq0 H1; clear H1)
              refine WL_stepM rfl (R_mv) ?_
              (refine WL_call rfl (R_call rfl Try.call53 rfl) (rall_ret (l := lt) (sp := sp) (H.get (.there (.app _ (.there .here)))) (fun p hp => H.held p (by simp [hp])) hS.len hN2 (fun a ha => by have := hS.gen a ha; omega)) ?_; rintro _ w1002 ⟨M2, hO2, H1⟩; obtain ⟨a2, c2, rfl⟩ := hO2.form; replace H := H.seqD H1 hO2.keys; clear H1 hO2)
              refine WL_step rfl (R_len_slice Try.underlying51 rfl) ?_
              refine WL_step rfl (R_ne_f rfl rfl rfl) ?_
              refine WL_stepM rfl (R_mv) ?_
              refine WL_guard_t rfl rfl ?_
              refine WL_stepM rfl (R_mv) ?_
              refine WL_guard_t rfl rfl ?_
              (refine WL_call rfl (R_call rfl Try.call55 rfl) (names_ret (H.get (.there (.app _ (.there (.there (.app _ (.there (.there .here)))))))) (H.get (.there (.app _ (.there (.there (.app _ (.there (.there (.there .here))))))))) hS.len hN2 (fun a ha => by have := hS.gen a ha; omega) hS.one) ?_; rintro u1009 w1009 ⟨M1, hO1, H1⟩; have h1009 := H.seqO hO1 H1; clear H H1 hO1; obtain ⟨hO1, H⟩ := h1009; obtain ⟨a1, c1, rfl⟩ := hO1.form)
              refine WL_guard_t rfl rfl ?_
              refine WL_stepM rfl (R_mv) ?_
              refine WL_guard_t rfl rfl ?_
              (have _g := hO1; refine WL_call rfl (R_call rfl Try.call53 rfl) (rall_ret (l := lt) (sp := sp) (H.get (.app _ (.there (.app _ (.there .here))))) (fun p hp => H.held p (by simp [hp])) hS.len hN2 (fun a ha => by have := hS.gen a ha; omega)) ?_; rintro u1013 w1013 ⟨M2, hO2, H1⟩; have h1013 := H.seqO hO2 H1; clear H H1 hO2; obtain ⟨hO2, H⟩ := h1013; obtain ⟨a2, c2, rfl⟩ := hO2.form)
              refine WL_guard_t rfl rfl ?_
              (refine WL_call rfl (R_call rfl Try.call54 rfl) (Bell.sameInts_ret (RdS.own hO1 (fun p hp => H.held p (by simp [hp]))) (RdS.own hO2 (fun p hp => H.held p (by simp [hp]))) (by omega) (by omega)) ?_; rintro _ w1015 ⟨rfl, H1⟩; rw [decide_eq_true rfl]; replace H := H.seq0 H1; clear H1; replace H := Hp.dropN (M := M1) (Hp.dropN (M := M2) H hO2.keys) hO1.keys; clear hO1 hO2)
              refine WL_guard_t rfl rfl ?_
              refine WL_step rfl (R_not_t rfl) ?_
              refine WL_stepM rfl (R_pk_f rfl) ?_
              refine WL_stepM rfl (R_mv) ?_
              refine WL_guard_t rfl rfl ?_
              refine WL_stepM rfl (R_mv) ?_
              refine WL_guard_t rfl rfl ?_
              (refine WL_call rfl (R_call rfl Try.call56 rfl) (TabS.names_ret (H.get (.there (.app _ (.there (.there (.app _ .here)))))) (H.get (.there (.app _ (.there (.there (.app _ (.there .here))))))) hS.slen hN2 (hS.sgen (by omega)) sone) ?_; rintro u1023 w1023 ⟨M1, hO1, H1⟩; rw [s_names] at hO1; have h1023 := H.seqO hO1 H1; clear H H1 hO1; obtain ⟨hO1, H⟩ := h1023; obtain ⟨a1, c1, rfl⟩ := hO1.form)
              refine WL_guard_t rfl rfl ?_
              refine WL_stepM rfl (R_mv) ?_
              refine WL_guard_t rfl rfl ?_
              (have _g := hO1; refine WL_call rfl (R_call rfl Try.call53 rfl) (rall_ret (l := lt) (sp := sp) (H.get (.app _ (.there (.app _ (.there .here))))) (fun p hp => H.held p (by simp [hp])) hS.len hN2 (fun a ha => by have := hS.gen a ha; omega)) ?_; rintro u1027 w1027 ⟨M2, hO2, H1⟩; have h1027 := H.seqO hO2 H1; clear H H1 hO2; obtain ⟨hO2, H⟩ := h1027; obtain ⟨a2, c2, rfl⟩ := hO2.form)
              refine WL_guard_t rfl rfl ?_
              (refine WL_call rfl (R_call rfl Try.call54 rfl) (Bell.sameInts_ret (RdS.own hO1 (fun p hp => H.held p (by simp [hp]))) (RdS.own hO2 (fun p hp => H.held p (by simp [hp]))) (by omega) (by omega)) ?_; rintro _ w1029 ⟨rfl, H1⟩; rw [decide_eq_true rfl]; replace H := H.seq0 H1; clear H1; replace H := Hp.dropN (M := M1) (Hp.dropN (M := M2) H hO2.keys) hO1.keys; clear hO1 hO2)
              refine WL_guard_t rfl rfl ?_
              refine WL_step rfl (R_not_t rfl) ?_
              refine WL_stepM rfl (R_pk_f rfl) ?_
              refine WL_nil ?_
              refine W_cond_f rfl ?_
              refine W_skip ?_
              refine W_region_l ?_
              refine WL_stepM rfl (R_mv) ?_
              refine WL_step rfl (R_add rfl rfl (w_i64 (by omega))) ?_
              refine WL_stepM rfl (R_as) ?_
              refine WL_nil ?_
              exact ⟨(same_mov rfl (same_updo rfl (same_mov rfl (same_mov rfl (same_updo rfl (same_updo rfl (same_updo rfl (same_mov rfl (same_updo rfl (same_mov rfl (same_mov rfl (same_mov rfl (same_updo rfl (same_updo rfl (same_updo rfl (same_mov rfl (same_updo rfl (same_mov rfl (same_mov rfl (same_updo rfl (same_updo rfl (same_updo rfl (same_mov rfl (same_updo rfl (same_mov rfl (same_in rfl (same_mov rfl (same_updo rfl (same_mov rfl (same_mov rfl (same_in rfl (same_mov rfl (same_updo rfl (same_updo rfl (same_updn (same_updo rfl (same_updo rfl (same_updo rfl (same_mov rfl (same_mov rfl (same_know rfl (same_in rfl (same_mov rfl (same_updo rfl (same_updo rfl (same_mov rfl (same_mov rfl same_ovr))))))))))))))))))))))))))))))))))))))))))))))), i + 1, by omega, lt, vs, al, _, Ma, by omega, by omega, hS, hal, rfl, rfl, hOa, Hp.dropN (M := [_]) H (by repeat' first | exact kNil | apply kCons | apply kApp | assumption | exact OwnS.keys (by assumption))⟩
        · refine W_exit ?_
          refine (if_pos rfl).mpr ?_
          refine W_seq ?_
          refine W_region_l ?_
          refine WL_stepM rfl (R_as) ?_
          refine WL_nil ?_
          refine W_ret ?_
          exact ⟨_, rfl, rfl, H.none (kApp hOa.keys (kCons (by assumption) (kCons (by assumption) (kApp (hLK _) (by repeat' first | exact kNil | apply kCons | apply kApp | assumption | exact OwnS.keys (by assumption))))))⟩
end Go.Proofs.Ytjkkfahjgaidbaa.TabR

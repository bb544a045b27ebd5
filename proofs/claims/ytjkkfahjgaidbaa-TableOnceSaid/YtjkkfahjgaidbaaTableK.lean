/-
  The law TableOnce: the walk.
-/
import Derived.Test.YtjkkfahjgaidbaaTableJ
import Derived.Test.YtjkkfahjgaidbaaFxL
namespace Go.Proofs.Ytjkkfahjgaidbaa.Tab
open Go Go.Proofs Go.Proofs.Ytjkkfahjgaidbaa.Fx
set_option maxRecDepth 100000
set_option linter.unusedVariables false
set_option linter.unusedSimpArgs false
set_option maxHeartbeats 2000000

theorem nameOf_inj {q r : Nat × Nat} (hq : q.1 < 256) (hr : r.1 < 256) (h : nameOf q = nameOf r) : q = r := by
  unfold nameOf at h
  exact Prod.ext (by omega) (by omega)
theorem OwnS.posF {B len sz cap : Nat} {e : TypeId} {ao : Option Addr} {xs : List Value} {M : List (Nat × Obj)} (h : OwnS B e sz (.slice ao len cap) len xs M) (h0 : 0 < len) :
    ∃ b sp, ao = some ⟨b, 0, none⟩ ∧ B ≤ b ∧ M = [(b, blk (xs ++ sp) e)] ∧ sp.length = (cap - len) * sz ∧ len ≤ cap := by
  obtain ⟨b, c, sp, hv, h1, h2, h3, h4⟩ := OwnS.pos h h0
  cases hv
  exact ⟨b, sp, rfl, h1, h2, h3, h4⟩
theorem getI_app {α : Type} {f : α → Value} {l : List α} {sp : List Value} {k : Nat} {q : α} (h : l[k]? = some q) : (l.map f ++ sp)[k]? = some (f q) := by
  have hk := (List.getElem?_eq_some_iff.1 h).1
  rw [List.getElem?_append_left (by simpa using hk), List.getElem?_map, h]; rfl
theorem setI_app {α : Type} {f : α → Value} {l : List α} {sp : List Value} {k : Nat} {q : α} (h : k < l.length) : (l.map f ++ sp).set k (f q) = (l.set k q).map f ++ sp := by
  rw [List.set_append_left _ _ (by simpa using h), List.map_set]
theorem set_same {α : Type} {l : List α} {k : Nat} {q : α} (h : l[k]? = some q) : l.set k q = l := by
  apply List.ext_getElem?
  intro j
  rw [List.getElem?_set]
  split
  · rename_i e; subst e; split
    · rw [h]
    · rename_i h'; rw [(List.getElem?_eq_none (by omega))] at h; cases h
  · rfl

theorem goneB_no {pl : List Pl} {al : List (Nat × Nat)} {N G : Nat} {q : Nat × Nat} (hN : N ≤ 256) (hT : Told N G pl al) (hq : q ∈ al) (hg : goneB pl q = true) :
    ∀ (i : Nat) (a : Pl), pl[i]? = some a → a.u = true → nameOf q ≠ ((i + 256 * a.g : Nat) : Int) := by
  intro i a ha hu he
  have hi := (List.getElem?_eq_some_iff.1 ha).1
  rw [hT.len] at hi
  have := nameOf_inj (q := q) (r := (i, a.g)) (by have := (hT.at_ q hq).1; omega) (by show i < 256; omega) he
  subst this
  unfold goneB at hg
  rw [genOf_some ha] at hg
  simp at hg
theorem goneB_yes {pl : List Pl} {al : List (Nat × Nat)} {N G : Nat} {q : Nat × Nat} (hT : Told N G pl al) (hq : q ∈ al) (hg : goneB pl q = false) :
    ∃ a, pl[q.1]? = some a ∧ q.2 = a.g ∧ a.u = true ∧ a.g ≤ G := by
  have h1 := hT.at_ q hq
  have hlt : q.1 < pl.length := by rw [hT.len]; exact h1.1
  refine ⟨pl[q.1], List.getElem?_eq_getElem hlt, ?_, ?_, hT.gen _ (List.getElem_mem _)⟩
  · have hg2 := genOf_some (List.getElem?_eq_getElem hlt)
    unfold goneB at hg
    have h2 := h1.2
    rw [hg2] at hg h2
    simp at hg
    omega
  · refine hT.cur q hq _ (List.getElem?_eq_getElem hlt) ?_
    have hg2 := genOf_some (List.getElem?_eq_getElem hlt)
    unfold goneB at hg
    have h2 := h1.2
    rw [hg2] at hg h2
    simp at hg
    omega

theorem cnt_gone {α : Type} {f : α → Bool} {l : List α} {k : Nat} (h : k < l.length) (hb : f l[k] = true) : ((l.drop k).map f).count false = ((l.drop (k + 1)).map f).count false := by
  rw [List.drop_eq_getElem_cons h, List.map_cons, hb]; rfl
theorem cnt_left {α : Type} {f : α → Bool} {l : List α} {k : Nat} (h : k < l.length) (hb : f l[k] = false) : ((l.drop k).map f).count false = ((l.drop (k + 1)).map f).count false + 1 := by
  rw [List.drop_eq_getElem_cons h, List.map_cons, hb, List.count_cons_self]
abbrev okB (b : Bool) : Value := .bool b
abbrev nmI (q : Nat × Nat) : Value := I (nameOf q)

theorem once_ret {xs : List Int} {w : World} {l : Value} (a : Int) (hl : RdS w l (xs.map I)) (hb : xs.length ≤ 9223372036854775807) :
    Ret Try.prog 9 #[I a, l] w fun v w' => v = .bool true ∧ Hp w [] w' := by
  refine Ret_of_W (args := [_, _]) Try.func9 rfl Try.ntmps9 Try.results9 (by simp) ?_
  have H := Hp.refl w
  obtain ⟨ao, ca, rfl, hca, hra⟩ := id hl
  simp only [List.length_map] at hl ⊢
  obtain ⟨n, hn, hn1, hn2⟩ : ∃ n : Nat, a % 256 % 20 + 1 = (n : Int) ∧ 1 ≤ n ∧ n ≤ 20 := ⟨(a % 256 % 20 + 1).toNat, by omega, by omega, by omega⟩
  have hsz : szOf n = n := by unfold szOf; omega
  refine W_seq ?_
  refine W_region_l ?_
  refine WL_stepM rfl (R_as) ?_
  refine WL_nil ?_
  refine W_seq ?_
  refine W_region_l ?_
  refine WL_stepM rfl (R_mv) ?_
  refine WL_step rfl (R_bits rfl rfl (by simp) (and_mask_i64 8 256 (by decide) rfl (by decide))) ?_
  refine WL_step rfl (R_rem rfl rfl (by omega) (rem_pos (by omega))) ?_
  refine WL_step rfl (R_add rfl rfl ((w_i64 (by omega)).trans hn)) ?_
  (refine WL_call rfl (R_call rfl Try.call26 rfl) (new_ret n _) ?_; rintro _ w11 ⟨p, b, rfl, H1, hp, hb⟩; rw [hsz] at H1; replace H := H.seq H1 (okSeq_new hp (okSeq_new hb okSeq_nil)); clear H1)
  refine WL_stepM rfl (R_as) ?_
  refine WL_nil ?_
  refine W_seq ?_
  refine W_seq ?_
  refine W_region_l ?_
  refine WL_stepM rfl (R_mv) ?_
  refine WL_step rfl (R_eq_ptr_nil Try.underlying52 rfl rfl) ?_
  refine WL_nil ?_
  refine W_cond_f rfl ?_
  refine W_skip ?_
  refine W_seq ?_
  refine W_region_l ?_
  refine WL_stepM rfl (R_as) ?_
  refine WL_nil ?_
  refine W_seq ?_
  refine W_region_l ?_
  refine WL_stepM rfl (R_as) ?_
  refine WL_nil ?_
  refine W_seq ?_
  refine W_seq ?_
  refine W_region_l ?_
  refine WL_stepM rfl (R_as) ?_
  refine WL_nil ?_
  refine W_blockS [(4, 4), (6, 13), (25, 95)] (fun E w' => ∃ G pl al va Ma vg Mg, G ≤ 121 ∧ E 6 = va ∧ E 7 = vg ∧ Told n G pl al ∧ al.length ≤ 120 ∧ OwnS w.heap.size 3 1 va al.length (al.map nmI) Ma ∧ OwnS w.heap.size 4 1 vg al.length ((al.map (goneB pl)).map okB) Mg ∧ Hp w (Ma ++ (Mg ++ [(b, blk (rows plc pl) 95), (p, blk [sl b 0 n n] 93)])) w') ?b0 ?k0
  · refine W_loopS [(4, 4), (6, 13), (25, 95)] (fun (i : Nat) E w' => ∃ pl al va Ma vg Mg, i ≤ xs.length ∧ i ≤ 120 ∧ E 6 = va ∧ E 7 = vg ∧ E 8 = I i ∧ Told n (i + 1) pl al ∧ al.length ≤ i ∧ OwnS w.heap.size 3 1 va al.length (al.map nmI) Ma ∧ OwnS w.heap.size 4 1 vg al.length ((al.map (goneB pl)).map okB) Mg ∧ Hp w (Ma ++ (Mg ++ [(b, blk (rows plc pl) 95), (p, blk [sl b 0 n n] 93)])) w') (fun i => 120 - i) 0 ?e0 ?r0
    · exact ⟨_, [], _, [], _, [], by omega, by omega, rfl, rfl, rfl, Told.start, by simp, OwnS.nil _ _ _, OwnS.nil _ _ _, H⟩
    · (clear H; rintro i E w1 ⟨pl, al, va, Ma, vg, Mg, hi, hi2, h0, h1, h2, hT, hal, hOa, hOg, H⟩; obtain ⟨aa, ca1, rfl⟩ := hOa.form; obtain ⟨ag1, cg1, rfl⟩ := hOg.form; refine W_kn3 h0 h1 h2 ?_; by_cases hjl : i < xs.length <;> by_cases hj120 : i < 120)
      · refine W_seq ?_
        refine W_seq ?_
        refine W_region_l ?_
        refine WL_stepM rfl (R_mv) ?_
        refine WL_stepM rfl (R_mv) ?_
        refine WL_step rfl (R_len_slice Try.underlying51 rfl) ?_
        refine WL_step rfl (R_lt_t rfl rfl (by omega)) ?_
        refine WL_stepM rfl (R_mv) ?_
        refine WL_guard_t rfl rfl ?_
        refine WL_stepM rfl (R_mv) ?_
        refine WL_guard_t rfl rfl ?_
        refine WL_step rfl (R_lt_t rfl rfl (by omega)) ?_
        refine WL_stepM rfl (R_pk_t rfl) ?_
        refine WL_nil ?_
        refine W_cond_t rfl ?_
        refine W_skip ?_
        refine W_seq ?_
        refine W_block ?_
        refine W_seq ?_
        (obtain ⟨b1, o1, rfl, hc1⟩ := hl.cell (i := i) (u := I xs[i]) (by rw [List.getElem?_map, List.getElem?_eq_getElem (by omega)]; rfl); refine W_region_l ?_)
        refine WL_stepM rfl (R_mv) ?_
        refine WL_stepM rfl (R_mv) ?_
        refine WL_step rfl (R_indexAddr Try.underlying51 Try.sizeOf3 rfl rfl (by omega) (by omega) idx_cast1) ?_
        refine WL_step rfl (R_load_cell Try.isAgg3 rfl (H.cellN hc1 (by repeat' first | exact kNil | apply kCons | apply kApp | assumption | exact OwnS.keys (by assumption)))) ?_
        refine WL_step rfl (R_bits rfl rfl (by simp) (and_mask_i64 16 65536 (by decide) rfl (by decide))) ?_
        refine WL_stepM rfl (R_as) ?_
        refine WL_nil ?_
        refine W_seq ?_
        refine W_seq ?_
        refine W_region_l ?_
        refine WL_stepM rfl (R_mv) ?_
        refine WL_step rfl (R_bits rfl rfl (by simp) (and_mask_i64 1 2 (by decide) rfl (by decide))) ?_
        refine WL_step rfl (R_eq rfl rfl) ?_
        refine WL_stepM rfl (R_mv) ?_
        refine WL_if 43 rfl (fun h73 => ?_) (fun h73 => ?_)
        · refine WL_guard_f rfl rfl (by decide) ?_
          refine WL_guard_f rfl rfl (by decide) ?_
          refine WL_guard_f rfl rfl (by decide) ?_
          refine WL_stepM rfl (R_pk_t rfl) ?_
          refine WL_nil ?_
          refine W_cond_t rfl ?_
          refine W_seq ?_
          refine W_region_l ?_
          refine WL_stepM rfl (R_mv) ?_
          refine WL_stepM rfl (R_mv) ?_
          (refine WL_call rfl (R_call rfl Try.call27 rfl) (add_ret (H.get (.app _ (.app _ (.there .here)))) (H.get (.app _ (.app _ .here))) hT.len (by omega) (fun a ha => by have := hT.gen a ha; omega) hT.one i) ?_; rintro _ w84 (⟨i2, a2, ha2, hf2, _, rfl, H1⟩ | ⟨hno, rfl, H1⟩); (obtain ⟨hnew, hT2, hgo⟩ := hT.add ha2 hf2.1 (v := I i) rfl); replace H := H.seq H1 (okSeq_set (.app _ (.app _ .here)) okSeq_nil); clear H1; rotate_left; replace H := H.seq0 H1; clear H1; rotate_left)
          · refine WL_stepM rfl (R_mv) ?_
            refine WL_step rfl (R_extract rfl rfl) ?_
            refine WL_step rfl (R_extract rfl rfl) ?_
            refine WL_stepM rfl (R_as) ?_
            refine WL_stepM rfl (R_as) ?_
            refine WL_nil ?_
            refine W_seq ?_
            refine W_seq ?_
            refine W_region_l ?_
            refine WL_stepM rfl (R_as) ?_
            refine WL_nil ?_
            refine W_block ?_
            refine W_loopS [(4, 4), (12, 12), (54, 68)] (fun (k : Nat) E w' => k ≤ al.length ∧ E 12 = I k ∧ Hp w (Ma ++ (Mg ++ [(b, blk (rows plc (pl.set i2 ⟨I i, a2.g, true⟩)) 95), (p, blk [sl b 0 n n] 93)])) w') (fun k => al.length - k) 0 ?e2 ?r2
            · exact ⟨by omega, rfl, H⟩
            · (clear H; rintro k E w1 ⟨hk, h0, H⟩; refine W_kn h0 ?_; by_cases hlk : k < al.length)
              · refine W_seq ?_
                refine W_seq ?_
                refine W_region_l ?_
                refine WL_stepM rfl (R_mv) ?_
                refine WL_stepM rfl (R_mv) ?_
                refine WL_guard_t rfl rfl ?_
                refine WL_stepM rfl (R_mv) ?_
                refine WL_guard_t rfl rfl ?_
                refine WL_stepM rfl (R_mv) ?_
                refine WL_guard_t rfl rfl ?_
                refine WL_step rfl (R_len_slice Try.underlying51 rfl) ?_
                refine WL_guard_t rfl rfl ?_
                refine WL_step rfl (R_lt_t rfl rfl (by omega)) ?_
                refine WL_stepM rfl (R_pk_t rfl) ?_
                refine WL_nil ?_
                refine W_cond_t rfl ?_
                refine W_skip ?_
                refine W_seq ?_
                refine W_block ?_
                refine W_seq ?_
                (obtain ⟨ba, spa, rfl, hba, rfl, hspa, hcaa⟩ := OwnS.posF hOa (by omega); rw [List.cons_append, List.nil_append] at H; refine W_region_l ?_)
                refine WL_stepM rfl (R_mv) ?_
                refine WL_stepM rfl (R_mv) ?_
                refine WL_step rfl (R_indexAddr Try.underlying51 Try.sizeOf3 rfl rfl (by omega) (by omega) idx0_cast) ?_
                refine WL_step rfl (R_load Try.isAgg3 rfl (H.get .here) (getI_app (List.getElem?_eq_getElem hlk))) ?_
                refine WL_stepM rfl (R_mv) ?_
                refine WL_step rfl (R_eq_f rfl rfl (fun e => hnew (by have hq := nameOf_inj (q := al[k]) (r := (i2, a2.g)) (by have := (hT.at_ _ (List.getElem_mem hlk)).1; omega) (by show i2 < 256; have := (List.getElem?_eq_some_iff.1 ha2).1; rw [hT.len] at this; omega) e; exact hq ▸ List.getElem_mem hlk))) ?_
                refine WL_nil ?_
                refine W_cond_f rfl ?_
                refine W_skip ?_
                refine W_region_l ?_
                refine WL_stepM rfl (R_mv) ?_
                refine WL_step rfl (R_add rfl rfl (w_i64 (by omega))) ?_
                refine WL_stepM rfl (R_as) ?_
                refine WL_nil ?_
                exact ⟨(by repeat' first | exact same_ovr | exact Same.refl | refine same_mov rfl ?_ | refine same_updo rfl ?_ | refine same_upd rfl ?_ | refine same_updn ?_ | refine same_know rfl ?_ | refine same_in rfl ?_), k + 1, by omega, by omega, rfl, H⟩
              · refine W_seq ?_
                refine W_seq ?_
                refine W_region_l ?_
                refine WL_stepM rfl (R_mv) ?_
                refine WL_stepM rfl (R_mv) ?_
                refine WL_guard_t rfl rfl ?_
                refine WL_stepM rfl (R_mv) ?_
                refine WL_guard_t rfl rfl ?_
                refine WL_stepM rfl (R_mv) ?_
                refine WL_guard_t rfl rfl ?_
                refine WL_step rfl (R_len_slice Try.underlying51 rfl) ?_
                refine WL_guard_t rfl rfl ?_
                refine WL_step rfl (R_lt_f rfl rfl (by omega)) ?_
                refine WL_stepM rfl (R_pk_t rfl) ?_
                refine WL_nil ?_
                refine W_cond_f rfl ?_
                refine W_exit ?_
                refine (if_pos rfl).mpr ?_
                refine W_seq ?_
                refine W_seq ?_
                refine W_region_l ?_
                refine WL_stepM rfl (R_mv) ?_
                refine WL_nil ?_
                refine W_cond_t rfl ?_
                refine W_region_l ?_
                refine WL_stepM rfl (R_mv) ?_
                refine WL_stepM rfl (R_mv) ?_
                (refine WL_effn rfl (E_buildSlice (vs := [(.int _ _)]) H Try.underlying51 Try.sizeOf3 Try.zeroValue3 rfl rfl (by decide) rfl rfl) ?_; clear H; intro b162 w162 hb162 H)
                (refine WL_effm rfl (E_append H (.there .here) hOa Try.underlying51 Try.typeInfo3 rfl rfl rfl rfl rfl rfl (src_one Try.underlying51 (H.get .here) rfl) (by omega) (by simp only [Try.t3]; omega)) ?_; clear H hOa; intro va2 Ma2 w163 hOa H; replace H := H.pop (by assumption))
                refine WL_stepM rfl (R_mv) ?_
                (refine WL_effn rfl (E_buildSlice (vs := [(.bool _)]) H Try.underlying54 Try.sizeOf4 Try.zeroValue4 rfl rfl (by decide) rfl rfl) ?_; clear H; intro b165 w165 hb165 H)
                (refine WL_effm rfl (E_append H (.there (.app _ .here)) hOg Try.underlying54 Try.typeInfo4 rfl rfl rfl rfl rfl rfl (src_one Try.underlying54 (H.get .here) rfl) (by omega) (by simp only [Try.t4]; omega)) ?_; clear H hOg; intro vg2 Mg2 w166 hOg H; replace H := H.pop (by assumption))
                refine WL_stepM rfl (R_as) ?_
                refine WL_stepM rfl (R_as) ?_
                refine WL_nil ?_
                refine W_exit ?_
                refine (if_pos rfl).mpr ?_
                refine W_region_l ?_
                refine WL_stepM rfl (R_mv) ?_
                refine WL_step rfl (R_add rfl rfl (w_i64 (by omega))) ?_
                refine WL_stepM rfl (R_as) ?_
                refine WL_nil ?_
                exact ⟨(by repeat' first | exact same_ovr | exact Same.refl | refine same_mov rfl ?_ | refine same_updo rfl ?_ | refine same_upd rfl ?_ | refine same_updn ?_ | refine same_know rfl ?_ | refine same_in rfl ?_), i + 1, by omega, _, al ++ [(i2, a2.g)], _, _, _, _, by omega, by omega, rfl, rfl, rfl, hT2.mono (by omega), (by rw [List.length_append, List.length_singleton]; omega), (by rw [List.length_append, List.map_append]; exact hOa), (by rw [List.length_append, hgo, List.map_append]; exact hOg), H⟩
          · refine WL_stepM rfl (R_mv) ?_
            refine WL_step rfl (R_extract rfl rfl) ?_
            refine WL_step rfl (R_extract rfl rfl) ?_
            refine WL_stepM rfl (R_as) ?_
            refine WL_stepM rfl (R_as) ?_
            refine WL_nil ?_
            refine W_seq ?_
            refine W_seq ?_
            refine W_region_l ?_
            refine WL_stepM rfl (R_as) ?_
            refine WL_nil ?_
            refine W_block ?_
            refine W_rounds 0 ?_
            refine W_seq ?_
            refine W_seq ?_
            refine W_region_l ?_
            refine WL_stepM rfl (R_mv) ?_
            refine WL_stepM rfl (R_mv) ?_
            refine WL_guard_f rfl rfl (by decide) ?_
            refine WL_guard_f rfl rfl (by decide) ?_
            refine WL_guard_f rfl rfl (by decide) ?_
            refine WL_guard_f rfl rfl (by decide) ?_
            refine WL_stepM rfl (R_pk_f rfl) ?_
            refine WL_nil ?_
            refine W_cond_f rfl ?_
            refine W_exit ?_
            refine (if_pos rfl).mpr ?_
            refine W_seq ?_
            refine W_seq ?_
            refine W_region_l ?_
            refine WL_stepM rfl (R_mv) ?_
            refine WL_nil ?_
            refine W_cond_f rfl ?_
            refine W_skip ?_
            refine W_exit ?_
            refine (if_pos rfl).mpr ?_
            refine W_region_l ?_
            refine WL_stepM rfl (R_mv) ?_
            refine WL_step rfl (R_add rfl rfl (w_i64 (by omega))) ?_
            refine WL_stepM rfl (R_as) ?_
            refine WL_nil ?_
            exact ⟨(by repeat' first | exact same_ovr | exact Same.refl | refine same_mov rfl ?_ | refine same_updo rfl ?_ | refine same_upd rfl ?_ | refine same_updn ?_ | refine same_know rfl ?_ | refine same_in rfl ?_), i + 1, by omega, pl, al, _, Ma, _, Mg, by omega, by omega, rfl, rfl, rfl, hT.mono (by omega), by omega, hOa, hOg, H⟩
        · refine WL_guard_t rfl rfl ?_
          refine WL_stepM rfl (R_mv) ?_
          refine WL_guard_t rfl rfl ?_
          refine WL_step rfl (R_len_slice Try.underlying51 rfl) ?_
          refine WL_guard_t rfl rfl ?_
          refine WL_step rfl (R_eq rfl rfl) ?_
          refine WL_stepM rfl (R_pk_f rfl) ?_
          refine WL_nil ?_
          refine W_if rfl (fun h227 => ?_) (fun h227 => ?_)
          · refine W_seq ?_
            refine W_region_l ?_
            refine WL_stepM rfl (R_mv) ?_
            refine WL_stepM rfl (R_mv) ?_
            (refine WL_call rfl (R_call rfl Try.call27 rfl) (add_ret (H.get (.app _ (.app _ (.there .here)))) (H.get (.app _ (.app _ .here))) hT.len (by omega) (fun a ha => by have := hT.gen a ha; omega) hT.one i) ?_; rintro _ w232 (⟨i2, a2, ha2, hf2, _, rfl, H1⟩ | ⟨hno, rfl, H1⟩); (obtain ⟨hnew, hT2, hgo⟩ := hT.add ha2 hf2.1 (v := I i) rfl); replace H := H.seq H1 (okSeq_set (.app _ (.app _ .here)) okSeq_nil); clear H1; rotate_left; replace H := H.seq0 H1; clear H1; rotate_left)
            · refine WL_stepM rfl (R_mv) ?_
              refine WL_step rfl (R_extract rfl rfl) ?_
              refine WL_step rfl (R_extract rfl rfl) ?_
              refine WL_stepM rfl (R_as) ?_
              refine WL_stepM rfl (R_as) ?_
              refine WL_nil ?_
              refine W_seq ?_
              refine W_seq ?_
              refine W_region_l ?_
              refine WL_stepM rfl (R_as) ?_
              refine WL_nil ?_
              refine W_block ?_
              refine W_rounds 0 ?_
              refine W_seq ?_
              refine W_seq ?_
              refine W_region_l ?_
              refine WL_stepM rfl (R_mv) ?_
              refine WL_stepM rfl (R_mv) ?_
              refine WL_guard_t rfl rfl ?_
              refine WL_stepM rfl (R_mv) ?_
              refine WL_guard_t rfl rfl ?_
              refine WL_stepM rfl (R_mv) ?_
              refine WL_guard_t rfl rfl ?_
              refine WL_step rfl (R_len_slice Try.underlying51 rfl) ?_
              refine WL_guard_t rfl rfl ?_
              refine WL_step rfl (R_lt_f rfl rfl (by omega)) ?_
              refine WL_stepM rfl (R_pk_t rfl) ?_
              refine WL_nil ?_
              refine W_cond_f rfl ?_
              refine W_exit ?_
              refine (if_pos rfl).mpr ?_
              refine W_seq ?_
              refine W_seq ?_
              refine W_region_l ?_
              refine WL_stepM rfl (R_mv) ?_
              refine WL_nil ?_
              refine W_cond_t rfl ?_
              refine W_region_l ?_
              refine WL_stepM rfl (R_mv) ?_
              refine WL_stepM rfl (R_mv) ?_
              (refine WL_effn rfl (E_buildSlice (vs := [(.int _ _)]) H Try.underlying51 Try.sizeOf3 Try.zeroValue3 rfl rfl (by decide) rfl rfl) ?_; clear H; intro b272 w272 hb272 H)
              (refine WL_effm rfl (E_append H (.there .here) hOa Try.underlying51 Try.typeInfo3 rfl rfl rfl rfl rfl rfl (src_one Try.underlying51 (H.get .here) rfl) (by omega) (by simp only [Try.t3]; omega)) ?_; clear H hOa; intro va2 Ma2 w273 hOa H; replace H := H.pop (by assumption))
              refine WL_stepM rfl (R_mv) ?_
              (refine WL_effn rfl (E_buildSlice (vs := [(.bool _)]) H Try.underlying54 Try.sizeOf4 Try.zeroValue4 rfl rfl (by decide) rfl rfl) ?_; clear H; intro b275 w275 hb275 H)
              (refine WL_effm rfl (E_append H (.there (.app _ .here)) hOg Try.underlying54 Try.typeInfo4 rfl rfl rfl rfl rfl rfl (src_one Try.underlying54 (H.get .here) rfl) (by omega) (by simp only [Try.t4]; omega)) ?_; clear H hOg; intro vg2 Mg2 w276 hOg H; replace H := H.pop (by assumption))
              refine WL_stepM rfl (R_as) ?_
              refine WL_stepM rfl (R_as) ?_
              refine WL_nil ?_
              refine W_exit ?_
              refine (if_pos rfl).mpr ?_
              refine W_region_l ?_
              refine WL_stepM rfl (R_mv) ?_
              refine WL_step rfl (R_add rfl rfl (w_i64 (by omega))) ?_
              refine WL_stepM rfl (R_as) ?_
              refine WL_nil ?_
              exact ⟨(by repeat' first | exact same_ovr | exact Same.refl | refine same_mov rfl ?_ | refine same_updo rfl ?_ | refine same_upd rfl ?_ | refine same_updn ?_ | refine same_know rfl ?_ | refine same_in rfl ?_), i + 1, by omega, _, al ++ [(i2, a2.g)], _, _, _, _, by omega, by omega, rfl, rfl, rfl, hT2.mono (by omega), (by rw [List.length_append, List.length_singleton]; omega), (by rw [List.length_append, List.map_append]; exact hOa), (by rw [List.length_append, hgo, List.map_append]; exact hOg), H⟩
            · refine WL_stepM rfl (R_mv) ?_
              refine WL_step rfl (R_extract rfl rfl) ?_
              refine WL_step rfl (R_extract rfl rfl) ?_
              refine WL_stepM rfl (R_as) ?_
              refine WL_stepM rfl (R_as) ?_
              refine WL_nil ?_
              refine W_seq ?_
              refine W_seq ?_
              refine W_region_l ?_
              refine WL_stepM rfl (R_as) ?_
              refine WL_nil ?_
              refine W_block ?_
              refine W_rounds 0 ?_
              refine W_seq ?_
              refine W_seq ?_
              refine W_region_l ?_
              refine WL_stepM rfl (R_mv) ?_
              refine WL_stepM rfl (R_mv) ?_
              refine WL_guard_f rfl rfl (by decide) ?_
              refine WL_guard_f rfl rfl (by decide) ?_
              refine WL_guard_f rfl rfl (by decide) ?_
              refine WL_guard_f rfl rfl (by decide) ?_
              refine WL_stepM rfl (R_pk_f rfl) ?_
              refine WL_nil ?_
              refine W_cond_f rfl ?_
              refine W_exit ?_
              refine (if_pos rfl).mpr ?_
              refine W_seq ?_
              refine W_seq ?_
              refine W_region_l ?_
              refine WL_stepM rfl (R_mv) ?_
              refine WL_nil ?_
              refine W_cond_f rfl ?_
              refine W_skip ?_
              refine W_exit ?_
              refine (if_pos rfl).mpr ?_
              refine W_region_l ?_
              refine WL_stepM rfl (R_mv) ?_
              refine WL_step rfl (R_add rfl rfl (w_i64 (by omega))) ?_
              refine WL_stepM rfl (R_as) ?_
              refine WL_nil ?_
              exact ⟨(by repeat' first | exact same_ovr | exact Same.refl | refine same_mov rfl ?_ | refine same_updo rfl ?_ | refine same_upd rfl ?_ | refine same_updn ?_ | refine same_know rfl ?_ | refine same_in rfl ?_), i + 1, by omega, pl, al, _, Ma, _, Mg, by omega, by omega, rfl, rfl, rfl, hT.mono (by omega), by omega, hOa, hOg, H⟩
          · refine W_skip ?_
            refine W_seq ?_
            (obtain ⟨k, hk, hkl⟩ : ∃ k : Nat, (k : Int) = (xs[i] % 65536 / 2) % al.length ∧ k < al.length := ⟨((xs[i] % 65536 / 2) % al.length).toNat, Int.toNat_of_nonneg (Int.emod_nonneg _ (by omega)), by have := Int.emod_lt_of_pos (xs[i] % 65536 / 2) (b := (al.length : Int)) (by omega); omega⟩; obtain ⟨ba, spa, rfl, hba, rfl, hspa, hcaa⟩ := OwnS.posF hOa (by omega); obtain ⟨bg, spg, rfl, hbg, rfl, hspg, hcag⟩ := OwnS.posF hOg (by omega); simp only [List.cons_append, List.nil_append] at H; cases hgk : goneB pl al[k] <;> refine W_region_l ?_)
            · refine WL_stepM rfl (R_mv) ?_
              refine WL_step rfl (R_shr rfl rfl (by decide) (shr_any 2 (by decide))) ?_
              refine WL_stepM rfl (R_mv) ?_
              refine WL_step rfl (R_len_slice Try.underlying51 rfl) ?_
              refine WL_step rfl (R_rem rfl rfl (by omega) ((rem_pos (by omega)).trans hk.symm)) ?_
              refine WL_stepM rfl (R_as) ?_
              refine WL_nil ?_
              refine W_seq ?_
              refine W_seq ?_
              (refine W_draw (Kp [(ba, blk (al.map nmI ++ spa) 3), (bg, blk ((al.map (goneB pl)).map okB ++ spg) 4), (p, blk [sl b 0 n n] 93)]) (fun _ => false) (by kernel_rfl) H ?_; clear H; intro w341 H)
              refine WA_takeM 0 rfl rfl rfl (by kernel_rfl) (by kernel_rfl) (H.kp.sub (by simp)) (fun _ hC => R_mv) ?_
              refine WA_takeM 1 rfl rfl rfl (by kernel_rfl) (by kernel_rfl) (H.kp.sub (by simp)) (fun _ hC => R_mv) ?_
              refine WA_takeM 2 rfl rfl rfl (by kernel_rfl) (by kernel_rfl) (H.kp.sub (by simp)) (fun _ hC => R_mv) ?_
              refine WA_take 3 rfl rfl rfl (by kernel_rfl) (by kernel_rfl) (H.kp.sub (by simp)) (fun _ hC => R_indexAddr Try.underlying51 Try.sizeOf3 rfl rfl (by omega) (by omega) idx0_cast) ?_
              refine WA_take 4 rfl rfl rfl (by kernel_rfl) (by kernel_rfl) (H.kp.sub (by simp)) (fun _ hC => R_load Try.isAgg3 rfl (hC.get .here) (getI_app (List.getElem?_eq_getElem hkl))) ?_
              refine WA_takeM 6 rfl rfl rfl (by kernel_rfl) (by kernel_rfl) (H.kp.sub (by simp)) (fun _ hC => R_mv) ?_
              refine WA_takeM 7 rfl rfl rfl (by kernel_rfl) (by kernel_rfl) (H.kp.sub (by simp)) (fun _ hC => R_mv) ?_
              refine WA_take 8 rfl rfl rfl (by kernel_rfl) (by kernel_rfl) (H.kp.sub (by simp)) (fun _ hC => R_indexAddr Try.underlying54 Try.sizeOf4 rfl rfl (by omega) (by omega) idx0_cast) ?_
              refine WA_take 9 rfl rfl rfl (by kernel_rfl) (by kernel_rfl) (H.kp.sub (by simp)) (fun _ hC => R_load Try.isAgg4 rfl (hC.get (.there .here)) (getI_app (q := false) (by rw [List.getElem?_map, List.getElem?_eq_getElem hkl, Option.map_some, hgk]))) ?_
              refine WA_one (i := 5) (by kernel_rfl) ?_
              (obtain ⟨a3, ha3, hg3, hu3, hG3⟩ := goneB_yes hT (List.getElem_mem hkl) hgk; have hd3 := hT.drop (List.getElem?_eq_getElem hkl) ha3 hg3 (v := I 0) rfl; have hdy := drop_yes (H.get (.there (.there (.there .here)))) (H.get (.there (.there .here))) hT.len (by omega) ha3 (by omega) hu3; rw [show ((al[k].1 + 256 * a3.g : Nat) : Int) = nameOf al[k] from by rw [← hg3]; rfl] at hdy; refine WI_call rfl (.inl rfl) (R_call rfl Try.call28 rfl) hdy (fun _ _ hR _ => (H.seq hR.2 (okSeq_set (.there (.there .here)) okSeq_nil)).kp.sub (by simp)) ?_; rintro _ w352 ⟨rfl, H1⟩; replace H := H.seq H1 (okSeq_set (.there (.there .here)) okSeq_nil); clear H1)
              refine WA_take 10 rfl rfl rfl (by kernel_rfl) (by kernel_rfl) (H.kp.sub (by simp)) (fun _ hC => R_eq_bool_f Try.underlying4 rfl rfl (by decide)) ?_
              refine WA_done (by kernel_rfl) ?_
              refine W_cond_f rfl ?_
              refine W_skip ?_
              refine W_region_l ?_
              refine WL_stepM rfl (R_mv) ?_
              refine WL_stepM rfl (R_mv) ?_
              refine WL_step rfl (R_indexAddr Try.underlying54 Try.sizeOf4 rfl rfl (by omega) (by omega) idx0_cast) ?_
              (refine WL_effu rfl (E_store (v := (.bool _)) H Try.sizeOf4 rfl rfl rfl (.there .here) (by simp; omega)) ?_; clear H; intro w361 H)
              refine WL_nil ?_
              (rw [setI_app (f := okB) (q := true) (by simpa using hkl), ← hd3.2] at H; refine W_region_l ?_)
              refine WL_stepM rfl (R_mv) ?_
              refine WL_step rfl (R_add rfl rfl (w_i64 (by omega))) ?_
              refine WL_stepM rfl (R_as) ?_
              refine WL_nil ?_
              exact ⟨(by repeat' first | exact same_ovr | exact Same.refl | refine same_mov rfl ?_ | refine same_updo rfl ?_ | refine same_upd rfl ?_ | refine same_updn ?_ | refine same_know rfl ?_ | refine same_in rfl ?_), i + 1, by omega, _, al, _, [(ba, _)], _, [(bg, _)], by omega, by omega, rfl, rfl, rfl, hd3.1, by omega, hOa, OwnS.new (sp := spg) hbg (by simp) (by simpa using hspg) hcag, H⟩
            · refine WL_stepM rfl (R_mv) ?_
              refine WL_step rfl (R_shr rfl rfl (by decide) (shr_any 2 (by decide))) ?_
              refine WL_stepM rfl (R_mv) ?_
              refine WL_step rfl (R_len_slice Try.underlying51 rfl) ?_
              refine WL_step rfl (R_rem rfl rfl (by omega) ((rem_pos (by omega)).trans hk.symm)) ?_
              refine WL_stepM rfl (R_as) ?_
              refine WL_nil ?_
              refine W_seq ?_
              refine W_seq ?_
              (refine W_draw (Kp [(ba, blk (al.map nmI ++ spa) 3), (bg, blk ((al.map (goneB pl)).map okB ++ spg) 4), (p, blk [sl b 0 n n] 93)]) (fun _ => false) (by kernel_rfl) H ?_; clear H; intro w378 H)
              refine WA_takeM 0 rfl rfl rfl (by kernel_rfl) (by kernel_rfl) (H.kp.sub (by simp)) (fun _ hC => R_mv) ?_
              refine WA_takeM 1 rfl rfl rfl (by kernel_rfl) (by kernel_rfl) (H.kp.sub (by simp)) (fun _ hC => R_mv) ?_
              refine WA_takeM 2 rfl rfl rfl (by kernel_rfl) (by kernel_rfl) (H.kp.sub (by simp)) (fun _ hC => R_mv) ?_
              refine WA_take 3 rfl rfl rfl (by kernel_rfl) (by kernel_rfl) (H.kp.sub (by simp)) (fun _ hC => R_indexAddr Try.underlying51 Try.sizeOf3 rfl rfl (by omega) (by omega) idx0_cast) ?_
              refine WA_take 4 rfl rfl rfl (by kernel_rfl) (by kernel_rfl) (H.kp.sub (by simp)) (fun _ hC => R_load Try.isAgg3 rfl (hC.get .here) (getI_app (List.getElem?_eq_getElem hkl))) ?_
              refine WA_takeM 6 rfl rfl rfl (by kernel_rfl) (by kernel_rfl) (H.kp.sub (by simp)) (fun _ hC => R_mv) ?_
              refine WA_takeM 7 rfl rfl rfl (by kernel_rfl) (by kernel_rfl) (H.kp.sub (by simp)) (fun _ hC => R_mv) ?_
              refine WA_take 8 rfl rfl rfl (by kernel_rfl) (by kernel_rfl) (H.kp.sub (by simp)) (fun _ hC => R_indexAddr Try.underlying54 Try.sizeOf4 rfl rfl (by omega) (by omega) idx0_cast) ?_
              refine WA_take 9 rfl rfl rfl (by kernel_rfl) (by kernel_rfl) (H.kp.sub (by simp)) (fun _ hC => R_load Try.isAgg4 rfl (hC.get (.there .here)) (getI_app (q := true) (by rw [List.getElem?_map, List.getElem?_eq_getElem hkl, Option.map_some, hgk]))) ?_
              refine WA_one (i := 5) (by kernel_rfl) ?_
              (refine WI_call rfl (.inl rfl) (R_call rfl Try.call28 rfl) (drop_no (H.get (.there (.there (.there .here)))) (H.get (.there (.there .here))) hT.len (by omega) (fun a ha => by have := hT.gen a ha; omega) (goneB_no (by omega) hT (List.getElem_mem hkl) hgk)) (fun _ _ hR _ => (H.seq0 hR.2).kp.sub (by simp)) ?_; rintro _ w389 ⟨rfl, H1⟩; replace H := H.seq0 H1; clear H1)
              refine WA_take 10 rfl rfl rfl (by kernel_rfl) (by kernel_rfl) (H.kp.sub (by simp)) (fun _ hC => R_eq_bool_f Try.underlying4 rfl rfl (by decide)) ?_
              refine WA_done (by kernel_rfl) ?_
              refine W_cond_f rfl ?_
              refine W_skip ?_
              refine W_region_l ?_
              refine WL_stepM rfl (R_mv) ?_
              refine WL_stepM rfl (R_mv) ?_
              refine WL_step rfl (R_indexAddr Try.underlying54 Try.sizeOf4 rfl rfl (by omega) (by omega) idx0_cast) ?_
              (refine WL_effu rfl (E_store (v := (.bool _)) H Try.sizeOf4 rfl rfl rfl (.there .here) (by simp; omega)) ?_; clear H; intro w398 H)
              refine WL_nil ?_
              (rw [setI_app (f := okB) (q := true) (by simpa using hkl), set_same (q := true) (by rw [List.getElem?_map, List.getElem?_eq_getElem hkl, Option.map_some, hgk])] at H; refine W_region_l ?_)
              refine WL_stepM rfl (R_mv) ?_
              refine WL_step rfl (R_add rfl rfl (w_i64 (by omega))) ?_
              refine WL_stepM rfl (R_as) ?_
              refine WL_nil ?_
              exact ⟨(by repeat' first | exact same_ovr | exact Same.refl | refine same_mov rfl ?_ | refine same_updo rfl ?_ | refine same_upd rfl ?_ | refine same_updn ?_ | refine same_know rfl ?_ | refine same_in rfl ?_), i + 1, by omega, pl, al, _, [(ba, _)], _, [(bg, _)], by omega, by omega, rfl, rfl, rfl, hT.mono (by omega), by omega, hOa, hOg, H⟩
      · refine W_seq ?_
        refine W_seq ?_
        refine W_region_l ?_
        refine WL_stepM rfl (R_mv) ?_
        refine WL_stepM rfl (R_mv) ?_
        refine WL_step rfl (R_len_slice Try.underlying51 rfl) ?_
        refine WL_step rfl (R_lt_t rfl rfl (by omega)) ?_
        refine WL_stepM rfl (R_mv) ?_
        refine WL_guard_t rfl rfl ?_
        refine WL_stepM rfl (R_mv) ?_
        refine WL_guard_t rfl rfl ?_
        refine WL_step rfl (R_lt_f rfl rfl (by omega)) ?_
        refine WL_stepM rfl (R_pk_t rfl) ?_
        refine WL_nil ?_
        refine W_cond_f rfl ?_
        refine W_exit ?_
        refine (if_pos rfl).mpr ?_
        exact ⟨(by repeat' first | exact same_ovr | exact Same.refl | refine same_mov rfl ?_ | refine same_updo rfl ?_ | refine same_upd rfl ?_ | refine same_updn ?_ | refine same_know rfl ?_ | refine same_in rfl ?_), _, pl, al, _, Ma, _, Mg, (by omega : i + 1 ≤ 121), rfl, rfl, hT, by omega, hOa, hOg, H⟩
      · refine W_seq ?_
        refine W_seq ?_
        refine W_region_l ?_
        refine WL_stepM rfl (R_mv) ?_
        refine WL_stepM rfl (R_mv) ?_
        refine WL_step rfl (R_len_slice Try.underlying51 rfl) ?_
        refine WL_step rfl (R_lt_f rfl rfl (by omega)) ?_
        refine WL_stepM rfl (R_mv) ?_
        refine WL_guard_f rfl rfl (by decide) ?_
        refine WL_guard_f rfl rfl (by decide) ?_
        refine WL_stepM rfl (R_pk_f rfl) ?_
        refine WL_nil ?_
        refine W_cond_f rfl ?_
        refine W_exit ?_
        refine (if_pos rfl).mpr ?_
        exact ⟨(by repeat' first | exact same_ovr | exact Same.refl | refine same_mov rfl ?_ | refine same_updo rfl ?_ | refine same_upd rfl ?_ | refine same_updn ?_ | refine same_know rfl ?_ | refine same_in rfl ?_), _, pl, al, _, Ma, _, Mg, (by omega : i + 1 ≤ 121), rfl, rfl, hT, by omega, hOa, hOg, H⟩
      · refine W_seq ?_
        refine W_seq ?_
        refine W_region_l ?_
        refine WL_stepM rfl (R_mv) ?_
        refine WL_stepM rfl (R_mv) ?_
        refine WL_step rfl (R_len_slice Try.underlying51 rfl) ?_
        refine WL_step rfl (R_lt_f rfl rfl (by omega)) ?_
        refine WL_stepM rfl (R_mv) ?_
        refine WL_guard_f rfl rfl (by decide) ?_
        refine WL_guard_f rfl rfl (by decide) ?_
        refine WL_stepM rfl (R_pk_f rfl) ?_
        refine WL_nil ?_
        refine W_cond_f rfl ?_
        refine W_exit ?_
        refine (if_pos rfl).mpr ?_
        exact ⟨(by repeat' first | exact same_ovr | exact Same.refl | refine same_mov rfl ?_ | refine same_updo rfl ?_ | refine same_upd rfl ?_ | refine same_updn ?_ | refine same_know rfl ?_ | refine same_in rfl ?_), _, pl, al, _, Ma, _, Mg, (by omega : i + 1 ≤ 121), rfl, rfl, hT, by omega, hOa, hOg, H⟩
  · (clear H; rintro E w1 ⟨G, pl, al, va, Ma, vg, Mg, hG, h0, h1, hT, hal, hOa, hOg, H⟩; obtain ⟨aa, ca1, rfl⟩ := hOa.form; obtain ⟨ag1, cg1, rfl⟩ := hOg.form; refine W_kn2 h0 h1 ?_)
    refine W_seq ?_
    refine W_region_l ?_
    refine WL_stepM rfl (R_as) ?_
    refine WL_nil ?_
    refine W_seq ?_
    refine W_seq ?_
    refine W_region_l ?_
    refine WL_stepM rfl (R_as) ?_
    refine WL_nil ?_
    refine W_block ?_
    refine W_loopS [(4, 4), (14, 17), (96, 123)] (fun (k : Nat) E w' => ∃ lf : Nat, k ≤ al.length ∧ E 15 = I k ∧ E 14 = I lf ∧ lf + ((al.drop k).map (goneB pl)).count false = (al.map (goneB pl)).count false ∧ Hp w (Ma ++ (Mg ++ [(b, blk (rows plc pl) 95), (p, blk [sl b 0 n n] 93)])) w') (fun k => al.length - k) 0 ?e4 ?r4
    · exact ⟨0, by omega, rfl, rfl, by simp, H⟩
    · (clear H; rintro k E w1 ⟨lf, hk, h0, h1, hlf, H⟩; refine W_kn2 h0 h1 ?_; have hcl := List.count_le_length (a := false) (l := al.map (goneB pl)); rw [List.length_map] at hcl; by_cases hlk : k < al.length)
      · refine W_seq ?_
        refine W_seq ?_
        refine W_region_l ?_
        refine WL_stepM rfl (R_mv) ?_
        refine WL_stepM rfl (R_mv) ?_
        refine WL_step rfl (R_len_slice Try.underlying51 rfl) ?_
        refine WL_step rfl (R_lt_t rfl rfl (by omega)) ?_
        refine WL_nil ?_
        refine W_cond_t rfl ?_
        refine W_skip ?_
        refine W_seq ?_
        refine W_block ?_
        refine W_seq ?_
        refine W_seq ?_
        (obtain ⟨ba, spa, rfl, hba, rfl, hspa, hcaa⟩ := OwnS.posF hOa (by omega); obtain ⟨bg, spg, rfl, hbg, rfl, hspg, hcag⟩ := OwnS.posF hOg (by omega); simp only [List.cons_append, List.nil_append] at H; cases hgk : goneB pl al[k] <;> (first | rw [cnt_gone hlk hgk] at hlf | rw [cnt_left hlk hgk] at hlf) <;> refine W_region_l ?_)
        · refine WL_stepM rfl (R_mv) ?_
          refine WL_stepM rfl (R_mv) ?_
          refine WL_stepM rfl (R_mv) ?_
          refine WL_step rfl (R_indexAddr Try.underlying51 Try.sizeOf3 rfl rfl (by omega) (by omega) idx0_cast) ?_
          refine WL_step rfl (R_load Try.isAgg3 rfl (H.get .here) (getI_app (List.getElem?_eq_getElem hlk))) ?_
          (obtain ⟨a3, ha3, hg3, hu3, hG3⟩ := goneB_yes hT (List.getElem_mem hlk) hgk; have hdy := get_yes (H.get (.there (.there (.there .here)))) (H.get (.there (.there .here))) hT.len (by omega) ha3 (by omega) hu3; rw [show ((al[k].1 + 256 * a3.g : Nat) : Int) = nameOf al[k] from by rw [← hg3]; rfl] at hdy; refine WL_call rfl (R_call rfl Try.call29 rfl) hdy ?_; rintro _ w489 ⟨rfl, H1⟩; replace H := H.seq0 H1; clear H1)
          refine WL_stepM rfl (R_mv) ?_
          refine WL_step rfl (R_extract rfl rfl) ?_
          refine WL_step rfl (R_extract rfl rfl) ?_
          refine WL_stepM rfl (R_as) ?_
          refine WL_stepM rfl (R_as) ?_
          refine WL_nil ?_
          refine W_seq ?_
          refine W_region_l ?_
          refine WL_stepM rfl (R_mv) ?_
          refine WL_stepM rfl (R_mv) ?_
          refine WL_stepM rfl (R_mv) ?_
          refine WL_step rfl (R_indexAddr Try.underlying54 Try.sizeOf4 rfl rfl (by omega) (by omega) idx0_cast) ?_
          refine WL_step rfl (R_load Try.isAgg4 rfl (H.get (.there .here)) (getI_app (q := false) (by rw [List.getElem?_map, List.getElem?_eq_getElem hlk, Option.map_some, hgk]))) ?_
          refine WL_step rfl (R_eq_bool_f Try.underlying4 rfl rfl (by decide)) ?_
          refine WL_nil ?_
          refine W_cond_f rfl ?_
          refine W_skip ?_
          refine W_seq ?_
          refine W_region_l ?_
          refine WL_stepM rfl (R_mv) ?_
          refine WL_stepM rfl (R_mv) ?_
          refine WL_step rfl (R_indexAddr Try.underlying54 Try.sizeOf4 rfl rfl (by omega) (by omega) idx0_cast) ?_
          refine WL_step rfl (R_load Try.isAgg4 rfl (H.get (.there .here)) (getI_app (q := false) (by rw [List.getElem?_map, List.getElem?_eq_getElem hlk, Option.map_some, hgk]))) ?_
          refine WL_step rfl (R_not_f rfl) ?_
          refine WL_nil ?_
          refine W_cond_t rfl ?_
          refine W_region_l ?_
          refine WL_stepM rfl (R_mv) ?_
          refine WL_step rfl (R_add rfl rfl (w_i64 (by omega))) ?_
          refine WL_stepM rfl (R_as) ?_
          refine WL_nil ?_
          refine W_region_l ?_
          refine WL_stepM rfl (R_mv) ?_
          refine WL_step rfl (R_add rfl rfl (w_i64 (by omega))) ?_
          refine WL_stepM rfl (R_as) ?_
          refine WL_nil ?_
          exact ⟨(by repeat' first | exact same_ovr | exact Same.refl | refine same_mov rfl ?_ | refine same_updo rfl ?_ | refine same_upd rfl ?_ | refine same_updn ?_ | refine same_know rfl ?_ | refine same_in rfl ?_), k + 1, by omega, lf + 1, by omega, rfl, rfl, by omega, H⟩
        · refine WL_stepM rfl (R_mv) ?_
          refine WL_stepM rfl (R_mv) ?_
          refine WL_stepM rfl (R_mv) ?_
          refine WL_step rfl (R_indexAddr Try.underlying51 Try.sizeOf3 rfl rfl (by omega) (by omega) idx0_cast) ?_
          refine WL_step rfl (R_load Try.isAgg3 rfl (H.get .here) (getI_app (List.getElem?_eq_getElem hlk))) ?_
          (refine WL_call rfl (R_call rfl Try.call29 rfl) (get_no (H.get (.there (.there (.there .here)))) (H.get (.there (.there .here))) hT.len (by omega) (fun a ha => by have := hT.gen a ha; omega) (goneB_no (by omega) hT (List.getElem_mem hlk) hgk)) ?_; rintro _ w532 ⟨rfl, H1⟩; replace H := H.seq0 H1; clear H1)
          refine WL_stepM rfl (R_mv) ?_
          refine WL_step rfl (R_extract rfl rfl) ?_
          refine WL_step rfl (R_extract rfl rfl) ?_
          refine WL_stepM rfl (R_as) ?_
          refine WL_stepM rfl (R_as) ?_
          refine WL_nil ?_
          refine W_seq ?_
          refine W_region_l ?_
          refine WL_stepM rfl (R_mv) ?_
          refine WL_stepM rfl (R_mv) ?_
          refine WL_stepM rfl (R_mv) ?_
          refine WL_step rfl (R_indexAddr Try.underlying54 Try.sizeOf4 rfl rfl (by omega) (by omega) idx0_cast) ?_
          refine WL_step rfl (R_load Try.isAgg4 rfl (H.get (.there .here)) (getI_app (q := true) (by rw [List.getElem?_map, List.getElem?_eq_getElem hlk, Option.map_some, hgk]))) ?_
          refine WL_step rfl (R_eq_bool_f Try.underlying4 rfl rfl (by decide)) ?_
          refine WL_nil ?_
          refine W_cond_f rfl ?_
          refine W_skip ?_
          refine W_seq ?_
          refine W_region_l ?_
          refine WL_stepM rfl (R_mv) ?_
          refine WL_stepM rfl (R_mv) ?_
          refine WL_step rfl (R_indexAddr Try.underlying54 Try.sizeOf4 rfl rfl (by omega) (by omega) idx0_cast) ?_
          refine WL_step rfl (R_load Try.isAgg4 rfl (H.get (.there .here)) (getI_app (q := true) (by rw [List.getElem?_map, List.getElem?_eq_getElem hlk, Option.map_some, hgk]))) ?_
          refine WL_step rfl (R_not_t rfl) ?_
          refine WL_nil ?_
          refine W_cond_f rfl ?_
          refine W_skip ?_
          refine W_region_l ?_
          refine WL_stepM rfl (R_mv) ?_
          refine WL_step rfl (R_add rfl rfl (w_i64 (by omega))) ?_
          refine WL_stepM rfl (R_as) ?_
          refine WL_nil ?_
          exact ⟨(by repeat' first | exact same_ovr | exact Same.refl | refine same_mov rfl ?_ | refine same_updo rfl ?_ | refine same_upd rfl ?_ | refine same_updn ?_ | refine same_know rfl ?_ | refine same_in rfl ?_), k + 1, by omega, lf, by omega, rfl, rfl, by omega, H⟩
      · refine W_seq ?_
        refine W_seq ?_
        refine W_region_l ?_
        refine WL_stepM rfl (R_mv) ?_
        refine WL_stepM rfl (R_mv) ?_
        refine WL_step rfl (R_len_slice Try.underlying51 rfl) ?_
        refine WL_step rfl (R_lt_f rfl rfl (by omega)) ?_
        refine WL_nil ?_
        refine W_cond_f rfl ?_
        refine W_exit ?_
        refine (if_pos rfl).mpr ?_
        refine W_seq ?_
        (rw [List.drop_of_length_le (by omega)] at hlf; simp only [List.map_nil, List.count_nil, Nat.add_zero] at hlf; have hfin : (namesFrom 0 pl).length = lf := (by rw [namesFrom_count, ← hT.cnt, hlf]); refine W_region_l ?_)
        refine WL_stepM rfl (R_mv) ?_
        (refine WL_call rfl (R_call rfl Try.call30 rfl) (len_ret (H.get (.app _ (.app _ (.there .here)))) (H.get (.app _ (.app _ .here))) hT.len (by omega) (fun a ha => by have := hT.gen a ha; omega) hT.one) ?_; rintro _ w580 ⟨rfl, H1⟩; replace H := H.seq0 H1; clear H1)
        refine WL_stepM rfl (R_mv) ?_
        refine WL_step rfl (R_eq_t rfl rfl (by omega)) ?_
        refine WL_stepM rfl (R_mv) ?_
        refine WL_guard_t rfl rfl ?_
        (refine WL_call rfl (R_call rfl Try.call31 rfl) (awake_ret _) ?_; rintro _ w585 ⟨rfl, H1⟩; replace H := H.seq0 H1; clear H1)
        refine WL_stepM rfl (R_pk_t rfl) ?_
        refine WL_stepM rfl (R_as) ?_
        refine WL_nil ?_
        refine W_ret ?_
        exact ⟨_, rfl, rfl, H.none (by repeat' first | exact kNil | apply kCons | apply kApp | assumption | exact OwnS.keys (by assumption))⟩
end Go.Proofs.Ytjkkfahjgaidbaa.Tab

/-
  The law PredSkips.
-/
import Derived.Test.YtaclingiedmpbaaPredG
namespace Go.Proofs.Ytaclingiedmpbaa.Pred
open Go Go.Proofs Go.Proofs.Ytaclingiedmpbaa.Fx
set_option maxRecDepth 100000
set_option linter.unusedVariables false
set_option linter.unusedSimpArgs false
set_option maxHeartbeats 1000000

def tailL (n : Nat) : List In := List.replicate n ⟨2, 0, 0⟩ ++ [⟨6, 0, 0⟩]
def skipsL (m : Nat) (s : Int) (n : Nat) : List In := ⟨1, m, 0⟩ :: ⟨5, s, 0⟩ :: tailL n

theorem okP_mk {op a b bh : Int} (h1 : 1 ≤ op) (h2 : op ≤ 7) (h3 : 0 ≤ a) (h4 : a ≤ 65535) (h5 : op = 1 ∨ op = 3 ∨ op = 4 ∨ op = 5 ∨ a = 0) (h6 : b = 0) (h7 : op ≠ 5 ∨ a ≤ bh) : okP ⟨op, a, b⟩ bh := ⟨⟨h1, h2, h3, h4, h5, h6⟩, h7⟩
theorem okP_skip {a b bh : Int} (h : bh < a) : ¬ okP ⟨5, a, b⟩ bh := by
  rintro ⟨_, h7⟩
  rcases h7 with h7 | h7
  · exact h7 rfl
  · have : a ≤ bh := h7
    omega
theorem tailL_length (n : Nat) : (tailL n).length = n + 1 := by simp [tailL]
theorem tailL_ok : ∀ n, allOk (tailL n) = true
  | 0 => by decide
  | n + 1 => by
    have := tailL_ok n
    unfold tailL at this ⊢
    rw [List.replicate_succ, List.cons_append]
    unfold allOk
    rw [this, decide_eq_true (okP_mk (by omega) (by omega) (by omega) (by omega) (by omega) rfl (by omega))]; rfl
theorem skipsL_chk {m n : Nat} {s : Int} (hm : m ≤ 127) (hn : n ≤ 15) (h0 : 0 ≤ s) (h1 : s ≤ n + 1) : chk (skipsL m s n) = 0 := by
  unfold chk
  rw [if_neg (by simp [skipsL, tailL_length]; omega), if_pos]
  unfold skipsL allOk allOk
  rw [tailL_ok, decide_eq_true (okP_mk (by omega) (by omega) (by omega) (by omega) (by omega) rfl (by omega)), decide_eq_true (okP_mk (by omega) (by omega) (by omega) (by omega) (by omega) rfl (by rw [tailL_length]; omega))]; rfl
theorem skipsL_chk1 {m n : Nat} {s : Int} (hn : n ≤ 15) (h1 : s = n + 2) : chk (skipsL m s n) = 1 := by
  unfold chk
  rw [if_neg (by simp [skipsL, tailL_length]; omega), if_neg]
  unfold skipsL allOk allOk
  rw [decide_eq_false (p := okP ⟨5, s, 0⟩ _) (okP_skip (by rw [tailL_length]; omega))]
  simp
theorem tailL_ev (view : List UInt8) (now : Int) : ∀ (n : Nat) (x : Int), evS view now (n + 1) (tailL n) x = (true, n + 1)
  | 0, x => rfl
  | n + 1, x => by
    have := tailL_ev view now n now
    unfold tailL at this ⊢
    rw [List.replicate_succ, List.cons_append]
    unfold evS
    rw [if_neg (by decide)]
    have e1 : doS x ⟨2, 0, 0⟩ = 0 := rfl
    have e2 : doN view now x ⟨2, 0, 0⟩ = now := rfl
    rw [e1, e2]
    simp only [Int.toNat_zero, List.drop_zero, this]
theorem skips_ev {view : List UInt8} {now : Int} {m n : Nat} (hm : m ≤ 127) (hn : n ≤ 15) :
    evP view now (skipsL m ((n + 1 : Nat) : Int) n) = if ((m : Int) < view.length ∧ ((view.getD m 0).toNat : Int) ≠ 0) then (false, 2) else (true, n + 3) := by
  unfold evP
  rw [if_pos (skipsL_chk hm hn (by omega) (by omega))]
  have hl : (skipsL m ((n + 1 : Nat) : Int) n).length = n + 3 := by simp [skipsL, tailL_length]
  rw [hl]
  unfold skipsL
  unfold evS
  rw [if_neg (by show ¬ ((1 : Int) = 6); decide)]
  have e1 : doS 0 ⟨1, m, 0⟩ = 0 := rfl
  rw [e1]
  simp only [Int.toNat_zero, List.drop_zero]
  unfold evS
  rw [if_neg (by show ¬ ((5 : Int) = 6); decide)]
  have hv : doN view now 0 ⟨1, m, 0⟩ = if (m : Int) < view.length then ((view.getD m 0).toNat : Int) else 0 := by
    unfold doN
    simp only [if_true, Int.toNat_natCast]
    by_cases h : (m : Int) < view.length
    · rw [if_pos h, List.getD_eq_getElem?_getD, List.getElem?_eq_getElem (by omega)]; rfl
    · rw [if_neg h, List.getElem?_eq_none (by omega)]; rfl
  have hn2 : ∀ x, doN view now x ⟨5, ((n + 1 : Nat) : Int), 0⟩ = x := fun x => rfl
  rw [hn2, hv]
  by_cases h : (m : Int) < view.length ∧ ((view.getD m 0).toNat : Int) ≠ 0
  · rw [if_pos h, if_pos h.1]
    have e2 : doS ((view.getD m 0).toNat : Int) ⟨5, ((n + 1 : Nat) : Int), 0⟩ = ((n + 1 : Nat) : Int) := by unfold doS; rw [if_pos ⟨rfl, h.2⟩]
    rw [e2, Int.toNat_natCast, List.drop_of_length_le (by rw [tailL_length]; omega), evS_nil]
  · rw [if_neg h]
    have e3 : (if (m : Int) < view.length then ((view.getD m 0).toNat : Int) else 0) = 0 := by
      by_cases h1 : (m : Int) < view.length
      · rw [if_pos h1]; exact Decidable.byContradiction fun h2 => h ⟨h1, h2⟩
      · rw [if_neg h1]
    have e2 : doS 0 ⟨5, ((n + 1 : Nat) : Int), 0⟩ = 0 := by unfold doS; rw [if_neg (by simp)]
    rw [e3, e2]
    simp only [Int.toNat_zero, List.drop_zero]
    rw [tailL_ev]

theorem RdS_or {w : World} {ao : Option Addr} {m cap : Nat} {xs : List Value} (h : RdS w (.slice ao m cap) xs) : xs.length = 0 ∨ ∃ b off, ao = some ⟨b, off, none⟩ ∧ ∀ j u, xs[j]? = some u → w.cell? ⟨b, off + j, none⟩ = some u := by
  obtain ⟨ao', cap', e, _, h⟩ := h
  cases e
  rcases h with rfl | h
  · exact .inl rfl
  · exact .inr h

theorem skips_ret {view : List UInt8} {w : World} {v : Value} (a c : Int) (hv : RdS w v (view.map U)) (hbv : view.length ≤ 9223372036854775807) :
    Ret Try.prog 9 #[v, I a, I c] w fun r w' => r = .bool true ∧ Hp w [] w' := by
  refine Ret_of_W (args := [_, _, _]) Try.func9 rfl Try.ntmps9 Try.results9 (by simp) ?_
  obtain ⟨av, cv, rfl⟩ := hv.form
  simp only [List.length_map] at hv ⊢
  have H := Hp.refl w
  obtain ⟨m, hm, hm2⟩ : ∃ m : Nat, a % 128 = (m : Int) ∧ m ≤ 127 := ⟨(a % 128).toNat, by omega, by omega⟩
  obtain ⟨n, hn, hn2⟩ : ∃ n : Nat, c % 16 = (n : Int) ∧ n ≤ 15 := ⟨(c % 16).toNat, by omega, by omega⟩
  have hO := OwnS.nil w.heap.size 44 3
  refine W_seq ?_
  refine W_region_l ?_
  refine WL_stepM rfl (R_as) ?_
  refine WL_nil ?_
  refine W_seq ?_
  refine W_seq ?_
  refine W_region_l ?_
  refine WL_stepM rfl (R_mv) ?_
  refine WL_step rfl (R_len_slice Try.underlying42 rfl) ?_
  refine WL_step rfl (R_gt rfl rfl) ?_
  refine WL_nil ?_
  refine W_if rfl (fun h12 => ?_) (fun h12 => ?_)
  · refine W_seq ?_
    refine W_region_l ?_
    (refine WL_call rfl (R_call rfl Try.call22 rfl) (awake_ret _) ?_; rintro _ w15 ⟨rfl, H1⟩; replace H := H.seq0 H1; clear H1)
    refine WL_stepM rfl (R_as) ?_
    refine WL_nil ?_
    refine W_ret ?_
    exact ⟨_, rfl, rfl, H.none (by repeat' first | exact kNil | apply kCons | apply kApp | assumption | exact OwnS.keys (by assumption))⟩
  · refine W_skip ?_
    refine W_seq ?_
    refine W_region_l ?_
    refine WL_stepM rfl (R_mv) ?_
    refine WL_step rfl (R_bits (r := (m : Int)) rfl rfl (by simp) ((and_mask_i64 7 128 (by decide) rfl (by decide)).trans hm)) ?_
    refine WL_stepM rfl (R_mv) ?_
    refine WL_step rfl (R_bits (r := (n : Int)) rfl rfl (by simp) ((and_mask_i64 4 16 (by decide) rfl (by decide)).trans hn)) ?_
    refine WL_stepM rfl (R_as) ?_
    refine WL_stepM rfl (R_as) ?_
    refine WL_nil ?_
    refine W_seq ?_
    refine W_region_l ?_
    refine WL_stepM rfl (R_mv) ?_
    refine WL_step rfl (R_build (vs := [(.int _ _), (.int _ _), (.int _ _)]) rfl rfl) ?_
    refine WL_stepM rfl (R_mv) ?_
    refine WL_step rfl (R_add (r := ((n + 1 : Nat) : Int)) rfl rfl (by rw [w_i64 (by omega)]; omega)) ?_
    refine WL_step rfl (R_build (vs := [(.int _ _), (.int _ _), (.int _ _)]) rfl rfl) ?_
    (refine WL_effn rfl (E_buildRows (vss := [[(.int _ _), (.int _ _), (.int _ _)], [(.int _ _), (.int _ _), (.int _ _)]]) H Try.underlying45 Try.sizeOf44 Try.zeroValue44 rfl rfl (by decide) rfl rfl (by simp)) ?_; clear H; intro b37 w37 hb37 H)
    refine WL_stepM rfl (R_as) ?_
    refine WL_nil ?_
    refine W_seq ?_
    refine W_seq ?_
    (clear hO; have hO := OwnS.new (B := w.heap.size) (e := 44) (len := 2) (cap := 2) (sz := 3) (xs := rows insC [⟨1, m, 0⟩, ⟨5, ((n + 1 : Nat) : Int), 0⟩]) (sp := []) (by assumption) rfl rfl (by decide)) <;> refine W_region_l ?_
    refine WL_stepM rfl (R_as) ?_
    refine WL_nil ?_
    refine W_block ?_
    refine W_loopS [(7, 8), (27, 35)] (fun (k : Nat) E w' => ∃ v M, k ≤ n ∧ E 7 = v ∧ E 8 = I k ∧ OwnS w.heap.size 44 3 v (k + 2) (rows insC (⟨1, m, 0⟩ :: ⟨5, ((n + 1 : Nat) : Int), 0⟩ :: List.replicate k ⟨2, 0, 0⟩)) M ∧ Hp w M w') (fun k => n - k) 0 ?e0 ?r0
    · exact ⟨_, _, by omega, rfl, rfl, hO, H⟩
    · (clear H hO; rintro k E w1 ⟨v, M, hk, h0, h1, hO, H⟩; obtain ⟨a1, c1, rfl⟩ := hO.form; refine W_kn2 h0 h1 ?_)
      refine W_seq ?_
      refine W_seq ?_
      refine W_region_l ?_
      refine WL_stepM rfl (R_mv) ?_
      refine WL_stepM rfl (R_mv) ?_
      refine WL_step rfl (R_lt rfl rfl) ?_
      refine WL_nil ?_
      refine W_if rfl (fun h55 => ?_) (fun h55 => ?_)
      · refine W_skip ?_
        refine W_seq ?_
        refine W_block ?_
        refine W_region_l ?_
        refine WL_stepM rfl (R_mv) ?_
        refine WL_step rfl (R_build (vs := [(.int _ _), (.int _ _), (.int _ _)]) rfl rfl) ?_
        (refine WL_effn rfl (E_buildRows (vss := [[(.int _ _), (.int _ _), (.int _ _)]]) H Try.underlying45 Try.sizeOf44 Try.zeroValue44 rfl rfl (by decide) rfl rfl (by simp)) ?_; clear H; intro b62 w62 hb62 H)
        (refine WL_effm rfl (E_append (news := insC ⟨2, 0, 0⟩) H (.there .last) hO Try.underlying45 Try.typeInfo44 rfl rfl rfl rfl rfl rfl (src_blk (m := 1) (sp := []) Try.underlying45 (by rw [List.append_nil]; exact H.get .here) rfl (by simp [insC, Value.oneCell'])) (by omega) (by simp only [Try.t44]; omega)) ?_; clear H hO; intro vN MN w63 hO H; replace H := H.pop (by assumption))
        refine WL_stepM rfl (R_as) ?_
        refine WL_nil ?_
        refine W_region_l ?_
        refine WL_stepM rfl (R_mv) ?_
        refine WL_step rfl (R_add rfl rfl (w_i64 (by omega))) ?_
        refine WL_stepM rfl (R_as) ?_
        refine WL_nil ?_
        exact ⟨(by repeat' first | refine same_updo rfl ?_ | refine same_mov rfl ?_ | refine same_upd rfl ?_ | refine same_updn ?_ | refine same_know rfl ?_ | exact same_ovr | refine same_in rfl ?_ | exact Same.refl), k + 1, by omega, vN, MN, by omega, rfl, rfl, (by rw [List.replicate_succ', ← List.cons_append, ← List.cons_append, rows_append]; exact hO), H⟩
      · refine W_exit ?_
        refine (if_pos rfl).mpr ?_
        refine W_seq ?_
        refine W_region_l ?_
        refine WL_stepM rfl (R_mv) ?_
        refine WL_step rfl (R_build (vs := [(.int _ _), (.int _ _), (.int _ _)]) rfl rfl) ?_
        (refine WL_effn rfl (E_buildRows (vss := [[(.int _ _), (.int _ _), (.int _ _)]]) H Try.underlying45 Try.sizeOf44 Try.zeroValue44 rfl rfl (by decide) rfl rfl (by simp)) ?_; clear H; intro b78 w78 hb78 H)
        (refine WL_effm rfl (E_append (news := insC ⟨6, 0, 0⟩) H (.there .last) hO Try.underlying45 Try.typeInfo44 rfl rfl rfl rfl rfl rfl (src_blk (m := 1) (sp := []) Try.underlying45 (by rw [List.append_nil]; exact H.get .here) rfl (by simp [insC, Value.oneCell'])) (by omega) (by simp only [Try.t44]; omega)) ?_; clear H hO; intro vN MN w79 hO H; replace H := H.pop (by assumption))
        refine WL_stepM rfl (R_as) ?_
        refine WL_nil ?_
        refine W_seq ?_
        (obtain rfl : k = n := (by omega); replace hO : OwnS w.heap.size 44 3 vN (k + 2 + 1) (rows insC (skipsL m ((k + 1 : Nat) : Int) k)) MN := (by unfold skipsL tailL; rw [← List.cons_append, ← List.cons_append, rows_append]; exact hO); obtain ⟨b7, c7, sp7, rfl, hb7, rfl, hsp7, hc7⟩ := OwnS.pos hO (by omega); have hl7 : (skipsL m ((k + 1 : Nat) : Int) k).length = k + 2 + 1 := (by simp [skipsL, tailL_length]); obtain hv0 | ⟨b1, o1, rfl, hc1⟩ := RdS_or hv; rw [List.length_map] at hv0) <;> refine W_region_l ?_
        · refine WL_stepM rfl (R_mv) ?_
          refine WL_stepM rfl (R_mv) ?_
          refine WL_step rfl (R_len_slice Try.underlying42 rfl) ?_
          refine WL_step rfl (R_lt_f rfl rfl (by omega)) ?_
          refine WL_stepM rfl (R_mv) ?_
          refine WL_guard_f rfl rfl (by decide) ?_
          refine WL_guard_f rfl rfl (by decide) ?_
          refine WL_guard_f rfl rfl (by decide) ?_
          refine WL_guard_f rfl rfl (by decide) ?_
          refine WL_guard_f rfl rfl (by decide) ?_
          refine WL_stepM rfl (R_pk_f rfl) ?_
          refine WL_stepM rfl (R_as) ?_
          refine WL_nil ?_
          refine W_seq ?_
          (have hth : ¬ ((m : Int) < view.length ∧ ((view.getD m 0).toNat : Int) ≠ 0) := (by omega)) <;> refine W_region_l ?_
          refine WL_stepM rfl (R_mv) ?_
          refine WL_stepM rfl (R_mv) ?_
          (refine WL_call rfl (R_call rfl Try.call23 rfl) (eval_ret 9 (hv.monoN H (by repeat' first | exact kNil | apply kCons | apply kApp | assumption | exact OwnS.keys (by assumption))) (RdR.own insC_len hO hl7.symm H.held) hbv (by omega)) ?_; rintro _ w101 ⟨rfl, H1⟩; rw [skips_ev hm2 hn2, if_neg hth]; replace H := H.seq0 H1; clear H1)
          refine WL_stepM rfl (R_mv) ?_
          refine WL_step rfl (R_extract rfl rfl) ?_
          refine WL_step rfl (R_extract rfl rfl) ?_
          refine WL_stepM rfl (R_as) ?_
          refine WL_stepM rfl (R_as) ?_
          refine WL_nil ?_
          refine W_seq ?_
          refine W_region_l ?_
          refine WL_stepM rfl (R_mv) ?_
          refine WL_step rfl (R_add (r := ((k + 3 : Nat) : Int)) rfl rfl (by rw [w_i64 (by omega)]; omega)) ?_
          refine WL_stepM rfl (R_as) ?_
          refine WL_nil ?_
          refine W_seq ?_
          refine W_seq ?_
          refine W_region_l ?_
          refine WL_stepM rfl (R_mv) ?_
          refine WL_nil ?_
          refine W_cond_f rfl ?_
          refine W_skip ?_
          refine W_seq ?_
          refine W_region_l ?_
          refine WL_stepM rfl (R_mv) ?_
          refine WL_stepM rfl (R_mv) ?_
          refine WL_step rfl (R_add (r := ((k + 2 : Nat) : Int)) rfl rfl (by rw [w_i64 (by omega)]; omega)) ?_
          refine WL_step rfl (R_indexAddr (off' := 3) Try.underlying45 Try.sizeOf44 rfl rfl (by omega) (by omega) rfl) ?_
          refine WL_step rfl (R_fieldAddr (off' := 4) Try.underlying44 rfl Try.sizeOf3 (by decide) rfl rfl) ?_
          (refine WL_effu rfl (E_store (v := I ((k + 2 : Nat) : Int)) H Try.sizeOf3 rfl rfl rfl .here (by rw [List.length_append, rows_length insC_len, hl7]; omega)) ?_; clear H; intro w128 H; replace H : Hp w [(b7, blk (rows insC (skipsL m ((k + 2 : Nat) : Int) k) ++ sp7) 44)] w128 := H)
          refine WL_nil ?_
          refine W_seq ?_
          refine W_region_l ?_
          refine WL_stepM rfl (R_mv) ?_
          refine WL_stepM rfl (R_mv) ?_
          refine WL_step rfl (R_not_f rfl) ?_
          refine WL_step rfl (R_eq_bool_t Try.underlying4 rfl rfl rfl) ?_
          refine WL_stepM rfl (R_mv) ?_
          refine WL_guard_t rfl rfl ?_
          refine WL_stepM rfl (R_mv) ?_
          refine WL_guard_t rfl rfl ?_
          refine WL_stepM rfl (R_mv) ?_
          refine WL_guard_t rfl rfl ?_
          refine WL_step rfl (R_eq_t rfl rfl (by omega)) ?_
          refine WL_stepM rfl (R_pk_t rfl) ?_
          refine WL_stepM rfl (R_mv) ?_
          refine WL_guard_t rfl rfl ?_
          refine WL_stepM rfl (R_mv) ?_
          refine WL_guard_t rfl rfl ?_
          (refine WL_call rfl (R_call rfl Try.call24 rfl) (check_ret (l := skipsL m ((k + 2 : Nat) : Int) k) (RdR.own insC_len (OwnS.new (sp := sp7) hb7 (by rw [rows_length insC_len]; simp [skipsL, tailL_length]) hsp7 hc7) (by simp [skipsL, tailL_length]) H.held) (by simp [skipsL, tailL_length]; omega)) ?_; rintro _ w148 ⟨rfl, H1⟩; rw [skipsL_chk1 hn2 (by omega)]; replace H := H.seq0 H1; clear H1)
          refine WL_guard_t rfl rfl ?_
          refine WL_step rfl (R_eq_t rfl rfl (by omega)) ?_
          refine WL_stepM rfl (R_pk_t rfl) ?_
          refine WL_stepM rfl (R_mv) ?_
          refine WL_guard_t rfl rfl ?_
          refine WL_stepM rfl (R_mv) ?_
          refine WL_guard_t rfl rfl ?_
          (refine WL_call rfl (R_call rfl Try.call25 rfl) (rcheck_ret (l := skipsL m ((k + 2 : Nat) : Int) k) (RdR.own insC_len (OwnS.new (sp := sp7) hb7 (by rw [rows_length insC_len]; simp [skipsL, tailL_length]) hsp7 hc7) (by simp [skipsL, tailL_length]) H.held) (by simp [skipsL, tailL_length]; omega)) ?_; rintro _ w156 ⟨rfl, H1⟩; rw [skipsL_chk1 hn2 (by omega)]; replace H := H.seq0 H1; clear H1)
          refine WL_guard_t rfl rfl ?_
          refine WL_step rfl (R_ne_t rfl rfl (by omega)) ?_
          refine WL_stepM rfl (R_pk_t rfl) ?_
          refine WL_stepM rfl (R_mv) ?_
          refine WL_guard_t rfl rfl ?_
          (refine WL_call rfl (R_call rfl Try.call22 rfl) (awake_ret _) ?_; rintro _ w162 ⟨rfl, H1⟩; replace H := H.seq0 H1; clear H1)
          refine WL_stepM rfl (R_pk_t rfl) ?_
          refine WL_stepM rfl (R_as) ?_
          refine WL_nil ?_
          refine W_ret ?_
          exact ⟨_, rfl, rfl, H.none (by repeat' first | exact kNil | apply kCons | apply kApp | assumption | exact OwnS.keys (by assumption))⟩
        · refine WL_stepM rfl (R_mv) ?_
          refine WL_stepM rfl (R_mv) ?_
          refine WL_step rfl (R_len_slice Try.underlying42 rfl) ?_
          refine WL_step rfl (R_lt rfl rfl) ?_
          refine WL_stepM rfl (R_mv) ?_
          apply WL_andK 6 44 50 [(45, 50)] H
          case hc => rfl
          case h1 =>
            intro h173
            refine WL_guard_t rfl rfl ?_
            refine WL_stepM rfl (R_mv) ?_
            refine WL_guard_t rfl rfl ?_
            refine WL_stepM rfl (R_mv) ?_
            refine WL_guard_t rfl rfl ?_
            refine WL_step rfl (R_indexAddr Try.underlying42 Try.sizeOf5 rfl rfl (by omega) (by omega) idx_cast1) ?_
            refine WL_guard_t rfl rfl ?_
            refine WL_step rfl (R_load_cell (v := U (view.getD m 0)) Try.isAgg5 rfl (H.cellN (hc1 m _ (by rw [List.getElem?_map, List.getD_eq_getElem?_getD, List.getElem?_eq_getElem (by omega)]; rfl)) (by repeat' first | exact kNil | apply kCons | apply kApp | assumption | exact OwnS.keys (by assumption)))) ?_
            refine WL_guard_t rfl rfl ?_
            refine WL_step rfl (R_ne rfl rfl) ?_
            refine WL_stepM rfl (R_pk_t rfl) ?_
            refine WL_nil ?_
            exact ⟨(by repeat' first | refine same_updo rfl ?_ | refine same_mov rfl ?_ | refine same_upd rfl ?_ | refine same_updn ?_ | refine same_know rfl ?_ | exact same_ovr | refine same_in rfl ?_ | exact Same.refl), rfl, H⟩
          case h0 =>
            intro h173
            refine WL_guard_f rfl rfl (by decide) ?_
            refine WL_guard_f rfl rfl (by decide) ?_
            refine WL_guard_f rfl rfl (by decide) ?_
            refine WL_guard_f rfl rfl (by decide) ?_
            refine WL_guard_f rfl rfl (by decide) ?_
            refine WL_stepM rfl (R_pk_f rfl) ?_
            refine WL_nil ?_
            exact ⟨(by repeat' first | refine same_updo rfl ?_ | refine same_mov rfl ?_ | refine same_upd rfl ?_ | refine same_updn ?_ | refine same_know rfl ?_ | exact same_ovr | refine same_in rfl ?_ | exact Same.refl), rfl, H⟩
          case h2 =>
            (clear H; intro E173 w173 H)
            refine WL_stepM rfl (R_as) ?_
            refine WL_nil ?_
            refine W_seq ?_
            (by_cases hth : ((m : Int) < view.length ∧ ((view.getD m 0).toNat : Int) ≠ 0); refine W_know (t := 9) (v := .bool true) (congrArg Value.bool (decide_eq_true hth)) ?_; rotate_left; refine W_know (t := 9) (v := .bool false) (congrArg Value.bool (decide_eq_false hth)) ?_; rotate_left) <;> refine W_region_l ?_
            · refine WL_stepM rfl (R_mv) ?_
              refine WL_stepM rfl (R_mv) ?_
              (refine WL_call rfl (R_call rfl Try.call23 rfl) (eval_ret 9 (hv.monoN H (by repeat' first | exact kNil | apply kCons | apply kApp | assumption | exact OwnS.keys (by assumption))) (RdR.own insC_len hO hl7.symm H.held) hbv (by omega)) ?_; rintro _ w201 ⟨rfl, H1⟩; rw [skips_ev hm2 hn2, if_pos hth]; replace H := H.seq0 H1; clear H1)
              refine WL_stepM rfl (R_mv) ?_
              refine WL_step rfl (R_extract rfl rfl) ?_
              refine WL_step rfl (R_extract rfl rfl) ?_
              refine WL_stepM rfl (R_as) ?_
              refine WL_stepM rfl (R_as) ?_
              refine WL_nil ?_
              refine W_seq ?_
              refine W_region_l ?_
              refine WL_stepM rfl (R_mv) ?_
              refine WL_step rfl (R_add (r := ((k + 3 : Nat) : Int)) rfl rfl (by rw [w_i64 (by omega)]; omega)) ?_
              refine WL_stepM rfl (R_as) ?_
              refine WL_nil ?_
              refine W_seq ?_
              refine W_seq ?_
              refine W_region_l ?_
              refine WL_stepM rfl (R_mv) ?_
              refine WL_nil ?_
              refine W_cond_t rfl ?_
              refine W_region_l ?_
              refine WL_stepM rfl (R_as) ?_
              refine WL_nil ?_
              refine W_seq ?_
              refine W_region_l ?_
              refine WL_stepM rfl (R_mv) ?_
              refine WL_stepM rfl (R_mv) ?_
              refine WL_step rfl (R_add (r := ((k + 2 : Nat) : Int)) rfl rfl (by rw [w_i64 (by omega)]; omega)) ?_
              refine WL_step rfl (R_indexAddr (off' := 3) Try.underlying45 Try.sizeOf44 rfl rfl (by omega) (by omega) rfl) ?_
              refine WL_step rfl (R_fieldAddr (off' := 4) Try.underlying44 rfl Try.sizeOf3 (by decide) rfl rfl) ?_
              (refine WL_effu rfl (E_store (v := I ((k + 2 : Nat) : Int)) H Try.sizeOf3 rfl rfl rfl .here (by rw [List.length_append, rows_length insC_len, hl7]; omega)) ?_; clear H; intro w230 H; replace H : Hp w [(b7, blk (rows insC (skipsL m ((k + 2 : Nat) : Int) k) ++ sp7) 44)] w230 := H)
              refine WL_nil ?_
              refine W_seq ?_
              refine W_region_l ?_
              refine WL_stepM rfl (R_mv) ?_
              refine WL_stepM rfl (R_mv) ?_
              refine WL_step rfl (R_not_t rfl) ?_
              refine WL_step rfl (R_eq_bool_t Try.underlying4 rfl rfl (by decide)) ?_
              refine WL_stepM rfl (R_mv) ?_
              refine WL_guard_t rfl rfl ?_
              refine WL_stepM rfl (R_mv) ?_
              refine WL_guard_t rfl rfl ?_
              refine WL_stepM rfl (R_mv) ?_
              refine WL_guard_t rfl rfl ?_
              refine WL_step rfl (R_eq_t rfl rfl (by omega)) ?_
              refine WL_stepM rfl (R_pk_t rfl) ?_
              refine WL_stepM rfl (R_mv) ?_
              refine WL_guard_t rfl rfl ?_
              refine WL_stepM rfl (R_mv) ?_
              refine WL_guard_t rfl rfl ?_
              (refine WL_call rfl (R_call rfl Try.call24 rfl) (check_ret (l := skipsL m ((k + 2 : Nat) : Int) k) (RdR.own insC_len (OwnS.new (sp := sp7) hb7 (by rw [rows_length insC_len]; simp [skipsL, tailL_length]) hsp7 hc7) (by simp [skipsL, tailL_length]) H.held) (by simp [skipsL, tailL_length]; omega)) ?_; rintro _ w250 ⟨rfl, H1⟩; rw [skipsL_chk1 hn2 (by omega)]; replace H := H.seq0 H1; clear H1)
              refine WL_guard_t rfl rfl ?_
              refine WL_step rfl (R_eq_t rfl rfl (by omega)) ?_
              refine WL_stepM rfl (R_pk_t rfl) ?_
              refine WL_stepM rfl (R_mv) ?_
              refine WL_guard_t rfl rfl ?_
              refine WL_stepM rfl (R_mv) ?_
              refine WL_guard_t rfl rfl ?_
              (refine WL_call rfl (R_call rfl Try.call25 rfl) (rcheck_ret (l := skipsL m ((k + 2 : Nat) : Int) k) (RdR.own insC_len (OwnS.new (sp := sp7) hb7 (by rw [rows_length insC_len]; simp [skipsL, tailL_length]) hsp7 hc7) (by simp [skipsL, tailL_length]) H.held) (by simp [skipsL, tailL_length]; omega)) ?_; rintro _ w258 ⟨rfl, H1⟩; rw [skipsL_chk1 hn2 (by omega)]; replace H := H.seq0 H1; clear H1)
              refine WL_guard_t rfl rfl ?_
              refine WL_step rfl (R_ne_t rfl rfl (by omega)) ?_
              refine WL_stepM rfl (R_pk_t rfl) ?_
              refine WL_stepM rfl (R_mv) ?_
              refine WL_guard_t rfl rfl ?_
              (refine WL_call rfl (R_call rfl Try.call22 rfl) (awake_ret _) ?_; rintro _ w264 ⟨rfl, H1⟩; replace H := H.seq0 H1; clear H1)
              refine WL_stepM rfl (R_pk_t rfl) ?_
              refine WL_stepM rfl (R_as) ?_
              refine WL_nil ?_
              refine W_ret ?_
              exact ⟨_, rfl, rfl, H.none (by repeat' first | exact kNil | apply kCons | apply kApp | assumption | exact OwnS.keys (by assumption))⟩
            · refine WL_stepM rfl (R_mv) ?_
              refine WL_stepM rfl (R_mv) ?_
              (refine WL_call rfl (R_call rfl Try.call23 rfl) (eval_ret 9 (hv.monoN H (by repeat' first | exact kNil | apply kCons | apply kApp | assumption | exact OwnS.keys (by assumption))) (RdR.own insC_len hO hl7.symm H.held) hbv (by omega)) ?_; rintro _ w272 ⟨rfl, H1⟩; rw [skips_ev hm2 hn2, if_neg hth]; replace H := H.seq0 H1; clear H1)
              refine WL_stepM rfl (R_mv) ?_
              refine WL_step rfl (R_extract rfl rfl) ?_
              refine WL_step rfl (R_extract rfl rfl) ?_
              refine WL_stepM rfl (R_as) ?_
              refine WL_stepM rfl (R_as) ?_
              refine WL_nil ?_
              refine W_seq ?_
              refine W_region_l ?_
              refine WL_stepM rfl (R_mv) ?_
              refine WL_step rfl (R_add (r := ((k + 3 : Nat) : Int)) rfl rfl (by rw [w_i64 (by omega)]; omega)) ?_
              refine WL_stepM rfl (R_as) ?_
              refine WL_nil ?_
              refine W_seq ?_
              refine W_seq ?_
              refine W_region_l ?_
              refine WL_stepM rfl (R_mv) ?_
              refine WL_nil ?_
              refine W_cond_f rfl ?_
              refine W_skip ?_
              refine W_seq ?_
              refine W_region_l ?_
              refine WL_stepM rfl (R_mv) ?_
              refine WL_stepM rfl (R_mv) ?_
              refine WL_step rfl (R_add (r := ((k + 2 : Nat) : Int)) rfl rfl (by rw [w_i64 (by omega)]; omega)) ?_
              refine WL_step rfl (R_indexAddr (off' := 3) Try.underlying45 Try.sizeOf44 rfl rfl (by omega) (by omega) rfl) ?_
              refine WL_step rfl (R_fieldAddr (off' := 4) Try.underlying44 rfl Try.sizeOf3 (by decide) rfl rfl) ?_
              (refine WL_effu rfl (E_store (v := I ((k + 2 : Nat) : Int)) H Try.sizeOf3 rfl rfl rfl .here (by rw [List.length_append, rows_length insC_len, hl7]; omega)) ?_; clear H; intro w299 H; replace H : Hp w [(b7, blk (rows insC (skipsL m ((k + 2 : Nat) : Int) k) ++ sp7) 44)] w299 := H)
              refine WL_nil ?_
              refine W_seq ?_
              refine W_region_l ?_
              refine WL_stepM rfl (R_mv) ?_
              refine WL_stepM rfl (R_mv) ?_
              refine WL_step rfl (R_not_f rfl) ?_
              refine WL_step rfl (R_eq_bool_t Try.underlying4 rfl rfl rfl) ?_
              refine WL_stepM rfl (R_mv) ?_
              refine WL_guard_t rfl rfl ?_
              refine WL_stepM rfl (R_mv) ?_
              refine WL_guard_t rfl rfl ?_
              refine WL_stepM rfl (R_mv) ?_
              refine WL_guard_t rfl rfl ?_
              refine WL_step rfl (R_eq_t rfl rfl (by omega)) ?_
              refine WL_stepM rfl (R_pk_t rfl) ?_
              refine WL_stepM rfl (R_mv) ?_
              refine WL_guard_t rfl rfl ?_
              refine WL_stepM rfl (R_mv) ?_
              refine WL_guard_t rfl rfl ?_
              (refine WL_call rfl (R_call rfl Try.call24 rfl) (check_ret (l := skipsL m ((k + 2 : Nat) : Int) k) (RdR.own insC_len (OwnS.new (sp := sp7) hb7 (by rw [rows_length insC_len]; simp [skipsL, tailL_length]) hsp7 hc7) (by simp [skipsL, tailL_length]) H.held) (by simp [skipsL, tailL_length]; omega)) ?_; rintro _ w319 ⟨rfl, H1⟩; rw [skipsL_chk1 hn2 (by omega)]; replace H := H.seq0 H1; clear H1)
              refine WL_guard_t rfl rfl ?_
              refine WL_step rfl (R_eq_t rfl rfl (by omega)) ?_
              refine WL_stepM rfl (R_pk_t rfl) ?_
              refine WL_stepM rfl (R_mv) ?_
              refine WL_guard_t rfl rfl ?_
              refine WL_stepM rfl (R_mv) ?_
              refine WL_guard_t rfl rfl ?_
              (refine WL_call rfl (R_call rfl Try.call25 rfl) (rcheck_ret (l := skipsL m ((k + 2 : Nat) : Int) k) (RdR.own insC_len (OwnS.new (sp := sp7) hb7 (by rw [rows_length insC_len]; simp [skipsL, tailL_length]) hsp7 hc7) (by simp [skipsL, tailL_length]) H.held) (by simp [skipsL, tailL_length]; omega)) ?_; rintro _ w327 ⟨rfl, H1⟩; rw [skipsL_chk1 hn2 (by omega)]; replace H := H.seq0 H1; clear H1)
              refine WL_guard_t rfl rfl ?_
              refine WL_step rfl (R_ne_t rfl rfl (by omega)) ?_
              refine WL_stepM rfl (R_pk_t rfl) ?_
              refine WL_stepM rfl (R_mv) ?_
              refine WL_guard_t rfl rfl ?_
              (refine WL_call rfl (R_call rfl Try.call22 rfl) (awake_ret _) ?_; rintro _ w333 ⟨rfl, H1⟩; replace H := H.seq0 H1; clear H1)
              refine WL_stepM rfl (R_pk_t rfl) ?_
              refine WL_stepM rfl (R_as) ?_
              refine WL_nil ?_
              refine W_ret ?_
              exact ⟨_, rfl, rfl, H.none (by repeat' first | exact kNil | apply kCons | apply kApp | assumption | exact OwnS.keys (by assumption))⟩
end Go.Proofs.Ytaclingiedmpbaa.Pred

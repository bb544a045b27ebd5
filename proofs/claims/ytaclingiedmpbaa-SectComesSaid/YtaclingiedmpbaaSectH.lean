/-
  One that is taken out of a row; who quits.
-/
import Derived.Test.YtaclingiedmpbaaSectD
import Derived.Test.YtaclingiedmpbaaFxV
namespace Go.Proofs.Ytaclingiedmpbaa.Sect
open Go Go.Proofs Go.Proofs.Ytaclingiedmpbaa.Fx
set_option maxRecDepth 100000
set_option linter.unusedVariables false
set_option linter.unusedSimpArgs false
set_option maxHeartbeats 1000000

theorem cells_in {pre A B sp : List Value} {a : Value} {k m : Nat} (hk : A.length = k) (hm : B.length = m) : (pre ++ ((A ++ a :: B) ++ sp)).take (pre.length + k) ++ B ++ (pre ++ ((A ++ a :: B) ++ sp)).drop (pre.length + k + B.length) = pre ++ ((A ++ B) ++ ((a :: B).drop B.length ++ sp)) := by
  subst hk hm
  have h1 : (pre ++ ((A ++ a :: B) ++ sp)).take (pre.length + A.length) = pre ++ A := by
    rw [List.take_length_add_append, List.append_assoc A, List.take_left]
  have h2 : (pre ++ ((A ++ a :: B) ++ sp)).drop (pre.length + A.length + B.length) = (a :: B).drop B.length ++ sp := by
    rw [Nat.add_assoc, List.drop_length_add_append, List.append_assoc A, List.drop_length_add_append, List.drop_append_of_le_length (by simp)]
  rw [h1, h2]; simp
theorem cells_clear {pre AB D sp : List Value} {z : Value} {k : Nat} (hD : D.length = 1) (hk : AB.length = k) : (pre ++ (AB ++ (D ++ sp))).take (pre.length + k) ++ [z] ++ (pre ++ (AB ++ (D ++ sp))).drop (pre.length + k + 1) = pre ++ (AB ++ (z :: sp)) := by
  subst hk
  obtain ⟨a, rfl⟩ := List.length_eq_one_iff.1 hD
  rw [List.take_length_add_append, List.take_left, Nat.add_assoc, List.drop_length_add_append, List.drop_length_add_append]
  simp

section
variable {P : Program} {E : Env} {w : World} {d : Option Nat} {ty : TypeId} {pos : String} {after : Array Edge}
theorem R_to {t elem : TypeId} {x hi : Operand} {b off len cap i sz : Nat} (ht : P.underlying t = some (.slice elem)) (hS : ∀ w, (sizeOf elem).run P w = .ok sz w)
    (hx : ev E x = sl b off len cap) (hhi : ev E hi = I i) (hlc : len ≤ cap) (hic : i ≤ cap)
    : (execOp (ev E) (mk d (.slice t x none (some hi) none) ty pos after)).run P w = .ok (.value (sl b off i cap)) w := by
  have := R_slice (d := d) (ty := ty) (pos := pos) (after := after) (w := w) (off' := off) (i := 0) (j := (i : Int)) ht hS hx .none (.some hhi) hlc (by omega) (by omega) (by omega) (.inl rfl) (by simp)
  simpa using this
theorem R_from {t elem : TypeId} {x lo : Operand} {b off len cap k m : Nat} {k' : Int} (ht : P.underlying t = some (.slice elem)) (hS : ∀ w, (sizeOf elem).run P w = .ok 1 w)
    (hx : ev E x = sl b off len cap) (hlo : ev E lo = I k') (hk' : k' = k) (hlc : len ≤ cap) (hm : len = k + m) (hkc : k < cap)
    : (execOp (ev E) (mk d (.slice t x (some lo) none none) ty pos after)).run P w = .ok (.value (sl b (off + k) m (cap - k))) w := by
  subst hk'
  have := R_slice (d := d) (ty := ty) (pos := pos) (after := after) (w := w) (off' := off + k) (i := (k : Int)) (j := (len : Int)) ht hS hx (.some hlo) .none hlc (by omega) (by omega) (by omega) (.inr (by omega)) (by simp)
  rw [show ((len : Int) - k).toNat = m by omega, show ((cap : Int) - k).toNat = cap - k by omega] at this
  exact this
theorem R_mid {t elem : TypeId} {x lo hi : Operand} {b off len cap k : Nat} {k' j' : Int} (ht : P.underlying t = some (.slice elem)) (hS : ∀ w, (sizeOf elem).run P w = .ok 1 w)
    (hx : ev E x = sl b off len cap) (hlo : ev E lo = I k') (hhi : ev E hi = I j') (hk' : k' = k) (hj' : j' = k + 1) (hlc : len ≤ cap) (hkc : k < cap)
    : (execOp (ev E) (mk d (.slice t x (some lo) (some hi) none) ty pos after)).run P w = .ok (.value (sl b (off + k) 1 (cap - k))) w := by
  subst hk' hj'
  have := R_slice (d := d) (ty := ty) (pos := pos) (after := after) (w := w) (off' := off + k) (i := (k : Int)) (j := (k : Int) + 1) ht hS hx (.some hlo) (.some hhi) hlc (by omega) (by omega) (by omega) (.inr (by omega)) (by simp)
  rw [show ((k : Int) + 1 - k).toNat = 1 by omega, show ((cap : Int) - k).toNat = cap - k by omega] at this
  exact this
theorem del_src {tx e' e : TypeId} {b cap' : Nat} {pre A B sp : List Value} {a : Value} {ao : Option Addr} (hk : P.underlying tx = some (.slice e')) (hblk : w.heap[b]? = some (blk (pre ++ ((A ++ a :: B) ++ sp)) e)) (h1 : ∀ u ∈ B, u.oneCell' = true)
    (hao : ao = some ⟨b, pre.length + (A.length + 1), none⟩ ∨ B = []) (hc : B.length ≤ cap') : Src P 1 tx (.slice ao B.length cap') B.length B w := by
  have hr : RdS w (.slice ao B.length cap') B := by
    refine ⟨ao, cap', rfl, hc, ?_⟩
    rcases hao with rfl | rfl
    · refine .inr ⟨b, pre.length + (A.length + 1), rfl, fun j u hu => ?_⟩
      rw [cell_blk hblk, List.getElem?_append_right (by omega), List.append_assoc, List.getElem?_append_right (by omega)]
      have hj := (List.getElem?_eq_some_iff.1 hu).1
      rw [show pre.length + (A.length + 1) + j - pre.length - A.length = j + 1 by omega, List.cons_append, List.getElem?_cons_succ, List.getElem?_append_left hj]
      exact hu
    · exact .inl rfl
  exact hr.src hk h1
end

section
variable {w0 w : World} {p : Nat} {s : Sx} {qv : Value} {Mq R : List (Nat × Obj)}

theorem delete_ret {A B : List Int} {a : Int} {v : Value} (hQ : OwnQ w0.heap.size 3 v ((A ++ a :: B).map I) Mq) (H : Hp w0 (Mq ++ R) w) (hb : (A ++ a :: B).length ≤ 1000000) :
    Ret Try.prog 37 #[v, I A.length, I ((A.length : Int) + 1)] w fun r w' => ∃ M', OwnQ w0.heap.size 3 r ((A ++ B).map I) M' ∧ Hp w0 (M' ++ R) w' := by
  refine Ret_of_W (args := [_, _, _]) Try.func37 rfl Try.ntmps37 Try.results37 (by simp) ?_
  rcases hQ with ⟨_, h, _⟩ | ⟨b, off, cap, pre, sp, rfl, hbb, rfl, hp, hsp, hcap⟩
  · simp at h
  rw [List.length_map] at hsp hcap ⊢
  subst hp
  have hn2 : (A ++ a :: B).length = A.length + 1 + B.length := by simp; omega
  rw [hn2] at hsp hcap hb ⊢
  rw [List.singleton_append, List.map_append, List.map_cons] at H
  have hone : ∀ u ∈ B.map I, u.oneCell' = true := by intro u hu; obtain ⟨x, _, rfl⟩ := List.mem_map.1 hu; rfl
  have hA : (A.map I).length = A.length := List.length_map _
  have hB : (B.map I).length = B.length := List.length_map _
  have hAB : (A.map I ++ B.map I).length = A.length + B.length := by simp
  have hD : ((I a :: B.map I).drop (B.map I).length).length = 1 := by rw [List.length_drop, List.length_cons]; omega
  by_cases hlast : cap = A.length + 1
  · obtain rfl : B = [] := List.length_eq_zero_iff.1 (by omega)
    refine W_seq ?_
    refine W_region_l ?_
    refine WL_stepM rfl (R_as) ?_
    refine WL_nil ?_
    refine W_seq ?_
    refine W_region_l ?_
    refine WL_stepM rfl (R_mv) ?_
    refine WL_stepM rfl (R_mv) ?_
    refine WL_stepM rfl (R_mv) ?_
    refine WL_stepM rfl (R_mv) ?_
    refine WL_step rfl (R_len_slice Try.underlying22 rfl) ?_
    refine WL_step rfl (R_slice3lo Try.underlying22 Try.sizeOf3 rfl rfl (j := A.length + 1) rfl rfl (by omega) (by omega) (by omega) (by omega)) ?_
    refine WL_nil ?_
    refine W_seq ?_
    refine W_seq ?_
    refine W_region_l ?_
    refine WL_stepM rfl (R_mv) ?_
    refine WL_stepM rfl (R_mv) ?_
    refine WL_step rfl (R_eq_f rfl rfl (by omega)) ?_
    refine WL_nil ?_
    refine W_cond_f rfl ?_
    refine W_skip ?_
    refine W_seq ?_
    refine W_region_l ?_
    refine WL_stepM rfl (R_mv) ?_
    refine WL_step rfl (R_len_slice Try.underlying22 rfl) ?_
    refine WL_stepM rfl (R_as) ?_
    refine WL_nil ?_
    refine W_seq ?_
    (refine W_draw (Kp []) (fun _ => false) (by kernel_rfl) H ?_; clear H; intro w30 H)
    refine WA_takeM 0 rfl rfl rfl (by kernel_rfl) (by kernel_rfl) (H.kp.sub (by simp)) (fun _ hC => R_mv) ?_
    refine WA_takeM 1 rfl rfl rfl (by kernel_rfl) (by kernel_rfl) (H.kp.sub (by simp)) (fun _ hC => R_mv) ?_
    refine WA_take 2 rfl rfl rfl (by kernel_rfl) (by kernel_rfl) (H.kp.sub (by simp)) (fun _ hC => R_to Try.underlying22 Try.sizeOf3 rfl rfl (by omega) (by omega)) ?_
    refine WA_takeM 3 rfl rfl rfl (by kernel_rfl) (by kernel_rfl) (H.kp.sub (by simp)) (fun _ hC => R_mv) ?_
    refine WA_takeM 4 rfl rfl rfl (by kernel_rfl) (by kernel_rfl) (H.kp.sub (by simp)) (fun _ hC => R_mv) ?_
    refine WA_take 5 rfl rfl rfl (by kernel_rfl) (by kernel_rfl) (H.kp.sub (by simp)) (fun _ hC => R_sliceE Try.underlying22 Try.sizeOf3 rfl (.some rfl) .none (by omega) (by simp <;> omega)) ?_
    refine WA_one (i := 6) (by kernel_rfl) ?_
    (refine WI_effn rfl (.inl rfl) (E_appendIn H .here Try.underlying22 Try.typeInfo3 rfl rfl rfl (del_src (B := [].map I) (sp := sp) Try.underlying22 (H.get .here) hone (.inr rfl) (Nat.le_refl _)) (by simp <;> omega) (by simp <;> omega)) (fun _ _ _ => (by first | exact fun h => absurd h (by decide) | exact fun _ => H | exact fun _ => H.none (by repeat' first | exact kNil | apply kCons | apply kApp | assumption | exact OwnS.keys (by assumption)) | exact fun _ => H.dropN (by repeat' first | exact kNil | apply kCons | apply kApp | assumption | exact OwnS.keys (by assumption)) | exact fun _ => H.pop (by assumption) | exact fun _ => (H.pop (by assumption)).pop (by assumption) | exact fun _ => H.kp | exact fun _ => H.kp.tail | exact fun _ => H.kp.tail.tail | exact fun _ => H.kp.tail.tail.tail | exact fun _ => H.kp.sub (by simp) | exact fun _ => Kp.nil)) ?_; clear H; intro _ w38 _ H; rw [cells_in hA hB] at H)
    refine WA_takeM 7 rfl rfl rfl (by kernel_rfl) (by kernel_rfl) (H.kp.sub (by simp)) (fun _ hC => R_as) ?_
    refine WA_done (by kernel_rfl) ?_
    refine W_seq ?_
    refine W_region_l ?_
    refine WL_stepM rfl (R_mv) ?_
    refine WL_stepM rfl (R_mv) ?_
    refine WL_step rfl (R_len_slice Try.underlying22 rfl) ?_
    refine WL_stepM rfl (R_mv) ?_
    refine WL_step rfl (R_mid (k := A.length) Try.underlying22 Try.sizeOf3 rfl rfl rfl (by simp) (by simp) (by simp <;> omega) (by omega)) ?_
    (refine WL_effn rfl (E_clear1 (z := I 0) H .here Try.underlying22 Try.zeroValue3 rfl rfl rfl (by simp <;> omega)) ?_; clear H; intro _ w48 _ H; rw [cells_clear (k := A.length) hD (by simp)] at H)
    refine WL_nil ?_
    refine W_seq ?_
    refine W_region_l ?_
    refine WL_stepM rfl (R_mv) ?_
    refine WL_stepM rfl (R_as) ?_
    refine WL_nil ?_
    refine W_ret ?_
    exact ⟨_, rfl, [_], .inr ⟨b, pre.length, cap, pre, I 0 :: sp, by simp; rfl, hbb, by rw [List.map_append], rfl, by simp <;> omega, by simp <;> omega⟩, H⟩
  · refine W_seq ?_
    refine W_region_l ?_
    refine WL_stepM rfl (R_as) ?_
    refine WL_nil ?_
    refine W_seq ?_
    refine W_region_l ?_
    refine WL_stepM rfl (R_mv) ?_
    refine WL_stepM rfl (R_mv) ?_
    refine WL_stepM rfl (R_mv) ?_
    refine WL_stepM rfl (R_mv) ?_
    refine WL_step rfl (R_len_slice Try.underlying22 rfl) ?_
    refine WL_step rfl (R_slice3lo Try.underlying22 Try.sizeOf3 rfl rfl (j := A.length + 1) rfl rfl (by omega) (by omega) (by omega) (by omega)) ?_
    refine WL_nil ?_
    refine W_seq ?_
    refine W_seq ?_
    refine W_region_l ?_
    refine WL_stepM rfl (R_mv) ?_
    refine WL_stepM rfl (R_mv) ?_
    refine WL_step rfl (R_eq_f rfl rfl (by omega)) ?_
    refine WL_nil ?_
    refine W_cond_f rfl ?_
    refine W_skip ?_
    refine W_seq ?_
    refine W_region_l ?_
    refine WL_stepM rfl (R_mv) ?_
    refine WL_step rfl (R_len_slice Try.underlying22 rfl) ?_
    refine WL_stepM rfl (R_as) ?_
    refine WL_nil ?_
    refine W_seq ?_
    (refine W_draw (Kp []) (fun _ => false) (by kernel_rfl) H ?_; clear H; intro w30 H)
    refine WA_takeM 0 rfl rfl rfl (by kernel_rfl) (by kernel_rfl) (H.kp.sub (by simp)) (fun _ hC => R_mv) ?_
    refine WA_takeM 1 rfl rfl rfl (by kernel_rfl) (by kernel_rfl) (H.kp.sub (by simp)) (fun _ hC => R_mv) ?_
    refine WA_take 2 rfl rfl rfl (by kernel_rfl) (by kernel_rfl) (H.kp.sub (by simp)) (fun _ hC => R_to Try.underlying22 Try.sizeOf3 rfl rfl (by omega) (by omega)) ?_
    refine WA_takeM 3 rfl rfl rfl (by kernel_rfl) (by kernel_rfl) (H.kp.sub (by simp)) (fun _ hC => R_mv) ?_
    refine WA_takeM 4 rfl rfl rfl (by kernel_rfl) (by kernel_rfl) (H.kp.sub (by simp)) (fun _ hC => R_mv) ?_
    refine WA_take 5 rfl rfl rfl (by kernel_rfl) (by kernel_rfl) (H.kp.sub (by simp)) (fun _ hC => R_from (k := A.length + 1) (m := (B.map I).length) Try.underlying22 Try.sizeOf3 rfl rfl (by omega) (by omega) (by omega) (by omega)) ?_
    refine WA_one (i := 6) (by kernel_rfl) ?_
    (refine WI_effn rfl (.inl rfl) (E_appendIn H .here Try.underlying22 Try.typeInfo3 rfl rfl rfl (del_src (A := A.map I) (sp := sp) Try.underlying22 (H.get .here) hone (.inl (by rw [hA])) (by omega)) (by omega) (by simp <;> omega)) (fun _ _ _ => (by first | exact fun h => absurd h (by decide) | exact fun _ => H | exact fun _ => H.none (by repeat' first | exact kNil | apply kCons | apply kApp | assumption | exact OwnS.keys (by assumption)) | exact fun _ => H.dropN (by repeat' first | exact kNil | apply kCons | apply kApp | assumption | exact OwnS.keys (by assumption)) | exact fun _ => H.pop (by assumption) | exact fun _ => (H.pop (by assumption)).pop (by assumption) | exact fun _ => H.kp | exact fun _ => H.kp.tail | exact fun _ => H.kp.tail.tail | exact fun _ => H.kp.tail.tail.tail | exact fun _ => H.kp.sub (by simp) | exact fun _ => Kp.nil)) ?_; clear H; intro _ w38 _ H; rw [cells_in hA hB] at H)
    refine WA_takeM 7 rfl rfl rfl (by kernel_rfl) (by kernel_rfl) (H.kp.sub (by simp)) (fun _ hC => R_as) ?_
    refine WA_done (by kernel_rfl) ?_
    refine W_seq ?_
    refine W_region_l ?_
    refine WL_stepM rfl (R_mv) ?_
    refine WL_stepM rfl (R_mv) ?_
    refine WL_step rfl (R_len_slice Try.underlying22 rfl) ?_
    refine WL_stepM rfl (R_mv) ?_
    refine WL_step rfl (R_mid (k := A.length + B.length) Try.underlying22 Try.sizeOf3 rfl rfl rfl (by omega) (by omega) (by omega) (by omega)) ?_
    (refine WL_effn rfl (E_clear1 (z := I 0) H .here Try.underlying22 Try.zeroValue3 rfl rfl rfl (by simp <;> omega)) ?_; clear H; intro _ w48 _ H; rw [cells_clear hD hAB] at H)
    refine WL_nil ?_
    refine W_seq ?_
    refine W_region_l ?_
    refine WL_stepM rfl (R_mv) ?_
    refine WL_stepM rfl (R_as) ?_
    refine WL_nil ?_
    refine W_ret ?_
    exact ⟨_, rfl, [_], .inr ⟨b, pre.length, cap, pre, I 0 :: sp, by simp; rfl, hbb, by rw [List.map_append], rfl, by simp <;> omega, by simp <;> omega⟩, H⟩
end
end Go.Proofs.Ytaclingiedmpbaa.Sect

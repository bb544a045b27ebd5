/-
  A table that is made; things that are added.
-/
import Derived.Test.YtjkkfahjgaidbaaTableB
namespace Go.Proofs.Ytjkkfahjgaidbaa.Tab
open Go Go.Proofs Go.Proofs.Ytjkkfahjgaidbaa.Fx
set_option maxRecDepth 100000
set_option linter.unusedVariables false
set_option linter.unusedSimpArgs false
set_option maxHeartbeats 1000000

def zeroPl : Pl := ⟨I 0, 0, false⟩
def newPl : Pl := ⟨I 0, 1, false⟩

theorem rows_rep (n : Nat) (a : Pl) : (List.replicate n (plc a)).flatten = rows plc (List.replicate n a) := by
  unfold rows; rw [List.flatMap_def, List.map_replicate]

theorem rep_step {i n : Nat} (h : i < n) : (List.replicate i newPl ++ List.replicate (n - i) zeroPl).set i newPl = List.replicate (i + 1) newPl ++ List.replicate (n - (i + 1)) zeroPl := by
  rw [List.set_append, if_neg (by simp), List.length_replicate, Nat.sub_self, show n - i = (n - (i + 1)) + 1 from by omega, List.replicate_succ, List.set_cons_zero, List.replicate_succ', List.append_assoc]
  rfl

theorem rep_get {i n : Nat} (h : i < n) : (List.replicate i newPl ++ List.replicate (n - i) zeroPl)[i]? = some zeroPl := by
  rw [List.getElem?_append_right (by simp), List.length_replicate, Nat.sub_self, List.getElem?_replicate, if_pos (by omega)]

/-- how many places there are -/
def szOf (n : Int) : Nat := (min (max n 0) 256).toNat

theorem new_ret (n : Int) (w : World) : Ret Try.prog 26 #[I n] w fun v w' => ∃ p b, v = ptr p 0 ∧
    Hp w [(p, blk [sl b 0 (szOf n) (szOf n)] 93), (b, blk (rows plc (List.replicate (szOf n) newPl)) 95)] w' ∧ w.heap.size ≤ p ∧ w.heap.size ≤ b := by
  refine Ret_of_W (args := [_]) Try.func26 rfl Try.ntmps26 Try.results26 (by simp) ?_
  have H := Hp.refl w
  obtain ⟨m, hm, hm2⟩ : ∃ m : Nat, min (max n 0) 256 = (m : Int) ∧ szOf n = m := ⟨szOf n, by unfold szOf; omega, rfl⟩
  have hm3 : m ≤ 256 := by omega
  rw [hm2]
  refine W_seq ?_
  refine W_region_l ?_
  refine WL_stepM rfl (R_as) ?_
  refine WL_nil ?_
  refine W_seq ?_
  refine W_region_l ?_
  refine WL_stepM rfl (R_mv) ?_
  refine WL_step rfl (R_max rfl rfl rfl) ?_
  refine WL_step rfl (R_min rfl rfl hm) ?_
  (refine WL_effn rfl (E_makeSliceA (zs := plc zeroPl) H Try.underlying91 Try.sizeOf95 Try.typeInfo95 Try.zeroValue95 rfl rfl rfl rfl (by omega) (by omega) (by omega) (by simp only [Try.t95]; omega)) ?_; clear H; intro b w10 hb H; rw [Int.toNat_natCast, rows_rep] at H; rw [Int.toNat_natCast])
  refine WL_step rfl (R_build (vs := [(.slice _ _ _)]) rfl rfl) ?_
  (refine WL_effn rfl (E_box (vs := [sl b 0 m m]) H rfl rfl) ?_; clear H; intro p w12 hp H)
  refine WL_stepM rfl (R_as) ?_
  refine WL_nil ?_
  refine W_seq ?_
  refine W_seq ?_
  refine W_region_l ?_
  refine WL_stepM rfl (R_mv) ?_
  refine WL_step rfl (R_nilCheck rfl) ?_
  refine WL_step rfl (R_fieldAddr (off' := 0) Try.underlying93 rfl Try.sizeOf91 (by decide) rfl rfl) ?_
  refine WL_step rfl (R_load Try.isAgg91 rfl (H.get .here) rfl) ?_
  refine WL_step rfl (R_len_slice Try.underlying91 rfl) ?_
  refine WL_stepM rfl (R_mv) ?_
  refine WL_nil ?_
  refine W_block ?_
  refine W_loop (fun (i : Nat) E w' => i ≤ m ∧ E 3 = ptr p 0 ∧ E 15 = I m ∧ E 16 = I i ∧ Hp w [(p, blk [sl b 0 m m] 93), (b, blk (rows plc (List.replicate i newPl ++ List.replicate (m - i) zeroPl)) 95)] w') (fun i => m - i) 0 ?_ ?_
  · exact ⟨by omega, rfl, rfl, rfl, H⟩
  · (clear H; rintro i E w1 ⟨hi, h0, h1, h2, H⟩; refine W_know3 h0 h1 h2 ?_; by_cases hlt : i < m)
    · refine W_seq ?_
      refine W_region_l ?_
      refine WL_step rfl (R_lt_t rfl rfl (by omega)) ?_
      refine WL_nil ?_
      refine W_seq ?_
      refine W_cond_t rfl ?_
      refine W_skip ?_
      refine W_seq ?_
      refine W_block ?_
      refine W_seq ?_
      refine W_region_l ?_
      refine WL_stepM rfl (R_mv) ?_
      refine WL_stepM rfl (R_as) ?_
      refine WL_nil ?_
      (have hlen := rows_length plc_len (List.replicate i newPl ++ List.replicate (m - i) zeroPl); rw [List.length_append, List.length_replicate, List.length_replicate] at hlen; refine W_region_l ?_)
      refine WL_stepM rfl (R_mv) ?_
      refine WL_step rfl (R_nilCheck rfl) ?_
      refine WL_step rfl (R_fieldAddr (off' := 0) Try.underlying93 rfl Try.sizeOf91 (by decide) rfl rfl) ?_
      refine WL_step rfl (R_load Try.isAgg91 rfl (H.get .here) rfl) ?_
      refine WL_stepM rfl (R_mv) ?_
      refine WL_step rfl (R_indexAddr Try.underlying91 Try.sizeOf95 rfl rfl (by omega) (by omega) idx0_castn) ?_
      refine WL_step rfl (R_fieldAddr (off' := _ + 1) Try.underlying95 rfl Try.sizeOf3 (by decide) rfl rfl) ?_
      (refine WL_effu rfl (E_store (v := (.int _ _)) H Try.sizeOf3 rfl rfl rfl (.there .here) (by omega)) ?_; clear H; intro w51 H)
      refine WL_nil ?_
      (rw [rows_set (j := 1) (v := I 1) (a' := newPl) plc_len (rep_get hlt) (by decide) rfl, rep_step hlt] at H; refine W_region_l ?_)
      refine WL_step rfl (R_add rfl rfl (w_i64 (by omega))) ?_
      refine WL_stepM rfl (R_mv) ?_
      refine WL_nil ?_
      exact ⟨i + 1, by omega, by omega, rfl, rfl, rfl, H⟩
    · refine W_seq ?_
      refine W_region_l ?_
      refine WL_step rfl (R_lt_f rfl rfl (by omega)) ?_
      refine WL_nil ?_
      refine W_seq ?_
      refine W_cond_f rfl ?_
      refine W_exit ?_
      refine (if_pos rfl).mpr ?_
      refine W_seq ?_
      refine W_region_l ?_
      refine WL_stepM rfl (R_mv) ?_
      refine WL_stepM rfl (R_as) ?_
      refine WL_nil ?_
      refine W_ret ?_
      (obtain rfl : i = m := (by omega); rw [Nat.sub_self, List.replicate_zero, List.append_nil] at H; exact ⟨_, rfl, _, _, rfl, H, by assumption, by assumption⟩)
end Go.Proofs.Ytjkkfahjgaidbaa.Tab

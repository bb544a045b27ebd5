/-
  What goes into a pipe, and what comes out of it.
-/
import Derived.Test.YtcpkhgdjckogjaaRingH
namespace Go.Proofs.Ytcpkhgdjckogjaa.Ring
open Go Go.Proofs Go.Proofs.Ytcpkhgdjckogjaa.Fx Go.Proofs.Ytcpkhgdjckogjaa.Codec
set_option maxRecDepth 100000
set_option linter.unusedVariables false
set_option linter.unusedSimpArgs false
set_option maxHeartbeats 2000000

/-- the byte so many places behind the head -/
def at_ (p : Pi) (i : Nat) : UInt8 := p.d[(p.h.toNat + i) % 32]?.getD 0
/-- the first bytes of what there is -/
def firstQ (p : Pi) (n : Nat) : List UInt8 := (List.range n).map (at_ p)
/-- all of them -/
def queue (p : Pi) : List UInt8 := if okP p then firstQ p p.c.toNat else []
theorem firstQ_len (p : Pi) (n : Nat) : (firstQ p n).length = n := by simp [firstQ]
theorem firstQ_succ (p : Pi) (n : Nat) : firstQ p (n + 1) = firstQ p n ++ [at_ p n] := by simp [firstQ, List.range_succ]
theorem at_get (p : Pi) (i : Nat) : p.d[(p.h.toNat + i) % 32]? = some (at_ p i) := by
  have hd := p.hd
  unfold at_
  rw [List.getElem?_eq_getElem (by omega)]
  rfl

/-- one byte more -/
def put1 (p : Pi) (x : UInt8) : Pi := { p with d := p.d.set ((p.h.toNat + p.c.toNat) % 32) x, hd := by rw [List.length_set]; exact p.hd, c := p.c + 1 }
/-- bytes put in, as many as they are -/
def putN (p : Pi) : List UInt8 → Pi
  | [] => p
  | x :: l => putN (put1 p x) l
theorem putN_h : ∀ (l : List UInt8) (p : Pi), (putN p l).h = p.h ∧ (putN p l).c = p.c + l.length ∧ (putN p l).r = p.r ∧ (putN p l).w = p.w
  | [], p => ⟨rfl, by simp [putN], rfl, rfl⟩
  | x :: l, p => by
    obtain ⟨h1, h2, h3, h4⟩ := putN_h l (put1 p x)
    refine ⟨h1, ?_, h3, h4⟩
    show (putN (put1 p x) l).c = _
    rw [h2, List.length_cons]
    show p.c + 1 + (l.length : Int) = p.c + ((l.length + 1 : Nat) : Int)
    omega
theorem putN_append : ∀ (l m : List UInt8) (p : Pi), putN p (l ++ m) = putN (putN p l) m
  | [], _, _ => rfl
  | x :: l, m, p => putN_append l m (put1 p x)
theorem putN_snoc (p : Pi) (l : List UInt8) (x : UInt8) : putN p (l ++ [x]) = put1 (putN p l) x := putN_append l [x] p
/-- bytes put in, as there is room; how many -/
def putP (p : Pi) (l : List UInt8) : Pi × Nat := if okP p then (putN p (l.take (32 - p.c.toNat)), min l.length (32 - p.c.toNat)) else (p, 0)
/-- how many are taken -/
def takes (p : Pi) (n : Int) : Nat := (min (max n 0) p.c).toNat
/-- bytes taken out -/
def takeP (p : Pi) (n : Int) : Pi × List UInt8 := if okP p then ({ p with h := (p.h + takes p n) % 32, c := p.c - takes p n }, firstQ p (takes p n)) else (p, [])

theorem bytesR_ret (p : Pi) (w : World) : Ret Try.prog 26 #[vP p] w fun v w' => ∃ M, OwnS w.heap.size 5 1 v (queue p).length ((queue p).map U) M ∧ Hp w M w' := by
  refine Ret_of_W (args := [_]) Try.func26 rfl Try.ntmps26 Try.results26 (by simp) ?_
  have H := Hp.refl w
  have hO := OwnS.nil w.heap.size 5 1
  by_cases hok : okP p
  · have hq : queue p = firstQ p p.c.toNat := if_pos hok
    have hok0 := hok
    unfold okP at hok
    obtain ⟨n, hn⟩ : ∃ n : Nat, p.c = (n : Int) := ⟨p.c.toNat, by omega⟩
    obtain ⟨hh, hhn⟩ : ∃ n : Nat, p.h = (n : Int) := ⟨p.h.toNat, by omega⟩
    rw [hq, hn, Int.toNat_natCast]
    have hlen := firstQ_len p
    refine W_seq ?_
    refine W_region_l ?_
    (refine WL_effn rfl (E_boxP H rfl) ?_; clear H; intro bx w3 hbx H)
    refine WL_stepM rfl (R_as) ?_
    refine WL_nil ?_
    refine W_seq ?_
    refine W_seq ?_
    refine W_region_l ?_
    refine WL_step rfl (R_loadP rfl (H.get .here)) ?_
    (refine WL_call rfl (R_call rfl Try.call19 rfl) (ok_to (decide_eq_true hok0) _) ?_; rintro _ w10 ⟨rfl, H1⟩; replace H := H.seq0 H1; clear H1)
    refine WL_step rfl (R_not_t rfl) ?_
    refine WL_nil ?_
    refine W_cond_f rfl ?_
    refine W_skip ?_
    refine W_seq ?_
    refine W_region_l ?_
    refine WL_stepM rfl (R_as) ?_
    refine WL_nil ?_
    refine W_seq ?_
    refine W_seq ?_
    refine W_region_l ?_
    refine WL_step rfl (R_fieldAddr (off' := 1) Try.underlying26 rfl Try.sizeOf3 (by decide) rfl rfl) ?_
    refine WL_step rfl (R_load (v := I n) Try.isAgg3 rfl (H.get .here) (by rw [← hn]; rfl)) ?_
    refine WL_stepM rfl (R_mv) ?_
    refine WL_nil ?_
    refine W_block ?_
    refine W_loopS [(3, 4), (10, 24)] (fun (i : Nat) E w' => ∃ v M, i ≤ n ∧ E 3 = v ∧ E 10 = I i ∧ OwnS w.heap.size 5 1 v i ((firstQ p i).map U) M ∧ Hp w (M ++ [(bx, blk (piC p) 26)]) w') (fun i => n - i) 0 ?e0 ?r0
    · exact ⟨_, [], by omega, rfl, rfl, hO, H⟩
    · (clear H hO; rintro i E w1 ⟨v, M, hi, h3, h10, hO, H⟩; refine W_kn2 h3 h10 ?_; by_cases hlt : i < n)
      · refine W_seq ?_
        refine W_region_l ?_
        refine WL_step rfl (R_lt_t rfl rfl (by omega)) ?_
        refine WL_nil ?_
        refine W_seq ?_
        refine W_cond_t rfl ?_
        refine W_skip ?_
        refine W_seq ?_
        refine W_block ?_
        refine W_seq ?_
        refine W_region_l ?_
        refine WL_stepM rfl (R_mv) ?_
        refine WL_stepM rfl (R_as) ?_
        refine WL_nil ?_
        refine W_region_l ?_
        refine WL_stepM rfl (R_mv) ?_
        refine WL_step rfl (R_fieldAddr (off' := 0) Try.underlying26 rfl Try.sizeOf3 (by decide) rfl rfl) ?_
        refine WL_step rfl (R_load (v := I hh) Try.isAgg3 rfl (H.get (.app _ .here)) (by rw [← hhn]; rfl)) ?_
        refine WL_stepM rfl (R_mv) ?_
        refine WL_step rfl (R_add rfl rfl (w_i64 (by omega))) ?_
        refine WL_step rfl (R_rem (r := (((hh + i) % 32 : Nat) : Int)) rfl rfl (by omega) ((rem_pos (by omega)).trans (by omega))) ?_
        refine WL_step rfl (R_fieldAddr (off' := 4) Try.underlying26 rfl Try.sizeOf24 (by decide) rfl rfl) ?_
        refine WL_step rfl (R_indexAddrA (off' := 4 + (hh + i) % 32) Try.underlying24 Try.sizeOf5 rfl rfl (by omega) (by omega) (by omega)) ?_
        (have hg := at_get p i; rw [hhn, Int.toNat_natCast] at hg; refine WL_step rfl (R_load (v := U (at_ p i)) Try.isAgg5 rfl (H.get (.app _ .here)) (pi_data hg)) ?_)
        (refine WL_effn rfl (E_buildOnes (vs := [(.int _ _)]) H Try.underlying22 Try.sizeOf5 Try.zeroValue5 rfl rfl (by decide) rfl rfl (by simp [Value.oneCell'])) ?_; clear H; intro b53 w53 hb53 H)
        (refine WL_effm rfl (E_append H (.there .here) hO Try.underlying22 Try.typeInfo5 rfl rfl rfl rfl rfl rfl (src_one Try.underlying22 (H.get .here) rfl) (by omega) (by simp only [Try.t5]; omega)) ?_; clear H hO; intro vN MN w54 hO H; replace H := H.pop (by assumption); rw [show (firstQ p i).map U ++ [U (at_ p i)] = (firstQ p (i + 1)).map U by rw [firstQ_succ, List.map_append]; rfl] at hO)
        refine WL_stepM rfl (R_as) ?_
        refine WL_nil ?_
        refine W_region_l ?_
        refine WL_step rfl (R_add rfl rfl (w_i64 (by omega))) ?_
        refine WL_stepM rfl (R_mv) ?_
        refine WL_nil ?_
        exact ⟨(same_mov rfl (same_updo rfl (same_mov rfl (same_updo rfl (same_updo rfl (same_updo rfl (same_updo rfl (same_updo rfl (same_updo rfl (same_updo rfl (same_mov rfl (same_updo rfl (same_updo rfl (same_mov rfl (same_mov rfl (same_mov rfl (same_updo rfl same_ovr))))))))))))))))), i + 1, by omega, vN, MN, by omega, rfl, rfl, hO, H⟩
      · refine W_seq ?_
        refine W_region_l ?_
        refine WL_step rfl (R_lt_f rfl rfl (by omega)) ?_
        refine WL_nil ?_
        refine W_seq ?_
        refine W_cond_f rfl ?_
        refine W_exit ?_
        refine (if_pos rfl).mpr ?_
        refine W_seq ?_
        refine W_region_l ?_
        refine WL_stepM rfl (R_mv) ?_
        refine WL_stepM rfl (R_as) ?_
        refine WL_nil ?_
        refine W_ret ?_
        (obtain rfl : i = n := (by omega); exact ⟨_, rfl, M, by rw [hlen]; exact hO, Hp.cut H (kCons hbx kNil)⟩)
  · have hq : queue p = [] := if_neg hok
    rw [hq]
    refine W_seq ?_
    refine W_region_l ?_
    (refine WL_effn rfl (E_boxP H rfl) ?_; clear H; intro bx w3 hbx H)
    refine WL_stepM rfl (R_as) ?_
    refine WL_nil ?_
    refine W_seq ?_
    refine W_seq ?_
    refine W_region_l ?_
    refine WL_step rfl (R_loadP rfl (H.get .here)) ?_
    (refine WL_call rfl (R_call rfl Try.call19 rfl) (ok_to (decide_eq_false hok) _) ?_; rintro _ w10 ⟨rfl, H1⟩; replace H := H.seq0 H1; clear H1)
    refine WL_step rfl (R_not_f rfl) ?_
    refine WL_nil ?_
    refine W_cond_t rfl ?_
    refine W_seq ?_
    refine W_region_l ?_
    refine WL_stepM rfl (R_as) ?_
    refine WL_nil ?_
    refine W_ret ?_
    exact ⟨_, rfl, [], hO, H.none (by repeat' first | exact kNil | apply kCons | apply kApp | assumption | exact OwnS.keys (by assumption))⟩
end Go.Proofs.Ytcpkhgdjckogjaa.Ring

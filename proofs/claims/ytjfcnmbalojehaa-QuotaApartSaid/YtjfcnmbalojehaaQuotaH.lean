/-
  The law QuotaApart.
-/
import Derived.Test.YtjfcnmbalojehaaQuotaG
import Derived.Test.YtjfcnmbalojehaaFxO
namespace Go.Proofs.Ytjfcnmbalojehaa.Quota
open Go Go.Proofs Go.Proofs.Ytjfcnmbalojehaa.Fx
set_option maxRecDepth 100000
set_option linter.unusedVariables false
set_option linter.unusedSimpArgs false
set_option maxHeartbeats 1000000

def nAt (ns : List Nat) (t : Nat) : Nat := ns.getD t 0
def F0 (ns : List Nat) (s : Nat) : Nat := (ns.take s).sum
theorem F0_next {ns : List Nat} {s : Nat} (h : s < ns.length) : F0 ns (s + 1) = F0 ns s + nAt ns s := by
  unfold F0 nAt
  rw [List.take_succ_eq_append_getElem h, List.sum_append, List.getD_eq_getElem?_getD, List.getElem?_eq_getElem h]
  simp
theorem F0_le {ns : List Nat} (h : ∀ n ∈ ns, n ≤ 63) (s : Nat) (hs : s ≤ ns.length) : F0 ns s ≤ 63 * s := by
  induction s with
  | zero => simp [F0]
  | succ s ih =>
    have h1 := ih (by omega)
    have h2 : nAt ns s ≤ 63 := by
      unfold nAt
      rw [List.getD_eq_getElem?_getD, List.getElem?_eq_getElem (by omega)]
      exact h _ (List.getElem_mem _)
    rw [F0_next (by omega)]; omega
theorem nAt_le {ns : List Nat} (h : ∀ n ∈ ns, n ≤ 63) {s : Nat} (hs : s < ns.length) : nAt ns s ≤ 63 := by
  unfold nAt
  rw [List.getD_eq_getElem?_getD, List.getElem?_eq_getElem hs]
  exact h _ (List.getElem_mem _)

/-- k frames of session s are taken, of those behind none -/
structure Ap (ns : List Nat) (ins : List (Nat × List Int)) (s k : Nat) : Prop where
  len : ins.map (fun x => x.2.length) = ns
  after : ∀ t : Nat, t < ns.length → s < t → (rowD ins t).2 = List.replicate (nAt ns t) 0
  at_ : s < ns.length → (rowD ins s).2 = List.replicate k 1 ++ List.replicate (nAt ns s - k) 0

theorem Ap.next {ns : List Nat} {ins : List (Nat × List Int)} {s k : Nat} (h : Ap ns ins s k) : Ap ns ins (s + 1) 0 :=
  ⟨h.len, fun t ht hs => h.after t ht (by omega), fun hs => by rw [h.after (s + 1) hs (by omega)]; simp⟩
theorem Ap.lens {ns : List Nat} {ins : List (Nat × List Int)} {s k : Nat} (h : Ap ns ins s k) (i : Nat) : lens ins i = F0 ns i := by
  unfold Quota.lens F0
  rw [← h.len, List.map_take]
theorem idx_rep (k m : Nat) (h : 0 < m) : idx (List.replicate k 1 ++ List.replicate m 0) 0 = (k : Int) := by
  induction k with
  | zero =>
    obtain ⟨m, rfl⟩ : ∃ n, m = n + 1 := ⟨m - 1, by omega⟩
    simp [List.replicate_succ, idx]
  | succ k ih =>
    rw [List.replicate_succ, List.cons_append, idx, if_neg (by decide), ih, if_neg (by omega)]; push_cast; rfl
theorem set_sameQ {α : Type} {l : List α} {k : Nat} {q : α} (h : l[k]? = some q) : l.set k q = l := by
  apply List.ext_getElem?
  intro j
  rw [List.getElem?_set]
  split
  · rename_i e; subst e; split
    · rw [h]
    · rename_i h'; rw [(List.getElem?_eq_none (by omega))] at h; cases h
  · rfl
theorem Ap.take {ns : List Nat} {ins : List (Nat × List Int)} {s k : Nat} (h : Ap ns ins s k) (hs : s < ns.length) (hk : k < nAt ns s) :
    ∃ ins', allocQ ins s = (ins', (k : Int), 0) ∧ Ap ns ins' s (k + 1) ∧ ins'.length = ins.length := by
  have hlen : ins.length = ns.length := by rw [← h.len, List.length_map]
  have hin : 0 ≤ (s : Int) ∧ (s : Int) < ins.length := by omega
  have hr := h.at_ hs
  have hi : idx (rowD ins s).2 0 = k := by rw [hr]; exact idx_rep k _ (by omega)
  have hz : (0 : Int) ∈ (rowD ins s).2 := by rw [hr]; exact List.mem_append.2 (.inr (List.mem_replicate.2 ⟨by omega, rfl⟩))
  have hset : (rowD ins s).2.set k 1 = List.replicate (k + 1) 1 ++ List.replicate (nAt ns s - (k + 1)) 0 := by
    rw [hr, List.set_append_right _ _ (by simp), List.length_replicate, Nat.sub_self, show nAt ns s - k = (nAt ns s - (k + 1)) + 1 by omega, List.replicate_succ, List.set_cons_zero, List.replicate_succ', List.append_assoc]; rfl
  refine ⟨setQ ins s k 1, by unfold allocQ; rw [if_pos hin, if_pos hz, hi], ⟨?_, fun t ht hst => ?_, fun _ => ?_⟩, by simp [setQ]⟩
  · have hg : (ins.map fun x => x.2.length)[(s : Int).toNat]? = some ((rowD ins s).1, (rowD ins s).2.set (k : Int).toNat 1).2.length := by
      rw [List.getElem?_map, rowD_get hin]
      show some (rowD ins s).2.length = some ((rowD ins s).2.set _ _).length
      rw [List.length_set]
    unfold setQ
    rw [List.map_set]
    exact (set_sameQ hg).trans h.len
  · show (rowD (ins.set _ _) t).2 = _
    rw [rowD_set hin (by omega), if_neg (by omega)]; exact h.after t ht hst
  · show (rowD (ins.set _ _) s).2 = _
    rw [rowD_set hin (by omega), if_pos rfl, Int.toNat_natCast]; exact hset
theorem Ap.full {ns : List Nat} {ins : List (Nat × List Int)} {s : Nat} (h : Ap ns ins s (nAt ns s)) (hs : s < ns.length) : allocQ ins s = (ins, 0, 4) := by
  have hlen : ins.length = ns.length := by rw [← h.len, List.length_map]
  have hin : 0 ≤ (s : Int) ∧ (s : Int) < ins.length := by omega
  have hz : ¬ (0 : Int) ∈ (rowD ins s).2 := by
    rw [h.at_ hs, Nat.sub_self]
    intro hm
    simp at hm
  unfold allocQ
  rw [if_pos hin, if_neg hz]
theorem Ap.frame {ns : List Nat} {ins : List (Nat × List Int)} {s k : Nat} (h : Ap ns ins s (k + 1)) (hs : s < ns.length) (hk : k < nAt ns s) : frameQ ins s k = (((F0 ns s + k : Nat) : Int), true) := by
  have hlen : ins.length = ns.length := by rw [← h.len, List.length_map]
  have hr := h.at_ hs
  have ho : ownP ins s k := by
    refine ⟨⟨⟨by omega, by omega⟩, ?_⟩, ?_⟩
    · rw [hr]; simp; omega
    · rw [hr, Int.toNat_natCast, List.getD_eq_getElem?_getD, List.getElem?_append_left (by simp), List.getElem?_replicate, if_pos (by omega)]; decide
  unfold frameQ
  rw [if_pos ho]
  have := h.lens s
  unfold Quota.lens at this
  unfold firstQ
  rw [Int.toNat_natCast, this]; push_cast; rfl

structure S4 (B : Nat) (uv : Value) (ins : List (Nat × List Int)) (Mo : List (Nat × Obj)) : Prop where
  hO : OwnQ B 22 uv (qVals ins) Mo
  l4 : ins.length = 4
  small : ∀ x ∈ ins, x.2.length ≤ 64
  bits : ∀ x ∈ ins, ∀ y ∈ x.2, y = 0 ∨ y = 1
  key : ∀ x ∈ ins, B ≤ x.1

section
variable {w0 w : World} {p : Nat} {uv : Value} {ins : List (Nat × List Int)} {Mo R : List (Nat × Obj)}
theorem S4.has (h : S4 w0.heap.size uv ins Mo) (H : Hp w0 (qBlks ins ++ (Mo ++ ((p, blk [uv] 101) :: R))) w) : Has w0 w p uv ins Mo R := ⟨h.hO, H, by rw [h.l4]; omega, h.small, h.bits⟩
theorem Has.s4 (h : Has w0 w p uv ins Mo R) (hl : ins.length = 4) (hk : ∀ x ∈ ins, w0.heap.size ≤ x.1) : S4 w0.heap.size uv ins Mo := ⟨h.hO, hl, h.small, h.bits, hk⟩
theorem lget {ns : List Nat} {na nb nc nd s : Nat} (h : ns = [na, nb, nc, nd]) (hs : s < 4) : ([I na, I nb, I nc, I nd] : List Value)[s]? = some (I (nAt ns s)) := by
  subst h
  match s, hs with
  | 0, _ => rfl
  | 1, _ => rfl
  | 2, _ => rfl
  | 3, _ => rfl
theorem ap_start {ns : List Nat} {ins : List (Nat × List Int)} {na nb nc nd : Nat} (h : ns = [na, nb, nc, nd]) (ha : na ≤ 63) (hb : nb ≤ 63) (hc : nc ≤ 63) (hd : nd ≤ 63)
    (hr : ins.map (·.2) = (([(na : Int), nb, nc, nd] : List Int).take 4).map nrow) : Ap ns ins 0 0 := by
  have h1 : ∀ n : Nat, n ≤ 63 → nrow (n : Int) = List.replicate n 0 := fun n hn => nrow_length (by omega)
  have h2 : ins.map (·.2) = ns.map fun n => List.replicate n 0 := by
    rw [hr, h]; simp [h1 _ ha, h1 _ hb, h1 _ hc, h1 _ hd]
  have h3 : ∀ t : Nat, t < ns.length → (rowD ins t).2 = List.replicate (nAt ns t) 0 := by
    intro t ht
    have hl : ins.length = ns.length := by have := congrArg List.length h2; simpa using this
    have h4 : (ins.map (·.2))[t]? = some (rowD ins t).2 := by
      rw [List.getElem?_map]
      have := rowD_get (ins := ins) (s := (t : Int)) ⟨by omega, by omega⟩
      rw [Int.toNat_natCast] at this
      rw [this]; rfl
    rw [h2, List.getElem?_map, List.getElem?_eq_getElem ht] at h4
    rw [← Option.some.inj h4]
    unfold nAt
    rw [List.getD_eq_getElem?_getD, List.getElem?_eq_getElem ht]; rfl
  refine ⟨?_, fun t ht _ => h3 t ht, fun h0 => by rw [h3 0 h0]; simp⟩
  have := congrArg (List.map List.length) h2
  rw [List.map_map, List.map_map] at this
  rw [show (fun x : Nat × List Int => x.2.length) = List.length ∘ (fun x => x.2) from rfl, this]
  apply List.ext_getElem? ; intro i
  rw [List.getElem?_map]
  cases ns[i]? <;> simp
theorem apart_end {A B : List (Nat × Obj)} {a x y : Nat × Obj} (H : Hp w0 (y :: ((A ++ (B ++ [a])) ++ [x])) w) : Hp w0 (A ++ (B ++ (a :: [x, y]))) w := by
  refine H.perm ?_
  have h1 : (A ++ (B ++ (a :: [x, y]))) = ((A ++ (B ++ [a])) ++ [x]) ++ [y] := by simp
  rw [h1]
  exact (List.perm_append_singleton y _).symm

attribute [local simp] tab_length
theorem apart_ret (a b c d : Int) (w : World) :
    Ret Try.prog 11 #[I a, I b, I c, I d] w fun v w' => v = .bool true ∧ Hp w [] w' := by
  refine Ret_of_W (args := [_, _, _, _]) Try.func11 rfl Try.ntmps11 Try.results11 (by simp) ?_
  have H := Hp.refl w
  obtain ⟨na, hna, ha⟩ : ∃ n : Nat, a % 64 = n ∧ n ≤ 63 := ⟨(a % 64).toNat, by omega, by omega⟩
  obtain ⟨nb, hnb, hb⟩ : ∃ n : Nat, b % 64 = n ∧ n ≤ 63 := ⟨(b % 64).toNat, by omega, by omega⟩
  obtain ⟨nc, hnc, hc⟩ : ∃ n : Nat, c % 64 = n ∧ n ≤ 63 := ⟨(c % 64).toNat, by omega, by omega⟩
  obtain ⟨nd, hnd, hd⟩ : ∃ n : Nat, d % 64 = n ∧ n ≤ 63 := ⟨(d % 64).toNat, by omega, by omega⟩
  obtain ⟨ns, hns⟩ : ∃ ns : List Nat, ns = [na, nb, nc, nd] := ⟨_, rfl⟩
  have hns4 : ns.length = 4 := by rw [hns]; rfl
  have hns63 : ∀ n ∈ ns, n ≤ 63 := by rw [hns]; intro n hn; simp at hn; omega
  have hF4 : F0 ns 4 = na + nb + nc + nd := by rw [hns]; simp [F0]; omega
  refine W_seq ?_
  refine W_region_l ?_
  refine WL_stepM rfl (R_as) ?_
  refine WL_nil ?_
  refine W_seq ?_
  refine W_region_l ?_
  refine WL_stepM rfl (R_mv) ?_
  refine WL_step rfl (R_bits rfl rfl (by simp) (and_mask_i64 6 64 (by decide) rfl (by decide))) ?_
  refine WL_stepM rfl (R_mv) ?_
  refine WL_step rfl (R_bits rfl rfl (by simp) (and_mask_i64 6 64 (by decide) rfl (by decide))) ?_
  refine WL_stepM rfl (R_mv) ?_
  refine WL_step rfl (R_bits rfl rfl (by simp) (and_mask_i64 6 64 (by decide) rfl (by decide))) ?_
  refine WL_stepM rfl (R_mv) ?_
  refine WL_step rfl (R_bits rfl rfl (by simp) (and_mask_i64 6 64 (by decide) rfl (by decide))) ?_
  (refine WL_effn rfl (E_buildOnes (vs := [(.int _ _), (.int _ _), (.int _ _), (.int _ _)]) H Try.underlying22 Try.sizeOf3 Try.zeroValue3 rfl rfl (by decide) rfl rfl (by simp [Value.oneCell'])) ?_; clear H; intro b15 w15 hb15 H)
  refine WL_stepM rfl (R_as) ?_
  refine WL_nil ?_
  refine W_seq ?_
  (rw [hna, hnb, hnc, hnd] at H ⊢) <;> refine W_region_l ?_
  refine WL_stepM rfl (R_mv) ?_
  (refine WL_call rfl (R_call rfl Try.call47 rfl) (new_ret (xs := [(na : Int), nb, nc, nd]) (RdS.blk (c := [I na, I nb, I nc, I nd]) (off := 0) (H.get .here) rfl (by simp) (Nat.le_refl _)) (by simp) (by simp)) ?_; rintro _ w21 ⟨p, uv, ins, Mo, rfl, hrows, hH, hk, hp⟩; have hsz := H.size; have hl4 : ins.length = 4 := (by have := congrArg List.length hrows; simpa using this); have s4 : S4 w.heap.size uv ins Mo := ⟨hH.hO.mono hsz, hl4, hH.small, hH.bits, fun x hx => Nat.le_trans hsz (hk x hx)⟩; have hp2 := Nat.le_trans hsz hp; replace H := H.seqN hH.H (kApp (qBlks_keys hk) (kApp hH.hO.keys (kCons hp kNil))); have hAp : Ap ns ins 0 0 := ap_start hns ha hb hc hd hrows; clear hH hk hp hsz)
  refine WL_stepM rfl (R_as) ?_
  refine WL_nil ?_
  refine W_seq ?_
  refine W_seq ?_
  refine W_region_l ?_
  refine WL_stepM rfl (R_mv) ?_
  refine WL_step rfl (R_eq_ptr_nil Try.underlying67 rfl rfl) ?_
  refine WL_nil ?_
  refine W_cond_f rfl ?_
  refine W_skip ?_
  refine W_seq ?_
  refine W_region_l ?_
  (refine WL_effn rfl (E_makeSlice H Try.underlying69 Try.sizeOf4 Try.typeInfo4 Try.zeroValue4 rfl rfl rfl (by omega) (by omega) (by omega) (by simp only [Try.t4]; omega)) ?_; clear H; intro bs w34 hbs H; replace H := apart_end H)
  refine WL_stepM rfl (R_as) ?_
  refine WL_nil ?_
  refine W_seq ?_
  refine W_seq ?_
  refine W_region_l ?_
  refine WL_stepM rfl (R_as) ?_
  refine WL_nil ?_
  refine W_block ?_
  refine W_loopS [(8, 8), (12, 19), (36, 96)] (fun (s : Nat) E w' => ∃ ins, s ≤ 4 ∧ E 12 = I s ∧ S4 w.heap.size uv ins Mo ∧ Ap ns ins s 0 ∧ Hp w (qBlks ins ++ (Mo ++ ((p, blk [uv] 101) :: [(b15, blk [I na, I nb, I nc, I nd] 3), (bs, blk (tab 256 fun i => Value.bool (decide (i < F0 ns s))) 4)]))) w') (fun s => 4 - s) 0 ?e0 ?r0
  · exact ⟨ins, by omega, rfl, s4, hAp, H⟩
  · (clear H s4 hAp hrows hl4; clear ins; rintro s E w1 ⟨ins, hs4, h0, s4, hAp, H⟩; refine W_kn h0 ?_; have hFs := F0_le hns63 s (by omega))
    refine W_seq ?_
    refine W_seq ?_
    refine W_region_l ?_
    refine WL_stepM rfl (R_mv) ?_
    refine WL_step rfl (R_lt rfl rfl) ?_
    refine WL_nil ?_
    refine W_if rfl (fun h51 => ?_) (fun h51 => ?_)
    · refine W_skip ?_
      refine W_seq ?_
      refine W_block ?_
      refine W_seq ?_
      refine W_seq ?_
      refine W_region_l ?_
      refine WL_stepM rfl (R_as) ?_
      refine WL_nil ?_
      refine W_block ?_
      (have hs3 : s < ns.length := (by omega); have hNs := nAt_le hns63 hs3; refine W_loopS [(8, 8), (13, 17), (40, 88)] (fun (k : Nat) E w' => ∃ ins, k ≤ nAt ns s ∧ E 13 = I k ∧ S4 w.heap.size uv ins Mo ∧ Ap ns ins s k ∧ Hp w (qBlks ins ++ (Mo ++ ((p, blk [uv] 101) :: [(b15, blk [I na, I nb, I nc, I nd] 3), (bs, blk (tab 256 fun i => Value.bool (decide (i < F0 ns s + k))) 4)]))) w') (fun k => nAt ns s - k) 0 ?e2 ?r2)
      · exact ⟨ins, by omega, rfl, s4, hAp, H⟩
      · (clear H s4 hAp; clear ins; rintro k E w1 ⟨ins, hk, h1, s4, hAp, H⟩; refine W_kn h1 ?_)
        refine W_seq ?_
        refine W_seq ?_
        refine W_region_l ?_
        refine WL_stepM rfl (R_mv) ?_
        refine WL_stepM rfl (R_mv) ?_
        refine WL_stepM rfl (R_mv) ?_
        refine WL_step rfl (R_indexAddr Try.underlying22 Try.sizeOf3 rfl rfl (by omega) (by omega) idx0_cast) ?_
        refine WL_step rfl (R_load Try.isAgg3 rfl (H.get (.app _ (.app _ (.there .here)))) (lget hns (by omega))) ?_
        refine WL_step rfl (R_lt rfl rfl) ?_
        refine WL_nil ?_
        refine W_if rfl (fun h73 => ?_) (fun h73 => ?_)
        · refine W_skip ?_
          refine W_seq ?_
          refine W_block ?_
          refine W_seq ?_
          ((obtain ⟨ins', hea, hAp', hl'⟩ := hAp.take hs3 (by omega); have ka' := alloc_key s4.key hea; have hfr := hAp'.frame hs3 (by omega))) <;> refine W_region_l ?_
          refine WL_stepM rfl (R_mv) ?_
          refine WL_stepM rfl (R_mv) ?_
          (refine WL_call rfl (R_call rfl Try.call48 rfl) (alloc_to s hea (s4.has H)) ?_; clear H; rintro _ w81 ⟨rfl, hH⟩; have s4' := hH.s4 (hl'.trans s4.l4) ka'; have H := hH.H; clear hH)
          refine WL_stepM rfl (R_mv) ?_
          refine WL_step rfl (R_extract rfl rfl) ?_
          refine WL_step rfl (R_extract rfl rfl) ?_
          refine WL_stepM rfl (R_as) ?_
          refine WL_stepM rfl (R_as) ?_
          refine WL_nil ?_
          refine W_seq ?_
          refine W_region_l ?_
          refine WL_stepM rfl (R_mv) ?_
          refine WL_stepM rfl (R_mv) ?_
          refine WL_stepM rfl (R_mv) ?_
          (refine WL_call rfl (R_call rfl Try.call49 rfl) (frame_to s k hfr (s4'.has H).sees) ?_; rintro _ w93 ⟨rfl, H1⟩; replace H := H.seq0 H1; clear H1)
          refine WL_stepM rfl (R_mv) ?_
          refine WL_step rfl (R_extract rfl rfl) ?_
          refine WL_step rfl (R_extract rfl rfl) ?_
          refine WL_stepM rfl (R_as) ?_
          refine WL_stepM rfl (R_as) ?_
          refine WL_nil ?_
          refine W_seq ?_
          refine W_seq ?_
          refine W_region_l ?_
          refine WL_stepM rfl (R_mv) ?_
          refine WL_stepM rfl (R_mv) ?_
          refine WL_step rfl (R_ne_f rfl rfl (by omega)) ?_
          refine WL_stepM rfl (R_mv) ?_
          refine WL_guard_t rfl rfl ?_
          refine WL_stepM rfl (R_mv) ?_
          refine WL_guard_t rfl rfl ?_
          refine WL_step rfl (R_ne_f rfl rfl (by omega)) ?_
          refine WL_stepM rfl (R_pk_f rfl) ?_
          refine WL_stepM rfl (R_mv) ?_
          refine WL_guard_t rfl rfl ?_
          refine WL_stepM rfl (R_mv) ?_
          refine WL_guard_t rfl rfl ?_
          refine WL_step rfl (R_not_t rfl) ?_
          refine WL_stepM rfl (R_pk_f rfl) ?_
          refine WL_stepM rfl (R_mv) ?_
          refine WL_guard_t rfl rfl ?_
          refine WL_stepM rfl (R_mv) ?_
          refine WL_guard_t rfl rfl ?_
          refine WL_step rfl (R_lt_f rfl rfl (by omega)) ?_
          refine WL_stepM rfl (R_pk_f rfl) ?_
          refine WL_stepM rfl (R_mv) ?_
          refine WL_guard_t rfl rfl ?_
          refine WL_stepM rfl (R_mv) ?_
          refine WL_guard_t rfl rfl ?_
          refine WL_step rfl (R_ge_f rfl rfl (by omega)) ?_
          refine WL_stepM rfl (R_pk_f rfl) ?_
          refine WL_stepM rfl (R_mv) ?_
          refine WL_guard_t rfl rfl ?_
          refine WL_stepM rfl (R_mv) ?_
          refine WL_guard_t rfl rfl ?_
          refine WL_stepM rfl (R_mv) ?_
          refine WL_guard_t rfl rfl ?_
          refine WL_step rfl (R_indexAddr Try.underlying69 Try.sizeOf4 rfl rfl (by omega) (by omega) idx0_cast) ?_
          refine WL_guard_t rfl rfl ?_
          refine WL_step rfl (R_load Try.isAgg4 rfl (H.get (.app _ (.app _ (.there (.there .here))))) (show (tab 256 fun i => Value.bool (decide (i < F0 ns s + k)))[F0 ns s + k]? = some (.bool false) by rw [tab_get _ (by omega), decide_eq_false (by omega)])) ?_
          refine WL_stepM rfl (R_pk_f rfl) ?_
          refine WL_nil ?_
          refine W_cond_f rfl ?_
          refine W_skip ?_
          refine W_region_l ?_
          refine WL_stepM rfl (R_mv) ?_
          refine WL_stepM rfl (R_mv) ?_
          refine WL_step rfl (R_indexAddr Try.underlying69 Try.sizeOf4 rfl rfl (by omega) (by omega) idx0_cast) ?_
          (refine WL_effu rfl (E_store (v := (.bool _)) H Try.sizeOf4 rfl rfl rfl (.app _ (.app _ (.there (.there .here)))) (by simp; omega)) ?_; clear H; intro w147 H)
          refine WL_nil ?_
          refine W_region_l ?_
          refine WL_stepM rfl (R_mv) ?_
          refine WL_step rfl (R_add rfl rfl (w_i64 (by omega))) ?_
          refine WL_stepM rfl (R_as) ?_
          refine WL_nil ?_
          exact ⟨(by repeat' first | with_reducible exact Same.refl | refine same_updo rfl ?_ | refine same_mov rfl ?_ | refine same_upd rfl ?_ | refine same_updn ?_ | refine same_know rfl ?_ | exact same_ovr | refine same_in rfl ?_ | exact Same.refl), k + 1, by omega, ins', by omega, rfl, s4', hAp', (by rw [tab_set (g := fun i => Value.bool (decide (i < F0 ns s + (k + 1)))) (by omega) (by simp) (fun i _ hi => by congr 1; simp; omega)] at H; exact H)⟩
        · refine W_exit ?_
          refine (if_pos rfl).mpr ?_
          refine W_seq ?_
          ((obtain rfl : k = nAt ns s := (by omega); have hfull := hAp.full hs3)) <;> refine W_region_l ?_
          refine WL_stepM rfl (R_mv) ?_
          refine WL_stepM rfl (R_mv) ?_
          (refine WL_call rfl (R_call rfl Try.call48 rfl) (alloc_to s hfull (s4.has H)) ?_; clear H; rintro _ w161 ⟨rfl, hH⟩; have H := hH.H; clear hH)
          refine WL_stepM rfl (R_mv) ?_
          refine WL_step rfl (R_extract rfl rfl) ?_
          refine WL_step rfl (R_extract rfl rfl) ?_
          refine WL_stepM rfl (R_as) ?_
          refine WL_stepM rfl (R_as) ?_
          refine WL_nil ?_
          refine W_seq ?_
          refine W_region_l ?_
          refine WL_stepM rfl (R_mv) ?_
          refine WL_step rfl (R_ne_f rfl rfl (by omega)) ?_
          refine WL_nil ?_
          refine W_cond_f rfl ?_
          refine W_skip ?_
          refine W_region_l ?_
          refine WL_stepM rfl (R_mv) ?_
          refine WL_step rfl (R_add rfl rfl (w_i64 (by omega))) ?_
          refine WL_stepM rfl (R_as) ?_
          refine WL_nil ?_
          exact ⟨(by repeat' first | with_reducible exact Same.refl | refine same_updo rfl ?_ | refine same_mov rfl ?_ | refine same_upd rfl ?_ | refine same_updn ?_ | refine same_know rfl ?_ | exact same_ovr | refine same_in rfl ?_ | exact Same.refl), s + 1, by omega, ins, by omega, rfl, s4, hAp.next, (by rw [F0_next hs3]; exact H)⟩
    · refine W_exit ?_
      refine (if_pos rfl).mpr ?_
      refine W_seq ?_
      (obtain rfl : s = 4 := by omega) <;> refine W_region_l ?_
      refine WL_stepM rfl (R_as) ?_
      refine WL_nil ?_
      refine W_seq ?_
      refine W_seq ?_
      refine W_region_l ?_
      refine WL_stepM rfl (R_as) ?_
      refine WL_nil ?_
      refine W_block ?_
      refine W_loopS [(8, 8), (20, 21), (97, 109)] (fun (i : Nat) E w' => i ≤ 256 ∧ E 20 = I (min i (F0 ns 4) : Nat) ∧ E 21 = I i ∧ Hp w (qBlks ins ++ (Mo ++ ((p, blk [uv] 101) :: [(b15, blk [I na, I nb, I nc, I nd] 3), (bs, blk (tab 256 fun i => Value.bool (decide (i < F0 ns 4))) 4)]))) w') (fun i => 256 - i) 0 ?e4 ?r4
      · exact ⟨by omega, congrArg I (by omega), rfl, H⟩
      · (clear H; rintro i E w1 ⟨hi, h1, h2, H⟩; refine W_kn2 h1 h2 ?_)
        refine W_seq ?_
        refine W_seq ?_
        refine W_region_l ?_
        refine WL_stepM rfl (R_mv) ?_
        refine WL_step rfl (R_lt rfl rfl) ?_
        refine WL_nil ?_
        refine W_if rfl (fun h201 => ?_) (fun h201 => ?_)
        · refine W_skip ?_
          refine W_seq ?_
          refine W_block ?_
          refine W_seq ?_
          refine W_region_l ?_
          refine WL_stepM rfl (R_mv) ?_
          refine WL_stepM rfl (R_mv) ?_
          refine WL_step rfl (R_indexAddr Try.underlying69 Try.sizeOf4 rfl rfl (by omega) (by omega) idx0_cast) ?_
          refine WL_step rfl (R_load Try.isAgg4 rfl (H.get (.app _ (.app _ (.there (.there .here))))) (tab_get _ (by omega))) ?_
          refine WL_nil ?_
          refine W_if rfl (fun h212 => ?_) (fun h212 => ?_)
          · refine W_seq ?_
            refine W_seq ?_
            refine W_region_l ?_
            refine WL_stepM rfl (R_mv) ?_
            refine WL_stepM rfl (R_mv) ?_
            refine WL_step rfl (R_ne_f rfl rfl (by omega)) ?_
            refine WL_nil ?_
            refine W_cond_f rfl ?_
            refine W_skip ?_
            refine W_region_l ?_
            refine WL_stepM rfl (R_mv) ?_
            refine WL_step rfl (R_add rfl rfl (w_i64 (by omega))) ?_
            refine WL_stepM rfl (R_as) ?_
            refine WL_nil ?_
            refine W_region_l ?_
            refine WL_stepM rfl (R_mv) ?_
            refine WL_step rfl (R_add rfl rfl (w_i64 (by omega))) ?_
            refine WL_stepM rfl (R_as) ?_
            refine WL_nil ?_
            exact ⟨(by repeat' first | with_reducible exact Same.refl | refine same_updo rfl ?_ | refine same_mov rfl ?_ | refine same_upd rfl ?_ | refine same_updn ?_ | refine same_know rfl ?_ | exact same_ovr | refine same_in rfl ?_ | exact Same.refl), i + 1, by omega, by omega, congrArg I (by omega), rfl, H⟩
          · refine W_skip ?_
            refine W_region_l ?_
            refine WL_stepM rfl (R_mv) ?_
            refine WL_step rfl (R_add rfl rfl (w_i64 (by omega))) ?_
            refine WL_stepM rfl (R_as) ?_
            refine WL_nil ?_
            exact ⟨(by repeat' first | with_reducible exact Same.refl | refine same_updo rfl ?_ | refine same_mov rfl ?_ | refine same_upd rfl ?_ | refine same_updn ?_ | refine same_know rfl ?_ | exact same_ovr | refine same_in rfl ?_ | exact Same.refl), i + 1, by omega, by omega, congrArg I (by omega), rfl, H⟩
        · refine W_exit ?_
          refine (if_pos rfl).mpr ?_
          refine W_seq ?_
          (refine W_drawH (fun _ => false) (by kernel_rfl) H ?_; clear H; intro w243 H)
          refine WA_takeM 0 rfl rfl rfl (by kernel_rfl) (by kernel_rfl) H (fun _ hC => R_mv) ?_
          refine WA_takeM 1 rfl rfl rfl (by kernel_rfl) (by kernel_rfl) H (fun _ hC => R_mv) ?_
          refine WA_take 2 rfl rfl rfl (by kernel_rfl) (by kernel_rfl) H (fun _ hC => R_indexAddr (off' := 0) Try.underlying22 Try.sizeOf3 rfl rfl (by omega) (by omega) rfl) ?_
          refine WA_take 3 rfl rfl rfl (by kernel_rfl) (by kernel_rfl) H (fun _ hC => R_load Try.isAgg3 rfl (hC.get (.app _ (.app _ (.there .here)))) rfl) ?_
          refine WA_takeM 4 rfl rfl rfl (by kernel_rfl) (by kernel_rfl) H (fun _ hC => R_mv) ?_
          refine WA_take 5 rfl rfl rfl (by kernel_rfl) (by kernel_rfl) H (fun _ hC => R_indexAddr (off' := 1) Try.underlying22 Try.sizeOf3 rfl rfl (by omega) (by omega) rfl) ?_
          refine WA_take 6 rfl rfl rfl (by kernel_rfl) (by kernel_rfl) H (fun _ hC => R_load Try.isAgg3 rfl (hC.get (.app _ (.app _ (.there .here)))) rfl) ?_
          refine WA_take 7 rfl rfl rfl (by kernel_rfl) (by kernel_rfl) H (fun _ hC => R_add rfl rfl (w_i64 (by omega))) ?_
          refine WA_takeM 8 rfl rfl rfl (by kernel_rfl) (by kernel_rfl) H (fun _ hC => R_mv) ?_
          refine WA_take 9 rfl rfl rfl (by kernel_rfl) (by kernel_rfl) H (fun _ hC => R_indexAddr (off' := 2) Try.underlying22 Try.sizeOf3 rfl rfl (by omega) (by omega) rfl) ?_
          refine WA_take 10 rfl rfl rfl (by kernel_rfl) (by kernel_rfl) H (fun _ hC => R_load Try.isAgg3 rfl (hC.get (.app _ (.app _ (.there .here)))) rfl) ?_
          refine WA_take 11 rfl rfl rfl (by kernel_rfl) (by kernel_rfl) H (fun _ hC => R_add rfl rfl (w_i64 (by omega))) ?_
          refine WA_takeM 12 rfl rfl rfl (by kernel_rfl) (by kernel_rfl) H (fun _ hC => R_mv) ?_
          refine WA_take 13 rfl rfl rfl (by kernel_rfl) (by kernel_rfl) H (fun _ hC => R_indexAddr (off' := 3) Try.underlying22 Try.sizeOf3 rfl rfl (by omega) (by omega) rfl) ?_
          refine WA_take 14 rfl rfl rfl (by kernel_rfl) (by kernel_rfl) H (fun _ hC => R_load Try.isAgg3 rfl (hC.get (.app _ (.app _ (.there .here)))) rfl) ?_
          refine WA_take 15 rfl rfl rfl (by kernel_rfl) (by kernel_rfl) H (fun _ hC => R_add rfl rfl (w_i64 (by omega))) ?_
          refine WA_take 16 rfl rfl rfl (by kernel_rfl) (by kernel_rfl) H (fun _ hC => R_eq_t rfl rfl (by omega)) ?_
          refine WA_takeM 17 rfl rfl rfl (by kernel_rfl) (by kernel_rfl) H (fun _ hC => R_mv) ?_
          refine WA_one (i := 18) (by kernel_rfl) ?_
          (refine WI_call rfl (.inr ⟨_, _, rfl, rfl⟩) (R_call rfl Try.call50 rfl) (by exact awake_ret _) (by first | exact fun _ _ hR _ => H.seq0 hR.2 | exact fun _ _ hR h => Bool.noConfusion h | exact fun _ _ hR _ => (H.seq0 hR.2).none (by repeat' first | exact kNil | apply kCons | apply kApp | assumption | exact OwnS.keys (by assumption)) | exact fun _ _ hR _ => (H.seq0 hR.2).dropN (by repeat' first | exact kNil | apply kCons | apply kApp | assumption | exact OwnS.keys (by assumption))) ?_; rintro _ w263 ⟨rfl, H1⟩; replace H := H.seq0 H1; clear H1)
          refine WA_takeM 19 rfl rfl rfl (by kernel_rfl) (by kernel_rfl) H (fun _ hC => R_pk_t rfl) ?_
          refine WA_takeM 20 rfl rfl rfl (by kernel_rfl) (by kernel_rfl) H (fun _ hC => R_as) ?_
          refine WA_done (by kernel_rfl) ?_
          refine W_ret ?_
          exact ⟨_, rfl, rfl, H.none (kApp (qBlks_keys s4.key) (kApp s4.hO.keys (kCons hp2 (kCons hb15 (kCons hbs kNil)))))⟩
end
end Go.Proofs.Ytjfcnmbalojehaa.Quota

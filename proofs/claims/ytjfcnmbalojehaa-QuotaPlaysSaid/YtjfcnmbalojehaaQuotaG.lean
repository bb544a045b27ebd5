/-
  The law QuotaAlone.
-/
import Derived.Test.YtjfcnmbalojehaaQuotaF
namespace Go.Proofs.Ytjfcnmbalojehaa.Quota
open Go Go.Proofs Go.Proofs.Ytjfcnmbalojehaa.Fx
set_option maxRecDepth 100000
set_option linter.unusedVariables false
set_option linter.unusedSimpArgs false
set_option maxHeartbeats 1000000

structure QOp where
  kind : Int
  s : Int
  k : Int
def opC (o : QOp) : List Value := [I o.kind, I o.s, I o.k]
theorem opC_len (o : QOp) : (opC o).length = 3 := rfl

theorem rowD_set {ins : List (Nat × List Int)} {s t : Int} {x : Nat × List Int} (hs : 0 ≤ s ∧ s < ins.length) (ht : 0 ≤ t) : rowD (ins.set s.toNat x) t = if t = s then x else rowD ins t := by
  unfold rowD
  rw [List.getD_eq_getElem?_getD, List.getD_eq_getElem?_getD, List.getElem?_set]
  by_cases h : t = s
  · subst h
    rw [if_pos rfl, if_pos (by omega), if_pos rfl]; rfl
  · rw [if_neg (by omega), if_neg h]

theorem rows_eq {ia ib : List (Nat × List Int)} (h : ia.map (·.2) = ib.map (·.2)) (t : Int) : (rowD ia t).2 = (rowD ib t).2 := by
  have h1 : ∀ l : List (Nat × List Int), (rowD l t).2 = (l.map (·.2)).getD t.toNat [] := by
    intro l
    unfold rowD
    rw [List.getD_eq_getElem?_getD, List.getD_eq_getElem?_getD, List.getElem?_map]
    cases l[t.toNat]? <;> rfl
  rw [h1, h1, h]
theorem alloc_same {ia : List (Nat × List Int)} {m v : Int} (hl : ia.length = 3) (hm : 0 ≤ m ∧ m < 3) (hv : 0 ≤ v ∧ v < 3) {ia' : List (Nat × List Int)} {k e : Int} (he : allocQ ia m = (ia', k, e)) :
    ia'.length = 3 ∧ (m ≠ v → (rowD ia' v).2 = (rowD ia v).2) ∧ (m = v → ∀ ib : List (Nat × List Int), ib.length = 3 → (rowD ib v).2 = (rowD ia v).2 → ∃ ib', allocQ ib v = (ib', k, e) ∧ ib'.length = 3 ∧ (rowD ib' v).2 = (rowD ia' v).2) := by
  have hin : 0 ≤ m ∧ m < ia.length := by omega
  unfold allocQ at he
  rw [if_pos hin] at he
  by_cases hz : (0 : Int) ∈ (rowD ia m).2
  · rw [if_pos hz] at he
    obtain ⟨rfl, rfl, rfl⟩ : _ ∧ _ ∧ _ := ⟨congrArg (·.1) he, congrArg (·.2.1) he, congrArg (·.2.2) he⟩
    refine ⟨by simp [setQ, hl], fun hne => ?_, ?_⟩
    · show (rowD (ia.set _ _) v).2 = _
      rw [rowD_set hin hv.1, if_neg (fun e => hne e.symm)]
    · rintro rfl ib hlb hr
      have hib : 0 ≤ m ∧ m < ib.length := by omega
      refine ⟨_, by unfold allocQ; rw [if_pos hib, hr, if_pos hz], by simp [setQ, hlb], ?_⟩
      show (rowD (ib.set _ _) m).2 = (rowD (ia.set _ _) m).2
      rw [rowD_set hin hv.1, rowD_set hib hv.1, if_pos rfl, if_pos rfl, hr]
  · rw [if_neg hz] at he
    obtain ⟨rfl, rfl, rfl⟩ : _ ∧ _ ∧ _ := ⟨congrArg (·.1) he, congrArg (·.2.1) he, congrArg (·.2.2) he⟩
    refine ⟨hl, fun _ => rfl, ?_⟩
    rintro rfl ib hlb hr
    have hib : 0 ≤ m ∧ m < ib.length := by omega
    exact ⟨_, by unfold allocQ; rw [if_pos hib, hr, if_neg hz], hlb, hr⟩
theorem free_same {ia : List (Nat × List Int)} {m v k : Int} (hl : ia.length = 3) (hm : 0 ≤ m ∧ m < 3) (hv : 0 ≤ v ∧ v < 3) {ia' : List (Nat × List Int)} {e : Int} (he : freeQ ia m k = (ia', e)) :
    ia'.length = 3 ∧ (m ≠ v → (rowD ia' v).2 = (rowD ia v).2) ∧ (m = v → ∀ ib : List (Nat × List Int), ib.length = 3 → (rowD ib v).2 = (rowD ia v).2 → ∃ ib', freeQ ib v k = (ib', e) ∧ ib'.length = 3 ∧ (rowD ib' v).2 = (rowD ia' v).2) := by
  have hin : 0 ≤ m ∧ m < ia.length := by omega
  unfold freeQ at he
  rw [if_pos hin] at he
  have hown : ∀ ib : List (Nat × List Int), ib.length = 3 → (rowD ib m).2 = (rowD ia m).2 → (ownP ib m k ↔ ownP ia m k) := by
    intro ib hlb hr
    unfold ownP
    rw [hr, hl, hlb]
  by_cases hz : ownP ia m k
  · rw [if_pos hz] at he
    obtain ⟨rfl, rfl⟩ : _ ∧ _ := ⟨congrArg (·.1) he, congrArg (·.2) he⟩
    refine ⟨by simp [setQ, hl], fun hne => ?_, ?_⟩
    · show (rowD (ia.set _ _) v).2 = _
      rw [rowD_set hin hv.1, if_neg (fun e => hne e.symm)]
    · rintro rfl ib hlb hr
      have hib : 0 ≤ m ∧ m < ib.length := by omega
      refine ⟨_, by unfold freeQ; rw [if_pos hib, if_pos ((hown ib hlb hr).2 hz)], by simp [setQ, hlb], ?_⟩
      show (rowD (ib.set _ _) m).2 = (rowD (ia.set _ _) m).2
      rw [rowD_set hin hv.1, rowD_set hib hv.1, if_pos rfl, if_pos rfl, hr]
  · rw [if_neg hz] at he
    obtain ⟨rfl, rfl⟩ : _ ∧ _ := ⟨congrArg (·.1) he, congrArg (·.2) he⟩
    refine ⟨hl, fun _ => rfl, ?_⟩
    rintro rfl ib hlb hr
    have hib : 0 ≤ m ∧ m < ib.length := by omega
    exact ⟨_, by unfold freeQ; rw [if_pos hib, if_neg (fun h => hz ((hown ib hlb hr).1 h))], hlb, hr⟩
theorem set_key {B : Nat} {ins : List (Nat × List Int)} {s k v : Int} (h : ∀ x ∈ ins, B ≤ x.1) (hs : 0 ≤ s ∧ s < ins.length) : ∀ x ∈ setQ ins s k v, B ≤ x.1 := by
  intro x hx
  unfold setQ at hx
  rcases List.mem_or_eq_of_mem_set hx with h1 | rfl
  · exact h x h1
  · have h2 := h _ (rowD_mem hs)
    exact h2
theorem alloc_key {B : Nat} {ins ins' : List (Nat × List Int)} {s k e : Int} (h : ∀ x ∈ ins, B ≤ x.1) (he : allocQ ins s = (ins', k, e)) : ∀ x ∈ ins', B ≤ x.1 := by
  unfold allocQ at he
  split at he
  · rename_i hs
    split at he <;> cases he
    · exact set_key h hs
    · exact h
  · cases he; exact h
theorem free_key {B : Nat} {ins ins' : List (Nat × List Int)} {s k e : Int} (h : ∀ x ∈ ins, B ≤ x.1) (he : freeQ ins s k = (ins', e)) : ∀ x ∈ ins', B ≤ x.1 := by
  unfold freeQ at he
  split at he
  · rename_i hs
    split at he <;> cases he
    · exact set_key h hs
    · exact h
  · cases he; exact h

/-- what stays of a Quota of three -/
structure St (B : Nat) (uv : Value) (ins : List (Nat × List Int)) (Mo : List (Nat × Obj)) : Prop where
  hO : OwnQ B 22 uv (qVals ins) Mo
  l3 : ins.length = 3
  small : ∀ x ∈ ins, x.2.length ≤ 64
  bits : ∀ x ∈ ins, ∀ y ∈ x.2, y = 0 ∨ y = 1
  key : ∀ x ∈ ins, B ≤ x.1

section
variable {w0 w : World} {pa pb p : Nat} {ua ub uv : Value} {ia ib ins : List (Nat × List Int)} {Ma Mb Mo R : List (Nat × Obj)}
theorem free_to {ins' : List (Nat × List Int)} {e : Int} (s k : Int) (he : freeQ ins s k = (ins', e)) (hH : Has w0 w p uv ins Mo R) :
    Ret Try.prog 53 #[ptr p 0, I s, I k] w fun v w' => v = I e ∧ Has w0 w' p uv ins' Mo R := by
  have h := free_ret s k hH
  rw [he] at h
  exact h
theorem St.has (h : St w0.heap.size uv ins Mo) (H : Hp w0 (qBlks ins ++ (Mo ++ ((p, blk [uv] 101) :: R))) w) : Has w0 w p uv ins Mo R := ⟨h.hO, H, by rw [h.l3]; omega, h.small, h.bits⟩
theorem Has.st (h : Has w0 w p uv ins Mo R) (hl : ins.length = 3) (hk : ∀ x ∈ ins, w0.heap.size ≤ x.1) : St w0.heap.size uv ins Mo := ⟨h.hO, hl, h.small, h.bits, hk⟩
/-- the other one ahead -/
theorem turn {A B C D X : List (Nat × Obj)} {a b : Nat × Obj} (H : Hp w0 (A ++ (B ++ (a :: (C ++ (D ++ (b :: X)))))) w) : Hp w0 (C ++ (D ++ (b :: (A ++ (B ++ (a :: X)))))) w := by
  refine H.perm ?_
  have h1 : (A ++ (B ++ (a :: (C ++ (D ++ (b :: X)))))) = (A ++ (B ++ [a])) ++ ((C ++ (D ++ [b])) ++ X) := by simp
  have h2 : (C ++ (D ++ (b :: (A ++ (B ++ (a :: X)))))) = (C ++ (D ++ [b])) ++ ((A ++ (B ++ [a])) ++ X) := by simp
  rw [h1, h2]
  exact List.perm_append_comm_assoc _ _ _
theorem to_end {A B C D : List (Nat × Obj)} {a b x : Nat × Obj} (H : Hp w0 (x :: (A ++ (B ++ (a :: (C ++ (D ++ [b])))))) w) : Hp w0 (A ++ (B ++ (a :: (C ++ (D ++ (b :: [x])))))) w := by
  refine H.perm ?_
  have h1 : (A ++ (B ++ (a :: (C ++ (D ++ (b :: [x])))))) = (A ++ (B ++ (a :: (C ++ (D ++ [b]))))) ++ [x] := by simp
  rw [h1]
  exact (List.perm_append_singleton x _).symm
theorem of_end {A B C D : List (Nat × Obj)} {a b x : Nat × Obj} (H : Hp w0 (A ++ (B ++ (a :: (C ++ (D ++ (b :: [x])))))) w) (hx : w0.heap.size ≤ x.1) : Hp w0 (A ++ (B ++ (a :: (C ++ (D ++ [b]))))) w := by
  have h1 : (A ++ (B ++ (a :: (C ++ (D ++ (b :: [x])))))) = (A ++ (B ++ (a :: (C ++ (D ++ [b]))))) ++ [x] := by simp
  rw [h1] at H
  exact H.cut (kCons hx kNil)
theorem two_new {A B C D : List (Nat × Obj)} {a b x : Nat × Obj} (H : Hp w0 ((C ++ (D ++ [b])) ++ (x :: (A ++ (B ++ [a])))) w) (hx : w0.heap.size ≤ x.1) : Hp w0 (A ++ (B ++ (a :: (C ++ (D ++ [b]))))) w := by
  have h := H.perm (List.perm_append_comm)
  have h1 : (x :: (A ++ (B ++ [a]))) ++ (C ++ (D ++ [b])) = x :: (A ++ (B ++ (a :: (C ++ (D ++ [b]))))) := by simp
  rw [h1] at h
  exact h.pop hx

theorem alone_ret {xs : List QOp} {l : Value} (c : Int) (hl : RdR opC w l xs) (hb : xs.length ≤ 9223372036854775807) :
    Ret Try.prog 13 #[l, I c] w fun v w' => v = .bool true ∧ Hp w [] w' := by
  refine Ret_of_W (args := [_, _]) Try.func13 rfl Try.ntmps13 Try.results13 (by simp) ?_
  have H := Hp.refl w
  obtain ⟨ao, ca, rfl⟩ := hl.form
  obtain ⟨v, hv, hv0⟩ : ∃ v : Int, c % 256 % 3 = v ∧ (0 ≤ v ∧ v < 3) := ⟨_, rfl, by omega⟩
  refine W_seq ?_
  refine W_region_l ?_
  refine WL_stepM rfl (R_as) ?_
  refine WL_nil ?_
  refine W_seq ?_
  refine W_region_l ?_
  refine WL_stepM rfl (R_mv) ?_
  refine WL_step rfl (R_bits rfl rfl (by simp) (and_mask_i64 8 256 (by decide) rfl (by decide))) ?_
  refine WL_step rfl (R_rem rfl rfl (by omega) (rem_pos (by omega))) ?_
  refine WL_stepM rfl (R_as) ?_
  refine WL_nil ?_
  refine W_seq ?_
  (rw [hv]) <;> refine W_region_l ?_
  (refine WL_effn rfl (E_buildOnes (vs := [(.int _ _), (.int _ _), (.int _ _)]) H Try.underlying22 Try.sizeOf3 Try.zeroValue3 rfl rfl (by decide) rfl rfl (by simp [Value.oneCell'])) ?_; clear H; intro b14 w14 hb14 H)
  (refine WL_call rfl (R_call rfl Try.call47 rfl) (new_ret (xs := [4, 5, 3]) (RdS.blk (c := [I 4, I 5, I 3]) (off := 0) (H.get .here) rfl (by decide) (Nat.le_refl _)) (by decide) (by decide)) ?_; rintro _ w15 ⟨pa, ua, ia, Ma, rfl, hrowa, hHa, hka, hpa⟩; have hsz := H.size; have sa : St w.heap.size ua ia Ma := ⟨hHa.hO.mono hsz, (by have := congrArg List.length hrowa; simpa using this), hHa.small, hHa.bits, fun x hx => Nat.le_trans hsz (hka x hx)⟩; have hpa2 := Nat.le_trans hsz hpa; replace H := (H.seqN hHa.H (kApp (qBlks_keys hka) (kApp hHa.hO.keys (kCons hpa kNil)))).cut (by repeat' first | exact kNil | apply kCons | apply kApp | assumption | exact OwnS.keys (by assumption)); clear hHa hka hpa hsz)
  (refine WL_effn rfl (E_buildOnes (vs := [(.int _ _), (.int _ _), (.int _ _)]) H Try.underlying22 Try.sizeOf3 Try.zeroValue3 rfl rfl (by decide) rfl rfl (by simp [Value.oneCell'])) ?_; clear H; intro b16 w16 hb16 H)
  (refine WL_call rfl (R_call rfl Try.call47 rfl) (new_ret (xs := [4, 5, 3]) (RdS.blk (c := [I 4, I 5, I 3]) (off := 0) (H.get .here) rfl (by decide) (Nat.le_refl _)) (by decide) (by decide)) ?_; rintro _ w17 ⟨pb, ub, ib, Mb, rfl, hrowb, hHb, hkb, hpb⟩; have hsz := H.size; have sb : St w.heap.size ub ib Mb := ⟨hHb.hO.mono hsz, (by have := congrArg List.length hrowb; simpa using this), hHb.small, hHb.bits, fun x hx => Nat.le_trans hsz (hkb x hx)⟩; have hpb2 := Nat.le_trans hsz hpb; replace H := two_new (H.seqN hHb.H (kApp (qBlks_keys hkb) (kApp hHb.hO.keys (kCons hpb kNil)))) (by assumption); clear hHb hkb hpb hsz; have hrow : (rowD ia v).2 = (rowD ib v).2 := rows_eq (hrowa.trans hrowb.symm) v)
  refine WL_stepM rfl (R_as) ?_
  refine WL_stepM rfl (R_as) ?_
  refine WL_nil ?_
  refine W_seq ?_
  refine W_seq ?_
  refine W_region_l ?_
  refine WL_stepM rfl (R_mv) ?_
  refine WL_step rfl (R_eq_ptr_nil Try.underlying67 rfl rfl) ?_
  refine WL_stepM rfl (R_mv) ?_
  refine WL_guard_t rfl rfl ?_
  refine WL_stepM rfl (R_mv) ?_
  refine WL_guard_t rfl rfl ?_
  refine WL_step rfl (R_eq_ptr_nil Try.underlying67 rfl rfl) ?_
  refine WL_stepM rfl (R_pk_f rfl) ?_
  refine WL_nil ?_
  refine W_cond_f rfl ?_
  refine W_skip ?_
  refine W_seq ?_
  refine W_seq ?_
  refine W_region_l ?_
  refine WL_stepM rfl (R_as) ?_
  refine WL_nil ?_
  refine W_block ?_
  refine W_loopS [(4, 4), (7, 13), (27, 93)] (fun (k : Nat) E w' => ∃ ia ib, k ≤ xs.length ∧ k ≤ 100 ∧ E 7 = I k ∧ St w.heap.size ua ia Ma ∧ St w.heap.size ub ib Mb ∧ (rowD ia v).2 = (rowD ib v).2 ∧ Hp w (qBlks ia ++ (Ma ++ ((pa, blk [ua] 101) :: (qBlks ib ++ (Mb ++ [(pb, blk [ub] 101)]))))) w') (fun k => 100 - k) 0 ?e0 ?r0
  · exact ⟨ia, ib, by omega, by omega, rfl, sa, sb, hrow, H⟩
  · (clear H sa sb hrow hrowa hrowb; clear ia ib; rintro k E w1 ⟨ia, ib, hk, hk2, h0, sa, sb, hrow, H⟩; refine W_kn h0 ?_)
    refine W_seq ?_
    refine W_seq ?_
    refine W_region_l ?_
    refine WL_stepM rfl (R_mv) ?_
    refine WL_stepM rfl (R_mv) ?_
    refine WL_step rfl (R_len_slice Try.underlying75 rfl) ?_
    refine WL_step rfl (R_lt rfl rfl) ?_
    refine WL_stepM rfl (R_mv) ?_
    apply WL_andK 3 31 34 [(32, 34)] H
    case hc => rfl
    case h1 =>
      intro h51
      refine WL_guard_t rfl rfl ?_
      refine WL_stepM rfl (R_mv) ?_
      refine WL_guard_t rfl rfl ?_
      refine WL_step rfl (R_lt rfl rfl) ?_
      refine WL_stepM rfl (R_pk_t rfl) ?_
      refine WL_nil ?_
      exact ⟨(by repeat' first | with_reducible exact Same.refl | refine same_updo rfl ?_ | refine same_mov rfl ?_ | refine same_upd rfl ?_ | refine same_updn ?_ | refine same_know rfl ?_ | exact same_ovr | refine same_in rfl ?_ | exact Same.refl), rfl, H⟩
    case h0 =>
      intro h51
      refine WL_guard_f rfl rfl (by decide) ?_
      refine WL_guard_f rfl rfl (by decide) ?_
      refine WL_stepM rfl (R_pk_f rfl) ?_
      refine WL_nil ?_
      exact ⟨(by repeat' first | with_reducible exact Same.refl | refine same_updo rfl ?_ | refine same_mov rfl ?_ | refine same_upd rfl ?_ | refine same_updn ?_ | refine same_know rfl ?_ | exact same_ovr | refine same_in rfl ?_ | exact Same.refl), rfl, H⟩
    case h2 =>
      (clear H; intro E51 w51 H)
      refine WL_nil ?_
      refine W_if rfl (fun h65 => ?_) (fun h65 => ?_)
      · refine W_skip ?_
        refine W_seq ?_
        refine W_block ?_
        refine W_seq ?_
        (obtain ⟨⟨oa, ob, oc⟩, ho⟩ : ∃ o, xs[k]? = some o := ⟨_, List.getElem?_eq_getElem (by omega)⟩; obtain ⟨b1, o1, rfl, hc⟩ := hl.cell opC_len ho) <;> refine W_region_l ?_
        refine WL_stepM rfl (R_mv) ?_
        refine WL_stepM rfl (R_mv) ?_
        refine WL_step rfl (R_indexAddr Try.underlying75 Try.sizeOf79 rfl rfl (by omega) (by omega) idx_castn) ?_
        refine WL_step rfl (R_loadA_cell (vs := [I oa, I ob, I oc]) Try.isAgg79 Try.sizeOf79 rfl (fun j v hj => H.cellN (hc j v hj) (kApp (qBlks_keys sa.key) (kApp sa.hO.keys (kCons hpa2 (kApp (qBlks_keys sb.key) (kApp sb.hO.keys (kCons hpb2 kNil))))))) rfl) ?_
        (refine WL_effn rfl (E_alloc H Try.zeroValue79 rfl) ?_; clear H; intro bo w75 hbo H)
        (refine WL_effu rfl (E_storeA (vs := [(.int _ _), (.int _ _), (.int _ _)]) H Try.sizeOf79 rfl rfl (by simp [Value.oneCell']) .here (by simp)) ?_; clear H; intro w76 H)
        refine WL_nil ?_
        refine W_seq ?_
        refine W_region_l ?_
        refine WL_step rfl (R_fieldAddr (off' := 1) Try.underlying79 rfl Try.sizeOf3 (by decide) rfl rfl) ?_
        refine WL_step rfl (R_load Try.isAgg3 rfl (H.get .here) rfl) ?_
        refine WL_step rfl (R_bits rfl rfl (by simp) (and_mask_i64 8 256 (by decide) rfl (by decide))) ?_
        refine WL_step rfl (R_rem rfl rfl (by omega) (rem_pos (by omega))) ?_
        refine WL_step rfl (R_fieldAddr (off' := 2) Try.underlying79 rfl Try.sizeOf3 (by decide) rfl rfl) ?_
        refine WL_step rfl (R_load Try.isAgg3 rfl (H.get .here) rfl) ?_
        refine WL_step rfl (R_bits rfl rfl (by simp) (and_mask_i64 3 8 (by decide) rfl (by decide))) ?_
        refine WL_step rfl (R_fieldAddr (off' := 1) Try.underlying79 rfl Try.sizeOf3 (by decide) rfl rfl) ?_
        (refine WL_effu rfl (E_store (v := (.int _ _)) H Try.sizeOf3 rfl rfl rfl .here (by simp)) ?_; clear H; intro w88 H)
        refine WL_step rfl (R_fieldAddr (off' := 2) Try.underlying79 rfl Try.sizeOf3 (by decide) rfl rfl) ?_
        (refine WL_effu rfl (E_store (v := (.int _ _)) H Try.sizeOf3 rfl rfl rfl .here (by simp)) ?_; clear H; intro w90 H)
        refine WL_nil ?_
        refine W_seq ?_
        ((obtain ⟨m, hm, hm3⟩ : ∃ m : Int, ob % 256 % 3 = m ∧ (0 ≤ m ∧ m < 3) := ⟨_, rfl, by omega⟩; rw [hm] at H ⊢; replace H := to_end H)) <;> refine W_region_l ?_
        refine WL_stepM rfl (R_as) ?_
        refine WL_stepM rfl (R_as) ?_
        refine WL_stepM rfl (R_as) ?_
        refine WL_nil ?_
        refine W_seq ?_
        refine W_seq ?_
        refine W_region_l ?_
        refine WL_step rfl (R_fieldAddr (off' := 0) Try.underlying79 rfl Try.sizeOf3 (by decide) rfl rfl) ?_
        refine WL_step rfl (R_load Try.isAgg3 rfl (H.get (.app _ (.app _ (.there (.app _ (.app _ (.there .here))))))) rfl) ?_
        refine WL_step rfl (R_eq rfl rfl) ?_
        refine WL_nil ?_
        refine W_if rfl (fun h105 => ?_) (fun h105 => ?_)
        · ((obtain ⟨⟨ia', k1, e1⟩, hea⟩ : ∃ x, allocQ ia m = x := ⟨_, rfl⟩; obtain ⟨la', hne, heq⟩ := alloc_same sa.l3 hm3 hv0 hea; have ka' := alloc_key sa.key hea)) <;> refine W_region_l ?_
          refine WL_stepM rfl (R_mv) ?_
          refine WL_step rfl (R_fieldAddr (off' := 1) Try.underlying79 rfl Try.sizeOf3 (by decide) rfl rfl) ?_
          refine WL_step rfl (R_load Try.isAgg3 rfl (H.get (.app _ (.app _ (.there (.app _ (.app _ (.there .here))))))) rfl) ?_
          (refine WL_call rfl (R_call rfl Try.call48 rfl) (alloc_to m hea (sa.has H)) ?_; clear H; rintro _ w110 ⟨rfl, hH⟩; have sa' := hH.st la' ka'; have H := hH.H; clear hH)
          refine WL_stepM rfl (R_mv) ?_
          refine WL_step rfl (R_extract rfl rfl) ?_
          refine WL_step rfl (R_extract rfl rfl) ?_
          refine WL_stepM rfl (R_as) ?_
          refine WL_stepM rfl (R_as) ?_
          refine WL_nil ?_
          refine W_seq ?_
          refine W_seq ?_
          refine W_region_l ?_
          refine WL_step rfl (R_fieldAddr (off' := 1) Try.underlying79 rfl Try.sizeOf3 (by decide) rfl rfl) ?_
          refine WL_step rfl (R_load Try.isAgg3 rfl (H.get (.app _ (.app _ (.there (.app _ (.app _ (.there .here))))))) rfl) ?_
          refine WL_stepM rfl (R_mv) ?_
          refine WL_step rfl (R_ne rfl rfl) ?_
          refine WL_nil ?_
          refine W_if rfl (fun h125 => ?_) (fun h125 => ?_)
          · refine W_exit ?_
            refine (if_pos rfl).mpr ?_
            refine W_region_l ?_
            refine WL_stepM rfl (R_mv) ?_
            refine WL_step rfl (R_add rfl rfl (w_i64 (by omega))) ?_
            refine WL_stepM rfl (R_as) ?_
            refine WL_nil ?_
            exact ⟨(by repeat' first | with_reducible exact Same.refl | refine same_updo rfl ?_ | refine same_mov rfl ?_ | refine same_upd rfl ?_ | refine same_updn ?_ | refine same_know rfl ?_ | exact same_ovr | refine same_in rfl ?_ | exact Same.refl), k + 1, by omega, ia', ib, by omega, by omega, rfl, sa', sb, (hne (by omega)).trans hrow, of_end H hbo⟩
          · refine W_skip ?_
            refine W_seq ?_
            refine W_region_l ?_
            refine WL_step rfl (R_fieldAddr (off' := 0) Try.underlying79 rfl Try.sizeOf3 (by decide) rfl rfl) ?_
            refine WL_step rfl (R_load Try.isAgg3 rfl (H.get (.app _ (.app _ (.there (.app _ (.app _ (.there .here))))))) rfl) ?_
            refine WL_step rfl (R_eq_t rfl rfl (by omega)) ?_
            refine WL_nil ?_
            refine W_cond_t rfl ?_
            refine W_seq ?_
            ((have hmv : m = v := (by omega); obtain ⟨ib', heb, lb', hr'⟩ := heq hmv ib sb.l3 hrow.symm; have kb' := alloc_key sb.key heb)) <;> refine W_region_l ?_
            refine WL_stepM rfl (R_mv) ?_
            refine WL_stepM rfl (R_mv) ?_
            (refine WL_call rfl (R_call rfl Try.call48 rfl) (alloc_to v heb (sb.has (turn H))) ?_; clear H; rintro _ w146 ⟨rfl, hH⟩; have sb' := hH.st lb' kb'; have H := turn hH.H; clear hH)
            refine WL_stepM rfl (R_mv) ?_
            refine WL_step rfl (R_extract rfl rfl) ?_
            refine WL_step rfl (R_extract rfl rfl) ?_
            refine WL_stepM rfl (R_as) ?_
            refine WL_stepM rfl (R_as) ?_
            refine WL_nil ?_
            refine W_seq ?_
            refine W_region_l ?_
            refine WL_stepM rfl (R_mv) ?_
            refine WL_stepM rfl (R_mv) ?_
            refine WL_step rfl (R_ne_f rfl rfl (by omega)) ?_
            refine WL_stepM rfl (R_mv) ?_
            refine WL_guard_t rfl rfl ?_
            refine WL_stepM rfl (R_mv) ?_
            refine WL_guard_t rfl rfl ?_
            refine WL_stepM rfl (R_mv) ?_
            refine WL_guard_t rfl rfl ?_
            refine WL_step rfl (R_ne_f rfl rfl (by omega)) ?_
            refine WL_stepM rfl (R_pk_f rfl) ?_
            refine WL_nil ?_
            refine W_cond_f rfl ?_
            refine W_skip ?_
            refine W_region_l ?_
            refine WL_stepM rfl (R_mv) ?_
            refine WL_step rfl (R_add rfl rfl (w_i64 (by omega))) ?_
            refine WL_stepM rfl (R_as) ?_
            refine WL_nil ?_
            exact ⟨(by repeat' first | with_reducible exact Same.refl | refine same_updo rfl ?_ | refine same_mov rfl ?_ | refine same_upd rfl ?_ | refine same_updn ?_ | refine same_know rfl ?_ | exact same_ovr | refine same_in rfl ?_ | exact Same.refl), k + 1, by omega, ia', ib', by omega, by omega, rfl, sa', sb', hr'.symm, of_end H hbo⟩
        · ((obtain ⟨⟨ia', e1⟩, hea⟩ : ∃ x, freeQ ia m (oc % 8) = x := ⟨_, rfl⟩; obtain ⟨la', hne, heq⟩ := free_same sa.l3 hm3 hv0 hea; have ka' := free_key sa.key hea)) <;> refine W_region_l ?_
          refine WL_stepM rfl (R_mv) ?_
          refine WL_step rfl (R_fieldAddr (off' := 1) Try.underlying79 rfl Try.sizeOf3 (by decide) rfl rfl) ?_
          refine WL_step rfl (R_load Try.isAgg3 rfl (H.get (.app _ (.app _ (.there (.app _ (.app _ (.there .here))))))) rfl) ?_
          refine WL_step rfl (R_fieldAddr (off' := 2) Try.underlying79 rfl Try.sizeOf3 (by decide) rfl rfl) ?_
          refine WL_step rfl (R_load Try.isAgg3 rfl (H.get (.app _ (.app _ (.there (.app _ (.app _ (.there .here))))))) rfl) ?_
          (refine WL_call rfl (R_call rfl Try.call53 rfl) (free_to m (oc % 8) hea (sa.has H)) ?_; clear H; rintro _ w181 ⟨rfl, hH⟩; have sa' := hH.st la' ka'; have H := hH.H; clear hH)
          refine WL_stepM rfl (R_as) ?_
          refine WL_nil ?_
          refine W_seq ?_
          refine W_seq ?_
          refine W_region_l ?_
          refine WL_step rfl (R_fieldAddr (off' := 1) Try.underlying79 rfl Try.sizeOf3 (by decide) rfl rfl) ?_
          refine WL_step rfl (R_load Try.isAgg3 rfl (H.get (.app _ (.app _ (.there (.app _ (.app _ (.there .here))))))) rfl) ?_
          refine WL_stepM rfl (R_mv) ?_
          refine WL_step rfl (R_ne rfl rfl) ?_
          refine WL_nil ?_
          refine W_if rfl (fun h192 => ?_) (fun h192 => ?_)
          · refine W_exit ?_
            refine (if_pos rfl).mpr ?_
            refine W_region_l ?_
            refine WL_stepM rfl (R_mv) ?_
            refine WL_step rfl (R_add rfl rfl (w_i64 (by omega))) ?_
            refine WL_stepM rfl (R_as) ?_
            refine WL_nil ?_
            exact ⟨(by repeat' first | with_reducible exact Same.refl | refine same_updo rfl ?_ | refine same_mov rfl ?_ | refine same_upd rfl ?_ | refine same_updn ?_ | refine same_know rfl ?_ | exact same_ovr | refine same_in rfl ?_ | exact Same.refl), k + 1, by omega, ia', ib, by omega, by omega, rfl, sa', sb, (hne (by omega)).trans hrow, of_end H hbo⟩
          · refine W_skip ?_
            refine W_seq ?_
            refine W_region_l ?_
            refine WL_step rfl (R_fieldAddr (off' := 0) Try.underlying79 rfl Try.sizeOf3 (by decide) rfl rfl) ?_
            refine WL_step rfl (R_load Try.isAgg3 rfl (H.get (.app _ (.app _ (.there (.app _ (.app _ (.there .here))))))) rfl) ?_
            refine WL_step rfl (R_eq_f rfl rfl (by omega)) ?_
            refine WL_nil ?_
            refine W_cond_f rfl ?_
            refine W_seq ?_
            ((have hmv : m = v := (by omega); obtain ⟨ib', heb, lb', hr'⟩ := heq hmv ib sb.l3 hrow.symm; have kb' := free_key sb.key heb)) <;> refine W_region_l ?_
            refine WL_stepM rfl (R_mv) ?_
            refine WL_stepM rfl (R_mv) ?_
            refine WL_step rfl (R_fieldAddr (off' := 2) Try.underlying79 rfl Try.sizeOf3 (by decide) rfl rfl) ?_
            refine WL_step rfl (R_load Try.isAgg3 rfl (H.get (.app _ (.app _ (.there (.app _ (.app _ (.there .here))))))) rfl) ?_
            (refine WL_call rfl (R_call rfl Try.call53 rfl) (free_to v (oc % 8) heb (sb.has (turn H))) ?_; clear H; rintro _ w215 ⟨rfl, hH⟩; have sb' := hH.st lb' kb'; have H := turn hH.H; clear hH)
            refine WL_stepM rfl (R_mv) ?_
            refine WL_step rfl (R_ne_f rfl rfl (by omega)) ?_
            refine WL_nil ?_
            refine W_cond_f rfl ?_
            refine W_skip ?_
            refine W_region_l ?_
            refine WL_stepM rfl (R_mv) ?_
            refine WL_step rfl (R_add rfl rfl (w_i64 (by omega))) ?_
            refine WL_stepM rfl (R_as) ?_
            refine WL_nil ?_
            exact ⟨(by repeat' first | with_reducible exact Same.refl | refine same_updo rfl ?_ | refine same_mov rfl ?_ | refine same_upd rfl ?_ | refine same_updn ?_ | refine same_know rfl ?_ | exact same_ovr | refine same_in rfl ?_ | exact Same.refl), k + 1, by omega, ia', ib', by omega, by omega, rfl, sa', sb', hr'.symm, of_end H hbo⟩
      · refine W_exit ?_
        refine (if_pos rfl).mpr ?_
        refine W_seq ?_
        ((have hu : usedQ ia v = usedQ ib v := by unfold usedQ; rw [if_pos (by rw [sa.l3]; exact hv0), if_pos (by rw [sb.l3]; exact hv0), hrow])) <;> refine W_region_l ?_
        refine WL_stepM rfl (R_mv) ?_
        refine WL_stepM rfl (R_mv) ?_
        (refine WL_call rfl (R_call rfl Try.call58 rfl) (used_to v hu (sa.has H).sees) ?_; rintro _ w233 ⟨rfl, H1⟩; replace H := H.seq0 H1; clear H1)
        refine WL_stepM rfl (R_mv) ?_
        refine WL_stepM rfl (R_mv) ?_
        (refine WL_call rfl (R_call rfl Try.call58 rfl) (used_ret v (sb.has (turn H)).sees) ?_; rintro _ w236 ⟨rfl, H1⟩; replace H := H.seq0 H1; clear H1)
        refine WL_step rfl (R_eq_t rfl rfl (by omega)) ?_
        refine WL_stepM rfl (R_mv) ?_
        refine WL_guard_t rfl rfl ?_
        (refine WL_call rfl (R_call rfl Try.call50 rfl) (awake_ret _) ?_; rintro _ w240 ⟨rfl, H1⟩; replace H := H.seq0 H1; clear H1)
        refine WL_stepM rfl (R_pk_t rfl) ?_
        refine WL_stepM rfl (R_as) ?_
        refine WL_nil ?_
        refine W_ret ?_
        exact ⟨_, rfl, rfl, H.none (kApp (qBlks_keys sa.key) (kApp sa.hO.keys (kCons hpa2 (kApp (qBlks_keys sb.key) (kApp sb.hO.keys (kCons hpb2 kNil))))))⟩
end
end Go.Proofs.Ytjfcnmbalojehaa.Quota

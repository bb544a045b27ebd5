/-
  Spaces of caps: their blocks; one is made.
-/
import Derived.Test.YthonajikgljgmaaTabC
namespace Go.Proofs.Ythonajikgljgmaa.Caps
open Go Go.Proofs Go.Proofs.Ythonajikgljgmaa.Fx Go.Proofs.Ythonajikgljgmaa.TabC
set_option maxRecDepth 100000
set_option linter.unusedVariables false
set_option linter.unusedSimpArgs false
set_option maxHeartbeats 4000000

/-- a table's blocks -/
def tbB : List (Nat × Nat) → List (List Pl) → List (Nat × Obj)
  | q :: PB, t :: ts => (q.1, blk [sl q.2 0 32 32] 135) :: (q.2, blk (rows plc t) 137) :: tbB PB ts
  | _, _ => []
def ptrs (PB : List (Nat × Nat)) : List Value := PB.map fun q => ptr q.1 0
def spB (s bs cap : Nat) (sp : List Value) (PB : List (Nat × Nat)) (ts : List (List Pl)) : List (Nat × Obj) :=
  (s, blk [sl bs 0 PB.length cap] 90) :: (bs, blk (ptrs PB ++ sp) 91) :: tbB PB ts
/-- what holds of the tables -/
structure Inv (PB : List (Nat × Nat)) (ts : List (List Pl)) : Prop where
  len : ts.length = PB.length
  sz : ∀ t ∈ ts, t.length = 32
  gn : ∀ t ∈ ts, ∀ a ∈ t, a.g ≤ 1000001
/-- a space lies in the world -/
structure Sp (w : World) (s : Nat) (PB : List (Nat × Nat)) (ts : List (List Pl)) : Prop where
  ex : ∃ bs cap sp, w.heap[s]? = some (blk [sl bs 0 PB.length cap] 90) ∧ w.heap[bs]? = some (blk (ptrs PB ++ sp) 91)
  tp : ∀ (j : Nat) (q : Nat × Nat), PB[j]? = some q → w.heap[q.1]? = some (blk [sl q.2 0 32 32] 135)
  tb : ∀ (j : Nat) (q : Nat × Nat) (t : List Pl), PB[j]? = some q → ts[j]? = some t → w.heap[q.2]? = some (blk (rows plc t) 137)
  inv : Inv PB ts
theorem Sp.monoN {w w' : World} {s : Nat} {PB : List (Nat × Nat)} {ts : List (List Pl)} {L : List (Nat × Obj)} (h : Sp w s PB ts) (H : Hp w L w') (hn : ∀ p ∈ L, w.heap.size ≤ p.1) : Sp w' s PB ts := by
  obtain ⟨bs, cap, sp, h1, h2⟩ := h.ex
  exact ⟨⟨bs, cap, sp, H.blockN h1 hn, H.blockN h2 hn⟩, fun j q hq => H.blockN (h.tp j q hq) hn, fun j q t hq ht => H.blockN (h.tb j q t hq ht) hn, h.inv⟩
theorem tbB_mem : ∀ {PB : List (Nat × Nat)} {ts : List (List Pl)} {j : Nat} {q : Nat × Nat} {t : List Pl}, PB[j]? = some q → ts[j]? = some t →
    (q.1, blk [sl q.2 0 32 32] 135) ∈ tbB PB ts ∧ (q.2, blk (rows plc t) 137) ∈ tbB PB ts
  | q0 :: PB, t0 :: ts, 0, q, t, hq, ht => by
    cases hq; cases ht
    exact ⟨.head _, .tail _ (.head _)⟩
  | q0 :: PB, t0 :: ts, j + 1, q, t, hq, ht => by
    have := tbB_mem (PB := PB) (ts := ts) (j := j) (by simpa using hq) (by simpa using ht)
    exact ⟨.tail _ (.tail _ this.1), .tail _ (.tail _ this.2)⟩
  | [], _, _, _, _, hq, _ => by simp at hq
  | _ :: _, [], _, _, _, _, ht => by simp at ht
theorem Sp.of {w : World} {s bs cap : Nat} {sp : List Value} {PB : List (Nat × Nat)} {ts : List (List Pl)} (hh : ∀ p ∈ spB s bs cap sp PB ts, w.heap[p.1]? = some p.2) (hI : Inv PB ts) : Sp w s PB ts := by
  refine ⟨⟨bs, cap, sp, hh _ (.head _), hh _ (.tail _ (.head _))⟩, fun j q hq => ?_, fun j q t hq ht => hh _ (.tail _ (.tail _ (tbB_mem hq ht).2)), hI⟩
  have hj := (List.getElem?_eq_some_iff.1 hq).1
  rw [← hI.len] at hj
  exact hh _ (.tail _ (.tail _ (tbB_mem hq (List.getElem?_eq_getElem hj)).1))
theorem tbB_at : ∀ {PB : List (Nat × Nat)} {ts : List (List Pl)} {j : Nat} {q : Nat × Nat} {t : List Pl}, PB[j]? = some q → ts[j]? = some t →
    ∃ f, At (tbB PB ts) q.2 (blk (rows plc t) 137) f ∧ ∀ t', f (blk (rows plc t') 137) = tbB PB (ts.set j t')
  | q0 :: PB, t0 :: ts, 0, q, t, hq, ht => by
    cases hq; cases ht
    exact ⟨_, .there .here, fun _ => rfl⟩
  | q0 :: PB, t0 :: ts, j + 1, q, t, hq, ht => by
    obtain ⟨f, h1, h2⟩ := tbB_at (PB := PB) (ts := ts) (j := j) (by simpa using hq) (by simpa using ht)
    exact ⟨_, .there (.there h1), fun t' => by show _ :: _ :: f _ = _; rw [h2]; rfl⟩
  | [], _, _, _, _, hq, _ => by simp at hq
  | _ :: _, [], _, _, _, _, ht => by simp at ht
theorem at_left {L B : List (Nat × Obj)} {b : Nat} {o : Obj} {f} (h : At L b o f) : At (L ++ B) b o (fun o => f o ++ B) := by
  induction h with
  | here => exact .here
  | there _ ih => exact .there ih
/-- one table is turned -/
theorem seqSp {w0 w w' : World} {A B : List (Nat × Obj)} {s bs cap j : Nat} {sp : List Value} {PB : List (Nat × Nat)} {ts : List (List Pl)} {q : Nat × Nat} {t t' : List Pl} (H : Hp w0 (A ++ (spB s bs cap sp PB ts ++ B)) w) (hq : PB[j]? = some q) (ht : ts[j]? = some t)
    (H1 : Hp w [(q.2, blk (rows plc t') 137)] w') : Hp w0 (A ++ (spB s bs cap sp PB (ts.set j t') ++ B)) w' := by
  obtain ⟨f, h1, h2⟩ := tbB_at hq ht
  have h3 := H.seq H1 (okSeq_set (.app A (at_left (B := B) (.there (.there h1)))) okSeq_nil)
  have e := h2 t'
  show Hp w0 (A ++ ((s, blk [sl bs 0 PB.length cap] 90) :: (bs, blk (ptrs PB ++ sp) 91) :: tbB PB (ts.set j t') ++ B)) w'
  rw [← e]
  exact h3
theorem Inv.set {PB : List (Nat × Nat)} {ts : List (List Pl)} (h : Inv PB ts) {j : Nat} {t' : List Pl} (h1 : t'.length = 32) (h2 : ∀ a ∈ t', a.g ≤ 1000001) : Inv PB (ts.set j t') :=
  ⟨by rw [List.length_set]; exact h.len, fun t ht => (List.mem_or_eq_of_mem_set ht).elim (h.sz t) (fun e => e ▸ h1), fun t ht => (List.mem_or_eq_of_mem_set ht).elim (h.gn t) (fun e => e ▸ h2)⟩
theorem spB_keys {B s bs cap : Nat} {sp : List Value} (h1 : B ≤ s) (h2 : B ≤ bs) : ∀ {PB : List (Nat × Nat)} {ts : List (List Pl)}, (∀ q ∈ PB, B ≤ q.1 ∧ B ≤ q.2) → ∀ p ∈ spB s bs cap sp PB ts, B ≤ p.1 := by
  intro PB ts hP
  have hk : ∀ (PB : List (Nat × Nat)) (ts : List (List Pl)), (∀ q ∈ PB, B ≤ q.1 ∧ B ≤ q.2) → ∀ p ∈ tbB PB ts, B ≤ p.1 := by
    intro PB
    induction PB with
    | nil => intro ts _ p hp; cases ts <;> cases hp
    | cons q PB ih =>
      intro ts hP p hp
      cases ts with
      | nil => cases hp
      | cons t ts =>
        have hq := hP q (.head _)
        rcases List.mem_cons.1 hp with rfl | hp
        · exact hq.1
        · rcases List.mem_cons.1 hp with rfl | hp
          · exact hq.2
          · exact ih ts (fun q hq => hP q (.tail _ hq)) p hp
  exact kCons h1 (kCons h2 (hk PB ts hP))
theorem tbB_snoc : ∀ {PB : List (Nat × Nat)} {ts : List (List Pl)} {q : Nat × Nat} {t : List Pl}, ts.length = PB.length → tbB (PB ++ [q]) (ts ++ [t]) = tbB PB ts ++ [(q.1, blk [sl q.2 0 32 32] 135), (q.2, blk (rows plc t) 137)]
  | [], [], q, t, _ => rfl
  | q0 :: PB, t0 :: ts, q, t, h => by
    show _ :: _ :: tbB (PB ++ [q]) (ts ++ [t]) = _
    rw [tbB_snoc (by simpa using h)]; rfl
  | [], _ :: _, _, _, h => by simp at h
  | _ :: _, [], _, _, h => by simp at h

/-- a table of nothing -/
def t0 : List Pl := List.replicate 32 newPl
theorem inv0 {PB : List (Nat × Nat)} : Inv PB (List.replicate PB.length t0) :=
  ⟨by simp, fun t ht => by rw [List.eq_of_mem_replicate ht]; simp [t0], fun t ht a ha => by rw [List.eq_of_mem_replicate ht] at ha; rw [List.eq_of_mem_replicate ha]; decide⟩

theorem new_perm {α : Type} (a b : α) (M T : List α) (x : α) : (a :: b :: (M ++ (x :: T))).Perm (M ++ (x :: (T ++ [a, b]))) := by
  have h : (a :: b :: (M ++ (x :: T))).Perm ((M ++ (x :: T)) ++ [a, b]) := (List.perm_append_comm (l₁ := [a, b]) (l₂ := M ++ (x :: T)))
  rwa [List.append_assoc, List.cons_append] at h

theorem new_ret {E : Nat} (h1 : 1 ≤ E) (h40 : E ≤ 40) (w : World) : Ret Try.prog 13 #[I E] w fun v w' => ∃ s bs cap sp PB, v = ptr s 0 ∧ PB.length = E ∧ w.heap.size ≤ s ∧ w.heap.size ≤ bs ∧ (∀ q ∈ PB, w.heap.size ≤ q.1 ∧ w.heap.size ≤ q.2) ∧
    Hp w (spB s bs cap sp PB (List.replicate E t0)) w' := by
  refine Ret_of_W (args := [_]) Try.func13 rfl Try.ntmps13 Try.results13 (by simp) ?_
  have H := Hp.refl w
  have hO := OwnS.nil w.heap.size 91 1
  refine W_seq ?_
  refine W_region_l ?_
  refine WL_stepM rfl (R_as) ?_
  refine WL_nil ?_
  refine W_seq ?_
  refine W_region_l ?_
  refine WL_step rfl (R_buildL (places := [(0, 1)]) (vs := [(.slice _ _ _)]) Try.underlying90 Try.typeInfo90 rfl rfl (by kernel_rfl) rfl rfl rfl) ?_
  (refine WL_effn rfl (E_box (vs := [nilS]) H rfl rfl) ?_; clear H; intro s w8 hs H)
  refine WL_stepM rfl (R_as) ?_
  refine WL_nil ?_
  refine W_seq ?_
  refine W_seq ?_
  refine W_region_l ?_
  refine WL_stepM rfl (R_mv) ?_
  refine WL_step rfl (R_max (r := (E : Int)) rfl rfl (by omega)) ?_
  refine WL_step rfl (R_min (r := (E : Int)) rfl rfl (by omega)) ?_
  refine WL_stepM rfl (R_mv) ?_
  refine WL_nil ?_
  refine W_block ?_
  refine W_loop (fun (i : Nat) F w' => ∃ (v : Value) (M : List (Nat × Obj)) (PB : List (Nat × Nat)), i ≤ E ∧ PB.length = i ∧ (∀ q ∈ PB, w.heap.size ≤ q.1 ∧ w.heap.size ≤ q.2) ∧ (∀ p ∈ tbB PB (List.replicate i t0), w.heap.size ≤ p.1) ∧ F 3 = ptr s 0 ∧ F 8 = I E ∧ F 9 = I i ∧ OwnS w.heap.size 91 1 v i (ptrs PB) M ∧ Hp w (M ++ ((s, blk [v] 90) :: tbB PB (List.replicate i t0))) w') (fun i => E - i) 0 ?_ ?_
  · exact ⟨_, [], [], by omega, rfl, (fun _ h => nomatch h), kNil, rfl, rfl, rfl, hO, H⟩
  · (clear H hO; rintro i F w1 ⟨v, M, PB, hi, hPl, hPk, hTk, h0, h1', h2, hO, H⟩; obtain ⟨av, cv, rfl⟩ := OwnS.form hO; refine W_know3 h0 h1' h2 ?_)
    refine W_seq ?_
    refine W_region_l ?_
    refine WL_step rfl (R_lt rfl rfl) ?_
    refine WL_nil ?_
    refine W_seq ?_
    refine W_if rfl (fun h28 => ?_) (fun h28 => ?_)
    · refine W_skip ?_
      refine W_seq ?_
      refine W_block ?_
      (refine W_draw (Kp [(s, blk [.slice av i cv] 90)]) (fun j => Nat.ble 8 j) (by kernel_rfl) H ?_; clear H; intro w32 H)
      refine WA_takeM 0 rfl rfl rfl (by kernel_rfl) (by kernel_rfl) (H.kp.sub (by simp)) (fun _ hC => R_mv) ?_
      refine WA_takeM 1 rfl rfl rfl (by kernel_rfl) (by kernel_rfl) (H.kp.sub (by simp)) (fun _ hC => R_mv) ?_
      refine WA_take 2 rfl rfl rfl (by kernel_rfl) (by kernel_rfl) (H.kp.sub (by simp)) (fun _ hC => R_nilCheck rfl) ?_
      refine WA_take 3 rfl rfl rfl (by kernel_rfl) (by kernel_rfl) (H.kp.sub (by simp)) (fun _ hC => R_fieldAddr (off' := 0) Try.underlying90 rfl Try.sizeOf88 (by decide) rfl rfl) ?_
      refine WA_take 4 rfl rfl rfl (by kernel_rfl) (by kernel_rfl) (H.kp.sub (by simp)) (fun _ hC => R_load (v := .slice av i cv) Try.isAgg88 rfl (hC.get .here) rfl) ?_
      refine WA_one (i := 5) (by kernel_rfl) ?_
      (refine WI_call rfl (.inl rfl) (R_call rfl Try.call39 rfl) (TabC.new_ret 32 _) (fun _ _ ⟨_, _, _, hR, hR1, hR2⟩ _ => (H.seqN hR (kCons hR1 (kCons hR2 kNil))).kp.sub (by simp)) ?_; rintro _ w39 ⟨p, b, rfl, H1, hp, hb⟩; rw [show szOf 32 = 32 from rfl] at H1; have hsz := H.size; replace H := H.seqN H1 (kCons hp (kCons hb kNil)); rw [List.cons_append, List.cons_append, List.nil_append] at H; replace hp := Nat.le_trans hsz hp; replace hb := Nat.le_trans hsz hb; clear H1 hsz)
      refine WA_one (i := 6) (by kernel_rfl) ?_
      (refine WI_effnA rfl (.inl rfl) (E_buildOnes (vs := [ptr p 0]) H Try.underlying88 Try.sizeOf91 Try.zeroValue91 rfl rfl (by decide) rfl rfl (by simp [Value.oneCell'])) (fun _ _ _ H => (by first | exact fun h => absurd h (by decide) | exact fun _ => H | exact fun _ => H.none (by repeat' first | exact kNil | apply kCons | apply kApp | assumption | exact OwnS.keys (by assumption)) | exact fun _ => H.dropN (by repeat' first | exact kNil | apply kCons | apply kApp | assumption | exact OwnS.keys (by assumption)) | exact fun _ => H.pop (by assumption) | exact fun _ => (H.pop (by assumption)).pop (by assumption) | exact fun _ => H.kp | exact fun _ => H.kp.tail | exact fun _ => H.kp.tail.tail | exact fun _ => H.kp.tail.tail.tail | exact fun _ => H.kp.sub (by simp) | exact fun _ => Kp.nil | exact fun _ => H.kh (by simp) (by repeat' first | exact kNil | apply kCons | apply kApp | assumption | exact OwnS.keys (by assumption)))) ?_; clear H; intro c17 w41 hc17 H)
      refine WA_one (i := 7) (by kernel_rfl) ?_
      (refine WI_effm rfl (.inl rfl) (E_append (len := i) (news := [ptr p 0]) (m := 1) H (.there (.there (.there .here))) hO Try.underlying88 Try.typeInfo91 rfl rfl rfl rfl rfl rfl (src_one Try.underlying88 (H.get .here) rfl) (by simp; omega) (by simp [Try.t91]; omega)) (fun _ _ H => (by first | exact fun h => absurd h (by decide) | exact fun _ => H | exact fun _ => H.none (by repeat' first | exact kNil | apply kCons | apply kApp | assumption | exact OwnS.keys (by assumption)) | exact fun _ => H.dropN (by repeat' first | exact kNil | apply kCons | apply kApp | assumption | exact OwnS.keys (by assumption)) | exact fun _ => H.pop (by assumption) | exact fun _ => (H.pop (by assumption)).pop (by assumption) | exact fun _ => H.kp | exact fun _ => H.kp.tail | exact fun _ => H.kp.tail.tail | exact fun _ => H.kp.tail.tail.tail | exact fun _ => H.kp.sub (by simp) | exact fun _ => Kp.nil | exact fun _ => H.kh (by simp) (by repeat' first | exact kNil | apply kCons | apply kApp | assumption | exact OwnS.keys (by assumption)))) ?_; clear H hO; intro vN MN w43 hO H; replace H := H.pop (by assumption); obtain ⟨aN, cN, rfl⟩ := OwnS.form hO)
      refine WA_one (i := 8) (by kernel_rfl) ?_
      refine WI_value rfl (.inl rfl) (R_nilCheck rfl) (by first | exact fun h => absurd h (by decide) | exact fun _ => H | exact fun _ => H.none (by repeat' first | exact kNil | apply kCons | apply kApp | assumption | exact OwnS.keys (by assumption)) | exact fun _ => H.dropN (by repeat' first | exact kNil | apply kCons | apply kApp | assumption | exact OwnS.keys (by assumption)) | exact fun _ => H.pop (by assumption) | exact fun _ => (H.pop (by assumption)).pop (by assumption) | exact fun _ => H.kp | exact fun _ => H.kp.tail | exact fun _ => H.kp.tail.tail | exact fun _ => H.kp.tail.tail.tail | exact fun _ => H.kp.sub (by simp) | exact fun _ => Kp.nil | exact fun _ => H.kh (by simp) (by repeat' first | exact kNil | apply kCons | apply kApp | assumption | exact OwnS.keys (by assumption))) ?_
      refine WA_one (i := 9) (by kernel_rfl) ?_
      refine WI_value rfl (.inl rfl) (R_fieldAddr (off' := 0) Try.underlying90 rfl Try.sizeOf88 (by decide) rfl rfl) (by first | exact fun h => absurd h (by decide) | exact fun _ => H | exact fun _ => H.none (by repeat' first | exact kNil | apply kCons | apply kApp | assumption | exact OwnS.keys (by assumption)) | exact fun _ => H.dropN (by repeat' first | exact kNil | apply kCons | apply kApp | assumption | exact OwnS.keys (by assumption)) | exact fun _ => H.pop (by assumption) | exact fun _ => (H.pop (by assumption)).pop (by assumption) | exact fun _ => H.kp | exact fun _ => H.kp.tail | exact fun _ => H.kp.tail.tail | exact fun _ => H.kp.tail.tail.tail | exact fun _ => H.kp.sub (by simp) | exact fun _ => Kp.nil | exact fun _ => H.kh (by simp) (by repeat' first | exact kNil | apply kCons | apply kApp | assumption | exact OwnS.keys (by assumption))) ?_
      refine WA_one (i := 10) (by kernel_rfl) ?_
      (refine WI_effu rfl (.inl rfl) (E_store (v := .slice aN (i + 1) cN) H Try.sizeOf88 rfl rfl rfl (.there (.there (.app _ .here))) (by simp)) (fun _ _ h => absurd h (by decide)) ?_; clear H; intro w49 H)
      refine WA_done (by kernel_rfl) ?_
      refine W_region_l ?_
      refine WL_step rfl (R_add rfl rfl (w_i64 (by omega))) ?_
      refine WL_stepM rfl (R_mv) ?_
      refine WL_nil ?_
      exact ⟨i + 1, by omega, _, MN, PB ++ [(p, b)], by omega, (by rw [List.length_append, hPl]; rfl), (fun q hq => (List.mem_append.1 hq).elim (hPk q) (fun h => by rw [List.mem_singleton.1 h]; exact ⟨hp, hb⟩)), (by rw [List.replicate_succ', tbB_snoc (by simp [hPl])]; exact kApp hTk (kCons hp (kCons hb kNil))), rfl, rfl, rfl, (by rw [show ptrs (PB ++ [(p, b)]) = ptrs PB ++ [ptr p 0] from by simp [ptrs]]; exact hO), (by rw [List.replicate_succ', tbB_snoc (by simp [hPl])]; exact H.perm (new_perm _ _ _ _ _))⟩
    · refine W_exit ?_
      refine (if_pos rfl).mpr ?_
      refine W_seq ?_
      refine W_region_l ?_
      refine WL_stepM rfl (R_mv) ?_
      refine WL_stepM rfl (R_as) ?_
      refine WL_nil ?_
      refine W_ret ?_
      (obtain rfl : i = E := (by omega); obtain ⟨bs, cap, sp, hv, hbs, hM, hsp, hcap⟩ := OwnS.pos hO (by omega); cases hv; subst hM; subst hPl; exact ⟨_, rfl, s, bs, _, sp, PB, rfl, rfl, hs, hbs, hPk, H.swap2⟩)
end Go.Proofs.Ythonajikgljgmaa.Caps

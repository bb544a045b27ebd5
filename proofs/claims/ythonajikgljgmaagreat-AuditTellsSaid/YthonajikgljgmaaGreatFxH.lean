/-
  A region that draws its order: operations that only read, in memory of which it is known what they read, may be taken first; what writes comes behind.
-/
import Derived.Test.YthonajikgljgmaaGreatFxG
namespace Go.Proofs.YthonajikgljgmaaGreat.Fx
open Go

section
variable {P : Program} {ops : Array Oper} {C : World → Prop} {tl : Nat → Bool} {Q : Act → World → Prop}

/-- One operation, which does not panic. -/
def opA (P : Program) (o : Oper) (a : Act) (w : World) (K : Act → World → Prop) : Prop :=
  (∃ v w', (execOp a.eval o).run P w = .ok (.value v) w' ∧ K (a.put o.dst v) w') ∨
  (∃ w', (execOp a.eval o).run P w = .ok .skip w' ∧ K (a.put o.dst undef) w') ∨
  (∃ f args w', (execOp a.eval o).run P w = .ok (.enter f args) w' ∧ Ret P f args w' fun v w'' => K (a.put o.dst v) w'')

/-- Operation i comes up. -/
def opI (P : Program) (ops : Array Oper) (i : Nat) (K : Act → World → Prop) (a : Act) (w : World) : Prop :=
  match ops[i]? with
  | none => False
  | some o => if Region.wanted o (yielded ops a.tmps) then opA P o a w K else K (a.put o.dst undef) w

/-- Whatever comes up, from here on; what is known of the memory stays so till the tail. -/
def anyC (P : Program) (ops : Array Oper) (C : World → Prop) (tl : Nat → Bool) (Q : Act → World → Prop) : Nat → Array Bool → Act → World → Prop
  | 0, listed, a, w => Region.ready .any ops listed = [] ∧ Q a w
  | f + 1, listed, a, w => (Region.ready .any ops listed = [] → Q a w) ∧
    ∀ i ∈ Region.ready .any ops listed, opI P ops i (fun a' w' => (tl i = false → C w') ∧ anyC P ops C tl Q f (listed.setIfInBounds i true) a' w') a w

theorem opA.mono {o : Oper} {a : Act} {w : World} {K K' : Act → World → Prop} (h : opA P o a w K) (hk : ∀ a w, K a w → K' a w) : opA P o a w K' := by
  rcases h with ⟨v, w', h1, h2⟩ | ⟨w', h1, h2⟩ | ⟨f, args, w', h1, h2⟩
  · exact .inl ⟨v, w', h1, hk _ _ h2⟩
  · exact .inr (.inl ⟨w', h1, hk _ _ h2⟩)
  · exact .inr (.inr ⟨f, args, w', h1, h2.mono fun _ _ h => hk _ _ h⟩)

theorem opI.mono {i : Nat} {a : Act} {w : World} {K K' : Act → World → Prop} (h : opI P ops i K a w) (hk : ∀ a w, K a w → K' a w) : opI P ops i K' a w := by
  unfold opI at *
  split
  · rename_i ho; simp only [ho] at h
  · rename_i o ho
    simp only [ho] at h
    split
    · rename_i hw; rw [if_pos hw] at h; exact h.mono hk
    · rename_i hw; rw [if_neg hw] at h; exact hk _ _ h

theorem wp_of_opA {o : Oper} {a : Act} {w : World} {K : Act → World → Prop} {Q' : Exit → Act → World → Prop} (h : opA P o a w K) : o.wp P a w K Q' := by
  unfold Oper.wp
  rcases h with ⟨v, w', h1, h2⟩ | ⟨w', h1, h2⟩ | ⟨f, args, w', h1, h2⟩
  · rw [h1]; exact h2
  · rw [h1]; exact h2
  · rw [h1]
    exact Calls.mono h2.out (by rintro e w ⟨v, rfl, h⟩; exact h)

theorem wpOp_of_opI {i : Nat} {a : Act} {w : World} {K : Act → World → Prop} {Q' : Exit → Act → World → Prop} (h : opI P ops i K a w) : wpOp P ops Q' i K a w := by
  unfold opI at h
  unfold wpOp
  split
  · rename_i ho; simp only [ho] at h
  · rename_i o ho
    simp only [ho] at h
    split
    · rename_i hw; rw [if_pos hw] at h; exact .inl (wp_of_opA h)
    · rename_i hw; rw [if_neg hw] at h; exact h

theorem wpAny_of_anyC {Q' : Exit → Act → World → Prop} (hQ : ∀ a w, Q a w → Q' .normal a w) : ∀ (f : Nat) (listed : Array Bool) (a : Act) (w : World), anyC P ops C tl Q f listed a w → wpAny P .any ops Q' f listed a w
  | 0, _, _, _, h => ⟨h.1, hQ _ _ h.2⟩
  | f + 1, _, _, _, h => ⟨fun h0 => hQ _ _ (h.1 h0), fun i hi => wpOp_of_opI ((h.2 i hi).mono fun a w h => wpAny_of_anyC hQ f _ a w h.2)⟩

/-- What comes in the tail waits for all that is not of it. -/
def tailB (ops : Array Oper) (tl : Nat → Bool) : Bool :=
  (List.range ops.size).all fun t => !tl t || (List.range ops.size).all fun i => tl i || ((ops[t]?).map fun o => o.after.any fun e => Region.binds .any e && e.on == i).getD false

theorem tailB_spec (h : tailB ops tl = true) {t i : Nat} {ot : Oper} (hot : ops[t]? = some ot) (hi : i < ops.size) (ht : tl t = true) (hti : tl i = false) :
    ∃ e ∈ ot.after, Region.binds .any e = true ∧ e.on = i := by
  have hlt : t < ops.size := (Array.getElem?_eq_some_iff.1 hot).1
  have h1 := List.all_eq_true.1 h t (List.mem_range.2 hlt)
  simp only [ht, Bool.not_true, Bool.false_or] at h1
  have h2 := List.all_eq_true.1 h1 i (List.mem_range.2 hi)
  simp only [hti, Bool.false_or, hot, Option.map_some, Option.getD_some] at h2
  obtain ⟨e, he, hb⟩ := Array.any_eq_true'.1 h2
  simp only [Bool.and_eq_true, beq_iff_eq] at hb
  exact ⟨e, he, hb.1, hb.2⟩

/-- In every memory of the class the operation yields this, or is passed over. -/
def Yc (P : Program) (ops : Array Oper) (C : World → Prop) (o : Oper) (v : Value) (a : Act) : Prop :=
  (Region.wanted o (yielded ops a.tmps) = true ∧ ∀ w, C w → (execOp a.eval o).run P w = .ok (.value v) w) ∨ (Region.wanted o (yielded ops a.tmps) = false ∧ v = undef)

theorem Yc.opI {i : Nat} {o : Oper} {v : Value} {a : Act} {w : World} (hi : ops[i]? = some o) (hy : Yc P ops C o v a) (hC : C w) {K : Act → World → Prop} (h : K (a.put o.dst v) w) : opI P ops i K a w := by
  unfold Fx.opI
  simp only [hi]
  rcases hy with ⟨hw, hv⟩ | ⟨hw, rfl⟩
  · rw [if_pos hw]; exact .inl ⟨v, w, hv w hC, h⟩
  · rw [if_neg (by rw [hw]; exact Bool.false_ne_true)]; exact h

theorem Yc.put {o oj : Oper} {v u : Value} {a : Act} (hs : ∀ cs b, o.op ≠ .select cs b) (h : ∀ d, oj.dst = some d → d ∉ o.looksAt ops) (hy : Yc P ops C o v a) : Yc P ops C o v (a.put oj.dst u) := by
  unfold Yc at *
  rw [wanted_put o a oj.dst u h, execOp_put o hs a oj.dst u h]
  exact hy

theorem opI_put {j : Nat} {oi oj : Oper} {v : Value} {a : Act} {w : World} {K : Act → World → Prop} (hj : ops[j]? = some oj) (hap : oi.apart ops oj = true)
    (hsi : ∀ cs b, oi.op ≠ .select cs b) (hsj : ∀ cs b, oj.op ≠ .select cs b) (hy : Yc P ops C oi v a) (h : opI P ops j K (a.put oi.dst v) w) :
    opI P ops j (fun a' w' => Yc P ops C oi v a' ∧ K (a'.put oi.dst v) w') a w := by
  obtain ⟨h1, h2, h3⟩ := Oper.apart_spec hap
  unfold opI at *
  simp only [hj] at *
  rw [wanted_put oj a oi.dst v h1] at h
  split
  · rename_i hw
    rw [if_pos hw] at h
    unfold opA at h ⊢
    rw [execOp_put oj hsj a oi.dst v h1] at h
    rcases h with ⟨u, w', e, hk⟩ | ⟨w', e, hk⟩ | ⟨f, args, w', e, hk⟩
    · exact .inl ⟨u, w', e, hy.put hsi h3, by rw [← Act.put_comm a v u h2]; exact hk⟩
    · exact .inr (.inl ⟨w', e, hy.put hsi h3, by rw [← Act.put_comm a v undef h2]; exact hk⟩)
    · exact .inr (.inr ⟨f, args, w', e, hk.mono fun u _ hk => ⟨hy.put hsi h3, by rw [← Act.put_comm a v u h2]; exact hk⟩⟩)
  · rename_i hw
    rw [if_neg hw] at h
    exact ⟨hy.put hsi h3, by rw [← Act.put_comm a v undef h2]; exact h⟩

/-- An operation that only reads may be taken first. -/
theorem anyC_take {i : Nat} {oi : Oper} {v : Value} (hi : ops[i]? = some oi) (hsel : ∀ (j : Nat) (o : Oper) cs b, ops[j]? = some o → o.op ≠ .select cs b) (ht : tailB ops tl = true) (hti : tl i = false) :
    ∀ (f : Nat) (listed : Array Bool) (a : Act) (w : World), C w →
      (∀ j oj, ops[j]? = some oj → j ≠ i → listed.getD j true = false → (∀ e ∈ oj.after, Region.binds .any e = true → e.on ≠ i) → oi.apart ops oj = true) →
      i ∈ Region.ready .any ops listed → Yc P ops C oi v a →
      anyC P ops C tl Q f (listed.setIfInBounds i true) (a.put oi.dst v) w → anyC P ops C tl Q (f + 1) listed a w := by
  have hin : i < ops.size := (Array.getElem?_eq_some_iff.1 hi).1
  -- what may come up ahead of i is not of the tail, and does not wait for i
  have look : ∀ (listed : Array Bool) (j : Nat) (oj : Oper), ops[j]? = some oj → i ∈ Region.ready .any ops listed → j ∈ Region.ready .any ops listed →
      tl j = false ∧ ∀ e ∈ oj.after, Region.binds .any e = true → e.on ≠ i := by
    intro listed j oj hoj hr hj
    obtain ⟨_, o', ho', hall⟩ := mem_ready.1 hj
    obtain rfl : o' = oj := Option.some.inj (ho'.symm.trans hoj)
    have hno : ∀ e ∈ o'.after, Region.binds .any e = true → e.on ≠ i := fun e he hb heq => by
      have h1 := hall e he hb
      have h0 := (mem_ready.1 hr).1
      rw [heq] at h1
      rw [Array.getD_eq_getD_getElem?] at h0 h1
      cases hl : listed[i]? with
      | none => rw [hl] at h1; cases h1
      | some x => rw [hl] at h0 h1; simp only [Option.getD_some] at h0 h1; rw [h0] at h1; cases h1
    refine ⟨?_, hno⟩
    cases htj : tl j with
    | false => rfl
    | true =>
      obtain ⟨e, he, hb, hon⟩ := tailB_spec ht hoj hin htj hti
      exact (hno e he hb hon).elim
  intro f
  induction f with
  | zero =>
    intro listed a w hC hfree hr hy H
    refine ⟨fun h => (by rw [h] at hr; cases hr), fun j hj => ?_⟩
    by_cases hji : j = i
    · subst hji
      exact hy.opI hi hC ⟨fun _ => hC, H⟩
    · have := ready_mono hj hji
      rw [H.1] at this
      cases this
  | succ f ih =>
    intro listed a w hC hfree hr hy H
    refine ⟨fun h => (by rw [h] at hr; cases hr), fun j hj => ?_⟩
    by_cases hji : j = i
    · subst hji
      exact hy.opI hi hC ⟨fun _ => hC, H⟩
    · obtain ⟨hjun, oj, hoj, hall⟩ := mem_ready.1 hj
      obtain ⟨htj, hno⟩ := look listed j oj hoj hr hj
      have h1 := H.2 j (ready_mono hj hji)
      have h2 := opI_put hoj (hfree j oj hoj hji hjun hno) (fun cs b => hsel i oi cs b hi) (fun cs b => hsel j oj cs b hoj) hy h1
      refine h2.mono ?_
      rintro a' w' ⟨hy', hC', hK⟩
      refine ⟨hC', ih (listed.setIfInBounds j true) a' w' (hC' htj) ?_ (ready_mono hr (Ne.symm hji)) hy' ?_⟩
      · intro k ok hk hki hun hno'
        refine hfree k ok hk hki ?_ hno'
        by_cases hjk : j = k
        · subst hjk; exact hjun
        · rw [getD_set_ne true hjk] at hun; exact hun
      · rw [Array.setIfInBounds_comm _ _ hji]
        exact hK

end

section
variable {P : Program} {n : Nat} {ops : Array Oper} {C : World → Prop} {tl : Nat → Bool} {kn : Env → World → Prop} {kx : Nat → Env → World → Prop} {kr : Env → World → Prop} {E : Env} {w0 w : World} {L : List (Nat × Obj)}
variable {f : Nat} {listed : Array Bool}

structure WA (P : Program) (n : Nat) (ops : Array Oper) (C : World → Prop) (tl : Nat → Bool) (kn : Env → World → Prop) (f : Nat) (listed : Array Bool) (E : Env) (w : World) : Prop where
  out : ∀ (Q : Act → World → Prop), (∀ a E w, Rep n E a → kn E w → Q a w) → ∀ a, Rep n E a → anyC P ops C tl Q f listed a w

theorem W_draw {id : Nat} (C : World → Prop) (tl : Nat → Bool) (hm : P.follows .mixedOrders = true) (H : Hp w0 L w)
    (h : ∀ w', Hp w0 L w' → WA P n ops C tl kn ops.size (Array.replicate ops.size false) E w') : W P n (.region id ops true) kn kx kr E w := by
  refine ⟨fun a ha => ?_⟩
  refine wp_region_any hm (wpAny_of_anyC (C := C) (tl := tl) (Q := fun a w => ∃ E, Rep n E a ∧ kn E w) (fun a w h => h) _ _ _ _ ?_)
  exact (h _ (H.drawn _)).out _ (fun a E w ha h => ⟨E, ha, h⟩) a ha

theorem WA_done (hr : Region.ready .any ops listed = []) (h : kn E w) : WA P n ops C tl kn f listed E w := by
  refine ⟨fun Q hQ a ha => ?_⟩
  cases f with
  | zero => exact ⟨hr, hQ _ _ _ ha h⟩
  | succ f => exact ⟨fun _ => hQ _ _ _ ha h, fun i hi => by rw [hr] at hi; cases hi⟩

/-- all that is asked of an operation that is to be taken first, but for what it does -/
def takeB (ops : Array Oper) (tl : Nat → Bool) (listed : Array Bool) (i : Nat) : Bool :=
  Region.noSelect ops && Region.free .any ops listed i && (Region.ready .any ops listed).contains i && !tl i

theorem WA_take {i : Nat} {o : Oper} {v : Value} (i0 : Nat) (hi0 : i0 = i) (hi : ops[i]? = some o) (hg : o.guard = none) (ht : tailB ops tl = true) (hb : takeB ops tl listed i = true) (hC : C w)
    (hv : ∀ w, C w → (execOp (ev E) o).run P w = .ok (.value v) w) (h : WA P n ops C tl kn f (listed.setIfInBounds i true) (updo n E o.dst v) w) : WA P n ops C tl kn (f + 1) listed E w := by
  subst hi0
  refine ⟨fun Q hQ a ha => ?_⟩
  simp only [takeB, Bool.and_eq_true, Bool.not_eq_true'] at hb
  obtain ⟨⟨⟨h1, h2⟩, h3⟩, h4⟩ := hb
  refine anyC_take hi (Region.noSelect_spec h1) ht h4 f listed a w hC (Region.free_spec hi h2) (by simpa using h3) (.inl ⟨by simp [Region.wanted, hg], fun w hw => ?_⟩) (h.out Q hQ _ (ha.put _ _))
  rw [ha.eval]
  exact hv w hw

theorem WA_takeM {i : Nat} {o : Oper} {x : Operand} (i0 : Nat) (hi0 : i0 = i) (hi : ops[i]? = some o) (hg : o.guard = none) (ht : tailB ops tl = true) (hb : takeB ops tl listed i = true) (hC : C w)
    (hv : ∀ w, C w → (execOp (ev E) o).run P w = .ok (.value (ev E x)) w) (h : WA P n ops C tl kn f (listed.setIfInBounds i true) (mov n E o.dst x) w) : WA P n ops C tl kn (f + 1) listed E w :=
  WA_take i0 hi0 hi hg ht hb hC hv h

/-- a guarded operation that is wanted -/
theorem WA_takeG {i j : Nat} {o : Oper} {v : Value} {want : Bool} (i0 : Nat) (hi0 : i0 = i) (hi : ops[i]? = some o) (hg : o.guard = some (j, want)) (hy : yE ops E j = some want) (ht : tailB ops tl = true) (hb : takeB ops tl listed i = true) (hC : C w)
    (hv : ∀ w, C w → (execOp (ev E) { o with guard := none }).run P w = .ok (.value v) w) (h : WA P n ops C tl kn f (listed.setIfInBounds i true) (updo n E o.dst v) w) : WA P n ops C tl kn (f + 1) listed E w := by
  subst hi0
  refine ⟨fun Q hQ a ha => ?_⟩
  simp only [takeB, Bool.and_eq_true, Bool.not_eq_true'] at hb
  obtain ⟨⟨⟨h1, h2⟩, h3⟩, h4⟩ := hb
  refine anyC_take hi (Region.noSelect_spec h1) ht h4 f listed a w hC (Region.free_spec hi h2) (by simpa using h3) (.inl ⟨by simp [Region.wanted, hg, ha.yielded, hy], fun w hw => ?_⟩) (h.out Q hQ _ (ha.put _ _))
  rw [ha.eval]
  exact hv w hw

theorem WA_takeGM {i j : Nat} {o : Oper} {x : Operand} {want : Bool} (i0 : Nat) (hi0 : i0 = i) (hi : ops[i]? = some o) (hg : o.guard = some (j, want)) (hy : yE ops E j = some want) (ht : tailB ops tl = true) (hb : takeB ops tl listed i = true) (hC : C w)
    (hv : ∀ w, C w → (execOp (ev E) { o with guard := none }).run P w = .ok (.value (ev E x)) w) (h : WA P n ops C tl kn f (listed.setIfInBounds i true) (mov n E o.dst x) w) : WA P n ops C tl kn (f + 1) listed E w :=
  WA_takeG i0 hi0 hi hg hy ht hb hC hv h

/-- a guarded operation that is passed over -/
theorem WA_pass {i j : Nat} {o : Oper} {want : Bool} (i0 : Nat) (hi0 : i0 = i) (hi : ops[i]? = some o) (hg : o.guard = some (j, want)) (hy : yE ops E j ≠ some want) (ht : tailB ops tl = true) (hb : takeB ops tl listed i = true) (hC : C w)
    (h : WA P n ops C tl kn f (listed.setIfInBounds i true) (updo n E o.dst undef) w) : WA P n ops C tl kn (f + 1) listed E w := by
  subst hi0
  refine ⟨fun Q hQ a ha => ?_⟩
  simp only [takeB, Bool.and_eq_true, Bool.not_eq_true'] at hb
  obtain ⟨⟨⟨h1, h2⟩, h3⟩, h4⟩ := hb
  refine anyC_take hi (Region.noSelect_spec h1) ht h4 f listed a w hC (Region.free_spec hi h2) (by simpa using h3) (.inr ⟨?_, rfl⟩) (h.out Q hQ _ (ha.put _ _))
  simp only [Region.wanted, hg, ha.yielded]
  exact beq_eq_false_iff_ne.2 hy

/-- One of those that may come up. -/
structure WI (P : Program) (n : Nat) (ops : Array Oper) (C : World → Prop) (tl : Nat → Bool) (kn : Env → World → Prop) (f : Nat) (listed : Array Bool) (i : Nat) (E : Env) (w : World) : Prop where
  out : ∀ (Q : Act → World → Prop), (∀ a E w, Rep n E a → kn E w → Q a w) → ∀ a, Rep n E a → opI P ops i (fun a' w' => (tl i = false → C w') ∧ anyC P ops C tl Q f (listed.setIfInBounds i true) a' w') a w

theorem WA_one {i : Nat} (hr : Region.ready .any ops listed = [i]) (h : WI P n ops C tl kn f listed i E w) : WA P n ops C tl kn (f + 1) listed E w := by
  refine ⟨fun Q hQ a ha => ?_⟩
  refine ⟨fun h0 => (by rw [hr] at h0; cases h0), fun j hj => ?_⟩
  rw [hr] at hj
  obtain rfl : j = i := by simpa using hj
  exact h.out Q hQ a ha
theorem WA_two {i j : Nat} (hr : Region.ready .any ops listed = [i, j]) (h : WI P n ops C tl kn f listed i E w) (h' : WI P n ops C tl kn f listed j E w) : WA P n ops C tl kn (f + 1) listed E w := by
  refine ⟨fun Q hQ a ha => ?_⟩
  refine ⟨fun h0 => (by rw [hr] at h0; cases h0), fun k hk => ?_⟩
  rw [hr] at hk
  rcases List.mem_cons.1 hk with rfl | hk
  · exact h.out Q hQ a ha
  · obtain rfl : k = j := by simpa using hk
    exact h'.out Q hQ a ha

/-- Its guard, if it has one, says yes. -/
def Wanted (ops : Array Oper) (E : Env) (o : Oper) : Prop := o.guard = none ∨ ∃ j want, o.guard = some (j, want) ∧ yE ops E j = some want

theorem Wanted.rep {a : Act} {o : Oper} (h : Wanted ops E o) (ha : Rep n E a) : Region.wanted o (yielded ops a.tmps) = true := by
  rcases h with h | ⟨j, want, h, hy⟩
  · simp [Region.wanted, h]
  · simp [Region.wanted, h, ha.yielded, hy]

theorem WI_value {i : Nat} {o : Oper} {v : Value} {w' : World} (hi : ops[i]? = some o) (hg : Wanted ops E o) (hr : (execOp (ev E) { o with guard := none }).run P w = .ok (.value v) w') (hC : tl i = false → C w')
    (h : WA P n ops C tl kn f (listed.setIfInBounds i true) (updo n E o.dst v) w') : WI P n ops C tl kn f listed i E w := by
  refine ⟨fun Q hQ a ha => ?_⟩
  unfold opI
  simp only [hi]
  rw [if_pos (hg.rep ha)]
  exact .inl ⟨v, w', by rw [ha.eval]; exact hr, hC, h.out Q hQ _ (ha.put _ _)⟩
theorem WI_unit {i : Nat} {o : Oper} {w' : World} (hi : ops[i]? = some o) (hg : Wanted ops E o) (hr : (execOp (ev E) { o with guard := none }).run P w = .ok .skip w') (hC : tl i = false → C w')
    (h : WA P n ops C tl kn f (listed.setIfInBounds i true) (updo n E o.dst undef) w') : WI P n ops C tl kn f listed i E w := by
  refine ⟨fun Q hQ a ha => ?_⟩
  unfold opI
  simp only [hi]
  rw [if_pos (hg.rep ha)]
  exact .inr (.inl ⟨w', by rw [ha.eval]; exact hr, hC, h.out Q hQ _ (ha.put _ _)⟩)
theorem WI_call {i : Nat} {o : Oper} {fn : FuncId} {args : Array Value} {R : Value → World → Prop} (hi : ops[i]? = some o) (hg : Wanted ops E o) (hr : (execOp (ev E) { o with guard := none }).run P w = .ok (.enter fn args) w)
    (hc : Ret P fn args w R) (hC : ∀ v w', R v w' → tl i = false → C w') (h : ∀ v w', R v w' → WA P n ops C tl kn f (listed.setIfInBounds i true) (updo n E o.dst v) w') : WI P n ops C tl kn f listed i E w := by
  refine ⟨fun Q hQ a ha => ?_⟩
  unfold opI
  simp only [hi]
  rw [if_pos (hg.rep ha)]
  exact .inr (.inr ⟨fn, args, w, by rw [ha.eval]; exact hr, hc.mono fun v w' hR => ⟨hC v w' hR, (h v w' hR).out Q hQ _ (ha.put _ _)⟩⟩)
theorem WI_pass {i j : Nat} {o : Oper} {want : Bool} (hi : ops[i]? = some o) (hg : o.guard = some (j, want)) (hy : yE ops E j ≠ some want) (hC : C w)
    (h : WA P n ops C tl kn f (listed.setIfInBounds i true) (updo n E o.dst undef) w) : WI P n ops C tl kn f listed i E w := by
  refine ⟨fun Q hQ a ha => ?_⟩
  unfold opI
  simp only [hi]
  rw [if_neg (by simp only [Region.wanted, hg, ha.yielded]; exact fun h => hy (by simpa using h))]
  exact ⟨fun _ => hC, h.out Q hQ _ (ha.put _ _)⟩

theorem WI_effu {i : Nat} {o : Oper} {F : World → Prop} (hi : ops[i]? = some o) (hg : Wanted ops E o) (he : ∃ w', F w' ∧ (execOp (ev E) { o with guard := none }).run P w = .ok .skip w') (hC : ∀ w', F w' → tl i = false → C w')
    (h : ∀ w', F w' → WA P n ops C tl kn f (listed.setIfInBounds i true) (updo n E o.dst undef) w') : WI P n ops C tl kn f listed i E w := by
  obtain ⟨w', hF, hr⟩ := he
  exact WI_unit hi hg hr (hC w' hF) (h w' hF)
theorem WI_effn {i : Nat} {o : Oper} {A : Nat → Prop} {F : Nat → World → Prop} {v : Nat → Value} (hi : ops[i]? = some o) (hg : Wanted ops E o) (he : ∃ b w', A b ∧ F b w' ∧ (execOp (ev E) { o with guard := none }).run P w = .ok (.value (v b)) w')
    (hC : ∀ b w', F b w' → tl i = false → C w') (h : ∀ b w', A b → F b w' → WA P n ops C tl kn f (listed.setIfInBounds i true) (updo n E o.dst (v b)) w') : WI P n ops C tl kn f listed i E w := by
  obtain ⟨b, w', hA, hF, hr⟩ := he
  exact WI_value hi hg hr (hC b w' hF) (h b w' hA hF)
theorem WI_effm {i : Nat} {o : Oper} {M : Type} {A : Value → M → Prop} {F : M → World → Prop} (hi : ops[i]? = some o) (hg : Wanted ops E o) (he : ∃ v m w', A v m ∧ F m w' ∧ (execOp (ev E) { o with guard := none }).run P w = .ok (.value v) w')
    (hC : ∀ m w', F m w' → tl i = false → C w') (h : ∀ v m w', A v m → F m w' → WA P n ops C tl kn f (listed.setIfInBounds i true) (updo n E o.dst v) w') : WI P n ops C tl kn f listed i E w := by
  obtain ⟨v, m, w', hA, hF, hr⟩ := he
  exact WI_value hi hg hr (hC m w' hF) (h v m w' hA hF)

theorem W_drawH {id : Nat} (tl : Nat → Bool) (hm : P.follows .mixedOrders = true) (H : Hp w0 L w)
    (h : ∀ w', Hp w0 L w' → WA P n ops (Hp w0 L) tl kn ops.size (Array.replicate ops.size false) E w') : W P n (.region id ops true) kn kx kr E w :=
  W_draw (Hp w0 L) tl hm H h

theorem WA_know {t : Nat} {v : Value} (ht : E t = v) (h : WA P n ops C tl kn f listed (know E t v) w) : WA P n ops C tl kn f listed E w := by
  rwa [know_eq ht] at h
theorem WA_if (t : Nat) {p : Prop} [Decidable p] (hc : E t = .bool (decide p)) (ht : p → WA P n ops C tl kn f listed (know E t (.bool true)) w) (hf : ¬ p → WA P n ops C tl kn f listed (know E t (.bool false)) w) :
    WA P n ops C tl kn f listed E w := by
  by_cases h : p
  · exact WA_know (t := t) (v := .bool true) (by rw [hc, decide_eq_true h]) (ht h)
  · exact WA_know (t := t) (v := .bool false) (by rw [hc, decide_eq_false h]) (hf h)
theorem WA_ifB (t : Nat) {b : Bool} (hc : E t = .bool b) (ht : b = true → WA P n ops C tl kn f listed (know E t (.bool true)) w) (hf : b = false → WA P n ops C tl kn f listed (know E t (.bool false)) w) :
    WA P n ops C tl kn f listed E w := by
  cases b
  · exact WA_know (t := t) hc (hf rfl)
  · exact WA_know (t := t) hc (ht rfl)
end
end Go.Proofs.YthonajikgljgmaaGreat.Fx

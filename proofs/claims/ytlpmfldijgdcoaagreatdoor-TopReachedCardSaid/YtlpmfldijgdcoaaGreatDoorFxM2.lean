/-
  Loops whose rounds write to some slots alone: what the other slots hold is what they held ahead of the loop.
-/
import Derived.Test.YtlpmfldijgdcoaaGreatDoorFxM4
namespace Go.Proofs.YtlpmfldijgdcoaaGreatDoor.Fx
open Go

/-- ranges of slots, both ends within -/
def hasN : List (Nat × Nat) → Nat → Bool
  | [], _ => false
  | d :: D, t => match Nat.ble d.1 t, Nat.ble t d.2 with
    | true, true => true
    | _, _ => hasN D t

/-- Beside the slots of D the frames are the same. -/
def Same (D : List (Nat × Nat)) (E' E : Env) : Prop := ∀ t, hasN D t = false → E' t = E t

/-- The slots of D off the one frame, all others off the other. -/
def ovr (D : List (Nat × Nat)) (E' E : Env) : Env := fun t =>
  match hasN D t with
  | true => E' t
  | false => E t

theorem Same.refl {D : List (Nat × Nat)} {E : Env} : Same D E E := fun _ _ => rfl
theorem ovr_eq {D : List (Nat × Nat)} {E' E : Env} (h : Same D E' E) : ovr D E' E = E' := by
  funext t
  unfold ovr
  cases hc : hasN D t with
  | true => rfl
  | false => exact (h t hc).symm
theorem same_ovr {D : List (Nat × Nat)} {E' E : Env} : Same D (ovr D E' E) E := fun t ht => by
  unfold ovr
  rw [ht]
theorem same_upd {D : List (Nat × Nat)} {n d : Nat} {E' E : Env} {v : Value} (hd : hasN D d = true) (h : Same D E' E) : Same D (upd n E' d v) E := fun t ht => by
  have hne : t ≠ d := fun e => by rw [e, hd] at ht; cases ht
  rw [upd_other hne]
  exact h t ht
theorem same_updo {D : List (Nat × Nat)} {n d : Nat} {E' E : Env} {v : Value} (hd : hasN D d = true) (h : Same D E' E) : Same D (updo n E' (some d) v) E := same_upd hd h
theorem same_updn {D : List (Nat × Nat)} {n : Nat} {E' E : Env} {v : Value} (h : Same D E' E) : Same D (updo n E' none v) E := h
theorem same_mov {D : List (Nat × Nat)} {n d : Nat} {E' E : Env} {x : Operand} (hd : hasN D d = true) (h : Same D E' E) : Same D (mov n E' (some d) x) E := same_upd hd h
theorem same_know {D : List (Nat × Nat)} {d : Nat} {E' E : Env} {v : Value} (hd : hasN D d = true) (h : Same D E' E) : Same D (know E' d v) E := fun t ht => by
  have hne : Nat.beq t d = false := by
    cases hb : Nat.beq t d with
    | false => rfl
    | true => rw [Nat.eq_of_beq_eq_true hb, hd] at ht; cases ht
  unfold know
  rw [hne]
  exact h t ht
def subN (D' D : List (Nat × Nat)) : Bool := D'.all fun p => D.any fun q => Nat.ble q.1 p.1 && Nat.ble p.2 q.2
theorem hasN_iff {D : List (Nat × Nat)} {t : Nat} : hasN D t = true ↔ ∃ p ∈ D, p.1 ≤ t ∧ t ≤ p.2 := by
  induction D with
  | nil => simp [hasN]
  | cons d D ih =>
    unfold hasN
    constructor
    · intro h
      split at h
      · rename_i h1 h2; exact ⟨d, .head _, Nat.le_of_ble_eq_true h1, Nat.le_of_ble_eq_true h2⟩
      · obtain ⟨p, hp, h⟩ := ih.1 h; exact ⟨p, .tail _ hp, h⟩
    · rintro ⟨p, hp, h1, h2⟩
      split
      · rfl
      · rename_i hn
        rcases List.mem_cons.1 hp with rfl | hp
        · exact (hn (Nat.ble_eq_true_of_le h1) (Nat.ble_eq_true_of_le h2)).elim
        · exact ih.2 ⟨p, hp, h1, h2⟩
theorem hasN_sub {D D' : List (Nat × Nat)} {t : Nat} (hs : subN D' D = true) (h : hasN D t = false) : hasN D' t = false := by
  cases hc : hasN D' t with
  | false => rfl
  | true =>
    obtain ⟨p, hp, h1, h2⟩ := hasN_iff.1 hc
    have h3 := List.all_eq_true.1 hs p hp
    obtain ⟨q, hq, h4⟩ := List.any_eq_true.1 h3
    simp only [Bool.and_eq_true] at h4
    have := hasN_iff.2 ⟨q, hq, Nat.le_trans (Nat.le_of_ble_eq_true h4.1) h1, Nat.le_trans h2 (Nat.le_of_ble_eq_true h4.2)⟩
    rw [h] at this; cases this
/-- What an inner loop has left. -/
theorem same_in {D D' : List (Nat × Nat)} {X Y E : Env} (hs : subN D' D = true) (h : Same D Y E) : Same D (ovr D' X Y) E := fun t ht => by
  unfold ovr
  rw [hasN_sub hs ht]
  exact h t ht
theorem Same.trans {D D' : List (Nat × Nat)} {E E' E'' : Env} (hs : ∀ t, hasN D t = false → hasN D' t = false) (h : Same D' E'' E') (h' : Same D E' E) : Same D E'' E := fun t ht => (h t (hs t ht)).trans (h' t ht)

section
variable {P : Program} {n : Nat} {kn : Env → World → Prop} {kx : Nat → Env → World → Prop} {kr : Env → World → Prop} {E : Env} {w : World}

/-- What the slots of D are known to hold. -/
theorem W_kn {c : Code} {D : List (Nat × Nat)} {E' : Env} {t0 : Nat} {v0 : Value} (h0 : E' t0 = v0) (h : W P n c kn kx kr (ovr D (know E' t0 v0) E) w) : W P n c kn kx kr (ovr D E' E) w := by
  rwa [know_eq h0] at h
theorem W_kn2 {c : Code} {D : List (Nat × Nat)} {E' : Env} {t0 t1 : Nat} {v0 v1 : Value} (h0 : E' t0 = v0) (h1 : E' t1 = v1) (h : W P n c kn kx kr (ovr D (know (know E' t0 v0) t1 v1) E) w) : W P n c kn kx kr (ovr D E' E) w := by
  rwa [know_eq h0, know_eq h1] at h
/-- A loop: D are the slots that its code writes. -/
theorem W_loopS {c : Code} (D : List (Nat × Nat)) {α : Type} (I : α → Env → World → Prop) (m : α → Nat) (x : α) (h0 : I x E w)
    (round : ∀ x E' w', I x E' w' → W P n c (fun E'' w'' => Same D E'' E ∧ ∃ y, m y < m x ∧ I y E'' w'') kx kr (ovr D E' E) w') : W P n (.loop c) kn kx kr E w := by
  refine W_loop (fun x E' w' => Same D E' E ∧ I x E' w') m x ⟨Same.refl, h0⟩ ?_
  rintro x E' w' ⟨hS, hI⟩
  have h := round x E' w' hI
  rw [ovr_eq hS] at h
  exact W.mono h (fun _ _ ⟨hS, y, hy, h⟩ => ⟨y, hy, hS, h⟩) (fun _ _ _ h => h) (fun _ _ h => h)

/-- A block: what holds behind it, whichever way it was left. -/
theorem W_blockS {id : Nat} {c : Code} (D : List (Nat × Nat)) (I : Env → World → Prop) (h : W P n c (fun E' w' => Same D E' E ∧ I E' w') (fun i E' w' => if i = id then Same D E' E ∧ I E' w' else kx i E' w') kr E w)
    (k : ∀ E' w', I E' w' → kn (ovr D E' E) w') : W P n (.block id c) kn kx kr E w := by
  have hk : ∀ E' w', Same D E' E ∧ I E' w' → kn E' w' := fun E' w' ⟨hS, hI⟩ => by
    have := k E' w' hI
    rwa [ovr_eq hS] at this
  refine W_block (W.mono h hk (fun i E' w' hi => ?_) (fun _ _ h => h))
  by_cases he : i = id
  · rw [if_pos he] at hi ⊢; exact hk _ _ hi
  · rw [if_neg he] at hi ⊢; exact hi

/-- What holds between two parts. -/
theorem W_seqS {x y : Code} (D : List (Nat × Nat)) (I : Env → World → Prop) (h : W P n x (fun E' w' => Same D E' E ∧ I E' w') kx kr E w)
    (k : ∀ E' w', I E' w' → W P n y kn kx kr (ovr D E' E) w') : W P n (.seq x y) kn kx kr E w :=
  W_seq (W.mono h (fun E' w' ⟨hS, hI⟩ => by
    have := k E' w' hI
    rwa [ovr_eq hS] at this) (fun _ _ _ h => h) (fun _ _ h => h))
end
end Go.Proofs.YtlpmfldijgdcoaaGreatDoor.Fx

/-
  Slices of the call's own that do not begin at the head of their block.
-/
namespace Go.Proofs.YtlpmfldijgdcoaaGreatDoor.Fx
open Go

/-- A slice of the call's own, somewhere in a block that B does not reach; its elements take one cell each. -/
def OwnQ (B : Nat) (e : TypeId) (v : Value) (xs : List Value) (M : List (Nat × Obj)) : Prop :=
  (v = nilS ∧ xs = [] ∧ M = []) ∨
    ∃ b off cap pre sp, v = sl b off xs.length cap ∧ B ≤ b ∧ M = [(b, blk (pre ++ (xs ++ sp)) e)] ∧ pre.length = off ∧ cap ≤ xs.length + sp.length ∧ xs.length ≤ cap

theorem OwnQ.nil (B : Nat) (e : TypeId) : OwnQ B e nilS [] [] := .inl ⟨rfl, rfl, rfl⟩
theorem OwnQ.keys {B : Nat} {e : TypeId} {v : Value} {xs : List Value} {M : List (Nat × Obj)} (h : OwnQ B e v xs M) : ∀ p ∈ M, B ≤ p.1 := by
  rcases h with ⟨_, _, rfl⟩ | ⟨b, off, cap, pre, sp, _, hb, rfl, _⟩
  · intro p hp; cases hp
  · intro p hp; rw [List.mem_singleton.1 hp]; exact hb
theorem OwnQ.mono {B B' : Nat} {e : TypeId} {v : Value} {xs : List Value} {M : List (Nat × Obj)} (h : OwnQ B e v xs M) (hB : B' ≤ B) : OwnQ B' e v xs M := by
  rcases h with h | ⟨b, off, cap, pre, sp, h1, hb, h2⟩
  · exact .inl h
  · exact .inr ⟨b, off, cap, pre, sp, h1, Nat.le_trans hB hb, h2⟩
theorem OwnQ.form {B : Nat} {e : TypeId} {v : Value} {xs : List Value} {M : List (Nat × Obj)} (h : OwnQ B e v xs M) : ∃ ao cap, v = .slice ao xs.length cap := by
  rcases h with ⟨rfl, rfl, _⟩ | ⟨b, off, cap, pre, sp, h1, _⟩
  · exact ⟨none, 0, rfl⟩
  · exact ⟨_, cap, h1⟩
theorem OwnQ.one {B : Nat} {e : TypeId} {v : Value} {xs : List Value} {M : List (Nat × Obj)} (h : OwnQ B e v xs M) : v.oneCell' = true := by
  obtain ⟨ao, cap, rfl⟩ := h.form; rfl
theorem OwnQ.ofS {B len : Nat} {e : TypeId} {v : Value} {xs : List Value} {M : List (Nat × Obj)} (h : OwnS B e 1 v len xs M) : OwnQ B e v xs M := by
  obtain ⟨hl, h⟩ := h
  rw [Nat.mul_one] at hl
  rcases h with ⟨rfl, rfl, rfl⟩ | ⟨b, cap, sp, rfl, hb, rfl, hs, hc⟩
  · obtain rfl : xs = [] := List.length_eq_zero_iff.1 hl
    exact .nil _ _
  · exact .inr ⟨b, 0, cap, [], sp, by rw [hl], hb, by simp, rfl, by omega, by omega⟩
theorem OwnQ.rds {w : World} {B : Nat} {e : TypeId} {v : Value} {xs : List Value} {M : List (Nat × Obj)} (h : OwnQ B e v xs M) (hM : ∀ p ∈ M, w.heap[p.1]? = some p.2) : RdS w v xs := by
  rcases h with ⟨rfl, rfl, rfl⟩ | ⟨b, off, cap, pre, sp, rfl, hb, rfl, hp, hs, hc⟩
  · exact RdS.nil
  · subst hp
    refine RdS.blk (c := pre ++ (xs ++ sp)) (hM _ (.head _)) ?_ (by simp) hc
    rw [List.drop_left, List.take_left]

section
variable {P : Program} {E : Env} {w0 w : World} {L : List (Nat × Obj)}
variable {d : Option Nat} {ty : TypeId} {pos : String} {after : Array Edge}

/-- what is behind the first element -/
theorem E_tailQ {t e elem : TypeId} {x y : Operand} {B : Nat} {v a : Value} {xs : List Value} {M : List (Nat × Obj)} (ho : OwnQ B e v (a :: xs) M) (ht : P.underlying t = some (.slice elem)) (hS : ∀ w, (sizeOf elem).run P w = .ok 1 w)
    (hx : ev E x = v) (hy : ev E y = .int .i64 1) :
    ∃ v', OwnQ B e v' xs M ∧ (execOp (ev E) (mk d (.slice t x (some y) none none) ty pos after)).run P w = .ok (.value v') w := by
  rcases ho with ⟨_, h, _⟩ | ⟨b, off, cap, pre, sp, rfl, hb, rfl, hp, hs, hc⟩
  · cases h
  · rw [List.length_cons] at hs hc hx
    by_cases h1 : cap = 1
    · subst h1
      have hl : xs = [] := List.length_eq_zero_iff.1 (by omega)
      subst hl
      refine ⟨_, ?_, R_sliceE (i := 1) (j := 1) ht hS hx (.some hy) (.none (dflt := 1)) rfl rfl⟩
      exact .inr ⟨b, off, 0, pre, a :: sp, rfl, hb, rfl, hp, by simp, Nat.le_refl _⟩
    · refine ⟨_, ?_, R_slice (i := 1) (j := ((xs.length + 1 : Nat) : Int)) ht hS hx (.some hy) (.none (dflt := ((xs.length + 1 : Nat) : Int))) (by omega) (by omega) (by omega) (by omega) (by omega) rfl⟩
      refine .inr ⟨b, off + 1, cap - 1, pre ++ [a], sp, ?_, hb, by simp, by simp [hp], by omega, by omega⟩
      rw [show (((xs.length + 1 : Nat) : Int) - 1).toNat = xs.length from by omega, show ((cap : Int) - 1).toNat = cap - 1 from by omega]
      rfl

theorem WL_tailQ {n : Nat} {ops : Array Oper} {kn : Env → World → Prop} {l : List Oper} {t e elem : TypeId} {x y : Operand} {B : Nat} {v a : Value} {xs : List Value} {M : List (Nat × Obj)} (ho : OwnQ B e v (a :: xs) M) (ht : P.underlying t = some (.slice elem)) (hS : ∀ w, (sizeOf elem).run P w = .ok 1 w)
    (hx : ev E x = v) (hy : ev E y = .int .i64 1) (h : ∀ v', OwnQ B e v' xs M → WL P n ops kn l (updo n E d v') w) : WL P n ops kn (mk d (.slice t x (some y) none none) ty pos after :: l) E w := by
  obtain ⟨v', hQ, hr⟩ := E_tailQ (d := d) (ty := ty) (pos := pos) (after := after) (w := w) ho ht hS hx hy
  exact WL_step rfl hr (h v' hQ)

theorem E_appendQ {t tx e : TypeId} {m : Nat} {v u : Value} {xs news zs : List Value} {z : Value} {i : TypeInfo} {M : List (Nat × Obj)} {f} {x y : Operand} (H : Hp w0 L w) (hM : AtM L M f) (ho : OwnQ w0.heap.size e v xs M)
    (ht : P.underlying t = some (.slice e)) (hI0 : ∀ w, (typeInfo e).run P w = .ok i w) (hsz : i.size = 1) (hZ : i.zero = some z) (hz : z.cells = zs.toArray) (hzl : zs.length = 1)
    (hx : ev E x = v) (hy : ev E y = u) (hs : Src P 1 tx u m news w) (hlen : xs.length + m ≤ 9223372036854775807) (hby : (xs.length + m) * i.bytes ≤ 140737488355328) :
    ∃ v' M' w', OwnQ w0.heap.size e v' (xs ++ news) M' ∧ Hp w0 (f M') w' ∧ (execOp (ev E) (mk d (bi .append #[x, y] #[t, tx]) ty pos after)).run P w = .ok (.value v') w' := by
  rcases ho with ⟨rfl, rfl, rfl⟩ | ⟨b, off, cap, pre, sp, rfl, hb, rfl, hp, hsp, hcap⟩
  · obtain ⟨v', M', w', hO, H', hr⟩ := E_append (d := d) (ty := ty) (pos := pos) (after := after) H hM (OwnS.nil _ e 1) ht hI0 hsz hZ hz hzl hx hy hs (by simpa using hlen) (by simpa using hby)
    exact ⟨v', M', w', .ofS hO, H', hr⟩
  · have hI : P.info? e = some i := info_of_run hI0 w
    have hnm : news.length = m := by have := hs.newsLen; simpa using this
    have hexec : (execOp (ev E) (mk d (bi .append #[x, y] #[t, tx]) ty pos after)).run P w = ((Builtin.append_ #[t, tx] ty #[sl b off xs.length cap, u]).run P w).andThen fun a w' => .ok (.value a) w' := by
      subst hy
      simp [execOp, resolve, invoke, builtin, hx]
    rw [hexec]
    have hzc : ∀ k, (Builtin.zeroCells z.cells k).toList.length = k := by
      intro k; rw [hz]; simp [Builtin.zeroCells, hzl]
    have hblk := H.atM hM (.head _)
    subst hp
    rcases Nat.lt_or_ge cap (xs.length + m) with hg | hroom
    · have hfit : Builtin.nextslicecap (xs.length + m) cap * i.bytes ≤ 281474976710656 := growslice_fits hg hby
      have hold : (Builtin.firstCells i.size xs.length (sl b pre.length xs.length cap)).run P w.drew = .ok xs.toArray w.drew := by
        refine run_firstCells_some w.drew i.size xs.length _ xs.length cap xs (by rw [hsz]; simp) (fun j u hj => ?_)
        have hjl := (List.getElem?_eq_some_iff.1 hj).1
        rw [add_none, World.cell?_drew, cell_blk hblk, List.getElem?_append_right (by omega), show pre.length + j - pre.length = j from by omega, List.getElem?_append_left hjl]
        exact hj
      rw [← hsz] at hs
      have hr := run_append_grow_src (w := w) (ty := ty) t tx e i z ht hI hZ (some ⟨b, pre.length, none⟩) xs.length cap xs hold u m news hs hg (by omega) hfit
      refine ⟨_, [((w.drew).heap.size, blk ((xs ++ news) ++ (Builtin.zeroCells z.cells (grownCap w (xs.length + m) cap e - (xs.length + m))).toList) e)], _, ?_, ?_, by rw [hr]; rfl⟩
      · refine .inr ⟨_, 0, grownCap w (xs.length + m) cap e, [], _, by rw [List.length_append, hnm], H.size, rfl, rfl, ?_, ?_⟩
        · rw [hzc, List.length_append, hnm]; have := grownCap_ge w (xs.length + m) cap e; omega
        · rw [List.length_append, hnm]; exact grownCap_ge w (xs.length + m) cap e
      · refine H.swap (w' := w.drew.alloc _) hM (fun p hp => by rw [List.mem_singleton.1 hp]; exact hb) rfl rfl rfl (by simp) (fun k hk => heap_alloc w.drew _ k hk) ?_ (Nat.le_refl _)
        rw [heap_alloc_new]
        congr 2
        apply Array.ext'; simp
    · have hst := run_storeCells_at P b (pre.length + xs.length) e news 0 (pre ++ (xs ++ sp)).toArray w hblk (by simp; omega) hs.one
      simp only [Nat.add_zero] at hst
      have hrun : (Builtin.append_ #[t, tx] ty #[sl b pre.length xs.length cap, u]).run P w = .ok (sl b pre.length (xs.length + m) cap) (w.setRow b ((pre ++ (xs ++ sp)).take (pre.length + xs.length) ++ news ++ (pre ++ (xs ++ sp)).drop (pre.length + xs.length + news.length)).toArray) := by
        rw [← hsz] at hs
        have h1 : xs.length * i.size = xs.length := by rw [hsz]; simp
        rcases hs.kind with ⟨e', hk⟩ | hk <;> simp [Builtin.append_, run_underlying ht, run_underlying hk, sizeOf, typeInfo, hI, hs.len, hroom, hs.cells, add_none, h1, hst]
      have e1 : (pre ++ (xs ++ sp)).take (pre.length + xs.length) ++ news ++ (pre ++ (xs ++ sp)).drop (pre.length + xs.length + news.length) = pre ++ ((xs ++ news) ++ sp.drop news.length) := by
        rw [List.take_length_add_append, List.take_left, Nat.add_assoc, List.drop_length_add_append, List.drop_length_add_append]
        simp
      rw [e1] at hrun
      refine ⟨_, _, _, ?_, H.setM hM (c' := pre ++ ((xs ++ news) ++ sp.drop news.length)), by rw [hrun]; rfl⟩
      refine .inr ⟨b, pre.length, cap, pre, sp.drop news.length, by rw [List.length_append, hnm], hb, rfl, rfl, ?_, ?_⟩
      · rw [List.length_append, List.length_drop, hnm]; omega
      · rw [List.length_append, hnm]; exact hroom
end
end Go.Proofs.YtlpmfldijgdcoaaGreatDoor.Fx

/-
  Tests of several parts: the ways through the parts meet again behind them.
-/
namespace Go.Proofs.YtlpmfldijgdcoaaGreatDoor.Fx
open Go

theorem wp_monoQ {P : Program} {o : Oper} {a : Act} {w : World} {K K' : Act → World → Prop} {Q Q' : Exit → Act → World → Prop} (h : ∀ a w, K a w → K' a w)
    (hp : ∀ c a w, Q (.panic c) a w → Q' (.panic c) a w) (ho : LetsOut Q → LetsOut Q') (hh : o.wp P a w K Q) : o.wp P a w K' Q' := by
  unfold Oper.wp at *
  generalize (execOp a.eval o).run P w = r at *
  cases r with
  | ok n w' =>
    cases n <;> simp only [Oper.upon] at hh ⊢ <;>
      first
        | exact h _ _ hh
        | exact Calls.mono hh (fun e w'' he => by cases e <;> first | exact h _ _ he | exact hp _ _ _ he | exact ho he)
        | exact Rows.mono hh (fun _ _ he => h _ _ he)
  | halt x w' => cases x <;> simp only [Oper.upon] at hh ⊢ <;> first | exact hp _ _ _ hh | exact hh

section
variable {P : Program} {n : Nat} {ops : Array Oper} {kn : Env → World → Prop} {l : List Oper} {E : Env} {w0 w : World} {L : List (Nat × Obj)}

theorem wpList_app {Q : Exit → Act → World → Prop} {l2 : List Oper} : ∀ (l1 : List Oper) (a : Act) (w : World),
    wpList P ops (fun e a w => match e with | .normal => wpList P ops Q l2 a w | _ => False) l1 a w → wpList P ops Q (l1 ++ l2) a w
  | [], a, w, h => h
  | o :: l1, a, w, h => by
    rw [List.cons_append]
    unfold wpList at h ⊢
    split
    · rename_i hw
      rw [if_pos hw] at h
      rcases h with h | ⟨_, a', w', h⟩
      · exact .inl (wp_monoQ (fun a w h => wpList_app l1 a w h) (fun _ _ _ h => h.elim) (fun ⟨_, _, h⟩ => h.elim) h)
      · exact h.elim
    · rename_i hw
      rw [if_neg hw] at h
      exact wpList_app l1 _ _ h

theorem WL_app {l2 : List Oper} {kn1 : Env → World → Prop} (h : WL P n ops kn1 l E w) (k : ∀ E' w', kn1 E' w' → WL P n ops kn l2 E' w') : WL P n ops kn (l ++ l2) E w := by
  refine ⟨fun Q hQ a ha => ?_⟩
  exact wpList_app l a w (h.out _ (fun a E' w' ha hk => (k E' w' hk).out Q hQ a ha) a ha)

/-- Behind the first k operations this slot holds v, and what is in sight is as it was. -/
theorem WL_join (k t : Nat) (D : List (Nat × Nat)) (v : Value) (h1 : WL P n ops (fun E' w' => Same D E' E ∧ E' t = v ∧ Hp w0 L w') (l.take k) E w)
    (h2 : ∀ E' w', Hp w0 L w' → WL P n ops kn (l.drop k) (ovr D (know E' t v) E) w') : WL P n ops kn l E w := by
  rw [← List.take_append_drop k l]
  refine WL_app h1 ?_
  rintro E' w' ⟨hS, ht, hH⟩
  have := h2 E' w' hH
  rwa [know_eq ht, ovr_eq hS] at this

theorem WL_orK (k tj t : Nat) (D : List (Nat × Nat)) (_H : Hp w0 L w) {a q : Prop} {ia : Decidable a} {iq : Decidable q} (hc : E tj = .bool (@decide a ia))
    (h1 : ¬ a → WL P n ops (fun E' w' => Same D E' (know E tj (.bool false)) ∧ E' t = .bool (@decide q iq) ∧ Hp w0 L w') (l.take k) (know E tj (.bool false)) w)
    (h0 : a → WL P n ops (fun E' w' => Same D E' (know E tj (.bool true)) ∧ E' t = .bool true ∧ Hp w0 L w') (l.take k) (know E tj (.bool true)) w)
    (h2 : ∀ E' w', Hp w0 L w' → WL P n ops kn (l.drop k) (ovr D (know E' t (.bool (@decide (a ∨ q) (@instDecidableOr a q ia iq)))) E) w') : WL P n ops kn l E w := by
  refine WL_join k t D (.bool (@decide (a ∨ q) (@instDecidableOr a q ia iq))) ?_ h2
  by_cases ha : a
  · have h := h0 ha
    have e : E tj = .bool true := by rw [hc]; exact congrArg Value.bool (decide_eq_true ha)
    rw [know_eq e] at h
    have e2 : @decide (a ∨ q) (@instDecidableOr a q ia iq) = true := decide_eq_true (.inl ha)
    rw [e2]; exact h
  · have h := h1 ha
    have e : E tj = .bool false := by rw [hc]; exact congrArg Value.bool (decide_eq_false ha)
    rw [know_eq e] at h
    have e2 : @decide (a ∨ q) (@instDecidableOr a q ia iq) = @decide q iq := by
      by_cases hq : q
      · exact (decide_eq_true (.inr hq)).trans (decide_eq_true hq).symm
      · exact (decide_eq_false (fun h => h.elim ha hq)).trans (decide_eq_false hq).symm
    rw [e2]; exact h

theorem WL_andK (k tj t : Nat) (D : List (Nat × Nat)) (_H : Hp w0 L w) {a q : Prop} {ia : Decidable a} {iq : Decidable q} (hc : E tj = .bool (@decide a ia))
    (h1 : a → WL P n ops (fun E' w' => Same D E' (know E tj (.bool true)) ∧ E' t = .bool (@decide q iq) ∧ Hp w0 L w') (l.take k) (know E tj (.bool true)) w)
    (h0 : ¬ a → WL P n ops (fun E' w' => Same D E' (know E tj (.bool false)) ∧ E' t = .bool false ∧ Hp w0 L w') (l.take k) (know E tj (.bool false)) w)
    (h2 : ∀ E' w', Hp w0 L w' → WL P n ops kn (l.drop k) (ovr D (know E' t (.bool (@decide (a ∧ q) (@instDecidableAnd a q ia iq)))) E) w') : WL P n ops kn l E w := by
  refine WL_join k t D (.bool (@decide (a ∧ q) (@instDecidableAnd a q ia iq))) ?_ h2
  by_cases ha : a
  · have h := h1 ha
    have e : E tj = .bool true := by rw [hc]; exact congrArg Value.bool (decide_eq_true ha)
    rw [know_eq e] at h
    have e2 : @decide (a ∧ q) (@instDecidableAnd a q ia iq) = @decide q iq := by
      by_cases hq : q
      · exact (decide_eq_true ⟨ha, hq⟩).trans (decide_eq_true hq).symm
      · exact (decide_eq_false (fun h => hq h.2)).trans (decide_eq_false hq).symm
    rw [e2]; exact h
  · have h := h0 ha
    have e : E tj = .bool false := by rw [hc]; exact congrArg Value.bool (decide_eq_false ha)
    rw [know_eq e] at h
    have e2 : @decide (a ∧ q) (@instDecidableAnd a q ia iq) = false := decide_eq_false (fun h => ha h.1)
    rw [e2]; exact h

theorem decV {v : Value} {b : Bool} (h : v = .bool b) : v = .bool (decide (b = true)) := by rw [h]; cases b <;> rfl
end
end Go.Proofs.YtlpmfldijgdcoaaGreatDoor.Fx

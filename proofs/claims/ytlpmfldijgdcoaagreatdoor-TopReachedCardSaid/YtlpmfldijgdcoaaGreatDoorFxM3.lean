/-
  make, literals of structs, arrays and slices; append, copy; bytes and strings.
-/
import Derived.Test.YtlpmfldijgdcoaaGreatDoorFxM1
import Derived.Deep.AppendSrc
import Derived.Laws.Tables
import Derived.Conc.LoneSelect
namespace Go.Proofs.YtlpmfldijgdcoaaGreatDoor.Fx
open Go

section
variable {P : Program} {E : Env} {w0 w : World} {L : List (Nat × Obj)}
variable {d : Option Nat} {ty : TypeId} {pos : String} {after : Array Edge}

/-! ### values of structs and arrays -/
theorem R_build {t : TypeId} {parts : Array (Nat × Operand)} {ps : List (Nat × Value)} {vs : List Value} (hp : parts.toList.map (fun p => (p.1, ev E p.2)) = ps)
    (hb : P.built t ps = some vs.toArray) : (execOp (ev E) (mk d (.build t parts) ty pos after)).run P w = .ok (.value (.agg vs.toArray)) w := by
  have := run_build (P := P) w t (parts.map fun (i, x) => (i, ev E x)) vs.toArray (by subst hp; simpa using hb)
  simp [execOp, this]

/-! ### new rows -/
theorem zeros_eq (zs : List Value) (c : Nat) : ((Array.range (c * zs.length)).map (zs.toArray[· % zs.toArray.size]!)) = (List.replicate c zs).flatten.toArray := by
  apply Array.ext
  · simp
  · intro i h1 h2
    have hi : i < c * zs.length := by simpa using h1
    have hz : 0 < zs.length := by
      rcases Nat.eq_zero_or_pos zs.length with h | h
      · rw [h] at hi; simp at hi
      · exact h
    have key : ∀ (c i : Nat), i < c * zs.length → (List.replicate c zs).flatten[i]? = zs[i % zs.length]? := by
      intro c
      induction c with
      | zero => intro i hi; simp at hi
      | succ c ih =>
        intro i hi
        rw [List.replicate_succ, List.flatten_cons, List.getElem?_append]
        split
        · rename_i hlt; rw [Nat.mod_eq_of_lt hlt]
        · rename_i hlt
          rw [ih (i - zs.length) (by rw [Nat.succ_mul] at hi; omega)]
          rw [← Nat.mod_eq_sub_mod (by omega)]
    have hm : i % zs.length < zs.length := Nat.mod_lt _ hz
    have e1 := key c i hi
    rw [List.getElem?_eq_getElem hm, List.getElem?_eq_some_iff] at e1
    obtain ⟨_, e1⟩ := e1
    simp only [Array.getElem_map, Array.getElem_range, List.size_toArray, List.getElem!_toArray, List.getElem_toArray, getElem!_pos zs (i % zs.length) hm]
    exact e1.symm

theorem replicate_one (c : Nat) (z : Value) : (List.replicate c [z]).flatten = List.replicate c z := by
  induction c with
  | zero => rfl
  | succ c ih => rw [List.replicate_succ, List.flatten_cons, ih, List.replicate_succ]; rfl

theorem E_makeSliceA {t elem : TypeId} {x y : Operand} {k k' : IntKind} {m c : Int} {sz : Nat} {i : TypeInfo} {z : Value} {zs : List Value} (H : Hp w0 L w) (ht : P.underlying t = some (.slice elem))
    (hS : ∀ w, (sizeOf elem).run P w = .ok sz w) (hI : ∀ w, (typeInfo elem).run P w = .ok i w) (hZ : ∀ w, (zeroValue elem).run P w = .ok z w) (hz : z.cells = zs.toArray) (hzl : zs.length = sz)
    (hx : ev E x = .int k m) (hy : ev E y = .int k' c) (h0 : 0 ≤ m) (h1 : m ≤ c) (hc : c ≤ 9223372036854775807) (hb : (i.bytes : Int) * c ≤ 281474976710656) :
    ∃ b w', w0.heap.size ≤ b ∧ Hp w0 ((b, blk (List.replicate c.toNat zs).flatten elem) :: L) w' ∧ (execOp (ev E) (mk d (.makeSlice t x y) ty pos after)).run P w = .ok (.value (sl b 0 m.toNat c.toNat)) w' := by
  have e1 : IntKind.i64.wrap m = m := by simp [IntKind.wrap, IntKind.bits, IntKind.signed]; omega
  have e2 : IntKind.i64.wrap c = c := by simp [IntKind.wrap, IntKind.bits, IntKind.signed]; omega
  have h2 : ¬ (c < 0) := by omega
  have h3 : ¬ (m < 0) := by omega
  have h4 : ¬ (c < m) := by omega
  have h5 : ¬ (281474976710656 < (i.bytes : Int) * c) := by omega
  refine E_new (v := fun b => sl b 0 m.toNat c.toNat) H ?_
  by_cases hz0 : c.toNat * sz = 0
  · have hrow : (Array.range 0).map ((#[] : Array Value)[· % (#[] : Array Value).size]!) = (List.replicate c.toNat zs).flatten.toArray := by
      rw [← zeros_eq, hzl, hz0]; simp
    simp only [execOp, hx, hy, Instr.makeSlice, run_underlying ht, asInt, asIntOf, hI, hS, Sem.run_bind, Sem.run_pure, Result.andThen_ok, e1, e2, h2, h3, h4, h5, decide_false, Bool.or_self, Bool.false_eq_true, if_false, gt_iff_lt, Int.reducePow, run_askRoom, newRow, hz0, if_true, hrow, run_newObj]
    rfl
  · have hrow : (Array.range (c.toNat * sz)).map (zs.toArray[· % zs.toArray.size]!) = (List.replicate c.toNat zs).flatten.toArray := by
      rw [← hzl]; exact zeros_eq zs c.toNat
    simp only [execOp, hx, hy, Instr.makeSlice, run_underlying ht, asInt, asIntOf, hI, hS, Sem.run_bind, Sem.run_pure, Result.andThen_ok, e1, e2, h2, h3, h4, h5, decide_false, Bool.or_self, Bool.false_eq_true, if_false, gt_iff_lt, Int.reducePow, run_askRoom, newRow, hz0, hZ, hz, hrow, run_newObj]
    rfl

theorem E_makeSlice {t elem : TypeId} {x y : Operand} {k k' : IntKind} {m c : Int} {i : TypeInfo} {z : Value} (H : Hp w0 L w) (ht : P.underlying t = some (.slice elem))
    (hS : ∀ w, (sizeOf elem).run P w = .ok 1 w) (hI : ∀ w, (typeInfo elem).run P w = .ok i w) (hZ : ∀ w, (zeroValue elem).run P w = .ok z w) (hz : z.cells = #[z])
    (hx : ev E x = .int k m) (hy : ev E y = .int k' c) (h0 : 0 ≤ m) (h1 : m ≤ c) (hc : c ≤ 9223372036854775807) (hb : (i.bytes : Int) * c ≤ 281474976710656) :
    ∃ b w', w0.heap.size ≤ b ∧ Hp w0 ((b, blk (List.replicate c.toNat z) elem) :: L) w' ∧ (execOp (ev E) (mk d (.makeSlice t x y) ty pos after)).run P w = .ok (.value (sl b 0 m.toNat c.toNat)) w' := by
  have h := E_makeSliceA (d := d) (ty := ty) (pos := pos) (after := after) (zs := [z]) H ht hS hI hZ hz rfl hx hy h0 h1 hc hb
  rw [replicate_one] at h
  exact h

theorem E_buildSlice {t elem : TypeId} {len sz : Nat} {parts : Array (Nat × Operand)} {ps : List (Nat × Value)} {vs zs : List Value} {z : Value} (H : Hp w0 L w) (ht : P.underlying t = some (.slice elem))
    (hS : ∀ w, (sizeOf elem).run P w = .ok sz w) (hZ : ∀ w, (zeroValue elem).run P w = .ok z w) (hz : z.cells = zs.toArray) (hzl : zs.length = sz) (hn : len * sz ≤ 16777216)
    (hp : parts.toList.map (fun p => (p.1, ev E p.2)) = ps) (hf : Instr.fill (fun i => some (i * sz, sz)) (List.replicate len zs).flatten.toArray ps = some vs.toArray) :
    ∃ b w', w0.heap.size ≤ b ∧ Hp w0 ((b, blk vs elem) :: L) w' ∧ (execOp (ev E) (mk d (.buildSlice t len parts) ty pos after)).run P w = .ok (.value (sl b 0 len len)) w' := by
  refine E_new (v := fun b => sl b 0 len len) H ?_
  have h2 : ¬ (16777216 < len * sz) := by omega
  have hps : (parts.map fun (i, x) => (i, ev E x)).toList = ps := by subst hp; simp
  by_cases hz0 : len * sz = 0
  · have hrow : (Array.range 0).map ((#[] : Array Value)[· % (#[] : Array Value).size]!) = (List.replicate len zs).flatten.toArray := by
      rw [← zeros_eq, hzl, hz0]; simp
    simp only [execOp, Instr.buildSlice, run_underlying ht, hS, Sem.run_bind, Sem.run_pure, Result.andThen_ok, hz0, if_true, if_false, gt_iff_lt, Nat.reducePow, Nat.not_lt_zero, hrow, hps, hf, newRow, run_newObj]
    rfl
  · have hrow : (Array.range (len * sz)).map (zs.toArray[· % zs.toArray.size]!) = (List.replicate len zs).flatten.toArray := by
      rw [← hzl]; exact zeros_eq zs len
    simp only [execOp, Instr.buildSlice, run_underlying ht, hS, Sem.run_bind, Sem.run_pure, Result.andThen_ok, h2, if_false, gt_iff_lt, Nat.reducePow, hz0, hZ, hz, hrow, hps, hf, newRow, run_newObj]
    rfl

/-- for the reckoning of a literal's cells -/
def zrow (len : Nat) (z : Value) : Array Value := (List.replicate len z.cells.toList).flatten.toArray
def fillRow (sz : Nat) (zs : Array Value) (ps : List (Nat × Value)) : Option (Array Value) := Instr.fill (fun i => some (i * sz, sz)) zs ps

/-! ### append -/
/-- A slice of the call's own: nil, or at the head of a block that B does not reach. -/
def OwnS (B : Nat) (e : TypeId) (sz : Nat) (v : Value) (len : Nat) (xs : List Value) (M : List (Nat × Obj)) : Prop :=
  xs.length = len * sz ∧ ((v = nilS ∧ len = 0 ∧ M = []) ∨
    ∃ b cap sp, v = sl b 0 len cap ∧ B ≤ b ∧ M = [(b, blk (xs ++ sp) e)] ∧ sp.length = (cap - len) * sz ∧ len ≤ cap)

theorem OwnS.nil (B : Nat) (e : TypeId) (sz : Nat) : OwnS B e sz nilS 0 [] [] := ⟨by simp, .inl ⟨rfl, rfl, rfl⟩⟩
theorem OwnS.new {B b len cap sz : Nat} {e : TypeId} {xs sp : List Value} (hb : B ≤ b) (h1 : xs.length = len * sz) (h2 : sp.length = (cap - len) * sz) (h3 : len ≤ cap) :
    OwnS B e sz (sl b 0 len cap) len xs [(b, blk (xs ++ sp) e)] := ⟨h1, .inr ⟨b, cap, sp, rfl, hb, rfl, h2, h3⟩⟩

theorem Hp.atM {M : List (Nat × Obj)} {f} {b : Nat} {o : Obj} (H : Hp w0 L w) (h : AtM L M f) (hm : (b, o) ∈ M) : w.heap[b]? = some o := by
  obtain ⟨A, B, e, _⟩ := h.split
  exact H.held (b, o) (by rw [e]; simp [hm])

/-- A part of the list gives way to a new block. -/
theorem Hp.swap {w' : World} {M : List (Nat × Obj)} {f} {o : Obj} {b : Nat} (H : Hp w0 L w) (h : AtM L M f) (hM : ∀ p ∈ M, w0.heap.size ≤ p.1) (hos : w'.os = w.os) (htape : w'.tape = w.tape) (hout : w'.output = w.output)
    (hsize : w.heap.size ≤ w'.heap.size) (hsame : ∀ k, k < w.heap.size → w'.heap[k]? = w.heap[k]?) (hb : w'.heap[b]? = some o) (hnew : w.heap.size ≤ b) : Hp w0 (f [(b, o)]) w' := by
  obtain ⟨A, B, e, hf⟩ := h.split
  subst e
  rw [hf]
  have H1 := (H.same hos htape hout hsize hsame).focus hb (H.fresh hnew)
  have H2 : Hp w0 ((b, o) :: (A ++ B)) w' := by
    refine H1.drop (M := (b, o) :: (A ++ B)) ?_ ?_
    · exact ((List.Sublist.refl A).append (List.sublist_append_right M B)).cons_cons _
    · intro p hp hn
      simp only [List.mem_cons, List.mem_append, not_or] at hp hn
      rcases hp with hp | hp | hp | hp
      · exact (hn.1 hp).elim
      · exact (hn.2.1 hp).elim
      · exact hM p hp
      · exact (hn.2.2 hp).elim
  exact H2.perm List.perm_middle.symm

theorem Hp.setM {c c' : List Value} {e : TypeId} {b : Nat} {f} (H : Hp w0 L w) (h : AtM L [(b, blk c e)] f) : Hp w0 (f [(b, blk c' e)]) (w.setRow b c'.toArray) := by
  obtain ⟨A, B, e1, hf⟩ := h.split
  subst e1
  rw [hf]
  have hat : ∀ A : List (Nat × Obj), ∃ g, At (A ++ ([(b, blk c e)] ++ B)) b (blk c e) g ∧ ∀ o, g o = A ++ ([(b, o)] ++ B) := by
    intro A
    induction A with
    | nil => exact ⟨_, .here, fun _ => rfl⟩
    | cons p A ih =>
      obtain ⟨g, h1, h2⟩ := ih
      exact ⟨_, .there h1, fun o => congrArg (p :: ·) (h2 o)⟩
  obtain ⟨g, h1, h2⟩ := hat A
  rw [← h2]
  exact H.setRow h1

theorem info_of_run {e : TypeId} {i : TypeInfo} (h : ∀ w, (typeInfo e).run P w = .ok i w) (w : World) : P.info? e = some i := by
  have h1 := h w
  simp only [typeInfo, Sem.run_bind, run_program, Result.andThen_ok] at h1
  cases hq : P.info? e with
  | none => simp [hq] at h1
  | some j => simp [hq] at h1; rw [h1]

theorem E_append {t tx e : TypeId} {sz m len : Nat} {v u : Value} {xs news zs : List Value} {z : Value} {i : TypeInfo} {M : List (Nat × Obj)} {f} {x y : Operand} (H : Hp w0 L w) (hM : AtM L M f) (ho : OwnS w0.heap.size e sz v len xs M)
    (ht : P.underlying t = some (.slice e)) (hI0 : ∀ w, (typeInfo e).run P w = .ok i w) (hsz : i.size = sz) (hZ : i.zero = some z) (hz : z.cells = zs.toArray) (hzl : zs.length = sz)
    (hx : ev E x = v) (hy : ev E y = u) (hs : Src P sz tx u m news w) (hlen : len + m ≤ 9223372036854775807) (hby : (len + m) * i.bytes ≤ 140737488355328) :
    ∃ v' M' w', OwnS w0.heap.size e sz v' (len + m) (xs ++ news) M' ∧ Hp w0 (f M') w' ∧ (execOp (ev E) (mk d (bi .append #[x, y] #[t, tx]) ty pos after)).run P w = .ok (.value v') w' := by
  subst hsz
  have hI : P.info? e = some i := info_of_run hI0 w
  have hnl : (xs ++ news).length = (len + m) * i.size := by rw [List.length_append, ho.1, hs.newsLen, Nat.add_mul]
  have hexec : (execOp (ev E) (mk d (bi .append #[x, y] #[t, tx]) ty pos after)).run P w = ((Builtin.append_ #[t, tx] ty #[v, u]).run P w).andThen fun a w' => .ok (.value a) w' := by
    subst hx hy
    simp [execOp, resolve, invoke, builtin]
  rw [hexec]
  have hzc : ∀ k, (Builtin.zeroCells z.cells k).toList.length = k * i.size := by
    intro k; rw [hz]; simp [Builtin.zeroCells, hzl]
  rcases ho.2 with ⟨rfl, rfl, rfl⟩ | ⟨b, cap, sp, rfl, hb, rfl, hspl, hcap⟩
  · have hxs : xs = [] := List.length_eq_zero_iff.1 (by simpa using ho.1)
    subst hxs
    rcases Nat.eq_zero_or_pos m with rfl | hm
    · have hn : news = [] := List.length_eq_zero_iff.1 (by simpa using hs.newsLen)
      subst hn
      refine ⟨nilS, [], w, OwnS.nil _ _ _, ?_, ?_⟩
      · obtain ⟨A, B, e1, hf⟩ := hM.split
        rw [hf]; subst e1; exact H
      · rcases hs.kind with ⟨e', hk⟩ | hk <;> simp [Builtin.append_, run_underlying ht, run_underlying hk, sizeOf, typeInfo, hI, hs.len, hs.cells]
    · have hfit : Builtin.nextslicecap (0 + m) 0 * i.bytes ≤ 281474976710656 := by
        rw [Nat.zero_add, nextslicecap_zero hm]; simp only [Nat.zero_add] at hby; omega
      have hr := run_append_grow_src (w := w) (ty := ty) t tx e i z ht hI hZ none 0 0 [] (by simp [Builtin.firstCells]) u m news hs (by omega) (by omega) hfit
      refine ⟨_, [((w.drew).heap.size, blk ((([] : List Value) ++ news) ++ (Builtin.zeroCells z.cells (grownCap w (0 + m) 0 e - (0 + m))).toList) e)], _, ?_, ?_, by rw [hr]; rfl⟩
      · exact OwnS.new H.size hnl (hzc _) (grownCap_ge w (0 + m) 0 e)
      · refine H.swap (w' := w.drew.alloc _) hM (fun p hp => by cases hp) rfl rfl rfl (by simp) (fun k hk => heap_alloc w.drew _ k hk) ?_ (Nat.le_refl _)
        rw [heap_alloc_new]
        congr 2
        apply Array.ext'; simp
  · have hblk := H.atM hM (.head _)
    rcases Nat.lt_or_ge cap (len + m) with hg | hroom
    · have hfit : Builtin.nextslicecap (len + m) cap * i.bytes ≤ 281474976710656 := growslice_fits hg hby
      have hold : (Builtin.firstCells i.size len (sl b 0 len cap)).run P w.drew = .ok xs.toArray w.drew := by
        refine run_firstCells_some w.drew i.size len _ len cap xs ho.1 (fun j u hj => ?_)
        rw [add_none, World.cell?_drew, cell_blk hblk]
        rw [Nat.zero_add, List.getElem?_append_left (List.getElem?_eq_some_iff.1 hj).1]
        exact hj
      have hr := run_append_grow_src (w := w) (ty := ty) t tx e i z ht hI hZ (some ⟨b, 0, none⟩) len cap xs hold u m news hs hg (by omega) hfit
      refine ⟨_, [((w.drew).heap.size, blk ((xs ++ news) ++ (Builtin.zeroCells z.cells (grownCap w (len + m) cap e - (len + m))).toList) e)], _, ?_, ?_, by rw [hr]; rfl⟩
      · exact OwnS.new H.size hnl (hzc _) (grownCap_ge w (len + m) cap e)
      · refine H.swap (w' := w.drew.alloc _) hM (fun p hp => by rw [List.mem_singleton.1 hp]; exact hb) rfl rfl rfl (by simp) (fun k hk => heap_alloc w.drew _ k hk) ?_ (Nat.le_refl _)
        rw [heap_alloc_new]
        congr 2
        apply Array.ext'; simp
    · have hle : len * i.size + news.length ≤ (xs ++ sp).length := by
        rw [List.length_append, ho.1, hspl, hs.newsLen, ← Nat.add_mul, ← Nat.add_mul]
        exact Nat.mul_le_mul_right _ (by omega)
      have hst := run_storeCells_at P b (len * i.size) e news 0 (xs ++ sp).toArray w hblk (by simpa using hle) hs.one
      simp only [Nat.add_zero] at hst
      have hrun : (Builtin.append_ #[t, tx] ty #[sl b 0 len cap, u]).run P w = .ok (sl b 0 (len + m) cap) (w.setRow b ((xs ++ sp).take (len * i.size) ++ news ++ (xs ++ sp).drop (len * i.size + news.length)).toArray) := by
        rcases hs.kind with ⟨e', hk⟩ | hk <;> simp [Builtin.append_, run_underlying ht, run_underlying hk, sizeOf, typeInfo, hI, hs.len, hroom, hs.cells, add_none, hst]
      have e1 : (xs ++ sp).take (len * i.size) ++ news ++ (xs ++ sp).drop (len * i.size + news.length) = (xs ++ news) ++ sp.drop news.length := by
        rw [← ho.1, List.take_left, List.drop_append]
        simp
      rw [e1] at hrun
      refine ⟨_, _, _, ?_, H.setM hM (c' := (xs ++ news) ++ sp.drop news.length), by rw [hrun]; rfl⟩
      refine OwnS.new hb hnl ?_ hroom
      rw [List.length_drop, hspl, hs.newsLen, ← Nat.sub_mul]
      congr 1
      omega

end
end Go.Proofs.YtlpmfldijgdcoaaGreatDoor.Fx

/-
  A select with one case and a default, where nothing else runs.
-/
namespace Go.Proofs.YtlpmfldijgdcoaaGreatDoor.Fx
open Go Go.Conc

section
variable {P : Program} {n : Nat} {kn : Env → World → Prop} {kx : Nat → Env → World → Prop} {kr : Env → World → Prop} {l : List Oper} {E : Env} {w0 w : World} {L : List (Nat × Obj)}
variable {d : Option Nat} {ty : TypeId} {pos : String} {after : Array Edge}

abbrev selOp (c : Operand) (s : Option Operand) (elem : TypeId) : Op := .select #[{ chan := c, send := s, elem := elem }] false

end
end Go.Proofs.YtlpmfldijgdcoaaGreatDoor.Fx

/-
  A region that draws its order: operations that only read, in memory of which it is known what they read, may be taken first; what writes comes behind.
-/
namespace Go.Proofs.YtlpmfldijgdcoaaGreatDoor.Fx
open Go

section
variable {P : Program} {ops : Array Oper} {C : World → Prop} {tl : Nat → Bool} {Q : Act → World → Prop}

/-- One operation, which does not panic. -/
def opA (P : Program) (o : Oper) (a : Act) (w : World) (K : Act → World → Prop) : Prop :=
  (∃ v w', (execOp a.eval o).run P w = .ok (.value v) w' ∧ K (a.put o.dst v) w') ∨
  (∃ w', (execOp a.eval o).run P w = .ok .skip w' ∧ K (a.put o.dst undef) w') ∨
  (∃ f args w', (execOp a.eval o).run P w = .ok (.enter f args) w' ∧ Ret P f args w' fun v w'' => K (a.put o.dst v) w'')

/-- Operation i comes up. -/
def opI (P : Program) (ops : Array Oper) (i : Nat) (K : Act → World → Prop) (a : Act) (w : World) : Prop :=
  match ops[i]? with
  | none => False
  | some o => if Region.wanted o (yielded ops a.tmps) then opA P o a w K else K (a.put o.dst undef) w

/-- Whatever comes up, from here on; what is known of the memory stays so till the tail. -/
def anyC (P : Program) (ops : Array Oper) (C : World → Prop) (tl : Nat → Bool) (Q : Act → World → Prop) : Nat → Array Bool → Act → World → Prop
  | 0, listed, a, w => Region.ready .any ops listed = [] ∧ Q a w
  | f + 1, listed, a, w => (Region.ready .any ops listed = [] → Q a w) ∧
    ∀ i ∈ Region.ready .any ops listed, opI P ops i (fun a' w' => (tl i = false → C w') ∧ anyC P ops C tl Q f (listed.setIfInBounds i true) a' w') a w

theorem opA.mono {o : Oper} {a : Act} {w : World} {K K' : Act → World → Prop} (h : opA P o a w K) (hk : ∀ a w, K a w → K' a w) : opA P o a w K' := by
  rcases h with ⟨v, w', h1, h2⟩ | ⟨w', h1, h2⟩ | ⟨f, args, w', h1, h2⟩
  · exact .inl ⟨v, w', h1, hk _ _ h2⟩
  · exact .inr (.inl ⟨w', h1, hk _ _ h2⟩)
  · exact .inr (.inr ⟨f, args, w', h1, h2.mono fun _ _ h => hk _ _ h⟩)

theorem opI.mono {i : Nat} {a : Act} {w : World} {K K' : Act → World → Prop} (h : opI P ops i K a w) (hk : ∀ a w, K a w → K' a w) : opI P ops i K' a w := by
  unfold opI at *
  split
  · rename_i ho; simp only [ho] at h
  · rename_i o ho
    simp only [ho] at h
    split
    · rename_i hw; rw [if_pos hw] at h; exact h.mono hk
    · rename_i hw; rw [if_neg hw] at h; exact hk _ _ h

theorem wp_of_opA {o : Oper} {a : Act} {w : World} {K : Act → World → Prop} {Q' : Exit → Act → World → Prop} (h : opA P o a w K) : o.wp P a w K Q' := by
  unfold Oper.wp
  rcases h with ⟨v, w', h1, h2⟩ | ⟨w', h1, h2⟩ | ⟨f, args, w', h1, h2⟩
  · rw [h1]; exact h2
  · rw [h1]; exact h2
  · rw [h1]
    exact Calls.mono h2.out (by rintro e w ⟨v, rfl, h⟩; exact h)

theorem wpOp_of_opI {i : Nat} {a : Act} {w : World} {K : Act → World → Prop} {Q' : Exit → Act → World → Prop} (h : opI P ops i K a w) : wpOp P ops Q' i K a w := by
  unfold opI at h
  unfold wpOp
  split
  · rename_i ho; simp only [ho] at h
  · rename_i o ho
    simp only [ho] at h
    split
    · rename_i hw; rw [if_pos hw] at h; exact .inl (wp_of_opA h)
    · rename_i hw; rw [if_neg hw] at h; exact h

theorem wpAny_of_anyC {Q' : Exit → Act → World → Prop} (hQ : ∀ a w, Q a w → Q' .normal a w) : ∀ (f : Nat) (listed : Array Bool) (a : Act) (w : World), anyC P ops C tl Q f listed a w → wpAny P .any ops Q' f listed a w
  | 0, _, _, _, h => ⟨h.1, hQ _ _ h.2⟩
  | f + 1, _, _, _, h => ⟨fun h0 => hQ _ _ (h.1 h0), fun i hi => wpOp_of_opI ((h.2 i hi).mono fun a w h => wpAny_of_anyC hQ f _ a w h.2)⟩

/-- What comes in the tail waits for all that is not of it. -/
def tailB (ops : Array Oper) (tl : Nat → Bool) : Bool :=
  (List.range ops.size).all fun t => !tl t || (List.range ops.size).all fun i => tl i || ((ops[t]?).map fun o => o.after.any fun e => Region.binds .any e && e.on == i).getD false

theorem tailB_spec (h : tailB ops tl = true) {t i : Nat} {ot : Oper} (hot : ops[t]? = some ot) (hi : i < ops.size) (ht : tl t = true) (hti : tl i = false) :
    ∃ e ∈ ot.after, Region.binds .any e = true ∧ e.on = i := by
  have hlt : t < ops.size := (Array.getElem?_eq_some_iff.1 hot).1
  have h1 := List.all_eq_true.1 h t (List.mem_range.2 hlt)
  simp only [ht, Bool.not_true, Bool.false_or] at h1
  have h2 := List.all_eq_true.1 h1 i (List.mem_range.2 hi)
  simp only [hti, Bool.false_or, hot, Option.map_some, Option.getD_some] at h2
  obtain ⟨e, he, hb⟩ := Array.any_eq_true'.1 h2
  simp only [Bool.and_eq_true, beq_iff_eq] at hb
  exact ⟨e, he, hb.1, hb.2⟩

/-- In every memory of the class the operation yields this, or is passed over. -/
def Yc (P : Program) (ops : Array Oper) (C : World → Prop) (o : Oper) (v : Value) (a : Act) : Prop :=
  (Region.wanted o (yielded ops a.tmps) = true ∧ ∀ w, C w → (execOp a.eval o).run P w = .ok (.value v) w) ∨ (Region.wanted o (yielded ops a.tmps) = false ∧ v = undef)

theorem Yc.opI {i : Nat} {o : Oper} {v : Value} {a : Act} {w : World} (hi : ops[i]? = some o) (hy : Yc P ops C o v a) (hC : C w) {K : Act → World → Prop} (h : K (a.put o.dst v) w) : opI P ops i K a w := by
  unfold Fx.opI
  simp only [hi]
  rcases hy with ⟨hw, hv⟩ | ⟨hw, rfl⟩
  · rw [if_pos hw]; exact .inl ⟨v, w, hv w hC, h⟩
  · rw [if_neg (by rw [hw]; exact Bool.false_ne_true)]; exact h

theorem Yc.put {o oj : Oper} {v u : Value} {a : Act} (hs : ∀ cs b, o.op ≠ .select cs b) (h : ∀ d, oj.dst = some d → d ∉ o.looksAt ops) (hy : Yc P ops C o v a) : Yc P ops C o v (a.put oj.dst u) := by
  unfold Yc at *
  rw [wanted_put o a oj.dst u h, execOp_put o hs a oj.dst u h]
  exact hy

theorem opI_put {j : Nat} {oi oj : Oper} {v : Value} {a : Act} {w : World} {K : Act → World → Prop} (hj : ops[j]? = some oj) (hap : oi.apart ops oj = true)
    (hsi : ∀ cs b, oi.op ≠ .select cs b) (hsj : ∀ cs b, oj.op ≠ .select cs b) (hy : Yc P ops C oi v a) (h : opI P ops j K (a.put oi.dst v) w) :
    opI P ops j (fun a' w' => Yc P ops C oi v a' ∧ K (a'.put oi.dst v) w') a w := by
  obtain ⟨h1, h2, h3⟩ := Oper.apart_spec hap
  unfold opI at *
  simp only [hj] at *
  rw [wanted_put oj a oi.dst v h1] at h
  split
  · rename_i hw
    rw [if_pos hw] at h
    unfold opA at h ⊢
    rw [execOp_put oj hsj a oi.dst v h1] at h
    rcases h with ⟨u, w', e, hk⟩ | ⟨w', e, hk⟩ | ⟨f, args, w', e, hk⟩
    · exact .inl ⟨u, w', e, hy.put hsi h3, by rw [← Act.put_comm a v u h2]; exact hk⟩
    · exact .inr (.inl ⟨w', e, hy.put hsi h3, by rw [← Act.put_comm a v undef h2]; exact hk⟩)
    · exact .inr (.inr ⟨f, args, w', e, hk.mono fun u _ hk => ⟨hy.put hsi h3, by rw [← Act.put_comm a v u h2]; exact hk⟩⟩)
  · rename_i hw
    rw [if_neg hw] at h
    exact ⟨hy.put hsi h3, by rw [← Act.put_comm a v undef h2]; exact h⟩

/-- An operation that only reads may be taken first. -/
theorem anyC_take {i : Nat} {oi : Oper} {v : Value} (hi : ops[i]? = some oi) (hsel : ∀ (j : Nat) (o : Oper) cs b, ops[j]? = some o → o.op ≠ .select cs b) (ht : tailB ops tl = true) (hti : tl i = false) :
    ∀ (f : Nat) (listed : Array Bool) (a : Act) (w : World), C w →
      (∀ j oj, ops[j]? = some oj → j ≠ i → listed.getD j true = false → (∀ e ∈ oj.after, Region.binds .any e = true → e.on ≠ i) → oi.apart ops oj = true) →
      i ∈ Region.ready .any ops listed → Yc P ops C oi v a →
      anyC P ops C tl Q f (listed.setIfInBounds i true) (a.put oi.dst v) w → anyC P ops C tl Q (f + 1) listed a w := by
  have hin : i < ops.size := (Array.getElem?_eq_some_iff.1 hi).1
  -- what may come up ahead of i is not of the tail, and does not wait for i
  have look : ∀ (listed : Array Bool) (j : Nat) (oj : Oper), ops[j]? = some oj → i ∈ Region.ready .any ops listed → j ∈ Region.ready .any ops listed →
      tl j = false ∧ ∀ e ∈ oj.after, Region.binds .any e = true → e.on ≠ i := by
    intro listed j oj hoj hr hj
    obtain ⟨_, o', ho', hall⟩ := mem_ready.1 hj
    obtain rfl : o' = oj := Option.some.inj (ho'.symm.trans hoj)
    have hno : ∀ e ∈ o'.after, Region.binds .any e = true → e.on ≠ i := fun e he hb heq => by
      have h1 := hall e he hb
      have h0 := (mem_ready.1 hr).1
      rw [heq] at h1
      rw [Array.getD_eq_getD_getElem?] at h0 h1
      cases hl : listed[i]? with
      | none => rw [hl] at h1; cases h1
      | some x => rw [hl] at h0 h1; simp only [Option.getD_some] at h0 h1; rw [h0] at h1; cases h1
    refine ⟨?_, hno⟩
    cases htj : tl j with
    | false => rfl
    | true =>
      obtain ⟨e, he, hb, hon⟩ := tailB_spec ht hoj hin htj hti
      exact (hno e he hb hon).elim
  intro f
  induction f with
  | zero =>
    intro listed a w hC hfree hr hy H
    refine ⟨fun h => (by rw [h] at hr; cases hr), fun j hj => ?_⟩
    by_cases hji : j = i
    · subst hji
      exact hy.opI hi hC ⟨fun _ => hC, H⟩
    · have := ready_mono hj hji
      rw [H.1] at this
      cases this
  | succ f ih =>
    intro listed a w hC hfree hr hy H
    refine ⟨fun h => (by rw [h] at hr; cases hr), fun j hj => ?_⟩
    by_cases hji : j = i
    · subst hji
      exact hy.opI hi hC ⟨fun _ => hC, H⟩
    · obtain ⟨hjun, oj, hoj, hall⟩ := mem_ready.1 hj
      obtain ⟨htj, hno⟩ := look listed j oj hoj hr hj
      have h1 := H.2 j (ready_mono hj hji)
      have h2 := opI_put hoj (hfree j oj hoj hji hjun hno) (fun cs b => hsel i oi cs b hi) (fun cs b => hsel j oj cs b hoj) hy h1
      refine h2.mono ?_
      rintro a' w' ⟨hy', hC', hK⟩
      refine ⟨hC', ih (listed.setIfInBounds j true) a' w' (hC' htj) ?_ (ready_mono hr (Ne.symm hji)) hy' ?_⟩
      · intro k ok hk hki hun hno'
        refine hfree k ok hk hki ?_ hno'
        by_cases hjk : j = k
        · subst hjk; exact hjun
        · rw [getD_set_ne true hjk] at hun; exact hun
      · rw [Array.setIfInBounds_comm _ _ hji]
        exact hK

end

section
variable {P : Program} {n : Nat} {ops : Array Oper} {C : World → Prop} {tl : Nat → Bool} {kn : Env → World → Prop} {kx : Nat → Env → World → Prop} {kr : Env → World → Prop} {E : Env} {w0 w : World} {L : List (Nat × Obj)}
variable {f : Nat} {listed : Array Bool}

structure WA (P : Program) (n : Nat) (ops : Array Oper) (C : World → Prop) (tl : Nat → Bool) (kn : Env → World → Prop) (f : Nat) (listed : Array Bool) (E : Env) (w : World) : Prop where
  out : ∀ (Q : Act → World → Prop), (∀ a E w, Rep n E a → kn E w → Q a w) → ∀ a, Rep n E a → anyC P ops C tl Q f listed a w

theorem W_draw {id : Nat} (C : World → Prop) (tl : Nat → Bool) (hm : P.follows .mixedOrders = true) (H : Hp w0 L w)
    (h : ∀ w', Hp w0 L w' → WA P n ops C tl kn ops.size (Array.replicate ops.size false) E w') : W P n (.region id ops true) kn kx kr E w := by
  refine ⟨fun a ha => ?_⟩
  refine wp_region_any hm (wpAny_of_anyC (C := C) (tl := tl) (Q := fun a w => ∃ E, Rep n E a ∧ kn E w) (fun a w h => h) _ _ _ _ ?_)
  exact (h _ (H.drawn _)).out _ (fun a E w ha h => ⟨E, ha, h⟩) a ha

theorem WA_done (hr : Region.ready .any ops listed = []) (h : kn E w) : WA P n ops C tl kn f listed E w := by
  refine ⟨fun Q hQ a ha => ?_⟩
  cases f with
  | zero => exact ⟨hr, hQ _ _ _ ha h⟩
  | succ f => exact ⟨fun _ => hQ _ _ _ ha h, fun i hi => by rw [hr] at hi; cases hi⟩

/-- all that is asked of an operation that is to be taken first, but for what it does -/
def takeB (ops : Array Oper) (tl : Nat → Bool) (listed : Array Bool) (i : Nat) : Bool :=
  Region.noSelect ops && Region.free .any ops listed i && (Region.ready .any ops listed).contains i && !tl i

theorem WA_take {i : Nat} {o : Oper} {v : Value} (i0 : Nat) (hi0 : i0 = i) (hi : ops[i]? = some o) (hg : o.guard = none) (ht : tailB ops tl = true) (hb : takeB ops tl listed i = true) (hC : C w)
    (hv : ∀ w, C w → (execOp (ev E) o).run P w = .ok (.value v) w) (h : WA P n ops C tl kn f (listed.setIfInBounds i true) (updo n E o.dst v) w) : WA P n ops C tl kn (f + 1) listed E w := by
  subst hi0
  refine ⟨fun Q hQ a ha => ?_⟩
  simp only [takeB, Bool.and_eq_true, Bool.not_eq_true'] at hb
  obtain ⟨⟨⟨h1, h2⟩, h3⟩, h4⟩ := hb
  refine anyC_take hi (Region.noSelect_spec h1) ht h4 f listed a w hC (Region.free_spec hi h2) (by simpa using h3) (.inl ⟨by simp [Region.wanted, hg], fun w hw => ?_⟩) (h.out Q hQ _ (ha.put _ _))
  rw [ha.eval]
  exact hv w hw

theorem WA_takeM {i : Nat} {o : Oper} {x : Operand} (i0 : Nat) (hi0 : i0 = i) (hi : ops[i]? = some o) (hg : o.guard = none) (ht : tailB ops tl = true) (hb : takeB ops tl listed i = true) (hC : C w)
    (hv : ∀ w, C w → (execOp (ev E) o).run P w = .ok (.value (ev E x)) w) (h : WA P n ops C tl kn f (listed.setIfInBounds i true) (mov n E o.dst x) w) : WA P n ops C tl kn (f + 1) listed E w :=
  WA_take i0 hi0 hi hg ht hb hC hv h

/-- a guarded operation that is wanted -/
theorem WA_takeG {i j : Nat} {o : Oper} {v : Value} {want : Bool} (i0 : Nat) (hi0 : i0 = i) (hi : ops[i]? = some o) (hg : o.guard = some (j, want)) (hy : yE ops E j = some want) (ht : tailB ops tl = true) (hb : takeB ops tl listed i = true) (hC : C w)
    (hv : ∀ w, C w → (execOp (ev E) { o with guard := none }).run P w = .ok (.value v) w) (h : WA P n ops C tl kn f (listed.setIfInBounds i true) (updo n E o.dst v) w) : WA P n ops C tl kn (f + 1) listed E w := by
  subst hi0
  refine ⟨fun Q hQ a ha => ?_⟩
  simp only [takeB, Bool.and_eq_true, Bool.not_eq_true'] at hb
  obtain ⟨⟨⟨h1, h2⟩, h3⟩, h4⟩ := hb
  refine anyC_take hi (Region.noSelect_spec h1) ht h4 f listed a w hC (Region.free_spec hi h2) (by simpa using h3) (.inl ⟨by simp [Region.wanted, hg, ha.yielded, hy], fun w hw => ?_⟩) (h.out Q hQ _ (ha.put _ _))
  rw [ha.eval]
  exact hv w hw

theorem WA_takeGM {i j : Nat} {o : Oper} {x : Operand} {want : Bool} (i0 : Nat) (hi0 : i0 = i) (hi : ops[i]? = some o) (hg : o.guard = some (j, want)) (hy : yE ops E j = some want) (ht : tailB ops tl = true) (hb : takeB ops tl listed i = true) (hC : C w)
    (hv : ∀ w, C w → (execOp (ev E) { o with guard := none }).run P w = .ok (.value (ev E x)) w) (h : WA P n ops C tl kn f (listed.setIfInBounds i true) (mov n E o.dst x) w) : WA P n ops C tl kn (f + 1) listed E w :=
  WA_takeG i0 hi0 hi hg hy ht hb hC hv h

/-- a guarded operation that is passed over -/
theorem WA_pass {i j : Nat} {o : Oper} {want : Bool} (i0 : Nat) (hi0 : i0 = i) (hi : ops[i]? = some o) (hg : o.guard = some (j, want)) (hy : yE ops E j ≠ some want) (ht : tailB ops tl = true) (hb : takeB ops tl listed i = true) (hC : C w)
    (h : WA P n ops C tl kn f (listed.setIfInBounds i true) (updo n E o.dst undef) w) : WA P n ops C tl kn (f + 1) listed E w := by
  subst hi0
  refine ⟨fun Q hQ a ha => ?_⟩
  simp only [takeB, Bool.and_eq_true, Bool.not_eq_true'] at hb
  obtain ⟨⟨⟨h1, h2⟩, h3⟩, h4⟩ := hb
  refine anyC_take hi (Region.noSelect_spec h1) ht h4 f listed a w hC (Region.free_spec hi h2) (by simpa using h3) (.inr ⟨?_, rfl⟩) (h.out Q hQ _ (ha.put _ _))
  simp only [Region.wanted, hg, ha.yielded]
  exact beq_eq_false_iff_ne.2 hy

/-- One of those that may come up. -/
structure WI (P : Program) (n : Nat) (ops : Array Oper) (C : World → Prop) (tl : Nat → Bool) (kn : Env → World → Prop) (f : Nat) (listed : Array Bool) (i : Nat) (E : Env) (w : World) : Prop where
  out : ∀ (Q : Act → World → Prop), (∀ a E w, Rep n E a → kn E w → Q a w) → ∀ a, Rep n E a → opI P ops i (fun a' w' => (tl i = false → C w') ∧ anyC P ops C tl Q f (listed.setIfInBounds i true) a' w') a w

theorem WA_one {i : Nat} (hr : Region.ready .any ops listed = [i]) (h : WI P n ops C tl kn f listed i E w) : WA P n ops C tl kn (f + 1) listed E w := by
  refine ⟨fun Q hQ a ha => ?_⟩
  refine ⟨fun h0 => (by rw [hr] at h0; cases h0), fun j hj => ?_⟩
  rw [hr] at hj
  obtain rfl : j = i := by simpa using hj
  exact h.out Q hQ a ha
theorem WA_two {i j : Nat} (hr : Region.ready .any ops listed = [i, j]) (h : WI P n ops C tl kn f listed i E w) (h' : WI P n ops C tl kn f listed j E w) : WA P n ops C tl kn (f + 1) listed E w := by
  refine ⟨fun Q hQ a ha => ?_⟩
  refine ⟨fun h0 => (by rw [hr] at h0; cases h0), fun k hk => ?_⟩
  rw [hr] at hk
  rcases List.mem_cons.1 hk with rfl | hk
  · exact h.out Q hQ a ha
  · obtain rfl : k = j := by simpa using hk
    exact h'.out Q hQ a ha

/-- Its guard, if it has one, says yes. -/
def Wanted (ops : Array Oper) (E : Env) (o : Oper) : Prop := o.guard = none ∨ ∃ j want, o.guard = some (j, want) ∧ yE ops E j = some want

theorem Wanted.rep {a : Act} {o : Oper} (h : Wanted ops E o) (ha : Rep n E a) : Region.wanted o (yielded ops a.tmps) = true := by
  rcases h with h | ⟨j, want, h, hy⟩
  · simp [Region.wanted, h]
  · simp [Region.wanted, h, ha.yielded, hy]

theorem WI_value {i : Nat} {o : Oper} {v : Value} {w' : World} (hi : ops[i]? = some o) (hg : Wanted ops E o) (hr : (execOp (ev E) { o with guard := none }).run P w = .ok (.value v) w') (hC : tl i = false → C w')
    (h : WA P n ops C tl kn f (listed.setIfInBounds i true) (updo n E o.dst v) w') : WI P n ops C tl kn f listed i E w := by
  refine ⟨fun Q hQ a ha => ?_⟩
  unfold opI
  simp only [hi]
  rw [if_pos (hg.rep ha)]
  exact .inl ⟨v, w', by rw [ha.eval]; exact hr, hC, h.out Q hQ _ (ha.put _ _)⟩
theorem WI_unit {i : Nat} {o : Oper} {w' : World} (hi : ops[i]? = some o) (hg : Wanted ops E o) (hr : (execOp (ev E) { o with guard := none }).run P w = .ok .skip w') (hC : tl i = false → C w')
    (h : WA P n ops C tl kn f (listed.setIfInBounds i true) (updo n E o.dst undef) w') : WI P n ops C tl kn f listed i E w := by
  refine ⟨fun Q hQ a ha => ?_⟩
  unfold opI
  simp only [hi]
  rw [if_pos (hg.rep ha)]
  exact .inr (.inl ⟨w', by rw [ha.eval]; exact hr, hC, h.out Q hQ _ (ha.put _ _)⟩)
theorem WI_call {i : Nat} {o : Oper} {fn : FuncId} {args : Array Value} {R : Value → World → Prop} (hi : ops[i]? = some o) (hg : Wanted ops E o) (hr : (execOp (ev E) { o with guard := none }).run P w = .ok (.enter fn args) w)
    (hc : Ret P fn args w R) (hC : ∀ v w', R v w' → tl i = false → C w') (h : ∀ v w', R v w' → WA P n ops C tl kn f (listed.setIfInBounds i true) (updo n E o.dst v) w') : WI P n ops C tl kn f listed i E w := by
  refine ⟨fun Q hQ a ha => ?_⟩
  unfold opI
  simp only [hi]
  rw [if_pos (hg.rep ha)]
  exact .inr (.inr ⟨fn, args, w, by rw [ha.eval]; exact hr, hc.mono fun v w' hR => ⟨hC v w' hR, (h v w' hR).out Q hQ _ (ha.put _ _)⟩⟩)
theorem WI_effu {i : Nat} {o : Oper} {F : World → Prop} (hi : ops[i]? = some o) (hg : Wanted ops E o) (he : ∃ w', F w' ∧ (execOp (ev E) { o with guard := none }).run P w = .ok .skip w') (hC : ∀ w', F w' → tl i = false → C w')
    (h : ∀ w', F w' → WA P n ops C tl kn f (listed.setIfInBounds i true) (updo n E o.dst undef) w') : WI P n ops C tl kn f listed i E w := by
  obtain ⟨w', hF, hr⟩ := he
  exact WI_unit hi hg hr (hC w' hF) (h w' hF)
theorem WI_effn {i : Nat} {o : Oper} {A : Nat → Prop} {F : Nat → World → Prop} {v : Nat → Value} (hi : ops[i]? = some o) (hg : Wanted ops E o) (he : ∃ b w', A b ∧ F b w' ∧ (execOp (ev E) { o with guard := none }).run P w = .ok (.value (v b)) w')
    (hC : ∀ b w', F b w' → tl i = false → C w') (h : ∀ b w', A b → F b w' → WA P n ops C tl kn f (listed.setIfInBounds i true) (updo n E o.dst (v b)) w') : WI P n ops C tl kn f listed i E w := by
  obtain ⟨b, w', hA, hF, hr⟩ := he
  exact WI_value hi hg hr (hC b w' hF) (h b w' hA hF)
theorem WI_effm {i : Nat} {o : Oper} {M : Type} {A : Value → M → Prop} {F : M → World → Prop} (hi : ops[i]? = some o) (hg : Wanted ops E o) (he : ∃ v m w', A v m ∧ F m w' ∧ (execOp (ev E) { o with guard := none }).run P w = .ok (.value v) w')
    (hC : ∀ m w', F m w' → tl i = false → C w') (h : ∀ v m w', A v m → F m w' → WA P n ops C tl kn f (listed.setIfInBounds i true) (updo n E o.dst v) w') : WI P n ops C tl kn f listed i E w := by
  obtain ⟨v, m, w', hA, hF, hr⟩ := he
  exact WI_value hi hg hr (hC m w' hF) (h v m w' hA hF)

theorem W_drawH {id : Nat} (tl : Nat → Bool) (hm : P.follows .mixedOrders = true) (H : Hp w0 L w)
    (h : ∀ w', Hp w0 L w' → WA P n ops (Hp w0 L) tl kn ops.size (Array.replicate ops.size false) E w') : W P n (.region id ops true) kn kx kr E w :=
  W_draw (Hp w0 L) tl hm H h

theorem WA_know {t : Nat} {v : Value} (ht : E t = v) (h : WA P n ops C tl kn f listed (know E t v) w) : WA P n ops C tl kn f listed E w := by
  rwa [know_eq ht] at h
theorem WA_if (t : Nat) {p : Prop} [Decidable p] (hc : E t = .bool (decide p)) (ht : p → WA P n ops C tl kn f listed (know E t (.bool true)) w) (hf : ¬ p → WA P n ops C tl kn f listed (know E t (.bool false)) w) :
    WA P n ops C tl kn f listed E w := by
  by_cases h : p
  · exact WA_know (t := t) (v := .bool true) (by rw [hc, decide_eq_true h]) (ht h)
  · exact WA_know (t := t) (v := .bool false) (by rw [hc, decide_eq_false h]) (hf h)
theorem WA_ifB (t : Nat) {b : Bool} (hc : E t = .bool b) (ht : b = true → WA P n ops C tl kn f listed (know E t (.bool true)) w) (hf : b = false → WA P n ops C tl kn f listed (know E t (.bool false)) w) :
    WA P n ops C tl kn f listed E w := by
  cases b
  · exact WA_know (t := t) hc (hf rfl)
  · exact WA_know (t := t) hc (ht rfl)
end
end Go.Proofs.YtlpmfldijgdcoaaGreatDoor.Fx

/-
  The operations once more, where more is known: tests that are decided, numbers that stay in their kind.
-/
namespace Go.Proofs.YtlpmfldijgdcoaaGreatDoor.Fx
open Go

/-! ### numbers that stay in their kind -/
theorem w_i64 {x : Int} (h : -9223372036854775808 ≤ x ∧ x ≤ 9223372036854775807) : IntKind.i64.wrap x = x := by
  simp [IntKind.wrap, IntKind.bits, IntKind.signed]; omega
/-- a byte of whatever number -/
theorem m_u8 {x : Int} : IntKind.u8.wrap x = x % 256 := by
  simp [IntKind.wrap, IntKind.bits, IntKind.signed]
theorem shl_i64 {a b : Int} (M : Int) (hM : (2 : Int) ^ (min b.toNat 64) = M) (h : -9223372036854775808 ≤ a * M ∧ a * M ≤ 9223372036854775807) : IntKind.i64.wrap (a * 2 ^ (min b.toNat IntKind.i64.bits)) = a * M := by
  have : IntKind.i64.bits = 64 := rfl
  rw [this, hM]; exact w_i64 h
theorem shr_any {a : Int} {n : Nat} (M : Int) (hM : (2 : Int) ^ n = M) : a.fdiv (2 ^ n) = a / M := by
  rw [← hM]
  exact Int.fdiv_eq_ediv_of_nonneg _ (Int.pow_nonneg (by omega))

theorem and_nat (k x m : Nat) (hm : m = 2 ^ k - 1) : x &&& m = x % 2 ^ k := by
  subst hm; exact Nat.and_two_pow_sub_one_eq_mod x k

theorem and_mask_i64 (k : Nat) {x m : Int} (M : Int) (hM : (2 : Int) ^ k = M) (hm : m = M - 1) (hk : k ≤ 62) : bitsOf .and .i64 x m = x % M := by
  have e1 : ((BitVec.ofInt 64 x &&& BitVec.ofInt 64 m).toNat : Int) = x % M := by
    have hp : (2 : Nat) ^ k ≤ 2 ^ 62 := Nat.pow_le_pow_right (by omega) hk
    have hpos : 0 < (2 : Nat) ^ k := Nat.pow_pos (by omega)
    have hMn : M = ((2 ^ k : Nat) : Int) := by rw [← hM]; simp
    have hmn : m = ((2 ^ k - 1 : Nat) : Int) := by rw [hm, hMn]; omega
    have h2 : (BitVec.ofInt 64 m).toNat = 2 ^ k - 1 := by
      rw [hmn, BitVec.toNat_ofInt]
      have : (2 ^ k - 1 : Nat) < 2 ^ 64 := by omega
      have h3 : (((2 ^ k - 1 : Nat) : Int) % ((2 ^ 64 : Nat) : Int)) = ((2 ^ k - 1 : Nat) : Int) := Int.emod_eq_of_lt (by omega) (by omega)
      rw [h3]; simp
    rw [BitVec.toNat_and, h2, and_nat k _ _ rfl, BitVec.toNat_ofInt]
    rw [Int.natCast_emod, ← hMn]
    have h5 : (((x % ((2 ^ 64 : Nat) : Int)).toNat : Nat) : Int) = x % ((2 ^ 64 : Nat) : Int) := Int.toNat_of_nonneg (Int.emod_nonneg _ (by decide))
    rw [h5]
    refine Int.emod_emod_of_dvd x ?_
    rw [hMn]
    exact Int.natCast_dvd_natCast.2 (Nat.pow_dvd_pow 2 (by omega))
  have hpos : 0 < M := by rw [← hM]; exact Int.pow_pos (by omega)
  have hle : M ≤ 4611686018427387904 := by
    have h1 : (2 : Nat) ^ k ≤ 2 ^ 62 := Nat.pow_le_pow_right (by omega) hk
    have h2 : M = ((2 ^ k : Nat) : Int) := by rw [← hM]; simp
    omega
  have h0 := Int.emod_nonneg x (show M ≠ 0 by omega)
  have h1 := Int.emod_lt_of_pos x hpos
  show IntKind.i64.wrap ((BitVec.ofInt 64 x &&& BitVec.ofInt 64 m).toNat : Int) = x % M
  rw [e1]
  exact w_i64 ⟨by omega, by omega⟩

/-! ### places in a row -/
theorem idx0_cast {k : Nat} : 0 + ((k : Nat) : Int).toNat * 1 = k := by simp
theorem idx_cast1 {off k : Nat} : off + ((k : Nat) : Int).toNat * 1 = off + k := by simp
theorem idx0_castn {k sz : Nat} : 0 + ((k : Nat) : Int).toNat * sz = k * sz := by simp
section
variable {P : Program} {E : Env} {w0 w : World} {L : List (Nat × Obj)}
variable {d : Option Nat} {ty : TypeId} {pos : String} {after : Array Edge}

theorem R_pk_t {c a b : Operand} (hc : ev E c = .bool true)
    : (execOp (ev E) (mk d (.pick c a b) ty pos after)).run P w = .ok (.value (ev E a)) w := R_pick hc (by rw [if_pos rfl])
theorem R_pk_f {c a b : Operand} (hc : ev E c = .bool false)
    : (execOp (ev E) (mk d (.pick c a b) ty pos after)).run P w = .ok (.value (ev E b)) w := R_pick hc (by rw [if_neg (by decide)])
theorem R_fn1 {fn : Fn} {x : Operand} {a : Option Addr} (h : ev E x = .pointer a) : (execOp (ev E) (mk d (.makeFunc fn #[] #[x]) ty pos after)).run P w = .ok (.value (.func fn #[] #[.pointer a])) w := R_makeFunc (by simp [h])
theorem R_not_t {t : TypeId} {x : Operand} (hx : ev E x = .bool true) : (execOp (ev E) (mk d (.unOp .not t x) ty pos after)).run P w = .ok (.value (.bool false)) w := R_not hx
theorem R_not_f {t : TypeId} {x : Operand} (hx : ev E x = .bool false) : (execOp (ev E) (mk d (.unOp .not t x) ty pos after)).run P w = .ok (.value (.bool true)) w := R_not hx
theorem R_not_d {t : TypeId} {x : Operand} {p : Prop} [Decidable p] (hx : ev E x = .bool (decide p)) : (execOp (ev E) (mk d (.unOp .not t x) ty pos after)).run P w = .ok (.value (.bool (decide (¬ p)))) w := by
  rw [R_not hx, decide_not]

section
variable {t t' : TypeId} {x y : Operand} {k : IntKind} {a b : Int} (hx : ev E x = .int k a) (hy : ev E y = .int k b)
include hx hy
theorem R_eq_t (h : a = b) : (execOp (ev E) (mk d (.binOp .eql t x y t') ty pos after)).run P w = .ok (.value (.bool true)) w := by rw [R_eq hx hy, decide_eq_true h]
theorem R_eq_f (h : ¬ a = b) : (execOp (ev E) (mk d (.binOp .eql t x y t') ty pos after)).run P w = .ok (.value (.bool false)) w := by rw [R_eq hx hy, decide_eq_false h]
theorem R_ne_t (h : ¬ a = b) : (execOp (ev E) (mk d (.binOp .neq t x y t') ty pos after)).run P w = .ok (.value (.bool true)) w := by rw [R_ne hx hy, decide_eq_true h]
theorem R_ne_f (h : a = b) : (execOp (ev E) (mk d (.binOp .neq t x y t') ty pos after)).run P w = .ok (.value (.bool false)) w := by rw [R_ne hx hy, decide_eq_false (fun n => n h)]
theorem R_lt_t (h : a < b) : (execOp (ev E) (mk d (.binOp .lss t x y t') ty pos after)).run P w = .ok (.value (.bool true)) w := by rw [R_lt hx hy, decide_eq_true h]
theorem R_lt_f (h : ¬ a < b) : (execOp (ev E) (mk d (.binOp .lss t x y t') ty pos after)).run P w = .ok (.value (.bool false)) w := by rw [R_lt hx hy, decide_eq_false h]
theorem R_le_t (h : a ≤ b) : (execOp (ev E) (mk d (.binOp .leq t x y t') ty pos after)).run P w = .ok (.value (.bool true)) w := by rw [R_le hx hy, decide_eq_true h]
theorem R_le_f (h : ¬ a ≤ b) : (execOp (ev E) (mk d (.binOp .leq t x y t') ty pos after)).run P w = .ok (.value (.bool false)) w := by rw [R_le hx hy, decide_eq_false h]
theorem R_gt_t (h : b < a) : (execOp (ev E) (mk d (.binOp .gtr t x y t') ty pos after)).run P w = .ok (.value (.bool true)) w := by rw [R_gt hx hy, decide_eq_true h]
theorem R_gt_f (h : ¬ b < a) : (execOp (ev E) (mk d (.binOp .gtr t x y t') ty pos after)).run P w = .ok (.value (.bool false)) w := by rw [R_gt hx hy, decide_eq_false h]
theorem R_ge_t (h : b ≤ a) : (execOp (ev E) (mk d (.binOp .geq t x y t') ty pos after)).run P w = .ok (.value (.bool true)) w := by rw [R_ge hx hy, decide_eq_true h]
theorem R_ge_f (h : ¬ b ≤ a) : (execOp (ev E) (mk d (.binOp .geq t x y t') ty pos after)).run P w = .ok (.value (.bool false)) w := by rw [R_ge hx hy, decide_eq_false h]
end

section
variable {t t' : TypeId} {x y : Operand} {a b : Bool} (ht : P.underlying t = some .bool) (hx : ev E x = .bool a) (hy : ev E y = .bool b)
include ht hx hy
theorem R_ne_bool_t (h : ¬ a = b) : (execOp (ev E) (mk d (.binOp .neq t x y t') ty pos after)).run P w = .ok (.value (.bool true)) w := by rw [R_ne_bool ht hx hy, decide_eq_true h]
theorem R_ne_bool_f (h : a = b) : (execOp (ev E) (mk d (.binOp .neq t x y t') ty pos after)).run P w = .ok (.value (.bool false)) w := by rw [R_ne_bool ht hx hy, decide_eq_false (fun n => n h)]
end
section
variable {t t' : TypeId} {x y : Operand} {p q : Prop} [Decidable p] [Decidable q] (ht : P.underlying t = some .bool) (hx : ev E x = .bool (decide p)) (hy : ev E y = .bool (decide q))
include ht hx hy
end
section
variable {t t' : TypeId} {x y : Operand} {a b : ByteArray} (hx : ev E x = .string a) (hy : ev E y = .string b)
include hx hy
end
end

/-! ### odds and ends -/
abbrev I (x : Int) : Value := .int .i64 x
abbrev U (x : UInt8) : Value := .int .u8 x.toNat

theorem Hp.pop {w0 w : World} {L : List (Nat × Obj)} {b : Nat} {o : Obj} (H : Hp w0 ((b, o) :: L) w) (hb : w0.heap.size ≤ b) : Hp w0 L w :=
  H.drop (List.sublist_cons_self _ _) fun p hp hn => by
    rcases List.mem_cons.1 hp with rfl | hp
    · exact hb
    · exact (hn hp).elim
/-- The block behind the first one, of no more interest. -/
theorem Hp.pop2 {w0 w : World} {L : List (Nat × Obj)} {b : Nat} {p : Nat × Obj} {o : Obj} (H : Hp w0 (p :: (b, o) :: L) w) (hb : w0.heap.size ≤ b) : Hp w0 (p :: L) w :=
  (H.perm (List.Perm.swap _ _ _)).pop hb
theorem ne_of_obj {w : World} {a b : Nat} {x y : Obj} (h1 : w.heap[a]? = some x) (h2 : w.heap[b]? = some y) (h : x ≠ y) : a ≠ b := by
  rintro rfl
  rw [h1] at h2
  exact h (Option.some.inj h2)

section
variable {P : Program} {w : World}
theorem src_blk {tx e' e : TypeId} {sz b m c : Nat} {xs sp : List Value} (hk : P.underlying tx = some (.slice e')) (hb : w.heap[b]? = some (blk (xs ++ sp) e)) (hl : xs.length = m * sz) (h1 : ∀ u ∈ xs, u.oneCell' = true) :
    Src P sz tx (sl b 0 m c) m xs w :=
  Src.ofSlice w hk _ m c xs hl (fun j u hj => by
    rw [add_none, cell_blk hb, Nat.zero_add, List.getElem?_append_left (List.getElem?_eq_some_iff.1 hj).1]
    exact hj) h1
theorem src_one {tx e' e : TypeId} {b c : Nat} {x : Value} {sp : List Value} (hk : P.underlying tx = some (.slice e')) (hb : w.heap[b]? = some (blk (x :: sp) e)) (h1 : x.oneCell' = true) :
    Src P 1 tx (sl b 0 1 c) 1 [x] w := src_blk (xs := [x]) hk hb rfl (by simpa using h1)
/-- cells that are known one by one -/
theorem src_cells {tx e' : TypeId} {sz b off m c : Nat} {xs : List Value} (hk : P.underlying tx = some (.slice e')) (hl : xs.length = m * sz) (hc : ∀ j u, xs[j]? = some u → w.cell? ⟨b, off + j, none⟩ = some u) (h1 : ∀ u ∈ xs, u.oneCell' = true) :
    Src P sz tx (sl b off m c) m xs w :=
  Src.ofSlice w hk _ m c xs hl (fun j u hj => by rw [add_none]; exact hc j u hj) h1
end

theorem OwnS.form {B len sz : Nat} {e : TypeId} {v : Value} {xs : List Value} {M : List (Nat × Obj)} (h : OwnS B e sz v len xs M) : ∃ ao cap, v = .slice ao len cap := by
  rcases h.2 with ⟨rfl, rfl, _⟩ | ⟨b, cap, sp, rfl, _⟩
  · exact ⟨none, 0, rfl⟩
  · exact ⟨_, cap, rfl⟩
theorem OwnS.keys {B len sz : Nat} {e : TypeId} {v : Value} {xs : List Value} {M : List (Nat × Obj)} (h : OwnS B e sz v len xs M) : ∀ p ∈ M, B ≤ p.1 := by
  rcases h.2 with ⟨_, _, rfl⟩ | ⟨b, cap, sp, _, hb, rfl, _⟩
  · intro p hp; cases hp
  · intro p hp; rw [List.mem_singleton.1 hp]; exact hb
/-- The new blocks at the list's end are of no more interest. -/
theorem Hp.cut {w0 w : World} {L M : List (Nat × Obj)} (H : Hp w0 (L ++ M) w) (hM : ∀ p ∈ M, w0.heap.size ≤ p.1) : Hp w0 L w :=
  H.drop (List.sublist_append_left L M) fun p hp hn => by
    rcases List.mem_append.1 hp with hp | hp
    · exact (hn hp).elim
    · exact hM p hp

/-! ### bytes -/
theorem u8_ofNat {n : Nat} : IntKind.u8.wrap (n : Int) = ((UInt8.ofNat n).toNat : Int) := by
  rw [m_u8, UInt8.toNat_ofNat']; omega
theorem u8_add {x y : UInt8} : IntKind.u8.wrap ((x.toNat : Int) + (y.toNat : Int)) = ((x + y).toNat : Int) := by
  rw [m_u8, UInt8.toNat_add]; omega
theorem u8_ne {x : UInt8} : ((x.toNat : Int) ≠ 0) ↔ x ≠ 0 := by
  constructor
  · rintro h rfl; exact h rfl
  · intro h hn; exact h (UInt8.toNat_inj.1 (by rw [UInt8.toNat_zero]; omega))
theorem u8_eq {x y : UInt8} : ((x.toNat : Int) = (y.toNat : Int)) ↔ x = y := by
  constructor
  · intro h; exact UInt8.toNat_inj.1 (by omega)
  · rintro rfl; rfl
theorem or_bytes (x y : UInt8) : bitsOf .or .i64 ((x.toNat : Int) * 256) (y.toNat : Int) = (x.toNat : Int) * 256 + (y.toNat : Int) := by
  have hx := x.toNat_lt
  have hy := y.toNat_lt
  have e1 : (x.toNat : Int) * 256 = ((x.toNat * 256 : Nat) : Int) := by omega
  have h1 : (BitVec.ofInt 64 ((x.toNat : Int) * 256)).toNat = x.toNat * 256 := by rw [e1]; simp; omega
  have h2 : (BitVec.ofInt 64 (y.toNat : Int)).toNat = y.toNat := by simp
  show IntKind.i64.wrap ((BitVec.ofInt 64 ((x.toNat : Int) * 256) ||| BitVec.ofInt 64 (y.toNat : Int)).toNat : Int) = _
  rw [BitVec.toNat_or, h1, h2]
  have h3 : x.toNat * 256 ||| y.toNat = x.toNat * 256 + y.toNat := by
    have := Nat.two_pow_add_eq_or_of_lt (i := 8) (b := y.toNat) (by omega) x.toNat
    rw [Nat.mul_comm]; exact this.symm
  rw [h3, w_i64 ⟨by omega, by omega⟩]
  omega

/-! ### slices that are only read, whose elements take one cell -/
theorem Hp.cell {w0 w : World} {L : List (Nat × Obj)} (H : Hp w0 L w) {a : Addr} {u : Value} (h : w0.cell? a = some u) (hn : a.block ∉ L.map (·.1)) : w.cell? a = some u := by
  have hlt : a.block < w0.heap.size := by
    rcases Nat.lt_or_ge a.block w0.heap.size with h' | h'
    · exact h'
    · simp [World.cell?, Array.getElem?_eq_none h'] at h
  rw [← h]
  simp only [World.cell?, H.old a.block hlt hn]
theorem Hp.block {w0 w : World} {L : List (Nat × Obj)} (H : Hp w0 L w) {b : Nat} {o : Obj} (h : w0.heap[b]? = some o) (hn : b ∉ L.map (·.1)) : w.heap[b]? = some o := by
  rw [H.old b (lt_of_some h) hn]; exact h

theorem AtM.one {b : Nat} {o : Obj} {B : List (Nat × Obj)} : AtM ((b, o) :: B) [(b, o)] (fun M' => M' ++ B) := AtM.here (M := [(b, o)])
theorem OwnS.pos {B len sz : Nat} {e : TypeId} {v : Value} {xs : List Value} {M : List (Nat × Obj)} (h : OwnS B e sz v len xs M) (h0 : 0 < len) :
    ∃ b cap sp, v = sl b 0 len cap ∧ B ≤ b ∧ M = [(b, blk (xs ++ sp) e)] ∧ sp.length = (cap - len) * sz ∧ len ≤ cap := by
  rcases h.2 with ⟨_, hh, _⟩ | h
  · omega
  · exact h
theorem kNil {B : Nat} : ∀ p ∈ ([] : List (Nat × Obj)), B ≤ p.1 := fun _ h => nomatch h
theorem kCons {B b : Nat} {o : Obj} {M : List (Nat × Obj)} (hb : B ≤ b) (h : ∀ p ∈ M, B ≤ p.1) : ∀ p ∈ (b, o) :: M, B ≤ p.1 := fun p hp => by
  rcases List.mem_cons.1 hp with rfl | hp
  · exact hb
  · exact h p hp
theorem kApp {B : Nat} {M N : List (Nat × Obj)} (h : ∀ p ∈ M, B ≤ p.1) (h' : ∀ p ∈ N, B ≤ p.1) : ∀ p ∈ M ++ N, B ≤ p.1 := fun p hp => by
  rcases List.mem_append.1 hp with hp | hp
  · exact h p hp
  · exact h' p hp
theorem kYs {B : Nat} {L : List (Nat × Obj)} (h : ∀ p ∈ L, B ≤ p.1 := by repeat' first | exact kNil | apply kCons | apply kApp | assumption | exact OwnS.keys (by assumption)) : ∀ p ∈ L, B ≤ p.1 := h
theorem Hp.blockN {w0 w : World} {L : List (Nat × Obj)} (H : Hp w0 L w) {b : Nat} {o : Obj} (h : w0.heap[b]? = some o) (hn : ∀ p ∈ L, w0.heap.size ≤ p.1) : w.heap[b]? = some o := by
  refine H.block h fun hm => ?_
  obtain ⟨p, hp, e⟩ := List.mem_map.1 hm
  have := hn p hp
  have := lt_of_some h
  omega
theorem At.app {L : List (Nat × Obj)} {b : Nat} {o : Obj} {f} (M : List (Nat × Obj)) (h : At L b o f) : At (M ++ L) b o (fun o => M ++ f o) := by
  induction M with
  | nil => exact h
  | cons p M ih => exact .there ih
theorem AtM.app {L N : List (Nat × Obj)} {f} (M : List (Nat × Obj)) (h : AtM L N f) : AtM (M ++ L) N (fun N => M ++ f N) := by
  induction M with
  | nil => exact h
  | cons p M ih => exact .there ih
theorem okSeq_all {w : World} : ∀ {M L : List (Nat × Obj)}, (∀ p ∈ M, w.heap.size ≤ p.1) → okSeq w L M (M.reverse ++ L)
  | [], _, _ => rfl
  | (b, o) :: M, L, h => by
    rw [List.reverse_cons, List.append_assoc]
    exact okSeq_new (h _ (.head _)) (okSeq_all fun p hp => h p (.tail _ hp))
/-- What a call leaves that only makes new blocks. -/
theorem Hp.seqN {w0 w w' : World} {L M : List (Nat × Obj)} (H : Hp w0 L w) (H1 : Hp w M w') (hM : ∀ p ∈ M, w.heap.size ≤ p.1) : Hp w0 (M ++ L) w' :=
  (H.seq H1 (okSeq_all hM)).perm (List.reverse_perm M |>.append_right L)
theorem OwnS.mono {B B' len sz : Nat} {e : TypeId} {v : Value} {xs : List Value} {M : List (Nat × Obj)} (h : OwnS B e sz v len xs M) (hB : B' ≤ B) : OwnS B' e sz v len xs M := by
  refine ⟨h.1, ?_⟩
  rcases h.2 with h | ⟨b, cap, sp, h1, h2, h3⟩
  · exact .inl h
  · exact .inr ⟨b, cap, sp, h1, Nat.le_trans hB h2, h3⟩
theorem Hp.seqB {w0 w w' : World} {L : List (Nat × Obj)} {b : Nat} {o o' : Obj} (H : Hp w0 L w) (hb : w0.heap[b]? = some o) (hn : ∀ p ∈ L, w0.heap.size ≤ p.1) (H1 : Hp w [(b, o')] w') : Hp w0 ((b, o') :: L) w' :=
  (H.focus (H.blockN hb hn) (fun hm => by
    obtain ⟨p, hp, e⟩ := List.mem_map.1 hm
    have := hn p hp
    have := lt_of_some hb
    omega)).seq H1 (okSeq_set .here okSeq_nil)
theorem Hp.none {w0 w : World} {L : List (Nat × Obj)} (H : Hp w0 L w) (hL : ∀ p ∈ L, w0.heap.size ≤ p.1) : Hp w0 [] w :=
  H.drop (List.nil_sublist _) fun p hp _ => hL p hp
theorem Hp.dropN {w0 w : World} {L M : List (Nat × Obj)} (H : Hp w0 (M ++ L) w) (hM : ∀ p ∈ M, w0.heap.size ≤ p.1) : Hp w0 L w :=
  H.drop (List.sublist_append_right M L) fun p hp hn => by
    rcases List.mem_append.1 hp with hp | hp
    · exact hM p hp
    · exact (hn hp).elim
theorem Hp.seqO {w0 w w' : World} {L M : List (Nat × Obj)} {len sz : Nat} {e : TypeId} {v : Value} {xs : List Value} (H : Hp w0 L w) (hO : OwnS w.heap.size e sz v len xs M) (H1 : Hp w M w') :
    OwnS w0.heap.size e sz v len xs M ∧ Hp w0 (M ++ L) w' := ⟨hO.mono H.size, H.seqN H1 hO.keys⟩
/-- Where all that is in sight is new. -/
theorem Hp.cellN {w0 w : World} {L : List (Nat × Obj)} (H : Hp w0 L w) {a : Addr} {u : Value} (h : w0.cell? a = some u) (hn : ∀ p ∈ L, w0.heap.size ≤ p.1) : w.cell? a = some u := by
  refine H.cell h fun hm => ?_
  obtain ⟨p, hp, e⟩ := List.mem_map.1 hm
  have hlt : a.block < w0.heap.size := by
    rcases Nat.lt_or_ge a.block w0.heap.size with h' | h'
    · exact h'
    · simp [World.cell?, Array.getElem?_eq_none h'] at h
  have := hn p hp
  omega

/-- The slice v reads as xs. -/
def RdS (w : World) (v : Value) (xs : List Value) : Prop :=
  ∃ ao cap, v = .slice ao xs.length cap ∧ xs.length ≤ cap ∧ (xs = [] ∨ ∃ b off, ao = some ⟨b, off, none⟩ ∧ ∀ j u, xs[j]? = some u → w.cell? ⟨b, off + j, none⟩ = some u)

theorem RdS.nil {w : World} : RdS w nilS [] := ⟨none, 0, rfl, Nat.le_refl _, .inl rfl⟩
theorem RdS.blk {w : World} {b off m cap : Nat} {c xs : List Value} {e : TypeId} {fz : Nat × Nat} (hb : w.heap[b]? = some (.cells c.toArray e fz)) (h : (c.drop off).take m = xs) (hm : off + m ≤ c.length) (hc : m ≤ cap) : RdS w (sl b off m cap) xs := by
  have hl : xs.length = m := by subst h; simp; omega
  refine ⟨some ⟨b, off, none⟩, cap, by rw [hl], by omega, .inr ⟨b, off, rfl, fun j u hj => ?_⟩⟩
  rw [cell_blk hb]
  subst h
  rw [List.getElem?_take] at hj
  split at hj
  · rwa [List.getElem?_drop] at hj
  · cases hj
theorem RdS.own {w : World} {B : Nat} {e : TypeId} {v : Value} {m : Nat} {xs : List Value} {M : List (Nat × Obj)} (h : OwnS B e 1 v m xs M) (hM : ∀ p ∈ M, w.heap[p.1]? = some p.2) : RdS w v xs := by
  obtain ⟨hl, h⟩ := h
  rw [Nat.mul_one] at hl
  rcases h with ⟨rfl, rfl, rfl⟩ | ⟨b, cap, sp, rfl, hb, rfl, hs, hc⟩
  · obtain rfl : xs = [] := List.length_eq_zero_iff.1 hl
    exact RdS.nil
  · exact RdS.blk (c := xs ++ sp) (off := 0) (hM _ (.head _)) (by simp [← hl]) (by simp; omega) hc
theorem RdS.cell {w : World} {ao : Option Addr} {m cap i : Nat} {xs : List Value} {u : Value} (h : RdS w (.slice ao m cap) xs) (hi : xs[i]? = some u) : ∃ b off, ao = some ⟨b, off, none⟩ ∧ w.cell? ⟨b, off + i, none⟩ = some u := by
  obtain ⟨ao', cap', e, _, h⟩ := h
  cases e
  rcases h with rfl | ⟨b, off, h1, h2⟩
  · simp at hi
  · exact ⟨b, off, h1, h2 i u hi⟩
theorem RdS.mono {w w' : World} {v : Value} {xs : List Value} {L} (h : RdS w v xs) (H : Hp w L w') (hn : ∀ a m c, v = .slice (some a) m c → a.block ∉ L.map (·.1)) : RdS w' v xs := by
  obtain ⟨ao, cap, rfl, hl, h⟩ := h
  refine ⟨ao, cap, rfl, hl, ?_⟩
  rcases h with h | ⟨b, off, rfl, h⟩
  · exact .inl h
  · exact .inr ⟨b, off, rfl, fun j u hj => H.cell (h j u hj) (hn ⟨b, off, none⟩ _ _ rfl)⟩
theorem RdS.monoN {w w' : World} {v : Value} {xs : List Value} {L} (h : RdS w v xs) (H : Hp w L w') (hn : ∀ p ∈ L, w.heap.size ≤ p.1) : RdS w' v xs := by
  obtain ⟨ao, cap, rfl, hl, h⟩ := h
  refine ⟨ao, cap, rfl, hl, ?_⟩
  rcases h with h | ⟨b, off, rfl, h⟩
  · exact .inl h
  · exact .inr ⟨b, off, rfl, fun j u hj => H.cellN (h j u hj) hn⟩
theorem RdS.same {w w' : World} {v : Value} {xs : List Value} (h : RdS w v xs) (H : Hp w [] w') : RdS w' v xs := h.mono H (fun _ _ _ _ => by simp)
/-- What a slice shows of its first elements. -/
theorem RdS.src {P : Program} {w : World} {tx e' : TypeId} {v : Value} {xs : List Value} (h : RdS w v xs) (hk : P.underlying tx = some (.slice e')) (h1 : ∀ u ∈ xs, u.oneCell' = true) : Src P 1 tx v xs.length xs w := by
  obtain ⟨ao, cap, rfl, hl, h⟩ := h
  rcases h with rfl | ⟨b, off, rfl, h⟩
  · cases ao with
    | none => exact Src.ofNil w hk cap
    | some a => exact Src.ofSlice w hk a 0 cap [] rfl (fun j u hj => by simp at hj) (by simp)
  · exact src_cells hk (by simp) h h1
end Go.Proofs.YtlpmfldijgdcoaaGreatDoor.Fx

/-
  make, literals of structs, arrays and slices; append, copy; bytes and strings.
-/
import Derived.Test.YthonajikgljgmaaGreatFxM1
import Derived.Deep.AppendSrc
import Derived.Laws.Tables
namespace Go.Proofs.YthonajikgljgmaaGreat.Fx
open Go

section
variable {P : Program} {E : Env} {w0 w : World} {L : List (Nat × Obj)}
variable {d : Option Nat} {ty : TypeId} {pos : String} {after : Array Edge}

/-! ### values of structs and arrays -/
theorem R_build {t : TypeId} {parts : Array (Nat × Operand)} {ps : List (Nat × Value)} {vs : List Value} (hp : parts.toList.map (fun p => (p.1, ev E p.2)) = ps)
    (hb : P.built t ps = some vs.toArray) : (execOp (ev E) (mk d (.build t parts) ty pos after)).run P w = .ok (.value (.agg vs.toArray)) w := by
  have := run_build (P := P) w t (parts.map fun (i, x) => (i, ev E x)) vs.toArray (by subst hp; simpa using hb)
  simp [execOp, this]

/-! ### new rows -/
theorem zeros_eq (zs : List Value) (c : Nat) : ((Array.range (c * zs.length)).map (zs.toArray[· % zs.toArray.size]!)) = (List.replicate c zs).flatten.toArray := by
  apply Array.ext
  · simp
  · intro i h1 h2
    have hi : i < c * zs.length := by simpa using h1
    have hz : 0 < zs.length := by
      rcases Nat.eq_zero_or_pos zs.length with h | h
      · rw [h] at hi; simp at hi
      · exact h
    have key : ∀ (c i : Nat), i < c * zs.length → (List.replicate c zs).flatten[i]? = zs[i % zs.length]? := by
      intro c
      induction c with
      | zero => intro i hi; simp at hi
      | succ c ih =>
        intro i hi
        rw [List.replicate_succ, List.flatten_cons, List.getElem?_append]
        split
        · rename_i hlt; rw [Nat.mod_eq_of_lt hlt]
        · rename_i hlt
          rw [ih (i - zs.length) (by rw [Nat.succ_mul] at hi; omega)]
          rw [← Nat.mod_eq_sub_mod (by omega)]
    have hm : i % zs.length < zs.length := Nat.mod_lt _ hz
    have e1 := key c i hi
    rw [List.getElem?_eq_getElem hm, List.getElem?_eq_some_iff] at e1
    obtain ⟨_, e1⟩ := e1
    simp only [Array.getElem_map, Array.getElem_range, List.size_toArray, List.getElem!_toArray, List.getElem_toArray, getElem!_pos zs (i % zs.length) hm]
    exact e1.symm

theorem replicate_one (c : Nat) (z : Value) : (List.replicate c [z]).flatten = List.replicate c z := by
  induction c with
  | zero => rfl
  | succ c ih => rw [List.replicate_succ, List.flatten_cons, ih, List.replicate_succ]; rfl

theorem E_makeSliceA {t elem : TypeId} {x y : Operand} {k k' : IntKind} {m c : Int} {sz : Nat} {i : TypeInfo} {z : Value} {zs : List Value} (H : Hp w0 L w) (ht : P.underlying t = some (.slice elem))
    (hS : ∀ w, (sizeOf elem).run P w = .ok sz w) (hI : ∀ w, (typeInfo elem).run P w = .ok i w) (hZ : ∀ w, (zeroValue elem).run P w = .ok z w) (hz : z.cells = zs.toArray) (hzl : zs.length = sz)
    (hx : ev E x = .int k m) (hy : ev E y = .int k' c) (h0 : 0 ≤ m) (h1 : m ≤ c) (hc : c ≤ 9223372036854775807) (hb : (i.bytes : Int) * c ≤ 281474976710656) :
    ∃ b w', w0.heap.size ≤ b ∧ Hp w0 ((b, blk (List.replicate c.toNat zs).flatten elem) :: L) w' ∧ (execOp (ev E) (mk d (.makeSlice t x y) ty pos after)).run P w = .ok (.value (sl b 0 m.toNat c.toNat)) w' := by
  have e1 : IntKind.i64.wrap m = m := by simp [IntKind.wrap, IntKind.bits, IntKind.signed]; omega
  have e2 : IntKind.i64.wrap c = c := by simp [IntKind.wrap, IntKind.bits, IntKind.signed]; omega
  have h2 : ¬ (c < 0) := by omega
  have h3 : ¬ (m < 0) := by omega
  have h4 : ¬ (c < m) := by omega
  have h5 : ¬ (281474976710656 < (i.bytes : Int) * c) := by omega
  refine E_new (v := fun b => sl b 0 m.toNat c.toNat) H ?_
  by_cases hz0 : c.toNat * sz = 0
  · have hrow : (Array.range 0).map ((#[] : Array Value)[· % (#[] : Array Value).size]!) = (List.replicate c.toNat zs).flatten.toArray := by
      rw [← zeros_eq, hzl, hz0]; simp
    simp only [execOp, hx, hy, Instr.makeSlice, run_underlying ht, asInt, asIntOf, hI, hS, Sem.run_bind, Sem.run_pure, Result.andThen_ok, e1, e2, h2, h3, h4, h5, decide_false, Bool.or_self, Bool.false_eq_true, if_false, gt_iff_lt, Int.reducePow, run_askRoom, newRow, hz0, if_true, hrow, run_newObj]
    rfl
  · have hrow : (Array.range (c.toNat * sz)).map (zs.toArray[· % zs.toArray.size]!) = (List.replicate c.toNat zs).flatten.toArray := by
      rw [← hzl]; exact zeros_eq zs c.toNat
    simp only [execOp, hx, hy, Instr.makeSlice, run_underlying ht, asInt, asIntOf, hI, hS, Sem.run_bind, Sem.run_pure, Result.andThen_ok, e1, e2, h2, h3, h4, h5, decide_false, Bool.or_self, Bool.false_eq_true, if_false, gt_iff_lt, Int.reducePow, run_askRoom, newRow, hz0, hZ, hz, hrow, run_newObj]
    rfl

theorem E_makeSlice {t elem : TypeId} {x y : Operand} {k k' : IntKind} {m c : Int} {i : TypeInfo} {z : Value} (H : Hp w0 L w) (ht : P.underlying t = some (.slice elem))
    (hS : ∀ w, (sizeOf elem).run P w = .ok 1 w) (hI : ∀ w, (typeInfo elem).run P w = .ok i w) (hZ : ∀ w, (zeroValue elem).run P w = .ok z w) (hz : z.cells = #[z])
    (hx : ev E x = .int k m) (hy : ev E y = .int k' c) (h0 : 0 ≤ m) (h1 : m ≤ c) (hc : c ≤ 9223372036854775807) (hb : (i.bytes : Int) * c ≤ 281474976710656) :
    ∃ b w', w0.heap.size ≤ b ∧ Hp w0 ((b, blk (List.replicate c.toNat z) elem) :: L) w' ∧ (execOp (ev E) (mk d (.makeSlice t x y) ty pos after)).run P w = .ok (.value (sl b 0 m.toNat c.toNat)) w' := by
  have h := E_makeSliceA (d := d) (ty := ty) (pos := pos) (after := after) (zs := [z]) H ht hS hI hZ hz rfl hx hy h0 h1 hc hb
  rw [replicate_one] at h
  exact h

theorem E_buildSlice {t elem : TypeId} {len sz : Nat} {parts : Array (Nat × Operand)} {ps : List (Nat × Value)} {vs zs : List Value} {z : Value} (H : Hp w0 L w) (ht : P.underlying t = some (.slice elem))
    (hS : ∀ w, (sizeOf elem).run P w = .ok sz w) (hZ : ∀ w, (zeroValue elem).run P w = .ok z w) (hz : z.cells = zs.toArray) (hzl : zs.length = sz) (hn : len * sz ≤ 16777216)
    (hp : parts.toList.map (fun p => (p.1, ev E p.2)) = ps) (hf : Instr.fill (fun i => some (i * sz, sz)) (List.replicate len zs).flatten.toArray ps = some vs.toArray) :
    ∃ b w', w0.heap.size ≤ b ∧ Hp w0 ((b, blk vs elem) :: L) w' ∧ (execOp (ev E) (mk d (.buildSlice t len parts) ty pos after)).run P w = .ok (.value (sl b 0 len len)) w' := by
  refine E_new (v := fun b => sl b 0 len len) H ?_
  have h2 : ¬ (16777216 < len * sz) := by omega
  have hps : (parts.map fun (i, x) => (i, ev E x)).toList = ps := by subst hp; simp
  by_cases hz0 : len * sz = 0
  · have hrow : (Array.range 0).map ((#[] : Array Value)[· % (#[] : Array Value).size]!) = (List.replicate len zs).flatten.toArray := by
      rw [← zeros_eq, hzl, hz0]; simp
    simp only [execOp, Instr.buildSlice, run_underlying ht, hS, Sem.run_bind, Sem.run_pure, Result.andThen_ok, hz0, if_true, if_false, gt_iff_lt, Nat.reducePow, Nat.not_lt_zero, hrow, hps, hf, newRow, run_newObj]
    rfl
  · have hrow : (Array.range (len * sz)).map (zs.toArray[· % zs.toArray.size]!) = (List.replicate len zs).flatten.toArray := by
      rw [← hzl]; exact zeros_eq zs len
    simp only [execOp, Instr.buildSlice, run_underlying ht, hS, Sem.run_bind, Sem.run_pure, Result.andThen_ok, h2, if_false, gt_iff_lt, Nat.reducePow, hz0, hZ, hz, hrow, hps, hf, newRow, run_newObj]
    rfl

/-- for the reckoning of a literal's cells -/
def zrow (len : Nat) (z : Value) : Array Value := (List.replicate len z.cells.toList).flatten.toArray
def fillRow (sz : Nat) (zs : Array Value) (ps : List (Nat × Value)) : Option (Array Value) := Instr.fill (fun i => some (i * sz, sz)) zs ps

/-! ### append -/
/-- A slice of the call's own: nil, or at the head of a block that B does not reach. -/
def OwnS (B : Nat) (e : TypeId) (sz : Nat) (v : Value) (len : Nat) (xs : List Value) (M : List (Nat × Obj)) : Prop :=
  xs.length = len * sz ∧ ((v = nilS ∧ len = 0 ∧ M = []) ∨
    ∃ b cap sp, v = sl b 0 len cap ∧ B ≤ b ∧ M = [(b, blk (xs ++ sp) e)] ∧ sp.length = (cap - len) * sz ∧ len ≤ cap)

theorem OwnS.nil (B : Nat) (e : TypeId) (sz : Nat) : OwnS B e sz nilS 0 [] [] := ⟨by simp, .inl ⟨rfl, rfl, rfl⟩⟩
theorem OwnS.new {B b len cap sz : Nat} {e : TypeId} {xs sp : List Value} (hb : B ≤ b) (h1 : xs.length = len * sz) (h2 : sp.length = (cap - len) * sz) (h3 : len ≤ cap) :
    OwnS B e sz (sl b 0 len cap) len xs [(b, blk (xs ++ sp) e)] := ⟨h1, .inr ⟨b, cap, sp, rfl, hb, rfl, h2, h3⟩⟩

theorem Hp.atM {M : List (Nat × Obj)} {f} {b : Nat} {o : Obj} (H : Hp w0 L w) (h : AtM L M f) (hm : (b, o) ∈ M) : w.heap[b]? = some o := by
  obtain ⟨A, B, e, _⟩ := h.split
  exact H.held (b, o) (by rw [e]; simp [hm])

/-- A part of the list gives way to a new block. -/
theorem Hp.swap {w' : World} {M : List (Nat × Obj)} {f} {o : Obj} {b : Nat} (H : Hp w0 L w) (h : AtM L M f) (hM : ∀ p ∈ M, w0.heap.size ≤ p.1) (hos : w'.os = w.os) (htape : w'.tape = w.tape) (hout : w'.output = w.output)
    (hsize : w.heap.size ≤ w'.heap.size) (hsame : ∀ k, k < w.heap.size → w'.heap[k]? = w.heap[k]?) (hb : w'.heap[b]? = some o) (hnew : w.heap.size ≤ b) : Hp w0 (f [(b, o)]) w' := by
  obtain ⟨A, B, e, hf⟩ := h.split
  subst e
  rw [hf]
  have H1 := (H.same hos htape hout hsize hsame).focus hb (H.fresh hnew)
  have H2 : Hp w0 ((b, o) :: (A ++ B)) w' := by
    refine H1.drop (M := (b, o) :: (A ++ B)) ?_ ?_
    · exact ((List.Sublist.refl A).append (List.sublist_append_right M B)).cons_cons _
    · intro p hp hn
      simp only [List.mem_cons, List.mem_append, not_or] at hp hn
      rcases hp with hp | hp | hp | hp
      · exact (hn.1 hp).elim
      · exact (hn.2.1 hp).elim
      · exact hM p hp
      · exact (hn.2.2 hp).elim
  exact H2.perm List.perm_middle.symm

theorem Hp.setM {c c' : List Value} {e : TypeId} {b : Nat} {f} (H : Hp w0 L w) (h : AtM L [(b, blk c e)] f) : Hp w0 (f [(b, blk c' e)]) (w.setRow b c'.toArray) := by
  obtain ⟨A, B, e1, hf⟩ := h.split
  subst e1
  rw [hf]
  have hat : ∀ A : List (Nat × Obj), ∃ g, At (A ++ ([(b, blk c e)] ++ B)) b (blk c e) g ∧ ∀ o, g o = A ++ ([(b, o)] ++ B) := by
    intro A
    induction A with
    | nil => exact ⟨_, .here, fun _ => rfl⟩
    | cons p A ih =>
      obtain ⟨g, h1, h2⟩ := ih
      exact ⟨_, .there h1, fun o => congrArg (p :: ·) (h2 o)⟩
  obtain ⟨g, h1, h2⟩ := hat A
  rw [← h2]
  exact H.setRow h1

theorem info_of_run {e : TypeId} {i : TypeInfo} (h : ∀ w, (typeInfo e).run P w = .ok i w) (w : World) : P.info? e = some i := by
  have h1 := h w
  simp only [typeInfo, Sem.run_bind, run_program, Result.andThen_ok] at h1
  cases hq : P.info? e with
  | none => simp [hq] at h1
  | some j => simp [hq] at h1; rw [h1]

theorem E_append {t tx e : TypeId} {sz m len : Nat} {v u : Value} {xs news zs : List Value} {z : Value} {i : TypeInfo} {M : List (Nat × Obj)} {f} {x y : Operand} (H : Hp w0 L w) (hM : AtM L M f) (ho : OwnS w0.heap.size e sz v len xs M)
    (ht : P.underlying t = some (.slice e)) (hI0 : ∀ w, (typeInfo e).run P w = .ok i w) (hsz : i.size = sz) (hZ : i.zero = some z) (hz : z.cells = zs.toArray) (hzl : zs.length = sz)
    (hx : ev E x = v) (hy : ev E y = u) (hs : Src P sz tx u m news w) (hlen : len + m ≤ 9223372036854775807) (hby : (len + m) * i.bytes ≤ 140737488355328) :
    ∃ v' M' w', OwnS w0.heap.size e sz v' (len + m) (xs ++ news) M' ∧ Hp w0 (f M') w' ∧ (execOp (ev E) (mk d (bi .append #[x, y] #[t, tx]) ty pos after)).run P w = .ok (.value v') w' := by
  subst hsz
  have hI : P.info? e = some i := info_of_run hI0 w
  have hnl : (xs ++ news).length = (len + m) * i.size := by rw [List.length_append, ho.1, hs.newsLen, Nat.add_mul]
  have hexec : (execOp (ev E) (mk d (bi .append #[x, y] #[t, tx]) ty pos after)).run P w = ((Builtin.append_ #[t, tx] ty #[v, u]).run P w).andThen fun a w' => .ok (.value a) w' := by
    subst hx hy
    simp [execOp, resolve, invoke, builtin]
  rw [hexec]
  have hzc : ∀ k, (Builtin.zeroCells z.cells k).toList.length = k * i.size := by
    intro k; rw [hz]; simp [Builtin.zeroCells, hzl]
  rcases ho.2 with ⟨rfl, rfl, rfl⟩ | ⟨b, cap, sp, rfl, hb, rfl, hspl, hcap⟩
  · have hxs : xs = [] := List.length_eq_zero_iff.1 (by simpa using ho.1)
    subst hxs
    rcases Nat.eq_zero_or_pos m with rfl | hm
    · have hn : news = [] := List.length_eq_zero_iff.1 (by simpa using hs.newsLen)
      subst hn
      refine ⟨nilS, [], w, OwnS.nil _ _ _, ?_, ?_⟩
      · obtain ⟨A, B, e1, hf⟩ := hM.split
        rw [hf]; subst e1; exact H
      · rcases hs.kind with ⟨e', hk⟩ | hk <;> simp [Builtin.append_, run_underlying ht, run_underlying hk, sizeOf, typeInfo, hI, hs.len, hs.cells]
    · have hfit : Builtin.nextslicecap (0 + m) 0 * i.bytes ≤ 281474976710656 := by
        rw [Nat.zero_add, nextslicecap_zero hm]; simp only [Nat.zero_add] at hby; omega
      have hr := run_append_grow_src (w := w) (ty := ty) t tx e i z ht hI hZ none 0 0 [] (by simp [Builtin.firstCells]) u m news hs (by omega) (by omega) hfit
      refine ⟨_, [((w.drew).heap.size, blk ((([] : List Value) ++ news) ++ (Builtin.zeroCells z.cells (grownCap w (0 + m) 0 e - (0 + m))).toList) e)], _, ?_, ?_, by rw [hr]; rfl⟩
      · exact OwnS.new H.size hnl (hzc _) (grownCap_ge w (0 + m) 0 e)
      · refine H.swap (w' := w.drew.alloc _) hM (fun p hp => by cases hp) rfl rfl rfl (by simp) (fun k hk => heap_alloc w.drew _ k hk) ?_ (Nat.le_refl _)
        rw [heap_alloc_new]
        congr 2
        apply Array.ext'; simp
  · have hblk := H.atM hM (.head _)
    rcases Nat.lt_or_ge cap (len + m) with hg | hroom
    · have hfit : Builtin.nextslicecap (len + m) cap * i.bytes ≤ 281474976710656 := growslice_fits hg hby
      have hold : (Builtin.firstCells i.size len (sl b 0 len cap)).run P w.drew = .ok xs.toArray w.drew := by
        refine run_firstCells_some w.drew i.size len _ len cap xs ho.1 (fun j u hj => ?_)
        rw [add_none, World.cell?_drew, cell_blk hblk]
        rw [Nat.zero_add, List.getElem?_append_left (List.getElem?_eq_some_iff.1 hj).1]
        exact hj
      have hr := run_append_grow_src (w := w) (ty := ty) t tx e i z ht hI hZ (some ⟨b, 0, none⟩) len cap xs hold u m news hs hg (by omega) hfit
      refine ⟨_, [((w.drew).heap.size, blk ((xs ++ news) ++ (Builtin.zeroCells z.cells (grownCap w (len + m) cap e - (len + m))).toList) e)], _, ?_, ?_, by rw [hr]; rfl⟩
      · exact OwnS.new H.size hnl (hzc _) (grownCap_ge w (len + m) cap e)
      · refine H.swap (w' := w.drew.alloc _) hM (fun p hp => by rw [List.mem_singleton.1 hp]; exact hb) rfl rfl rfl (by simp) (fun k hk => heap_alloc w.drew _ k hk) ?_ (Nat.le_refl _)
        rw [heap_alloc_new]
        congr 2
        apply Array.ext'; simp
    · have hle : len * i.size + news.length ≤ (xs ++ sp).length := by
        rw [List.length_append, ho.1, hspl, hs.newsLen, ← Nat.add_mul, ← Nat.add_mul]
        exact Nat.mul_le_mul_right _ (by omega)
      have hst := run_storeCells_at P b (len * i.size) e news 0 (xs ++ sp).toArray w hblk (by simpa using hle) hs.one
      simp only [Nat.add_zero] at hst
      have hrun : (Builtin.append_ #[t, tx] ty #[sl b 0 len cap, u]).run P w = .ok (sl b 0 (len + m) cap) (w.setRow b ((xs ++ sp).take (len * i.size) ++ news ++ (xs ++ sp).drop (len * i.size + news.length)).toArray) := by
        rcases hs.kind with ⟨e', hk⟩ | hk <;> simp [Builtin.append_, run_underlying ht, run_underlying hk, sizeOf, typeInfo, hI, hs.len, hroom, hs.cells, add_none, hst]
      have e1 : (xs ++ sp).take (len * i.size) ++ news ++ (xs ++ sp).drop (len * i.size + news.length) = (xs ++ news) ++ sp.drop news.length := by
        rw [← ho.1, List.take_left, List.drop_append]
        simp
      rw [e1] at hrun
      refine ⟨_, _, _, ?_, H.setM hM (c' := (xs ++ news) ++ sp.drop news.length), by rw [hrun]; rfl⟩
      refine OwnS.new hb hnl ?_ hroom
      rw [List.length_drop, hspl, hs.newsLen, ← Nat.sub_mul]
      congr 1
      omega

end
end Go.Proofs.YthonajikgljgmaaGreat.Fx

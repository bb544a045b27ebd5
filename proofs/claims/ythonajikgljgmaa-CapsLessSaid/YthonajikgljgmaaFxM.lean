/-
  Slices of the call's own that do not begin at the head of their block.
-/
import Derived.Test.YthonajikgljgmaaFxL
namespace Go.Proofs.Ythonajikgljgmaa.Fx
open Go

/-- A slice of the call's own, somewhere in a block that B does not reach; its elements take one cell each. -/
def OwnQ (B : Nat) (e : TypeId) (v : Value) (xs : List Value) (M : List (Nat × Obj)) : Prop :=
  (v = nilS ∧ xs = [] ∧ M = []) ∨
    ∃ b off cap pre sp, v = sl b off xs.length cap ∧ B ≤ b ∧ M = [(b, blk (pre ++ (xs ++ sp)) e)] ∧ pre.length = off ∧ cap ≤ xs.length + sp.length ∧ xs.length ≤ cap

theorem OwnQ.nil (B : Nat) (e : TypeId) : OwnQ B e nilS [] [] := .inl ⟨rfl, rfl, rfl⟩
theorem OwnQ.keys {B : Nat} {e : TypeId} {v : Value} {xs : List Value} {M : List (Nat × Obj)} (h : OwnQ B e v xs M) : ∀ p ∈ M, B ≤ p.1 := by
  rcases h with ⟨_, _, rfl⟩ | ⟨b, off, cap, pre, sp, _, hb, rfl, _⟩
  · intro p hp; cases hp
  · intro p hp; rw [List.mem_singleton.1 hp]; exact hb
theorem OwnQ.mono {B B' : Nat} {e : TypeId} {v : Value} {xs : List Value} {M : List (Nat × Obj)} (h : OwnQ B e v xs M) (hB : B' ≤ B) : OwnQ B' e v xs M := by
  rcases h with h | ⟨b, off, cap, pre, sp, h1, hb, h2⟩
  · exact .inl h
  · exact .inr ⟨b, off, cap, pre, sp, h1, Nat.le_trans hB hb, h2⟩
theorem OwnQ.form {B : Nat} {e : TypeId} {v : Value} {xs : List Value} {M : List (Nat × Obj)} (h : OwnQ B e v xs M) : ∃ ao cap, v = .slice ao xs.length cap := by
  rcases h with ⟨rfl, rfl, _⟩ | ⟨b, off, cap, pre, sp, h1, _⟩
  · exact ⟨none, 0, rfl⟩
  · exact ⟨_, cap, h1⟩
theorem OwnQ.one {B : Nat} {e : TypeId} {v : Value} {xs : List Value} {M : List (Nat × Obj)} (h : OwnQ B e v xs M) : v.oneCell' = true := by
  obtain ⟨ao, cap, rfl⟩ := h.form; rfl
theorem OwnQ.ofS {B len : Nat} {e : TypeId} {v : Value} {xs : List Value} {M : List (Nat × Obj)} (h : OwnS B e 1 v len xs M) : OwnQ B e v xs M := by
  obtain ⟨hl, h⟩ := h
  rw [Nat.mul_one] at hl
  rcases h with ⟨rfl, rfl, rfl⟩ | ⟨b, cap, sp, rfl, hb, rfl, hs, hc⟩
  · obtain rfl : xs = [] := List.length_eq_zero_iff.1 hl
    exact .nil _ _
  · exact .inr ⟨b, 0, cap, [], sp, by rw [hl], hb, by simp, rfl, by omega, by omega⟩
theorem OwnQ.rds {w : World} {B : Nat} {e : TypeId} {v : Value} {xs : List Value} {M : List (Nat × Obj)} (h : OwnQ B e v xs M) (hM : ∀ p ∈ M, w.heap[p.1]? = some p.2) : RdS w v xs := by
  rcases h with ⟨rfl, rfl, rfl⟩ | ⟨b, off, cap, pre, sp, rfl, hb, rfl, hp, hs, hc⟩
  · exact RdS.nil
  · subst hp
    refine RdS.blk (c := pre ++ (xs ++ sp)) (hM _ (.head _)) ?_ (by simp) hc
    rw [List.drop_left, List.take_left]

section
variable {P : Program} {E : Env} {w0 w : World} {L : List (Nat × Obj)}
variable {d : Option Nat} {ty : TypeId} {pos : String} {after : Array Edge}

theorem OwnQ.rdsH {B : Nat} {e : TypeId} {v : Value} {xs : List Value} {M A B' : List (Nat × Obj)} (h : OwnQ B e v xs M) (H : Hp w0 (A ++ (M ++ B')) w) : RdS w v xs :=
  h.rds fun p hp => H.held p (List.mem_append.2 (.inr (List.mem_append.2 (.inl hp))))

/-- what is behind the first element -/
theorem E_tailQ {t e elem : TypeId} {x y : Operand} {B : Nat} {v a : Value} {xs : List Value} {M : List (Nat × Obj)} (ho : OwnQ B e v (a :: xs) M) (ht : P.underlying t = some (.slice elem)) (hS : ∀ w, (sizeOf elem).run P w = .ok 1 w)
    (hx : ev E x = v) (hy : ev E y = .int .i64 1) :
    ∃ v', OwnQ B e v' xs M ∧ (execOp (ev E) (mk d (.slice t x (some y) none none) ty pos after)).run P w = .ok (.value v') w := by
  rcases ho with ⟨_, h, _⟩ | ⟨b, off, cap, pre, sp, rfl, hb, rfl, hp, hs, hc⟩
  · cases h
  · rw [List.length_cons] at hs hc hx
    by_cases h1 : cap = 1
    · subst h1
      have hl : xs = [] := List.length_eq_zero_iff.1 (by omega)
      subst hl
      refine ⟨_, ?_, R_sliceE (i := 1) (j := 1) ht hS hx (.some hy) (.none (dflt := 1)) rfl rfl⟩
      exact .inr ⟨b, off, 0, pre, a :: sp, rfl, hb, rfl, hp, by simp, Nat.le_refl _⟩
    · refine ⟨_, ?_, R_slice (i := 1) (j := ((xs.length + 1 : Nat) : Int)) ht hS hx (.some hy) (.none (dflt := ((xs.length + 1 : Nat) : Int))) (by omega) (by omega) (by omega) (by omega) (by omega) rfl⟩
      refine .inr ⟨b, off + 1, cap - 1, pre ++ [a], sp, ?_, hb, by simp, by simp [hp], by omega, by omega⟩
      rw [show (((xs.length + 1 : Nat) : Int) - 1).toNat = xs.length from by omega, show ((cap : Int) - 1).toNat = cap - 1 from by omega]
      rfl

theorem WL_tailQ {n : Nat} {ops : Array Oper} {kn : Env → World → Prop} {l : List Oper} {t e elem : TypeId} {x y : Operand} {B : Nat} {v a : Value} {xs : List Value} {M : List (Nat × Obj)} (ho : OwnQ B e v (a :: xs) M) (ht : P.underlying t = some (.slice elem)) (hS : ∀ w, (sizeOf elem).run P w = .ok 1 w)
    (hx : ev E x = v) (hy : ev E y = .int .i64 1) (h : ∀ v', OwnQ B e v' xs M → WL P n ops kn l (updo n E d v') w) : WL P n ops kn (mk d (.slice t x (some y) none none) ty pos after :: l) E w := by
  obtain ⟨v', hQ, hr⟩ := E_tailQ (d := d) (ty := ty) (pos := pos) (after := after) (w := w) ho ht hS hx hy
  exact WL_step rfl hr (h v' hQ)

theorem E_appendQ {t tx e : TypeId} {m : Nat} {v u : Value} {xs news zs : List Value} {z : Value} {i : TypeInfo} {M : List (Nat × Obj)} {f} {x y : Operand} (H : Hp w0 L w) (hM : AtM L M f) (ho : OwnQ w0.heap.size e v xs M)
    (ht : P.underlying t = some (.slice e)) (hI0 : ∀ w, (typeInfo e).run P w = .ok i w) (hsz : i.size = 1) (hZ : i.zero = some z) (hz : z.cells = zs.toArray) (hzl : zs.length = 1)
    (hx : ev E x = v) (hy : ev E y = u) (hs : Src P 1 tx u m news w) (hlen : xs.length + m ≤ 9223372036854775807) (hby : (xs.length + m) * i.bytes ≤ 140737488355328) :
    ∃ v' M' w', OwnQ w0.heap.size e v' (xs ++ news) M' ∧ Hp w0 (f M') w' ∧ (execOp (ev E) (mk d (bi .append #[x, y] #[t, tx]) ty pos after)).run P w = .ok (.value v') w' := by
  rcases ho with ⟨rfl, rfl, rfl⟩ | ⟨b, off, cap, pre, sp, rfl, hb, rfl, hp, hsp, hcap⟩
  · obtain ⟨v', M', w', hO, H', hr⟩ := E_append (d := d) (ty := ty) (pos := pos) (after := after) H hM (OwnS.nil _ e 1) ht hI0 hsz hZ hz hzl hx hy hs (by simpa using hlen) (by simpa using hby)
    exact ⟨v', M', w', .ofS hO, H', hr⟩
  · have hI : P.info? e = some i := info_of_run hI0 w
    have hnm : news.length = m := by have := hs.newsLen; simpa using this
    have hexec : (execOp (ev E) (mk d (bi .append #[x, y] #[t, tx]) ty pos after)).run P w = ((Builtin.append_ #[t, tx] ty #[sl b off xs.length cap, u]).run P w).andThen fun a w' => .ok (.value a) w' := by
      subst hy
      simp [execOp, resolve, invoke, builtin, hx]
    rw [hexec]
    have hzc : ∀ k, (Builtin.zeroCells z.cells k).toList.length = k := by
      intro k; rw [hz]; simp [Builtin.zeroCells, hzl]
    have hblk := H.atM hM (.head _)
    subst hp
    rcases Nat.lt_or_ge cap (xs.length + m) with hg | hroom
    · have hfit : Builtin.nextslicecap (xs.length + m) cap * i.bytes ≤ 281474976710656 := growslice_fits hg hby
      have hold : (Builtin.firstCells i.size xs.length (sl b pre.length xs.length cap)).run P w.drew = .ok xs.toArray w.drew := by
        refine run_firstCells_some w.drew i.size xs.length _ xs.length cap xs (by rw [hsz]; simp) (fun j u hj => ?_)
        have hjl := (List.getElem?_eq_some_iff.1 hj).1
        rw [add_none, World.cell?_drew, cell_blk hblk, List.getElem?_append_right (by omega), show pre.length + j - pre.length = j from by omega, List.getElem?_append_left hjl]
        exact hj
      rw [← hsz] at hs
      have hr := run_append_grow_src (w := w) (ty := ty) t tx e i z ht hI hZ (some ⟨b, pre.length, none⟩) xs.length cap xs hold u m news hs hg (by omega) hfit
      refine ⟨_, [((w.drew).heap.size, blk ((xs ++ news) ++ (Builtin.zeroCells z.cells (grownCap w (xs.length + m) cap e - (xs.length + m))).toList) e)], _, ?_, ?_, by rw [hr]; rfl⟩
      · refine .inr ⟨_, 0, grownCap w (xs.length + m) cap e, [], _, by rw [List.length_append, hnm], H.size, rfl, rfl, ?_, ?_⟩
        · rw [hzc, List.length_append, hnm]; have := grownCap_ge w (xs.length + m) cap e; omega
        · rw [List.length_append, hnm]; exact grownCap_ge w (xs.length + m) cap e
      · refine H.swap (w' := w.drew.alloc _) hM (fun p hp => by rw [List.mem_singleton.1 hp]; exact hb) rfl rfl rfl (by simp) (fun k hk => heap_alloc w.drew _ k hk) ?_ (Nat.le_refl _)
        rw [heap_alloc_new]
        congr 2
        apply Array.ext'; simp
    · have hst := run_storeCells_at P b (pre.length + xs.length) e news 0 (pre ++ (xs ++ sp)).toArray w hblk (by simp; omega) hs.one
      simp only [Nat.add_zero] at hst
      have hrun : (Builtin.append_ #[t, tx] ty #[sl b pre.length xs.length cap, u]).run P w = .ok (sl b pre.length (xs.length + m) cap) (w.setRow b ((pre ++ (xs ++ sp)).take (pre.length + xs.length) ++ news ++ (pre ++ (xs ++ sp)).drop (pre.length + xs.length + news.length)).toArray) := by
        rw [← hsz] at hs
        have h1 : xs.length * i.size = xs.length := by rw [hsz]; simp
        rcases hs.kind with ⟨e', hk⟩ | hk <;> simp [Builtin.append_, run_underlying ht, run_underlying hk, sizeOf, typeInfo, hI, hs.len, hroom, hs.cells, add_none, h1, hst]
      have e1 : (pre ++ (xs ++ sp)).take (pre.length + xs.length) ++ news ++ (pre ++ (xs ++ sp)).drop (pre.length + xs.length + news.length) = pre ++ ((xs ++ news) ++ sp.drop news.length) := by
        rw [List.take_length_add_append, List.take_left, Nat.add_assoc, List.drop_length_add_append, List.drop_length_add_append]
        simp
      rw [e1] at hrun
      refine ⟨_, _, _, ?_, H.setM hM (c' := pre ++ ((xs ++ news) ++ sp.drop news.length)), by rw [hrun]; rfl⟩
      refine .inr ⟨b, pre.length, cap, pre, sp.drop news.length, by rw [List.length_append, hnm], hb, rfl, rfl, ?_, ?_⟩
      · rw [List.length_append, List.length_drop, hnm]; omega
      · rw [List.length_append, hnm]; exact hroom
end
end Go.Proofs.Ythonajikgljgmaa.Fx

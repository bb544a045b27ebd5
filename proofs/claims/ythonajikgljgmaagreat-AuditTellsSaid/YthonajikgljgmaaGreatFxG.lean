/-
  A select with one case and a default, where nothing else runs.
-/
import Derived.Test.YthonajikgljgmaaGreatFxF
import Derived.Conc.LoneSelect
namespace Go.Proofs.YthonajikgljgmaaGreat.Fx
open Go Go.Conc

section
variable {P : Program} {n : Nat} {kn : Env → World → Prop} {kx : Nat → Env → World → Prop} {kr : Env → World → Prop} {l : List Oper} {E : Env} {w0 w : World} {L : List (Nat × Obj)}
variable {d : Option Nat} {ty : TypeId} {pos : String} {after : Array Edge}

theorem comm_of {o : Oper} {ops : Array Oper} {r : List Nat} {b : Frame} {a : Act} {k : List Item} {cs : List Frame} {cases : Array CommCase} {bl : Bool} {sh : CommShape}
    (ho : ops[0]? = some o) (hg : o.guard = none) (hr : (execOp a.eval o).run P w = .ok (.comm cases bl sh) w) :
    ∃ es, stepG P true (G (b.at a (.inRegion ops (0 :: r) :: k)) cs) w = .comm (G (b.at a (.inRegion ops (0 :: r) :: k)) cs) cases bl sh w es := by
  have hw : Region.wanted o (yielded ops a.tmps) = true := by simp [Region.wanted, hg]
  have h := stepG_op (P := P) (b := b) (a := a) (k := k) (cs := cs) (w := w) (i := 0) (rest := r) ho hw
  rw [G, h]
  simp only [stepG.apply, Sem.runT_eq, hr, if_true]
  exact ⟨_, rfl⟩

/-- A region whose first operation communicates, which is one step. -/
theorem W_region_comm {id : Nat} {o : Oper} {v : Value} {w' : World} (hstep : ∀ (b : Frame) (a : Act) (k : List Item) (cs : List Frame) (r : List Nat), Rep n E a →
      step P (lone (b.at a (.inRegion (o :: l).toArray (0 :: r) :: k)) cs w) = .next (lone ((b.at a (.inRegion (o :: l).toArray (0 :: r) :: k)).finish v) cs w'))
    (h : WL P n (o :: l).toArray kn l (updo n E o.dst v) w') : W P n (.region id (o :: l).toArray false) kn kx kr E w := by
  refine ⟨fun a ha => ?_⟩
  intro b k cs
  have h1 := h.out (post n kn kx kr) (fun a E w ha h => ⟨E, ha, h⟩) _ (ha.put o.dst v)
  have h2 : wpOps P (o :: l).toArray (post n kn kx kr) (List.range' 1 l.length) (a.put o.dst v) w' := by
    rw [wpOps_eq_wpList l 1 (fun j => by simp [Nat.add_comm 1 j])]
    exact h1
  obtain ⟨e, a', w₃, hq, harr⟩ := wp_ops (List.range' 1 l.length) _ _ h2 b k cs
  refine ⟨e, a', w₃, hq, .of_steps (.one step_region) (.of_steps (.one ?_) harr)⟩
  have hs := hstep b a k cs (List.range' 1 l.length) ha
  rw [Frame.finish_at] at hs
  have e1 : List.range (o :: l).toArray.size = 0 :: List.range' 1 l.length := by
    rw [List.range_eq_range']; simp [List.range'_succ]
  rw [e1, hs]
  rfl

abbrev selOp (c : Operand) (s : Option Operand) (elem : TypeId) : Op := .select #[{ chan := c, send := s, elem := elem }] false

theorem Hp.setChan {b c c' : Nat} {buf buf' : Array Value} {cl cl' tm tm' : Bool} {s r s' r' : Nat} {f} (H : Hp w0 L w) (hL : At L b (.chan c buf cl s r tm) f) : Hp w0 (f (.chan c' buf' cl' s' r' tm')) (w.setChan b c' buf' cl' s' r' tm') := by
  refine H.put hL rfl rfl rfl (by simp [World.setChan]) (fun k _ hk => ?_) ?_
  · simp only [World.setChan]
    rw [Array.getElem?_setIfInBounds_ne (fun e => hk e.symm)]
  · exact heap_setChan w b c' buf' cl' s' r' tm' (lt_of_some (H.get hL))

/-- a value sent, there is room -/
theorem W_send_room {id : Nat} {x y : Operand} {elem : TypeId} {b c s r : Nat} {buf : List Value} {z v : Value} {f} (H : Hp w0 L w) (hZ : ∀ w, (zeroValue elem).run P w = .ok z w)
    (hx : ev E x = .chan (some b)) (hy : ev E y = v) (hL : At L b (.chan c buf.toArray false s r false) f) (hroom : buf.length < c)
    (h : ∀ w', Hp w0 (f (.chan c (buf ++ [v]).toArray false (s + 1) r false)) w' → WL P n (mk d (selOp x (some y) elem) ty pos after :: l).toArray kn l (updo n E d (.tuple #[.int .i64 0, .bool false])) w') :
    W P n (.region id (mk d (selOp x (some y) elem) ty pos after :: l).toArray false) kn kx kr E w := by
  refine W_region_comm (v := .tuple #[goInt 0, .bool false]) (w' := w.setChan b c (buf ++ [v]).toArray false (s + 1) r false) ?_ (h _ (H.setChan hL))
  intro fr a k cs rr ha
  have hr : (execOp a.eval (mk d (selOp x (some y) elem) ty pos after)).run P w = .ok (.comm #[scase b v z] false .select) w := by
    rw [ha.eval]
    simp [execOp, hx, hy, hZ, scase]
  obtain ⟨es, hc⟩ := comm_of (ops := (mk d (selOp x (some y) elem) ty pos after :: l).toArray) (b := fr) (r := rr) (k := k) (cs := cs) rfl rfl hr
  have hs := step_lone_select_send_room hc (H.get hL) (by simpa using hroom)
  rw [List.push_toArray] at hs
  exact hs

theorem W_send_full {id : Nat} {x y : Operand} {elem : TypeId} {b c s r : Nat} {buf : List Value} {z v : Value} {f} (H : Hp w0 L w) (hZ : ∀ w, (zeroValue elem).run P w = .ok z w)
    (hx : ev E x = .chan (some b)) (hy : ev E y = v) (hL : At L b (.chan c buf.toArray false s r false) f) (hfull : c ≤ buf.length)
    (h : WL P n (mk d (selOp x (some y) elem) ty pos after :: l).toArray kn l (updo n E d (.tuple #[.int .i64 (-1), .bool false])) w) :
    W P n (.region id (mk d (selOp x (some y) elem) ty pos after :: l).toArray false) kn kx kr E w := by
  refine W_region_comm (v := .tuple #[goInt (-1), .bool false]) (w' := w) ?_ h
  intro fr a k cs rr ha
  have hr : (execOp a.eval (mk d (selOp x (some y) elem) ty pos after)).run P w = .ok (.comm #[scase b v z] false .select) w := by
    rw [ha.eval]
    simp [execOp, hx, hy, hZ, scase]
  obtain ⟨es, hc⟩ := comm_of (ops := (mk d (selOp x (some y) elem) ty pos after :: l).toArray) (b := fr) (r := rr) (k := k) (cs := cs) rfl rfl hr
  exact step_lone_select_send_full hc (H.get hL) (by simpa using hfull)

/-- a value received -/
theorem W_recv_some {id : Nat} {x : Operand} {elem : TypeId} {b c s r : Nat} {v : Value} {buf : List Value} {z : Value} {f} (H : Hp w0 L w) (hZ : ∀ w, (zeroValue elem).run P w = .ok z w)
    (hx : ev E x = .chan (some b)) (hL : At L b (.chan c (v :: buf).toArray false s r false) f)
    (h : ∀ w', Hp w0 (f (.chan c buf.toArray false s (r + 1) false)) w' → WL P n (mk d (selOp x none elem) ty pos after :: l).toArray kn l (updo n E d (.tuple #[.int .i64 0, .bool true, v])) w') :
    W P n (.region id (mk d (selOp x none elem) ty pos after :: l).toArray false) kn kx kr E w := by
  refine W_region_comm (v := .tuple #[goInt 0, .bool true, v]) (w' := w.setChan b c buf.toArray false s (r + 1) false) ?_ (h _ (H.setChan hL))
  intro fr a k cs rr ha
  have hr : (execOp a.eval (mk d (selOp x none elem) ty pos after)).run P w = .ok (.comm #[rcase b z] false .select) w := by
    rw [ha.eval]
    simp [execOp, hx, hZ, rcase]
  obtain ⟨es, hc⟩ := comm_of (ops := (mk d (selOp x none elem) ty pos after :: l).toArray) (b := fr) (r := rr) (k := k) (cs := cs) rfl rfl hr
  have hs := step_lone_select_recv_buf hc (H.get hL) (by simp)
  have e1 : (v :: buf).toArray.extract 1 (v :: buf).toArray.size = buf.toArray := by simp
  have e2 : (v :: buf).toArray.getD 0 undef = v := rfl
  rw [e1, e2] at hs
  exact hs

theorem W_recv_none {id : Nat} {x : Operand} {elem : TypeId} {b c s r : Nat} {z : Value} {f} (H : Hp w0 L w) (hZ : ∀ w, (zeroValue elem).run P w = .ok z w)
    (hx : ev E x = .chan (some b)) (hL : At L b (.chan c #[] false s r false) f)
    (h : WL P n (mk d (selOp x none elem) ty pos after :: l).toArray kn l (updo n E d (.tuple #[.int .i64 (-1), .bool false, z])) w) :
    W P n (.region id (mk d (selOp x none elem) ty pos after :: l).toArray false) kn kx kr E w := by
  refine W_region_comm (v := .tuple #[goInt (-1), .bool false, z]) (w' := w) ?_ h
  intro fr a k cs rr ha
  have hr : (execOp a.eval (mk d (selOp x none elem) ty pos after)).run P w = .ok (.comm #[rcase b z] false .select) w := by
    rw [ha.eval]
    simp [execOp, hx, hZ, rcase]
  obtain ⟨es, hc⟩ := comm_of (ops := (mk d (selOp x none elem) ty pos after :: l).toArray) (b := fr) (r := rr) (k := k) (cs := cs) rfl rfl hr
  exact step_lone_select_default hc (H.get hL)
end
end Go.Proofs.YthonajikgljgmaaGreat.Fx

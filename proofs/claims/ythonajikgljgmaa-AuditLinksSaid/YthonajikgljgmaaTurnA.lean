/-
  A byte of a process, or of a file, turned makes it bad.
-/
import Derived.Test.YthonajikgljgmaaSlotD
import Derived.Test.YthonajikgljgmaaFileT
namespace Go.Proofs.Ythonajikgljgmaa.Slot
open Go Go.Proofs Go.Proofs.Ythonajikgljgmaa.Fx Go.Proofs.Ythonajikgljgmaa.Codec
set_option maxRecDepth 100000
set_option linter.unusedVariables false
set_option linter.unusedSimpArgs false
set_option maxHeartbeats 2000000
theorem bytes_inj {f g : Pi} (hf : okP f) (hg : okP g) : bytesP f = bytesP g ↔ f = g :=
  ⟨fun h => by rw [← ofB_bytes hf, h, ofB_bytes hg], fun h => by rw [h]⟩
theorem u8_move {a b : UInt8} (h : b ≠ 0) : a + b ≠ a := fun e => h (by
  have := congrArg (fun x => x - a) e
  simp only [UInt8.sub_self] at this
  rw [UInt8.add_comm, UInt8.add_sub_cancel] at this
  exact this)
theorem foldl_add (d : UInt8) : ∀ (l : List UInt8) (a : UInt8), l.foldl (· + ·) (a + d) = l.foldl (· + ·) a + d
  | [], _ => rfl
  | x :: l, a => by
    rw [List.foldl_cons, List.foldl_cons, UInt8.add_assoc, UInt8.add_comm d x, ← UInt8.add_assoc]
    exact foldl_add d l (a + x)
theorem foldl_set (d x : UInt8) : ∀ (l : List UInt8) (k : Nat) (a : UInt8), l[k]? = some x → (l.set k (x + d)).foldl (· + ·) a = l.foldl (· + ·) a + d
  | [], k, _, h => by simp at h
  | y :: l, 0, a, h => by
    simp only [List.getElem?_cons_zero, Option.some.injEq] at h
    subst h
    rw [List.set_cons_zero, List.foldl_cons, List.foldl_cons, ← UInt8.add_assoc]
    exact foldl_add d l (a + y)
  | y :: l, k + 1, a, h => by
    rw [List.set_cons_succ, List.foldl_cons, List.foldl_cons]
    exact foldl_set d x l k (a + y) (by simpa using h)
theorem sum_set {l : List UInt8} {k : Nat} {x d : UInt8} (h : l[k]? = some x) : sumB (l.set k (x + d)) = sumB l + d := by
  unfold sumB
  rw [List.length_set]
  exact foldl_set d x l k _ h
theorem bytes_22 (p : Pi) : (bytesP p)[22]? = some 0 := by
  unfold bytesP
  rw [List.getElem?_append_right (by rw [hbs_len]; decide), hbs_len]
  rfl
theorem bytes_23 (p : Pi) : (bytesP p)[23]? = some 0 := by
  unfold bytesP
  rw [List.getElem?_append_right (by rw [hbs_len]; decide), hbs_len]
  rfl

theorem turned_bad {f : Pi} (h : okP f) {k : Nat} {d x : UInt8} (hk : k < 24) (hd : d ≠ 0) (hx : (bytesP f)[k]? = some x) : decP ((bytesP f).set k (x + d)) = (zeroP, 2) := by
  have hl := bytes_len f
  have self : ((bytesP f).set k (x + d))[k]? = some (x + d) := List.getElem?_set_self (by omega)
  have other : ∀ j, k ≠ j → ((bytesP f).set k (x + d))[j]? = (bytesP f)[j]? := fun j hj => List.getElem?_set_ne hj
  refine decP_bad (fun hg => ?_) (fun hz => ?_)
  · obtain ⟨g, hgg⟩ : ∃ g, ofB ((bytesP f).set k (x + d)) = g := ⟨_, rfl⟩
    have hW := hg.2.2
    rw [hgg] at hW
    rw [← hW] at self other
    by_cases h20 : k = 20
    · subst h20
      rw [bytes_20] at self hx
      cases hx
      exact u8_move hd (Option.some.inj self).symm
    by_cases h22 : k = 22
    · subst h22
      rw [bytes_22] at self hx
      cases hx
      exact u8_move hd (Option.some.inj self).symm
    by_cases h23 : k = 23
    · subst h23
      rw [bytes_23] at self hx
      cases hx
      exact u8_move hd (Option.some.inj self).symm
    have ht : hbs g = ((bytesP f).set k (x + d)).take 21 := by rw [← bytes_t21, hW]
    by_cases h21 : k = 21
    · subst h21
      rw [List.take_set_of_le (Nat.le_refl _), bytes_t21] at ht
      rw [bytes_21, ht] at self
      rw [bytes_21] at hx
      cases hx
      exact u8_move hd (Option.some.inj self).symm
    · have ht2 : hbs g = (hbs f).set k (x + d) := by rw [ht, List.take_set, bytes_t21]
      have hxf : (hbs f)[k]? = some x := by rw [← bytes_t21, List.getElem?_take_of_lt (by omega)]; exact hx
      have o21 := other 21 h21
      rw [bytes_21, bytes_21, ht2, sum_set hxf] at o21
      exact u8_move hd (Option.some.inj o21)
  · have hz := hz.2
    by_cases h20 : k = 20
    · have h0 := other 0 (by omega)
      obtain ⟨z, hz1, hz2, hz0⟩ := pickH h (i := 0) (by decide)
      rw [hz2] at h0
      have e := hz _ (List.mem_of_getElem? h0)
      simp only [List.getElem?_cons_zero, Option.some.injEq, Value.int.injEq, true_and] at hz1
      obtain ⟨hr, _⟩ := h
      have h1 := b8_n f.s (by omega) (by omega)
      rw [hz1, e] at h1
      simp at h1
      omega
    · have h0 := other 20 h20
      rw [bytes_20] at h0
      exact absurd (hz _ (List.mem_of_getElem? h0)) (by decide)

end Go.Proofs.Ythonajikgljgmaa.Slot
namespace Go.Proofs.Ythonajikgljgmaa.File
open Go Go.Proofs Go.Proofs.Ythonajikgljgmaa.Fx Go.Proofs.Ythonajikgljgmaa.Codec
set_option maxRecDepth 100000
set_option linter.unusedVariables false
set_option linter.unusedSimpArgs false
set_option maxHeartbeats 2000000
theorem bytes_inj {f g : Fl} (hf : fileOk f) (hg : fileOk g) : fileBytes f = fileBytes g ↔ f = g :=
  ⟨fun h => by rw [← ofB_bytes hf, h, ofB_bytes hg], fun h => by rw [h]⟩

theorem u8_move {a b : UInt8} (h : b ≠ 0) : a + b ≠ a := fun e => h (by
  have := congrArg (fun x => x - a) e
  simp only [UInt8.sub_self] at this
  rw [UInt8.add_comm, UInt8.add_sub_cancel] at this
  exact this)

/-- the form of a file's bytes -/
def formB (xs : List UInt8) : Prop := ∃ a b c d : UInt8, xs = [a, b, c, d, 179, 5 + a + b + c + d + 179, 0, 0]
theorem formB_bytes (f : Fl) : formB (fileBytes f) := ⟨_, _, _, _, rfl⟩

theorem form_turn {xs : List UInt8} {k : Nat} {by_ : UInt8} (h : formB xs) (hk : k < 8) (hb : by_ ≠ 0) : ¬ formB (xs.set k (xs[k]?.getD 0 + by_)) := by
  rintro ⟨a', b', c', d', he⟩
  obtain ⟨a, b, c, d, rfl⟩ := h
  have hz : ∀ x y : UInt8, x + by_ = y → x = y → False := fun x y h1 h2 => u8_move hb (h1.trans h2.symm)
  match k, hk with
  | 0, _ =>
    simp only [List.set_cons_zero, List.cons.injEq, List.getElem?_cons_zero, Option.getD_some] at he
    obtain ⟨h0, rfl, rfl, rfl, _, h5, _⟩ := he
    exact hz a a' h0 (by simpa using h5)
  | 1, _ =>
    simp only [List.set_cons_succ, List.set_cons_zero, List.cons.injEq, List.getElem?_cons_zero, List.getElem?_cons_succ, Option.getD_some] at he
    obtain ⟨rfl, h0, rfl, rfl, _, h5, _⟩ := he
    exact hz b b' h0 (by simpa using h5)
  | 2, _ =>
    simp only [List.set_cons_succ, List.set_cons_zero, List.cons.injEq, List.getElem?_cons_zero, List.getElem?_cons_succ, Option.getD_some] at he
    obtain ⟨rfl, rfl, h0, rfl, _, h5, _⟩ := he
    exact hz c c' h0 (by simpa using h5)
  | 3, _ =>
    simp only [List.set_cons_succ, List.set_cons_zero, List.cons.injEq, List.getElem?_cons_zero, List.getElem?_cons_succ, Option.getD_some] at he
    obtain ⟨rfl, rfl, rfl, h0, _, h5, _⟩ := he
    exact hz d d' h0 (by simpa using h5)
  | 4, _ =>
    simp only [List.set_cons_succ, List.set_cons_zero, List.cons.injEq, List.getElem?_cons_zero, List.getElem?_cons_succ, Option.getD_some] at he
    exact u8_move hb he.2.2.2.2.1
  | 5, _ =>
    simp only [List.set_cons_succ, List.set_cons_zero, List.cons.injEq, List.getElem?_cons_zero, List.getElem?_cons_succ, Option.getD_some] at he
    obtain ⟨rfl, rfl, rfl, rfl, _, h5, _⟩ := he
    exact u8_move hb h5
  | 6, _ =>
    simp only [List.set_cons_succ, List.set_cons_zero, List.cons.injEq, List.getElem?_cons_zero, List.getElem?_cons_succ, Option.getD_some] at he
    exact u8_move hb he.2.2.2.2.2.2.1
  | 7, _ =>
    simp only [List.set_cons_succ, List.set_cons_zero, List.cons.injEq, List.getElem?_cons_zero, List.getElem?_cons_succ, Option.getD_some] at he
    exact u8_move hb he.2.2.2.2.2.2.2.1

theorem turned_bad {f : Fl} (h : fileOk f) {k : Nat} {by_ : UInt8} (hk : k < 8) (hb : by_ ≠ 0) : decP ((fileBytes f).set k ((fileBytes f)[k]?.getD 0 + by_)) = (zeroF, 2) := by
  refine decP_bad (fun hg => ?_) (fun hz => ?_)
  · refine form_turn (formB_bytes f) hk hb ?_
    rw [← hg.2.2]
    exact formB_bytes _
  · have hz := hz.2
    obtain ⟨p1, p2⟩ := h
    have hk1 : b8 f.k ≠ 0 := fun e => by
      have h1 := b8_n f.k (by omega) (by omega)
      rw [e] at h1
      simp at h1
      omega
    by_cases h0 : k = 0
    · subst h0
      exact absurd (hz 179 (by simp [fileBytes, fb5])) (by decide)
    · refine hk1 (hz _ ?_)
      have : ((fileBytes f).set k ((fileBytes f)[k]?.getD 0 + by_))[0]? = some (b8 f.k) := by
        rw [List.getElem?_set, if_neg h0]; rfl
      exact List.mem_of_getElem? this

end Go.Proofs.Ythonajikgljgmaa.File

/-
  Commons of one process with one file, any byte turned: what is bad.
-/
import Derived.Test.YthonajikgljgmaaAudJ
import Derived.Test.YthonajikgljgmaaTurnA
namespace Go.Proofs.Ythonajikgljgmaa.Aud
open Go Go.Proofs Go.Proofs.Ythonajikgljgmaa.Fx
set_option maxRecDepth 100000
set_option linter.unusedVariables false
set_option linter.unusedSimpArgs false
set_option maxHeartbeats 4000000

def oneP (G : Nat) : Slot.Pi := { Slot.zeroP with s := 1, g := (G : Int), f := [0, 0, 0, 5, 0, 0, 0, 0], hf := rfl }
def oneF : File.Fl := ⟨3, 0, 1, 0⟩
def xs0 (G : Nat) : List UInt8 := Mem.put (Mem.put blankB (Slot.bytesP (oneP G)) 0) (File.fileBytes oneF) 224
theorem oneP_ok (G : Nat) (h : G < 8) : Slot.okP (oneP G) := by
  have : ∀ G : Fin 8, Slot.okP (oneP G.val) := by decide
  exact this ⟨G, h⟩
theorem oneF_ok : File.fileOk oneF := by decide
theorem xs0_len (G : Nat) : (xs0 G).length = 492 := by
  unfold xs0
  rw [Mem.put_length, Mem.put_length, blankB_len]
  · rw [Slot.bytes_len, blankB_len]; decide
  · rw [Mem.put_length (by rw [Slot.bytes_len, blankB_len]; decide), blankB_len]; decide
theorem xs0_all (G : Nat) (h : G < 8) : faults (xs0 G) = [] ∧ badAll (xs0 G) = [] ∧ win (xs0 G) 0 24 = Slot.bytesP (oneP G) ∧ win (xs0 G) 224 8 = File.fileBytes oneF := by
  match G, h with
  | 0, _ => exact ⟨by kernel_rfl, by kernel_rfl, by kernel_rfl, by kernel_rfl⟩
  | 1, _ => exact ⟨by kernel_rfl, by kernel_rfl, by kernel_rfl, by kernel_rfl⟩
  | 2, _ => exact ⟨by kernel_rfl, by kernel_rfl, by kernel_rfl, by kernel_rfl⟩
  | 3, _ => exact ⟨by kernel_rfl, by kernel_rfl, by kernel_rfl, by kernel_rfl⟩
  | 4, _ => exact ⟨by kernel_rfl, by kernel_rfl, by kernel_rfl, by kernel_rfl⟩
  | 5, _ => exact ⟨by kernel_rfl, by kernel_rfl, by kernel_rfl, by kernel_rfl⟩
  | 6, _ => exact ⟨by kernel_rfl, by kernel_rfl, by kernel_rfl, by kernel_rfl⟩
  | 7, _ => exact ⟨by kernel_rfl, by kernel_rfl, by kernel_rfl, by kernel_rfl⟩
theorem xs0_faults (G : Nat) (h : G < 8) : faults (xs0 G) = [] ∧ badAll (xs0 G) = [] := ⟨(xs0_all G h).1, (xs0_all G h).2.1⟩
theorem xs0_p (G : Nat) (h : G < 8) : win (xs0 G) 0 24 = Slot.bytesP (oneP G) := (xs0_all G h).2.2.1
theorem xs0_f (G : Nat) (h : G < 8) : win (xs0 G) 224 8 = File.fileBytes oneF := (xs0_all G h).2.2.2
theorem win_set_out {xs : List UInt8} {a n k : Nat} {v : UInt8} (h : k < a ∨ a + n ≤ k) : win (xs.set k v) a n = win xs a n := by
  unfold win
  apply List.ext_getElem?
  intro i
  rw [List.getElem?_take, List.getElem?_take]
  split
  · rw [List.getElem?_drop, List.getElem?_drop, List.getElem?_set_ne (by omega)]
  · rfl
theorem win_set_in {xs : List UInt8} {a n k : Nat} {v : UInt8} (h : k < n) : win (xs.set (a + k) v) a n = (win xs a n).set k v := by
  unfold win
  apply List.ext_getElem?
  intro i
  by_cases hin : i < n
  · rw [List.getElem?_take_of_lt hin, List.getElem?_drop]
    by_cases hi : k = i
    · subst hi
      by_cases hl : a + k < xs.length
      · rw [List.getElem?_set_self hl, List.getElem?_set_self (by rw [List.length_take, List.length_drop]; omega)]
      · rw [List.getElem?_eq_none (by rw [List.length_set]; omega), List.getElem?_eq_none (by rw [List.length_set, List.length_take, List.length_drop]; omega)]
    · rw [List.getElem?_set_ne (by omega), List.getElem?_set_ne hi, List.getElem?_take_of_lt hin, List.getElem?_drop]
  · rw [List.getElem?_eq_none (by rw [List.length_take]; omega), List.getElem?_eq_none (by rw [List.length_set, List.length_take]; omega)]
theorem badN_none {K : Int} {is : Nat → Int} {n : Nat} (h : ∀ j, j < n → is j ≠ 2) : badN K is n = [] := by
  unfold badN
  rw [List.filter_eq_nil_iff.2 (fun j hj => by simpa using h j (List.mem_range.1 hj))]; rfl
theorem badN_nil {K : Int} {is : Nat → Int} {n : Nat} (h : badN K is n = []) : ∀ j, j < n → is j ≠ 2 := by
  intro j hj h2
  have := List.map_eq_nil_iff.1 h
  exact absurd (List.filter_eq_nil_iff.1 this j (List.mem_range.2 hj)) (by simp [h2])
theorem badN_one {K : Int} {is : Nat → Int} {n i : Nat} (hi : i < n) (h2 : is i = 2) (h : ∀ j, j < n → j ≠ i → is j ≠ 2) : badN K is n = [(K, (i : Int))] := by
  induction n with
  | zero => omega
  | succ n ih =>
    by_cases hn : i = n
    · subst hn
      rw [badN_yes h2, badN_none (fun j hj => h j (by omega) (by omega))]; rfl
    · rw [badN_no (h n (by omega) (fun e => hn e.symm)), ih (by omega) (fun j hj hji => h j (by omega) hji)]
theorem badAll_nil {xs : List UInt8} (h : badAll xs = []) : (∀ j, j < 8 → pis xs j ≠ 2) ∧ (∀ j, j < 12 → fis xs j ≠ 2) ∧ (∀ j, j < 4 → qis xs j ≠ 2) ∧
    (∀ j, j < 1 → (Ring.decP (win xs (448 + 40 * j) 40)).2 ≠ 2) ∧ (∀ j, j < 1 → (Cm.decG (win xs (488 + 4 * j) 4)).2 ≠ 2) := by
  unfold badAll at h
  simp only [List.append_eq_nil_iff] at h
  obtain ⟨⟨⟨⟨h1, h2⟩, h3⟩, h4⟩, h5⟩ := h
  exact ⟨badN_nil h1, badN_nil h2, badN_nil h3, badN_nil h4, badN_nil h5⟩
theorem one_p (G : Nat) (h : G < 8) {k : Nat} (hk : k < 24) {d x : UInt8} (hd : d ≠ 0) (hx : (xs0 G)[k]? = some x) : badAll ((xs0 G).set k (x + d)) = [(1, 0)] := by
  obtain ⟨b1, b2, b3, b4, b5⟩ := badAll_nil (xs0_faults G h).2
  have hb : (Slot.bytesP (oneP G))[k]? = some x := by
    rw [← xs0_p G h]; unfold win; rw [List.drop_zero, List.getElem?_take_of_lt hk]; exact hx
  have e1 : badN 1 (pis ((xs0 G).set k (x + d))) 8 = [(1, 0)] := by
    refine badN_one (i := 0) (by decide) ?_ (fun j hj hj0 => ?_)
    · unfold pis
      have h9 := win_set_in (xs := xs0 G) (a := 0) (n := 24) (k := k) (v := x + d) hk
      rw [Nat.zero_add] at h9
      rw [show 0 + 24 * 0 = 0 from rfl, h9, xs0_p G h, Slot.turned_bad (oneP_ok G h) hk hd hb]
    · unfold pis; rw [win_set_out (by omega)]; exact b1 j hj
  unfold badAll
  rw [e1, badN_none (is := fis _) (fun j hj => by unfold fis; rw [win_set_out (by omega)]; exact b2 j hj), badN_none (is := qis _) (fun j hj => by unfold qis; rw [win_set_out (by omega)]; exact b3 j hj),
    badN_none (K := 4) (fun j hj => by rw [win_set_out (by omega)]; exact b4 j hj), badN_none (K := 5) (fun j hj => by rw [win_set_out (by omega)]; exact b5 j hj)]
  rfl
theorem one_f (G : Nat) (h : G < 8) {k : Nat} (hk : k < 8) {d x : UInt8} (hd : d ≠ 0) (hx : (xs0 G)[224 + k]? = some x) : badAll ((xs0 G).set (224 + k) (x + d)) = [(2, 4)] := by
  obtain ⟨b1, b2, b3, b4, b5⟩ := badAll_nil (xs0_faults G h).2
  have hb : (File.fileBytes oneF)[k]? = some x := by
    rw [← xs0_f G h]; unfold win; rw [List.getElem?_take_of_lt hk, List.getElem?_drop]; exact hx
  have e1 : badN 2 (fis ((xs0 G).set (224 + k) (x + d))) 12 = [(2, 4)] := by
    refine badN_one (i := 4) (by decide) ?_ (fun j hj hj0 => ?_)
    · unfold fis
      have h9 := File.turned_bad oneF_ok (k := k) hk hd
      rw [hb, Option.getD_some] at h9
      rw [show 192 + 8 * 4 = 224 from rfl, win_set_in hk, xs0_f G h, h9]
    · unfold fis; rw [win_set_out (by omega)]; exact b2 j hj
  unfold badAll
  rw [e1, badN_none (is := pis _) (fun j hj => by unfold pis; rw [win_set_out (by omega)]; exact b1 j hj), badN_none (is := qis _) (fun j hj => by unfold qis; rw [win_set_out (by omega)]; exact b3 j hj),
    badN_none (K := 4) (fun j hj => by rw [win_set_out (by omega)]; exact b4 j hj), badN_none (K := 5) (fun j hj => by rw [win_set_out (by omega)]; exact b5 j hj)]
  rfl
theorem faults_ne {xs : List UInt8} (h : badAll xs ≠ []) : ¬ faults xs = [] := by
  unfold faults
  rw [if_neg (fun hh => h hh.2)]; simp
end Go.Proofs.Ythonajikgljgmaa.Aud

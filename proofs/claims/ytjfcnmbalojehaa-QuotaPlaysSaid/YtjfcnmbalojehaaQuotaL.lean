/-
  Both Quotas answer alike.
-/
import Derived.Test.YtjfcnmbalojehaaQuotaK
import Derived.Test.YtjfcnmbalojehaaQuotaG
namespace Go.Proofs.Ytjfcnmbalojehaa.Quota
open Go Go.Proofs Go.Proofs.Ytjfcnmbalojehaa.Fx
set_option maxRecDepth 100000
set_option linter.unusedVariables false
set_option linter.unusedSimpArgs false

section
variable {ia ib : List (Nat × List Int)} (h : ia.map (·.2) = ib.map (·.2))
include h
theorem same_len : ia.length = ib.length := by have := congrArg List.length h; simpa using this
theorem set_rows (s k v : Int) : (setQ ia s k v).map (·.2) = (setQ ib s k v).map (·.2) := by
  unfold setQ
  rw [List.map_set, List.map_set, h, rows_eq h s]
theorem alloc_rows {s : Int} {ia' : List (Nat × List Int)} {k e : Int} (he : allocQ ia s = (ia', k, e)) : ∃ ib', allocQ ib s = (ib', k, e) ∧ ia'.map (·.2) = ib'.map (·.2) := by
  have hl := same_len h
  unfold allocQ at he ⊢
  rw [hl, rows_eq h s] at he
  split at he
  · rename_i hs
    rw [if_pos hs]
    split at he
    · rename_i hz
      cases he
      rw [if_pos hz]
      exact ⟨_, rfl, set_rows h _ _ _⟩
    · rename_i hz
      cases he
      rw [if_neg hz]
      exact ⟨_, rfl, h⟩
  · rename_i hs
    cases he
    rw [if_neg hs]
    exact ⟨_, rfl, h⟩
theorem own_rows (s k : Int) : ownP ia s k ↔ ownP ib s k := by
  unfold ownP
  rw [same_len h, rows_eq h s]
theorem free_rows {s k : Int} {ia' : List (Nat × List Int)} {e : Int} (he : freeQ ia s k = (ia', e)) : ∃ ib', freeQ ib s k = (ib', e) ∧ ia'.map (·.2) = ib'.map (·.2) := by
  have hl := same_len h
  unfold freeQ at he ⊢
  rw [hl] at he
  split at he
  · rename_i hs
    rw [if_pos hs]
    split at he
    · rename_i hz
      cases he
      rw [if_pos ((own_rows h s k).1 hz)]
      exact ⟨_, rfl, set_rows h _ _ _⟩
    · rename_i hz
      cases he
      rw [if_neg (fun h' => hz ((own_rows h s k).2 h'))]
      exact ⟨_, rfl, h⟩
  · rename_i hs
    cases he
    rw [if_neg hs]
    exact ⟨_, rfl, h⟩
theorem first_rows (s : Int) : firstQ ia s = firstQ ib s := by
  have h1 : ∀ l : List (Nat × List Int), firstQ l s = (((l.map (·.2)).take s.toNat).map List.length).sum := by
    intro l
    unfold firstQ
    rw [← List.map_take, List.map_map]; rfl
  rw [h1, h1, h]
theorem used_rows (s : Int) : usedQ ia s = usedQ ib s := by
  unfold usedQ
  rw [same_len h, rows_eq h s]
end

/-- what stays of a Quota -/
structure SA (B : Nat) (uv : Value) (ins : List (Nat × List Int)) (Mo : List (Nat × Obj)) : Prop where
  hO : OwnQ B 22 uv (qVals ins) Mo
  len : ins.length ≤ 4
  small : ∀ x ∈ ins, x.2.length ≤ 64
  bits : ∀ x ∈ ins, ∀ y ∈ x.2, y = 0 ∨ y = 1
  key : ∀ x ∈ ins, B ≤ x.1
structure SB (B : Nat) (uv : Value) (ins : List (Nat × List Int)) (Mo : List (Nat × Obj)) : Prop where
  hO : OwnQ B 69 uv (qVals ins) Mo
  len : ins.length ≤ 4
  small : ∀ x ∈ ins, x.2.length ≤ 64
  bits : ∀ x ∈ ins, ∀ y ∈ x.2, y = 0 ∨ y = 1
  key : ∀ x ∈ ins, B ≤ x.1
section
variable {w0 w : World} {p : Nat} {uv : Value} {ins : List (Nat × List Int)} {Mo R : List (Nat × Obj)}
theorem SA.has (h : SA w0.heap.size uv ins Mo) (H : Hp w0 (qBlks ins ++ (Mo ++ ((p, blk [uv] 101) :: R))) w) : Has w0 w p uv ins Mo R := ⟨h.hO, H, h.len, h.small, h.bits⟩
theorem Has.sa (h : Has w0 w p uv ins Mo R) (hk : ∀ x ∈ ins, w0.heap.size ≤ x.1) : SA w0.heap.size uv ins Mo := ⟨h.hO, h.len, h.small, h.bits, hk⟩
theorem SB.has (h : SB w0.heap.size uv ins Mo) (H : Hp w0 (rBlks ins ++ (Mo ++ ((p, blk [uv] 105) :: R))) w) : HasR w0 w p uv ins Mo R := ⟨h.hO, H, h.len, h.small, h.bits⟩
theorem HasR.sb (h : HasR w0 w p uv ins Mo R) (hk : ∀ x ∈ ins, w0.heap.size ≤ x.1) : SB w0.heap.size uv ins Mo := ⟨h.hO, h.len, h.small, h.bits, hk⟩
theorem two_both {A B C D : List (Nat × Obj)} {a b : Nat × Obj} (H : Hp w0 ((C ++ (D ++ [b])) ++ (A ++ (B ++ [a]))) w) : Hp w0 (A ++ (B ++ (a :: (C ++ (D ++ [b]))))) w := by
  have h := H.perm (List.perm_append_comm)
  have h1 : (A ++ (B ++ [a])) ++ (C ++ (D ++ [b])) = A ++ (B ++ (a :: (C ++ (D ++ [b])))) := by simp
  rw [h1] at h
  exact h
theorem allocR_to {ins' : List (Nat × List Int)} {k e : Int} (s : Int) (he : allocQ ins s = (ins', k, e)) (hH : HasR w0 w p uv ins Mo R) :
    Ret Try.prog 52 #[ptr p 0, I s] w fun v w' => v = .tuple #[I k, I e] ∧ HasR w0 w' p uv ins' Mo R := by
  have h := allocR_ret s hH
  rw [he] at h
  exact h
theorem freeR_to {ins' : List (Nat × List Int)} {e : Int} (s k : Int) (he : freeQ ins s k = (ins', e)) (hH : HasR w0 w p uv ins Mo R) :
    Ret Try.prog 54 #[ptr p 0, I s, I k] w fun v w' => v = I e ∧ HasR w0 w' p uv ins' Mo R := by
  have h := freeR_ret s k hH
  rw [he] at h
  exact h
theorem owns_to {b : Bool} (s k : Int) (he : decide (ownP ins s k) = b) (hS : Sees w p uv ins) :
    Ret Try.prog 57 #[ptr p 0, I s, I k] w fun v w' => v = .bool b ∧ Hp w [] w' := by
  subst he; exact owns_ret s k hS
theorem ownsR_to {b : Bool} (s k : Int) (he : decide (ownP ins s k) = b) (hS : SeesR w p uv ins) :
    Ret Try.prog 55 #[ptr p 0, I s, I k] w fun v w' => v = .bool b ∧ Hp w [] w' := by
  subst he; exact ownsR_ret s k hS
theorem usedR_to {n : Int} (s : Int) (he : usedQ ins s = n) (hS : SeesR w p uv ins) :
    Ret Try.prog 59 #[ptr p 0, I s] w fun v w' => v = I n ∧ Hp w [] w' := by
  subst he; exact usedR_ret s hS
end
end Go.Proofs.Ytjfcnmbalojehaa.Quota

/-
  Tests of several parts: the ways through the parts meet again behind them.
-/
import Derived.Test.YthonajikgljgmaaFxM
namespace Go.Proofs.Ythonajikgljgmaa.Fx
open Go

theorem wp_monoQ {P : Program} {o : Oper} {a : Act} {w : World} {K K' : Act → World → Prop} {Q Q' : Exit → Act → World → Prop} (h : ∀ a w, K a w → K' a w)
    (hp : ∀ c a w, Q (.panic c) a w → Q' (.panic c) a w) (ho : LetsOut Q → LetsOut Q') (hh : o.wp P a w K Q) : o.wp P a w K' Q' := by
  unfold Oper.wp at *
  generalize (execOp a.eval o).run P w = r at *
  cases r with
  | ok n w' =>
    cases n <;> simp only [Oper.upon] at hh ⊢ <;>
      first
        | exact h _ _ hh
        | exact Calls.mono hh (fun e w'' he => by cases e <;> first | exact h _ _ he | exact hp _ _ _ he | exact ho he)
        | exact Rows.mono hh (fun _ _ he => h _ _ he)
  | halt x w' => cases x <;> simp only [Oper.upon] at hh ⊢ <;> first | exact hp _ _ _ hh | exact hh

section
variable {P : Program} {n : Nat} {ops : Array Oper} {kn : Env → World → Prop} {l : List Oper} {E : Env} {w0 w : World} {L : List (Nat × Obj)}

theorem wpList_app {Q : Exit → Act → World → Prop} {l2 : List Oper} : ∀ (l1 : List Oper) (a : Act) (w : World),
    wpList P ops (fun e a w => match e with | .normal => wpList P ops Q l2 a w | _ => False) l1 a w → wpList P ops Q (l1 ++ l2) a w
  | [], a, w, h => h
  | o :: l1, a, w, h => by
    rw [List.cons_append]
    unfold wpList at h ⊢
    split
    · rename_i hw
      rw [if_pos hw] at h
      rcases h with h | ⟨_, a', w', h⟩
      · exact .inl (wp_monoQ (fun a w h => wpList_app l1 a w h) (fun _ _ _ h => h.elim) (fun ⟨_, _, h⟩ => h.elim) h)
      · exact h.elim
    · rename_i hw
      rw [if_neg hw] at h
      exact wpList_app l1 _ _ h

theorem WL_app {l2 : List Oper} {kn1 : Env → World → Prop} (h : WL P n ops kn1 l E w) (k : ∀ E' w', kn1 E' w' → WL P n ops kn l2 E' w') : WL P n ops kn (l ++ l2) E w := by
  refine ⟨fun Q hQ a ha => ?_⟩
  exact wpList_app l a w (h.out _ (fun a E' w' ha hk => (k E' w' hk).out Q hQ a ha) a ha)

/-- Behind the first k operations this slot holds v, and what is in sight is as it was. -/
theorem WL_join (k t : Nat) (D : List (Nat × Nat)) (v : Value) (h1 : WL P n ops (fun E' w' => Same D E' E ∧ E' t = v ∧ Hp w0 L w') (l.take k) E w)
    (h2 : ∀ E' w', Hp w0 L w' → WL P n ops kn (l.drop k) (ovr D (know E' t v) E) w') : WL P n ops kn l E w := by
  rw [← List.take_append_drop k l]
  refine WL_app h1 ?_
  rintro E' w' ⟨hS, ht, hH⟩
  have := h2 E' w' hH
  rwa [know_eq ht, ovr_eq hS] at this

theorem WL_orK (k tj t : Nat) (D : List (Nat × Nat)) (_H : Hp w0 L w) {a q : Prop} {ia : Decidable a} {iq : Decidable q} (hc : E tj = .bool (@decide a ia))
    (h1 : ¬ a → WL P n ops (fun E' w' => Same D E' (know E tj (.bool false)) ∧ E' t = .bool (@decide q iq) ∧ Hp w0 L w') (l.take k) (know E tj (.bool false)) w)
    (h0 : a → WL P n ops (fun E' w' => Same D E' (know E tj (.bool true)) ∧ E' t = .bool true ∧ Hp w0 L w') (l.take k) (know E tj (.bool true)) w)
    (h2 : ∀ E' w', Hp w0 L w' → WL P n ops kn (l.drop k) (ovr D (know E' t (.bool (@decide (a ∨ q) (@instDecidableOr a q ia iq)))) E) w') : WL P n ops kn l E w := by
  refine WL_join k t D (.bool (@decide (a ∨ q) (@instDecidableOr a q ia iq))) ?_ h2
  by_cases ha : a
  · have h := h0 ha
    have e : E tj = .bool true := by rw [hc]; exact congrArg Value.bool (decide_eq_true ha)
    rw [know_eq e] at h
    have e2 : @decide (a ∨ q) (@instDecidableOr a q ia iq) = true := decide_eq_true (.inl ha)
    rw [e2]; exact h
  · have h := h1 ha
    have e : E tj = .bool false := by rw [hc]; exact congrArg Value.bool (decide_eq_false ha)
    rw [know_eq e] at h
    have e2 : @decide (a ∨ q) (@instDecidableOr a q ia iq) = @decide q iq := by
      by_cases hq : q
      · exact (decide_eq_true (.inr hq)).trans (decide_eq_true hq).symm
      · exact (decide_eq_false (fun h => h.elim ha hq)).trans (decide_eq_false hq).symm
    rw [e2]; exact h

theorem WL_andK (k tj t : Nat) (D : List (Nat × Nat)) (_H : Hp w0 L w) {a q : Prop} {ia : Decidable a} {iq : Decidable q} (hc : E tj = .bool (@decide a ia))
    (h1 : a → WL P n ops (fun E' w' => Same D E' (know E tj (.bool true)) ∧ E' t = .bool (@decide q iq) ∧ Hp w0 L w') (l.take k) (know E tj (.bool true)) w)
    (h0 : ¬ a → WL P n ops (fun E' w' => Same D E' (know E tj (.bool false)) ∧ E' t = .bool false ∧ Hp w0 L w') (l.take k) (know E tj (.bool false)) w)
    (h2 : ∀ E' w', Hp w0 L w' → WL P n ops kn (l.drop k) (ovr D (know E' t (.bool (@decide (a ∧ q) (@instDecidableAnd a q ia iq)))) E) w') : WL P n ops kn l E w := by
  refine WL_join k t D (.bool (@decide (a ∧ q) (@instDecidableAnd a q ia iq))) ?_ h2
  by_cases ha : a
  · have h := h1 ha
    have e : E tj = .bool true := by rw [hc]; exact congrArg Value.bool (decide_eq_true ha)
    rw [know_eq e] at h
    have e2 : @decide (a ∧ q) (@instDecidableAnd a q ia iq) = @decide q iq := by
      by_cases hq : q
      · exact (decide_eq_true ⟨ha, hq⟩).trans (decide_eq_true hq).symm
      · exact (decide_eq_false (fun h => hq h.2)).trans (decide_eq_false hq).symm
    rw [e2]; exact h
  · have h := h0 ha
    have e : E tj = .bool false := by rw [hc]; exact congrArg Value.bool (decide_eq_false ha)
    rw [know_eq e] at h
    have e2 : @decide (a ∧ q) (@instDecidableAnd a q ia iq) = false := decide_eq_false (fun h => ha h.1)
    rw [e2]; exact h

theorem decV {v : Value} {b : Bool} (h : v = .bool b) : v = .bool (decide (b = true)) := by rw [h]; cases b <;> rfl
end
end Go.Proofs.Ythonajikgljgmaa.Fx

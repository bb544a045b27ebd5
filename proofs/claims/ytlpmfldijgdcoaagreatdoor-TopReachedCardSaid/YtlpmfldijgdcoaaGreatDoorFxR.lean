/-
  Functions with any results, some of which lie in memory.
-/
import Derived.Test.YtlpmfldijgdcoaaGreatDoorFxY
namespace Go.Proofs.YtlpmfldijgdcoaaGreatDoor.Fx
open Go

/-- what is handed back, one behind the other -/
inductive ResG (P : Program) (E : Env) (w : World) : List ResultVar → List Value → Prop
  | nil : ResG P E w [] []
  | tmp {t : Nat} {v : Value} {rs : List ResultVar} {vs : List Value} (h1 : E t = v) (h : ResG P E w rs vs) : ResG P E w (.tmp t :: rs) (v :: vs)
  | cell {a : Nat} {t : TypeId} {ad : Addr} {x : Value} {rs : List ResultVar} {vs : List Value} (h1 : E a = .pointer (some ad)) (h2 : (loadVar t ad).run P w = .ok x w) (h : ResG P E w rs vs) : ResG P E w (.cell a t :: rs) (x :: vs)

def resM (tmps : Array Value) : ResultVar → Sem Value
  | .tmp t => pure (tmps.getD t undef)
  | .cell a t => do loadVar t (← asAddr (tmps.getD a undef))
theorem mapM_ofG {P : Program} {E : Env} {w : World} {n : Nat} {a : Act} (ha : Rep n E a) : ∀ {rs : List ResultVar} {vs : List Value}, ResG P E w rs vs → (rs.mapM (resM a.tmps)).run P w = .ok vs w := by
  intro rs vs h
  induction h with
  | nil => simp
  | @tmp t v rs vs h1 h ih =>
    have e1 : (resM a.tmps (.tmp t)).run P w = .ok v w := by
      unfold resM; rw [Sem.run_pure, Array.getD_eq_getD_getElem?, ← Array.getD_eq_getD_getElem?, ha.slot, h1]
    rw [List.mapM_cons, Sem.run_bind, e1, Result.andThen_ok, Sem.run_bind, ih, Result.andThen_ok, Sem.run_pure]
  | @cell b t ad x rs vs h1 h2 h ih =>
    have hs : a.tmps.getD b undef = .pointer (some ad) := by rw [ha.slot, h1]
    have e1 : (resM a.tmps (.cell b t)).run P w = .ok x w := by
      simp [resM, hs, asAddr, h2]
    rw [List.mapM_cons, Sem.run_bind, e1, Result.andThen_ok, Sem.run_bind, ih, Result.andThen_ok, Sem.run_pure]

theorem results_ofG {P : Program} {fn : Func} {n : Nat} {E : Env} {a : Act} {w : World} {vs : List Value} (ha : Rep n E a) (h : ResG P E w fn.results.toList vs) (hl : vs.length ≠ 1) :
    (results fn a.tmps).run P w = .ok (.tuple vs.toArray) w := by
  have hm := mapM_ofG ha h
  have h2 : (fn.results.mapM (resM a.tmps)).run P w = .ok vs.toArray w := by
    have he : fn.results = fn.results.toList.toArray := by simp
    rw [he, List.mapM_toArray]
    simp [hm]
  show (fn.results.mapM (resM a.tmps) >>= fun vs => pure (if h : vs.size = 1 then vs[0] else .tuple vs)).run P w = _
  rw [Sem.run_bind, h2, Result.andThen_ok, Sem.run_pure]
  rw [dif_neg (by simpa using hl)]

theorem Ret_of_WG {P : Program} {f : FuncId} {fn : Func} {c : Code} {args : List Value} {w : World} {R : Value → World → Prop} {n : Nat} {rs : Array ResultVar}
    (hf : P.funcs[f]? = some fn) (hb : fn.body = some c) (hnt : fn.ntmps = n) (hrs : fn.results = rs) (hn : args.length ≤ n)
    (h : W P n c (fun E w => ∃ vs, ResG P E w rs.toList vs ∧ vs.length ≠ 1 ∧ R (.tuple vs.toArray) w) (fun _ _ _ => False) (fun E w => ∃ vs, ResG P E w rs.toList vs ∧ vs.length ≠ 1 ∧ R (.tuple vs.toArray) w) (env0 args) w) :
    Ret P f args.toArray w R := by
  subst hnt hrs
  refine ⟨calls_of_wp hf hb ?_⟩
  have hrep : Rep fn.ntmps (env0 args) { tmps := args.toArray ++ Array.replicate (fn.ntmps - args.toArray.size) undef, defers := [] } := by
    refine ⟨by simp; omega, ?_, rfl⟩
    intro t
    simp only [env0, Array.getD_eq_getD_getElem?, Array.getElem?_append, List.getD_eq_getElem?_getD]
    by_cases ht : t < args.length
    · simp [ht]
    · simp only [List.size_toArray, if_neg ht, Array.getElem?_replicate]
      rw [List.getElem?_eq_none (by omega)]
      split <;> rfl
  refine wp_mono (h.out _ hrep) ?_
  intro e a w hq
  cases e with
  | normal => obtain ⟨E, ha, vs, hv, hl, hR⟩ := hq; exact ⟨ha.defers, _, results_ofG ha hv hl, _, rfl, hR⟩
  | exit i => obtain ⟨E, ha, h⟩ := hq; exact h.elim
  | ret => obtain ⟨E, ha, vs, hv, hl, hR⟩ := hq; exact ⟨ha.defers, _, results_ofG ha hv hl, _, rfl, hR⟩
  | goto l => exact hq.elim
  | panic c => exact hq.elim
  | outgrown => exact hq.elim
end Go.Proofs.YtlpmfldijgdcoaaGreatDoor.Fx

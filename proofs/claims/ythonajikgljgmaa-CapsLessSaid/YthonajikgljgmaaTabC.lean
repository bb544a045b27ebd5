/-
  What the functions of package table do, over things of 6 cells.
-/
import Derived.Test.YthonajikgljgmaaFxZ
import Derived.Test.YthonajikgljgmaaProg
namespace Go.Proofs.Ythonajikgljgmaa.TabC
open Go Go.Proofs Go.Proofs.Ythonajikgljgmaa.Fx
set_option maxRecDepth 100000
set_option linter.unusedVariables false
set_option linter.unusedSimpArgs false
set_option maxHeartbeats 4000000

/-- a thing of 6 cells -/
structure Vk where
  c : List Value
  hc : c.length = 6
  ho : ∀ x ∈ c, x.oneCell' = true
abbrev vk (x : Vk) : Value := .agg x.c.toArray
def zk : Vk := ⟨[I 0, I 0, I 0, I 0, I 0, I 0], rfl, by simp [Value.oneCell']⟩
/-- a place of a table -/
structure Pl where
  v : Vk
  g : Nat
  u : Bool
def plc (a : Pl) : List Value := a.v.c ++ [I a.g, .bool a.u]
theorem plc_len (a : Pl) : (plc a).length = 8 := by unfold plc; rw [List.length_append, a.v.hc]; rfl
theorem plc_one (a : Pl) : ∀ x ∈ plc a, x.oneCell' = true := by
  intro x hx
  unfold plc at hx
  rcases List.mem_append.1 hx with h | h
  · exact a.v.ho x h
  · simp only [List.mem_cons, List.not_mem_nil, or_false] at h
    rcases h with rfl | rfl <;> rfl
theorem plc_g (a : Pl) : (plc a)[6]? = some (I a.g) := by unfold plc; rw [List.getElem?_append_right (by rw [a.v.hc]; decide), a.v.hc]; rfl
theorem plc_u (a : Pl) : (plc a)[7]? = some (.bool a.u) := by unfold plc; rw [List.getElem?_append_right (by rw [a.v.hc]; decide), a.v.hc]; rfl
theorem pl_gen {l : List Pl} {i : Nat} {a : Pl} (h : l[i]? = some a) : (rows plc l)[i * 8 + 6]? = some (I a.g) := (rows_get plc_len h (by decide)).trans (plc_g a)
theorem pl_used {l : List Pl} {i : Nat} {a : Pl} (h : l[i]? = some a) : (rows plc l)[i * 8 + 7]? = some (.bool a.u) := (rows_get plc_len h (by decide)).trans (plc_u a)
theorem pl_all {l : List Pl} {i : Nat} {a : Pl} (h : l[i]? = some a) : ((rows plc l).drop (i * 8)).take 8 = plc a := rows_one plc_len h
theorem pl_val {l : List Pl} {i : Nat} {a : Pl} (h : l[i]? = some a) : ((rows plc l).drop (i * 8 + 0)).take 6 = a.v.c := by
  have e := congrArg (List.take 6) (pl_all h)
  rw [List.take_take, show min 6 8 = 6 from rfl] at e
  rw [Nat.add_zero, e]
  unfold plc
  rw [List.take_left' a.v.hc]
theorem plc_setg (a : Pl) (n : Nat) : (plc a).set 6 (I n) = plc ⟨a.v, n, a.u⟩ := by
  unfold plc; rw [List.set_append_right _ _ (by rw [a.v.hc]; decide), a.v.hc]; rfl
theorem plc_setu (a : Pl) (b : Bool) : (plc a).set 7 (.bool b) = plc ⟨a.v, a.g, b⟩ := by
  unfold plc; rw [List.set_append_right _ _ (by rw [a.v.hc]; decide), a.v.hc]; rfl
/-- another thing at a place -/
theorem rows_val {l : List Pl} {i : Nat} {a : Pl} (h : l[i]? = some a) (x : Vk) : (rows plc l).take (i * 8 + 0) ++ x.c ++ (rows plc l).drop (i * 8 + 0 + 6) = rows plc (l.set i ⟨x, a.g, a.u⟩) := by
  have hi := (List.getElem?_eq_some_iff.1 h).1
  have e := rows_put (a' := ⟨x, a.g, a.u⟩) plc_len hi
  rw [← e, Nat.add_zero, List.append_assoc, List.append_assoc]
  congr 1
  have e2 : (rows plc l).drop (i * 8) = plc a ++ (rows plc l).drop (i * 8 + 8) := by
    rw [← pl_all h, show (rows plc l).drop (i * 8 + 8) = ((rows plc l).drop (i * 8)).drop 8 from by rw [List.drop_drop]]
    exact (List.take_append_drop 8 _).symm
  have e3 : (rows plc l).drop (i * 8 + 6) = [I a.g, .bool a.u] ++ (rows plc l).drop (i * 8 + 8) := by
    rw [show (rows plc l).drop (i * 8 + 6) = ((rows plc l).drop (i * 8)).drop 6 from by rw [List.drop_drop], e2]
    show (a.v.c ++ [I a.g, .bool a.u] ++ _).drop 6 = _
    rw [List.append_assoc, List.drop_left' a.v.hc]
  rw [e3]
  show x.c ++ ([I a.g, .bool a.u] ++ _) = (x.c ++ [I a.g, .bool a.u]) ++ _
  rw [List.append_assoc]

section
variable {E : Env} {w0 w : World} {L : List (Nat × Obj)} {d : Option Nat} {ty e : TypeId} {pos : String} {after : Array Edge} {x y : Operand} {b : Nat} {p q : Vk} {f : Obj → List (Nat × Obj)} {c : List Value}
theorem k_all (q : Vk) : (q.c.drop 0).take 6 = q.c := by rw [List.drop_zero, List.take_of_length_le (by rw [q.hc]; decide)]
theorem ldK (hb : w.heap[b]? = some (blk q.c e)) : (loadVar 38 ⟨b, 0, none⟩).run Try.prog w = .ok (vk q) w :=
  ldA Try.isAgg38 Try.sizeOf38 hb (k_all q) (by rw [q.hc]; decide)
theorem R_loadK (hx : ev E x = ptr b 0) (hb : w.heap[b]? = some (blk q.c e)) : (execOp (ev E) (mk d (.load 38 x) ty pos after)).run Try.prog w = .ok (.value (vk q)) w :=
  R_loadA Try.isAgg38 Try.sizeOf38 hx hb (k_all q) (by rw [q.hc]; decide)
theorem E_storeK (H : Hp w0 L w) (hx : ev E x = ptr b 0) (hy : ev E y = vk q) (hL : At L b (blk p.c e) f) :
    ∃ w', Hp w0 (f (blk q.c e)) w' ∧ (execOp (ev E) (mk d (.store 38 x y) ty pos after)).run Try.prog w = .ok .skip w' := by
  have h := E_storeA (d := d) (ty := ty) (pos := pos) (after := after) (vs := q.c) H (fun w => by rw [q.hc]; exact Try.sizeOf38 w) hx hy q.ho hL (by rw [q.hc, p.hc]; decide)
  rw [List.take_zero, List.nil_append, q.hc, List.drop_of_length_le (by rw [p.hc]; decide), List.append_nil] at h
  exact h
theorem E_allocK (H : Hp w0 L w) : ∃ b w', w0.heap.size ≤ b ∧ Hp w0 ((b, blk zk.c 38) :: L) w' ∧ (execOp (ev E) (mk d (.alloc 38) ty pos after)).run Try.prog w = .ok (.value (ptr b 0)) w' :=
  E_alloc (vs := zk.c) H Try.zeroValue38 rfl
theorem E_boxK (H : Hp w0 L w) (hx : ev E x = vk q) : ∃ b w', w0.heap.size ≤ b ∧ Hp w0 ((b, blk q.c 38) :: L) w' ∧ (execOp (ev E) (mk d (.box 38 x) ty pos after)).run Try.prog w = .ok (.value (ptr b 0)) w' :=
  E_box (v := vk q) (vs := q.c) H hx rfl
/-- a whole place, as it was taken out of the row -/
theorem E_storePl {a a' : Pl} (H : Hp w0 L w) (hx : ev E x = ptr b 0) (hy : ev E y = .agg (plc a').toArray) (hL : At L b (blk (plc a) e) f) :
    ∃ w', Hp w0 (f (blk (plc a') e)) w' ∧ (execOp (ev E) (mk d (.store 137 x y) ty pos after)).run Try.prog w = .ok .skip w' := by
  have h := E_storeA (d := d) (ty := ty) (pos := pos) (after := after) (vs := plc a') H (fun w => by rw [plc_len]; exact Try.sizeOf137 w) hx hy (plc_one a') hL (by rw [plc_len, plc_len]; decide)
  rw [List.take_zero, List.nil_append, plc_len, List.drop_of_length_le (by rw [plc_len]; decide), List.append_nil] at h
  exact h
end

def zeroPl : Pl := ⟨zk, 0, false⟩
def newPl : Pl := ⟨zk, 1, false⟩
def szOf (n : Int) : Nat := (min (max n 0) 256).toNat
def free (a : Pl) : Prop := a.u = false ∧ a.g ≤ 1000000
/-- the names that are there, from a place on -/
def namesFrom : Nat → List Pl → List Int
  | _, [] => []
  | k, a :: l => if a.u = true then ((k + 256 * a.g : Nat) : Int) :: namesFrom (k + 1) l else namesFrom (k + 1) l
theorem namesFrom_le : ∀ (l : List Pl) (k : Nat), (namesFrom k l).length ≤ l.length
  | [], k => by simp [namesFrom]
  | a :: l, k => by
    have := namesFrom_le l (k + 1)
    unfold namesFrom
    split <;> simp <;> omega
theorem rows_rep (n : Nat) (a : Pl) : (List.replicate n (plc a)).flatten = rows plc (List.replicate n a) := by
  unfold rows; rw [List.flatMap_def, List.map_replicate]
theorem rep_step {i n : Nat} (h : i < n) : (List.replicate i newPl ++ List.replicate (n - i) zeroPl).set i newPl = List.replicate (i + 1) newPl ++ List.replicate (n - (i + 1)) zeroPl := by
  rw [List.set_append, if_neg (by simp), List.length_replicate, Nat.sub_self, show n - i = (n - (i + 1)) + 1 from by omega, List.replicate_succ, List.set_cons_zero, List.replicate_succ', List.append_assoc]
  rfl
theorem rep_get {i n : Nat} (h : i < n) : (List.replicate i newPl ++ List.replicate (n - i) zeroPl)[i]? = some zeroPl := by
  rw [List.getElem?_append_right (by simp), List.length_replicate, Nat.sub_self, List.getElem?_replicate, if_pos (by omega)]

section
variable {w : World} {p b : Nat} {l : List Pl} {N : Nat}
theorem name_ret {i : Nat} {a : Pl} (hp : w.heap[p]? = some (blk [sl b 0 N N] 135)) (hb : w.heap[b]? = some (blk (rows plc l) 137)) (hN : l.length = N) (hN2 : N ≤ 256) (h : l[i]? = some a) (hg : a.g ≤ 1000001) :
    Ret Try.prog 70 #[ptr p 0, I i] w fun v w' => v = I (i + 256 * a.g : Nat) ∧ Hp w [] w' := by
  refine Ret_of_W (args := [_, _]) Try.func70 rfl Try.ntmps70 Try.results70 (by simp) ?_
  have H := Hp.refl w
  have hi := (List.getElem?_eq_some_iff.1 h).1
  refine W_seq ?_
  refine W_region_l ?_
  refine WL_stepM rfl (R_as) ?_
  refine WL_nil ?_
  refine W_seq ?_
  refine W_region_l ?_
  refine WL_stepM rfl (R_mv) ?_
  refine WL_stepM rfl (R_mv) ?_
  refine WL_step rfl (R_nilCheck rfl) ?_
  refine WL_step rfl (R_fieldAddr (off' := 0) Try.underlying135 rfl Try.sizeOf133 (by decide) rfl rfl) ?_
  refine WL_step rfl (R_load Try.isAgg133 rfl (H.block hp (by simp)) rfl) ?_
  refine WL_stepM rfl (R_mv) ?_
  refine WL_step rfl (R_indexAddr Try.underlying133 Try.sizeOf137 rfl rfl (by omega) (by omega) idx0_castn) ?_
  refine WL_step rfl (R_fieldAddr (off' := _ + 6) Try.underlying137 rfl Try.sizeOf3 (by decide) rfl rfl) ?_
  refine WL_step rfl (R_load Try.isAgg3 rfl (H.block hb (by simp)) (pl_gen h)) ?_
  refine WL_step rfl (R_mul (r := ((256 * a.g : Nat) : Int)) rfl rfl (by rw [w_i64 (by omega)]; omega)) ?_
  refine WL_step rfl (R_add (r := ((i + 256 * a.g : Nat) : Int)) rfl rfl (by rw [w_i64 (by omega)]; omega)) ?_
  refine WL_stepM rfl (R_as) ?_
  refine WL_nil ?_
  refine W_ret ?_
  exact ⟨_, rfl, rfl, H⟩

theorem at_yes {i : Nat} {a : Pl} (hp : w.heap[p]? = some (blk [sl b 0 N N] 135)) (hb : w.heap[b]? = some (blk (rows plc l) 137)) (hN : l.length = N) (hN2 : N ≤ 256) (h : l[i]? = some a) (hg : a.g ≤ 1000001) (hu : a.u = true) :
    Ret Try.prog 69 #[ptr p 0, I (i + 256 * a.g : Nat)] w fun v w' => v = ptr b (i * 8) ∧ Hp w [] w' := by
  refine Ret_of_W (args := [_, _]) Try.func69 rfl Try.ntmps69 Try.results69 (by simp) ?_
  have H := Hp.refl w
  have hi := (List.getElem?_eq_some_iff.1 h).1
  have hus := pl_used h
  rw [hu] at hus
  refine W_seq ?_
  refine W_region_l ?_
  refine WL_stepM rfl (R_as) ?_
  refine WL_nil ?_
  refine W_seq ?_
  refine W_region_l ?_
  refine WL_stepM rfl (R_mv) ?_
  refine WL_step rfl (R_bits (r := (i : Int)) rfl rfl (by simp) ((and_mask_i64 8 256 (by decide) rfl (by decide)).trans (by omega))) ?_
  refine WL_stepM rfl (R_as) ?_
  refine WL_nil ?_
  refine W_seq ?_
  refine W_seq ?_
  refine W_region_l ?_
  refine WL_stepM rfl (R_mv) ?_
  refine WL_step rfl (R_lt_f rfl rfl (by omega)) ?_
  refine WL_stepM rfl (R_mv) ?_
  refine WL_guard_t rfl rfl ?_
  refine WL_stepM rfl (R_mv) ?_
  refine WL_guard_t rfl rfl ?_
  refine WL_stepM rfl (R_mv) ?_
  refine WL_guard_t rfl rfl ?_
  refine WL_step rfl (R_nilCheck rfl) ?_
  refine WL_guard_t rfl rfl ?_
  refine WL_step rfl (R_fieldAddr (off' := 0) Try.underlying135 rfl Try.sizeOf133 (by decide) rfl rfl) ?_
  refine WL_guard_t rfl rfl ?_
  refine WL_step rfl (R_load Try.isAgg133 rfl (H.block hp (by simp)) rfl) ?_
  refine WL_guard_t rfl rfl ?_
  refine WL_step rfl (R_len_slice Try.underlying133 rfl) ?_
  refine WL_guard_t rfl rfl ?_
  refine WL_step rfl (R_ge_f rfl rfl (by omega)) ?_
  refine WL_stepM rfl (R_pk_f rfl) ?_
  refine WL_stepM rfl (R_mv) ?_
  refine WL_guard_t rfl rfl ?_
  refine WL_stepM rfl (R_mv) ?_
  refine WL_guard_t rfl rfl ?_
  refine WL_step rfl (R_nilCheck rfl) ?_
  refine WL_guard_t rfl rfl ?_
  refine WL_step rfl (R_fieldAddr (off' := 0) Try.underlying135 rfl Try.sizeOf133 (by decide) rfl rfl) ?_
  refine WL_guard_t rfl rfl ?_
  refine WL_step rfl (R_load Try.isAgg133 rfl (H.block hp (by simp)) rfl) ?_
  refine WL_guard_t rfl rfl ?_
  refine WL_stepM rfl (R_mv) ?_
  refine WL_guard_t rfl rfl ?_
  refine WL_step rfl (R_indexAddr Try.underlying133 Try.sizeOf137 rfl rfl (by omega) (by omega) idx0_castn) ?_
  refine WL_guard_t rfl rfl ?_
  refine WL_step rfl (R_fieldAddr (off' := _ + 7) Try.underlying137 rfl Try.sizeOf4 (by decide) rfl rfl) ?_
  refine WL_guard_t rfl rfl ?_
  refine WL_step rfl (R_load Try.isAgg4 rfl (H.block hb (by simp)) hus) ?_
  refine WL_guard_t rfl rfl ?_
  refine WL_step rfl (R_not_t rfl) ?_
  refine WL_stepM rfl (R_pk_f rfl) ?_
  refine WL_stepM rfl (R_mv) ?_
  refine WL_guard_t rfl rfl ?_
  refine WL_stepM rfl (R_mv) ?_
  refine WL_guard_t rfl rfl ?_
  refine WL_stepM rfl (R_mv) ?_
  refine WL_guard_t rfl rfl ?_
  (refine WL_call rfl (R_call rfl Try.call70 rfl) (name_ret (H.block hp (by simp)) (H.block hb (by simp)) hN hN2 h hg) ?_; rintro _ w58 ⟨rfl, H1⟩; replace H := H.seq0 H1; clear H1)
  refine WL_guard_t rfl rfl ?_
  refine WL_stepM rfl (R_mv) ?_
  refine WL_guard_t rfl rfl ?_
  refine WL_step rfl (R_ne_f rfl rfl (by omega)) ?_
  refine WL_stepM rfl (R_pk_f rfl) ?_
  refine WL_nil ?_
  refine W_cond_f rfl ?_
  refine W_skip ?_
  refine W_seq ?_
  refine W_region_l ?_
  refine WL_stepM rfl (R_mv) ?_
  refine WL_step rfl (R_nilCheck rfl) ?_
  refine WL_step rfl (R_fieldAddr (off' := 0) Try.underlying135 rfl Try.sizeOf133 (by decide) rfl rfl) ?_
  refine WL_step rfl (R_load Try.isAgg133 rfl (H.block hp (by simp)) rfl) ?_
  refine WL_stepM rfl (R_mv) ?_
  refine WL_step rfl (R_indexAddr Try.underlying133 Try.sizeOf137 rfl rfl (by omega) (by omega) idx0_castn) ?_
  refine WL_stepM rfl (R_as) ?_
  refine WL_nil ?_
  refine W_ret ?_
  exact ⟨_, rfl, rfl, H⟩

theorem at_no {n : Int} (hp : w.heap[p]? = some (blk [sl b 0 N N] 135)) (hb : w.heap[b]? = some (blk (rows plc l) 137)) (hN : l.length = N) (hN2 : N ≤ 256) (hg : ∀ a ∈ l, a.g ≤ 1000001)
    (hn : ∀ (i : Nat) (a : Pl), l[i]? = some a → a.u = true → n ≠ ((i + 256 * a.g : Nat) : Int)) :
    Ret Try.prog 69 #[ptr p 0, I n] w fun v w' => v = .pointer none ∧ Hp w [] w' := by
  refine Ret_of_W (args := [_, _]) Try.func69 rfl Try.ntmps69 Try.results69 (by simp) ?_
  have H := Hp.refl w
  by_cases h0 : n < 0
  · refine W_seq ?_
    refine W_region_l ?_
    refine WL_stepM rfl (R_as) ?_
    refine WL_nil ?_
    refine W_seq ?_
    refine W_region_l ?_
    refine WL_stepM rfl (R_mv) ?_
    refine WL_step rfl (R_bits rfl rfl (by simp) (and_mask_i64 8 256 (by decide) rfl (by decide))) ?_
    refine WL_stepM rfl (R_as) ?_
    refine WL_nil ?_
    refine W_seq ?_
    refine W_seq ?_
    refine W_region_l ?_
    refine WL_stepM rfl (R_mv) ?_
    refine WL_step rfl (R_lt_t rfl rfl (by omega)) ?_
    refine WL_stepM rfl (R_mv) ?_
    refine WL_guard_f rfl rfl (by decide) ?_
    refine WL_guard_f rfl rfl (by decide) ?_
    refine WL_guard_f rfl rfl (by decide) ?_
    refine WL_guard_f rfl rfl (by decide) ?_
    refine WL_guard_f rfl rfl (by decide) ?_
    refine WL_guard_f rfl rfl (by decide) ?_
    refine WL_guard_f rfl rfl (by decide) ?_
    refine WL_stepM rfl (R_pk_t rfl) ?_
    refine WL_stepM rfl (R_mv) ?_
    refine WL_guard_f rfl rfl (by decide) ?_
    refine WL_guard_f rfl rfl (by decide) ?_
    refine WL_guard_f rfl rfl (by decide) ?_
    refine WL_guard_f rfl rfl (by decide) ?_
    refine WL_guard_f rfl rfl (by decide) ?_
    refine WL_guard_f rfl rfl (by decide) ?_
    refine WL_guard_f rfl rfl (by decide) ?_
    refine WL_guard_f rfl rfl (by decide) ?_
    refine WL_guard_f rfl rfl (by decide) ?_
    refine WL_stepM rfl (R_pk_t rfl) ?_
    refine WL_stepM rfl (R_mv) ?_
    refine WL_guard_f rfl rfl (by decide) ?_
    refine WL_guard_f rfl rfl (by decide) ?_
    refine WL_guard_f rfl rfl (by decide) ?_
    refine WL_guard_f rfl rfl (by decide) ?_
    refine WL_guard_f rfl rfl (by decide) ?_
    refine WL_stepM rfl (R_pk_t rfl) ?_
    refine WL_nil ?_
    refine W_cond_t rfl ?_
    refine W_seq ?_
    refine W_region_l ?_
    refine WL_stepM rfl (R_as) ?_
    refine WL_nil ?_
    refine W_ret ?_
    exact ⟨_, rfl, rfl, H⟩
  · obtain ⟨i, hi⟩ : ∃ i : Nat, n % 256 = (i : Int) := ⟨(n % 256).toNat, by omega⟩
    by_cases h1 : N ≤ i
    · refine W_seq ?_
      refine W_region_l ?_
      refine WL_stepM rfl (R_as) ?_
      refine WL_nil ?_
      refine W_seq ?_
      refine W_region_l ?_
      refine WL_stepM rfl (R_mv) ?_
      refine WL_step rfl (R_bits (r := (i : Int)) rfl rfl (by simp) ((and_mask_i64 8 256 (by decide) rfl (by decide)).trans hi)) ?_
      refine WL_stepM rfl (R_as) ?_
      refine WL_nil ?_
      refine W_seq ?_
      refine W_seq ?_
      refine W_region_l ?_
      refine WL_stepM rfl (R_mv) ?_
      refine WL_step rfl (R_lt_f rfl rfl (by omega)) ?_
      refine WL_stepM rfl (R_mv) ?_
      refine WL_guard_t rfl rfl ?_
      refine WL_stepM rfl (R_mv) ?_
      refine WL_guard_t rfl rfl ?_
      refine WL_stepM rfl (R_mv) ?_
      refine WL_guard_t rfl rfl ?_
      refine WL_step rfl (R_nilCheck rfl) ?_
      refine WL_guard_t rfl rfl ?_
      refine WL_step rfl (R_fieldAddr (off' := 0) Try.underlying135 rfl Try.sizeOf133 (by decide) rfl rfl) ?_
      refine WL_guard_t rfl rfl ?_
      refine WL_step rfl (R_load Try.isAgg133 rfl (H.block hp (by simp)) rfl) ?_
      refine WL_guard_t rfl rfl ?_
      refine WL_step rfl (R_len_slice Try.underlying133 rfl) ?_
      refine WL_guard_t rfl rfl ?_
      refine WL_step rfl (R_ge_t rfl rfl (by omega)) ?_
      refine WL_stepM rfl (R_pk_f rfl) ?_
      refine WL_stepM rfl (R_mv) ?_
      refine WL_guard_f rfl rfl (by decide) ?_
      refine WL_guard_f rfl rfl (by decide) ?_
      refine WL_guard_f rfl rfl (by decide) ?_
      refine WL_guard_f rfl rfl (by decide) ?_
      refine WL_guard_f rfl rfl (by decide) ?_
      refine WL_guard_f rfl rfl (by decide) ?_
      refine WL_guard_f rfl rfl (by decide) ?_
      refine WL_guard_f rfl rfl (by decide) ?_
      refine WL_guard_f rfl rfl (by decide) ?_
      refine WL_stepM rfl (R_pk_t rfl) ?_
      refine WL_stepM rfl (R_mv) ?_
      refine WL_guard_f rfl rfl (by decide) ?_
      refine WL_guard_f rfl rfl (by decide) ?_
      refine WL_guard_f rfl rfl (by decide) ?_
      refine WL_guard_f rfl rfl (by decide) ?_
      refine WL_guard_f rfl rfl (by decide) ?_
      refine WL_stepM rfl (R_pk_t rfl) ?_
      refine WL_nil ?_
      refine W_cond_t rfl ?_
      refine W_seq ?_
      refine W_region_l ?_
      refine WL_stepM rfl (R_as) ?_
      refine WL_nil ?_
      refine W_ret ?_
      exact ⟨_, rfl, rfl, H⟩
    · obtain ⟨a, h⟩ : ∃ a, l[i]? = some a := ⟨_, List.getElem?_eq_getElem (by omega)⟩
      have hus := pl_used h
      by_cases hu : a.u = true
      · have hne := hn i a h hu
        rw [hu] at hus
        refine W_seq ?_
        refine W_region_l ?_
        refine WL_stepM rfl (R_as) ?_
        refine WL_nil ?_
        refine W_seq ?_
        refine W_region_l ?_
        refine WL_stepM rfl (R_mv) ?_
        refine WL_step rfl (R_bits (r := (i : Int)) rfl rfl (by simp) ((and_mask_i64 8 256 (by decide) rfl (by decide)).trans hi)) ?_
        refine WL_stepM rfl (R_as) ?_
        refine WL_nil ?_
        refine W_seq ?_
        refine W_seq ?_
        refine W_region_l ?_
        refine WL_stepM rfl (R_mv) ?_
        refine WL_step rfl (R_lt_f rfl rfl (by omega)) ?_
        refine WL_stepM rfl (R_mv) ?_
        refine WL_guard_t rfl rfl ?_
        refine WL_stepM rfl (R_mv) ?_
        refine WL_guard_t rfl rfl ?_
        refine WL_stepM rfl (R_mv) ?_
        refine WL_guard_t rfl rfl ?_
        refine WL_step rfl (R_nilCheck rfl) ?_
        refine WL_guard_t rfl rfl ?_
        refine WL_step rfl (R_fieldAddr (off' := 0) Try.underlying135 rfl Try.sizeOf133 (by decide) rfl rfl) ?_
        refine WL_guard_t rfl rfl ?_
        refine WL_step rfl (R_load Try.isAgg133 rfl (H.block hp (by simp)) rfl) ?_
        refine WL_guard_t rfl rfl ?_
        refine WL_step rfl (R_len_slice Try.underlying133 rfl) ?_
        refine WL_guard_t rfl rfl ?_
        refine WL_step rfl (R_ge_f rfl rfl (by omega)) ?_
        refine WL_stepM rfl (R_pk_f rfl) ?_
        refine WL_stepM rfl (R_mv) ?_
        refine WL_guard_t rfl rfl ?_
        refine WL_stepM rfl (R_mv) ?_
        refine WL_guard_t rfl rfl ?_
        refine WL_step rfl (R_nilCheck rfl) ?_
        refine WL_guard_t rfl rfl ?_
        refine WL_step rfl (R_fieldAddr (off' := 0) Try.underlying135 rfl Try.sizeOf133 (by decide) rfl rfl) ?_
        refine WL_guard_t rfl rfl ?_
        refine WL_step rfl (R_load Try.isAgg133 rfl (H.block hp (by simp)) rfl) ?_
        refine WL_guard_t rfl rfl ?_
        refine WL_stepM rfl (R_mv) ?_
        refine WL_guard_t rfl rfl ?_
        refine WL_step rfl (R_indexAddr Try.underlying133 Try.sizeOf137 rfl rfl (by omega) (by omega) idx0_castn) ?_
        refine WL_guard_t rfl rfl ?_
        refine WL_step rfl (R_fieldAddr (off' := _ + 7) Try.underlying137 rfl Try.sizeOf4 (by decide) rfl rfl) ?_
        refine WL_guard_t rfl rfl ?_
        refine WL_step rfl (R_load Try.isAgg4 rfl (H.block hb (by simp)) hus) ?_
        refine WL_guard_t rfl rfl ?_
        refine WL_step rfl (R_not_t rfl) ?_
        refine WL_stepM rfl (R_pk_f rfl) ?_
        refine WL_stepM rfl (R_mv) ?_
        refine WL_guard_t rfl rfl ?_
        refine WL_stepM rfl (R_mv) ?_
        refine WL_guard_t rfl rfl ?_
        refine WL_stepM rfl (R_mv) ?_
        refine WL_guard_t rfl rfl ?_
        (refine WL_call rfl (R_call rfl Try.call70 rfl) (name_ret (H.block hp (by simp)) (H.block hb (by simp)) hN hN2 h (hg a (List.mem_of_getElem? h))) ?_; rintro _ w58 ⟨rfl, H1⟩; replace H := H.seq0 H1; clear H1)
        refine WL_guard_t rfl rfl ?_
        refine WL_stepM rfl (R_mv) ?_
        refine WL_guard_t rfl rfl ?_
        refine WL_step rfl (R_ne_t rfl rfl (fun e => hne e.symm)) ?_
        refine WL_stepM rfl (R_pk_f rfl) ?_
        refine WL_nil ?_
        refine W_cond_t rfl ?_
        refine W_seq ?_
        refine W_region_l ?_
        refine WL_stepM rfl (R_as) ?_
        refine WL_nil ?_
        refine W_ret ?_
        exact ⟨_, rfl, rfl, H⟩
      · rw [Bool.not_eq_true] at hu
        rw [hu] at hus
        refine W_seq ?_
        refine W_region_l ?_
        refine WL_stepM rfl (R_as) ?_
        refine WL_nil ?_
        refine W_seq ?_
        refine W_region_l ?_
        refine WL_stepM rfl (R_mv) ?_
        refine WL_step rfl (R_bits (r := (i : Int)) rfl rfl (by simp) ((and_mask_i64 8 256 (by decide) rfl (by decide)).trans hi)) ?_
        refine WL_stepM rfl (R_as) ?_
        refine WL_nil ?_
        refine W_seq ?_
        refine W_seq ?_
        refine W_region_l ?_
        refine WL_stepM rfl (R_mv) ?_
        refine WL_step rfl (R_lt_f rfl rfl (by omega)) ?_
        refine WL_stepM rfl (R_mv) ?_
        refine WL_guard_t rfl rfl ?_
        refine WL_stepM rfl (R_mv) ?_
        refine WL_guard_t rfl rfl ?_
        refine WL_stepM rfl (R_mv) ?_
        refine WL_guard_t rfl rfl ?_
        refine WL_step rfl (R_nilCheck rfl) ?_
        refine WL_guard_t rfl rfl ?_
        refine WL_step rfl (R_fieldAddr (off' := 0) Try.underlying135 rfl Try.sizeOf133 (by decide) rfl rfl) ?_
        refine WL_guard_t rfl rfl ?_
        refine WL_step rfl (R_load Try.isAgg133 rfl (H.block hp (by simp)) rfl) ?_
        refine WL_guard_t rfl rfl ?_
        refine WL_step rfl (R_len_slice Try.underlying133 rfl) ?_
        refine WL_guard_t rfl rfl ?_
        refine WL_step rfl (R_ge_f rfl rfl (by omega)) ?_
        refine WL_stepM rfl (R_pk_f rfl) ?_
        refine WL_stepM rfl (R_mv) ?_
        refine WL_guard_t rfl rfl ?_
        refine WL_stepM rfl (R_mv) ?_
        refine WL_guard_t rfl rfl ?_
        refine WL_step rfl (R_nilCheck rfl) ?_
        refine WL_guard_t rfl rfl ?_
        refine WL_step rfl (R_fieldAddr (off' := 0) Try.underlying135 rfl Try.sizeOf133 (by decide) rfl rfl) ?_
        refine WL_guard_t rfl rfl ?_
        refine WL_step rfl (R_load Try.isAgg133 rfl (H.block hp (by simp)) rfl) ?_
        refine WL_guard_t rfl rfl ?_
        refine WL_stepM rfl (R_mv) ?_
        refine WL_guard_t rfl rfl ?_
        refine WL_step rfl (R_indexAddr Try.underlying133 Try.sizeOf137 rfl rfl (by omega) (by omega) idx0_castn) ?_
        refine WL_guard_t rfl rfl ?_
        refine WL_step rfl (R_fieldAddr (off' := _ + 7) Try.underlying137 rfl Try.sizeOf4 (by decide) rfl rfl) ?_
        refine WL_guard_t rfl rfl ?_
        refine WL_step rfl (R_load Try.isAgg4 rfl (H.block hb (by simp)) hus) ?_
        refine WL_guard_t rfl rfl ?_
        refine WL_step rfl (R_not_f rfl) ?_
        refine WL_stepM rfl (R_pk_f rfl) ?_
        refine WL_stepM rfl (R_mv) ?_
        refine WL_guard_f rfl rfl (by decide) ?_
        refine WL_guard_f rfl rfl (by decide) ?_
        refine WL_guard_f rfl rfl (by decide) ?_
        refine WL_guard_f rfl rfl (by decide) ?_
        refine WL_guard_f rfl rfl (by decide) ?_
        refine WL_stepM rfl (R_pk_t rfl) ?_
        refine WL_nil ?_
        refine W_cond_t rfl ?_
        refine W_seq ?_
        refine W_region_l ?_
        refine WL_stepM rfl (R_as) ?_
        refine WL_nil ?_
        refine W_ret ?_
        exact ⟨_, rfl, rfl, H⟩

theorem get_yes {i : Nat} {a : Pl} (hp : w.heap[p]? = some (blk [sl b 0 N N] 135)) (hb : w.heap[b]? = some (blk (rows plc l) 137)) (hN : l.length = N) (hN2 : N ≤ 256) (h : l[i]? = some a) (hg : a.g ≤ 1000001) (hu : a.u = true) :
    Ret Try.prog 48 #[ptr p 0, I (i + 256 * a.g : Nat)] w fun v w' => v = .tuple #[vk a.v, .bool true] ∧ Hp w [] w' := by
  refine Ret_of_WC (args := [_, _]) Try.func48 rfl Try.ntmps48 Try.results48 (by simp) ?_
  have H := Hp.refl w
  have hi := (List.getElem?_eq_some_iff.1 h).1
  have hlen := rows_length plc_len l
  refine W_seq ?_
  refine W_region_l ?_
  (refine WL_effn rfl (E_allocK H) ?_; clear H; intro c4 w3 hc4 H)
  refine WL_stepM rfl (R_as) ?_
  refine WL_nil ?_
  refine W_seq ?_
  refine W_region_l ?_
  refine WL_stepM rfl (R_mv) ?_
  refine WL_stepM rfl (R_mv) ?_
  (refine WL_call rfl (R_call rfl Try.call69 rfl) (at_yes (H.blockN hp (by repeat' first | exact kNil | apply kCons | apply kApp | assumption | exact OwnS.keys (by assumption))) (H.blockN hb (by repeat' first | exact kNil | apply kCons | apply kApp | assumption | exact OwnS.keys (by assumption))) hN hN2 h hg hu) ?_; rintro _ w10 ⟨rfl, H1⟩; replace H := H.seq0 H1; clear H1)
  refine WL_stepM rfl (R_as) ?_
  refine WL_nil ?_
  refine W_seq ?_
  refine W_seq ?_
  refine W_region_l ?_
  refine WL_stepM rfl (R_mv) ?_
  refine WL_step rfl (R_eq_ptr_nil Try.underlying140 rfl rfl) ?_
  refine WL_nil ?_
  refine W_cond_f rfl ?_
  refine W_skip ?_
  refine W_seq ?_
  refine W_region_l ?_
  refine WL_stepM rfl (R_mv) ?_
  refine WL_step rfl (R_nilCheck rfl) ?_
  refine WL_step rfl (R_fieldAddr Try.underlying137 rfl Try.sizeOf38 (by decide) rfl rfl) ?_
  refine WL_step rfl (R_loadA (vs := a.v.c) Try.isAgg38 Try.sizeOf38 rfl (H.blockN hb (by repeat' first | exact kNil | apply kCons | apply kApp | assumption | exact OwnS.keys (by assumption))) (pl_val h) (by rw [hlen]; show i * 8 + 0 + 6 ≤ _; omega)) ?_
  (refine WL_effu rfl (E_storeK H rfl rfl .here) ?_; clear H; intro w27 H)
  refine WL_stepM rfl (R_as) ?_
  refine WL_nil ?_
  refine W_ret ?_
  exact ⟨_, ⟨_, _, rfl, ldK (H.get .here), rfl⟩, rfl, H.none (by repeat' first | exact kNil | apply kCons | apply kApp | assumption | exact OwnS.keys (by assumption))⟩

theorem get_no {n : Int} (hp : w.heap[p]? = some (blk [sl b 0 N N] 135)) (hb : w.heap[b]? = some (blk (rows plc l) 137)) (hN : l.length = N) (hN2 : N ≤ 256) (hg : ∀ a ∈ l, a.g ≤ 1000001)
    (hn : ∀ (i : Nat) (a : Pl), l[i]? = some a → a.u = true → n ≠ ((i + 256 * a.g : Nat) : Int)) :
    Ret Try.prog 48 #[ptr p 0, I n] w fun v w' => v = .tuple #[vk zk, .bool false] ∧ Hp w [] w' := by
  refine Ret_of_WC (args := [_, _]) Try.func48 rfl Try.ntmps48 Try.results48 (by simp) ?_
  have H := Hp.refl w
  refine W_seq ?_
  refine W_region_l ?_
  (refine WL_effn rfl (E_allocK H) ?_; clear H; intro c4 w3 hc4 H)
  refine WL_stepM rfl (R_as) ?_
  refine WL_nil ?_
  refine W_seq ?_
  refine W_region_l ?_
  refine WL_stepM rfl (R_mv) ?_
  refine WL_stepM rfl (R_mv) ?_
  (refine WL_call rfl (R_call rfl Try.call69 rfl) (at_no (H.blockN hp (by repeat' first | exact kNil | apply kCons | apply kApp | assumption | exact OwnS.keys (by assumption))) (H.blockN hb (by repeat' first | exact kNil | apply kCons | apply kApp | assumption | exact OwnS.keys (by assumption))) hN hN2 hg hn) ?_; rintro _ w10 ⟨rfl, H1⟩; replace H := H.seq0 H1; clear H1)
  refine WL_stepM rfl (R_as) ?_
  refine WL_nil ?_
  refine W_seq ?_
  refine W_seq ?_
  refine W_region_l ?_
  refine WL_stepM rfl (R_mv) ?_
  refine WL_step rfl (R_eq_nil_nil Try.underlying140 rfl rfl) ?_
  refine WL_nil ?_
  refine W_cond_t rfl ?_
  refine W_seq ?_
  refine W_region_l ?_
  (refine WL_effn rfl (E_allocK H) ?_; clear H; intro c7 w22 hc7 H)
  refine WL_nil ?_
  refine W_seq ?_
  refine W_region_l ?_
  refine WL_step rfl (R_loadK rfl (H.get .here)) ?_
  (refine WL_effu rfl (E_storeK H rfl rfl (.there .here)) ?_; clear H; intro w27 H)
  refine WL_stepM rfl (R_as) ?_
  refine WL_nil ?_
  refine W_ret ?_
  exact ⟨_, ⟨_, _, rfl, ldK (H.get (.there .here)), rfl⟩, rfl, H.none (by repeat' first | exact kNil | apply kCons | apply kApp | assumption | exact OwnS.keys (by assumption))⟩

theorem drop_yes {i : Nat} {a : Pl} (hp : w.heap[p]? = some (blk [sl b 0 N N] 135)) (hb : w.heap[b]? = some (blk (rows plc l) 137)) (hN : l.length = N) (hN2 : N ≤ 256) (h : l[i]? = some a) (hg : a.g ≤ 1000001) (hu : a.u = true) :
    Ret Try.prog 47 #[ptr p 0, I (i + 256 * a.g : Nat)] w fun v w' => v = .bool true ∧ Hp w [(b, blk (rows plc (l.set i ⟨zk, a.g + 1, false⟩)) 137)] w' := by
  refine Ret_of_W (args := [_, _]) Try.func47 rfl Try.ntmps47 Try.results47 (by simp) ?_
  have H := Hp.refl w
  have hi := (List.getElem?_eq_some_iff.1 h).1
  have hlen := rows_length plc_len l
  refine W_seq ?_
  refine W_region_l ?_
  refine WL_stepM rfl (R_as) ?_
  refine WL_nil ?_
  refine W_seq ?_
  refine W_region_l ?_
  refine WL_stepM rfl (R_mv) ?_
  refine WL_stepM rfl (R_mv) ?_
  (refine WL_call rfl (R_call rfl Try.call69 rfl) (at_yes (H.block hp (by simp)) (H.block hb (by simp)) hN hN2 h hg hu) ?_; rintro _ w9 ⟨rfl, H1⟩; replace H := H.seq0 H1; clear H1)
  refine WL_stepM rfl (R_as) ?_
  refine WL_nil ?_
  refine W_seq ?_
  refine W_seq ?_
  refine W_region_l ?_
  refine WL_stepM rfl (R_mv) ?_
  refine WL_step rfl (R_eq_ptr_nil Try.underlying140 rfl rfl) ?_
  refine WL_nil ?_
  refine W_cond_f rfl ?_
  refine W_skip ?_
  refine W_seq ?_
  (replace H := H.focus (H.block hb (by simp)) (by simp); refine W_region_l ?_)
  refine WL_stepM rfl (R_mv) ?_
  refine WL_stepM rfl (R_mv) ?_
  refine WL_step rfl (R_nilCheck rfl) ?_
  refine WL_step rfl (R_fieldAddr (off' := _ + 6) Try.underlying137 rfl Try.sizeOf3 (by decide) rfl rfl) ?_
  refine WL_step rfl (R_load Try.isAgg3 rfl (H.get .here) (pl_gen h)) ?_
  refine WL_step rfl (R_add (r := ((a.g + 1 : Nat) : Int)) rfl rfl (by rw [w_i64 (by omega)]; omega)) ?_
  refine WL_step rfl (R_buildL (places := [(0, 6), (6, 1), (7, 1)]) (vs := plc ⟨zk, a.g + 1, false⟩) Try.underlying137 Try.typeInfo137 rfl rfl (by kernel_rfl) rfl rfl rfl) ?_
  refine WL_step rfl (R_nilCheck rfl) ?_
  (refine WL_effu rfl (E_storeA (vs := plc ⟨zk, a.g + 1, false⟩) H Try.sizeOf137 rfl rfl (plc_one _) .here (by rw [plc_len, hlen]; omega)) ?_; clear H; intro w30 H; rw [plc_len, rows_put plc_len hi] at H)
  refine WL_nil ?_
  refine W_seq ?_
  refine W_region_l ?_
  refine WL_stepM rfl (R_as) ?_
  refine WL_nil ?_
  refine W_ret ?_
  exact ⟨_, rfl, rfl, H⟩

theorem drop_no {n : Int} (hp : w.heap[p]? = some (blk [sl b 0 N N] 135)) (hb : w.heap[b]? = some (blk (rows plc l) 137)) (hN : l.length = N) (hN2 : N ≤ 256) (hg : ∀ a ∈ l, a.g ≤ 1000001)
    (hn : ∀ (i : Nat) (a : Pl), l[i]? = some a → a.u = true → n ≠ ((i + 256 * a.g : Nat) : Int)) :
    Ret Try.prog 47 #[ptr p 0, I n] w fun v w' => v = .bool false ∧ Hp w [] w' := by
  refine Ret_of_W (args := [_, _]) Try.func47 rfl Try.ntmps47 Try.results47 (by simp) ?_
  have H := Hp.refl w
  refine W_seq ?_
  refine W_region_l ?_
  refine WL_stepM rfl (R_as) ?_
  refine WL_nil ?_
  refine W_seq ?_
  refine W_region_l ?_
  refine WL_stepM rfl (R_mv) ?_
  refine WL_stepM rfl (R_mv) ?_
  (refine WL_call rfl (R_call rfl Try.call69 rfl) (at_no (H.block hp (by simp)) (H.block hb (by simp)) hN hN2 hg hn) ?_; rintro _ w9 ⟨rfl, H1⟩; replace H := H.seq0 H1; clear H1)
  refine WL_stepM rfl (R_as) ?_
  refine WL_nil ?_
  refine W_seq ?_
  refine W_seq ?_
  refine W_region_l ?_
  refine WL_stepM rfl (R_mv) ?_
  refine WL_step rfl (R_eq_nil_nil Try.underlying140 rfl rfl) ?_
  refine WL_nil ?_
  refine W_cond_t rfl ?_
  refine W_seq ?_
  refine W_region_l ?_
  refine WL_stepM rfl (R_as) ?_
  refine WL_nil ?_
  refine W_ret ?_
  exact ⟨_, rfl, rfl, H⟩
end

theorem new_ret (n : Int) (w : World) : Ret Try.prog 39 #[I n] w fun v w' => ∃ p b, v = ptr p 0 ∧
    Hp w [(p, blk [sl b 0 (szOf n) (szOf n)] 135), (b, blk (rows plc (List.replicate (szOf n) newPl)) 137)] w' ∧ w.heap.size ≤ p ∧ w.heap.size ≤ b := by
  refine Ret_of_W (args := [_]) Try.func39 rfl Try.ntmps39 Try.results39 (by simp) ?_
  have H := Hp.refl w
  obtain ⟨m, hm, hm2⟩ : ∃ m : Nat, min (max n 0) 256 = (m : Int) ∧ szOf n = m := ⟨szOf n, by unfold szOf; omega, rfl⟩
  have hm3 : m ≤ 256 := by omega
  rw [hm2]
  refine W_seq ?_
  refine W_region_l ?_
  refine WL_stepM rfl (R_as) ?_
  refine WL_nil ?_
  refine W_seq ?_
  refine W_region_l ?_
  refine WL_stepM rfl (R_mv) ?_
  refine WL_step rfl (R_max rfl rfl rfl) ?_
  refine WL_step rfl (R_min rfl rfl hm) ?_
  (refine WL_effn rfl (E_makeSliceA (zs := plc zeroPl) H Try.underlying133 Try.sizeOf137 Try.typeInfo137 Try.zeroValue137 rfl rfl rfl rfl (by omega) (by omega) (by omega) (by simp only [Try.t137]; omega)) ?_; clear H; intro b w10 hb H; rw [Int.toNat_natCast, rows_rep] at H; rw [Int.toNat_natCast])
  refine WL_step rfl (R_buildL (places := [(0, 1)]) (vs := [(.slice _ _ _)]) Try.underlying135 Try.typeInfo135 rfl rfl (by kernel_rfl) rfl rfl rfl) ?_
  (refine WL_effn rfl (E_box (vs := [sl b 0 m m]) H rfl rfl) ?_; clear H; intro p w12 hp H)
  refine WL_stepM rfl (R_as) ?_
  refine WL_nil ?_
  refine W_seq ?_
  refine W_seq ?_
  refine W_region_l ?_
  refine WL_stepM rfl (R_mv) ?_
  refine WL_step rfl (R_nilCheck rfl) ?_
  refine WL_step rfl (R_fieldAddr (off' := 0) Try.underlying135 rfl Try.sizeOf133 (by decide) rfl rfl) ?_
  refine WL_step rfl (R_load Try.isAgg133 rfl (H.get .here) rfl) ?_
  refine WL_step rfl (R_len_slice Try.underlying133 rfl) ?_
  refine WL_stepM rfl (R_mv) ?_
  refine WL_nil ?_
  refine W_block ?_
  refine W_loop (fun (i : Nat) E w' => i ≤ m ∧ E 3 = ptr p 0 ∧ E 15 = I m ∧ E 16 = I i ∧ Hp w [(p, blk [sl b 0 m m] 135), (b, blk (rows plc (List.replicate i newPl ++ List.replicate (m - i) zeroPl)) 137)] w') (fun i => m - i) 0 ?_ ?_
  · exact ⟨by omega, rfl, rfl, rfl, H⟩
  · (clear H; rintro i E w1 ⟨hi, h0, h1, h2, H⟩; refine W_know3 h0 h1 h2 ?_; by_cases hlt : i < m)
    · refine W_seq ?_
      refine W_region_l ?_
      refine WL_step rfl (R_lt_t rfl rfl (by omega)) ?_
      refine WL_nil ?_
      refine W_seq ?_
      refine W_cond_t rfl ?_
      refine W_skip ?_
      refine W_seq ?_
      refine W_block ?_
      refine W_seq ?_
      refine W_region_l ?_
      refine WL_stepM rfl (R_mv) ?_
      refine WL_stepM rfl (R_as) ?_
      refine WL_nil ?_
      (have hlen := rows_length plc_len (List.replicate i newPl ++ List.replicate (m - i) zeroPl); rw [List.length_append, List.length_replicate, List.length_replicate] at hlen; refine W_region_l ?_)
      refine WL_stepM rfl (R_mv) ?_
      refine WL_step rfl (R_nilCheck rfl) ?_
      refine WL_step rfl (R_fieldAddr (off' := 0) Try.underlying135 rfl Try.sizeOf133 (by decide) rfl rfl) ?_
      refine WL_step rfl (R_load Try.isAgg133 rfl (H.get .here) rfl) ?_
      refine WL_stepM rfl (R_mv) ?_
      refine WL_step rfl (R_indexAddr Try.underlying133 Try.sizeOf137 rfl rfl (by omega) (by omega) idx0_castn) ?_
      refine WL_step rfl (R_fieldAddr (off' := _ + 6) Try.underlying137 rfl Try.sizeOf3 (by decide) rfl rfl) ?_
      (refine WL_effu rfl (E_store (v := (.int _ _)) H Try.sizeOf3 rfl rfl rfl (.there .here) (by omega)) ?_; clear H; intro w51 H)
      refine WL_nil ?_
      (rw [rows_set (j := 6) (v := I 1) (a' := newPl) plc_len (rep_get hlt) (by decide) rfl, rep_step hlt] at H; refine W_region_l ?_)
      refine WL_step rfl (R_add rfl rfl (w_i64 (by omega))) ?_
      refine WL_stepM rfl (R_mv) ?_
      refine WL_nil ?_
      exact ⟨i + 1, by omega, by omega, rfl, rfl, rfl, H⟩
    · refine W_seq ?_
      refine W_region_l ?_
      refine WL_step rfl (R_lt_f rfl rfl (by omega)) ?_
      refine WL_nil ?_
      refine W_seq ?_
      refine W_cond_f rfl ?_
      refine W_exit ?_
      refine (if_pos rfl).mpr ?_
      refine W_seq ?_
      refine W_region_l ?_
      refine WL_stepM rfl (R_mv) ?_
      refine WL_stepM rfl (R_as) ?_
      refine WL_nil ?_
      refine W_ret ?_
      (obtain rfl : i = m := (by omega); rw [Nat.sub_self, List.replicate_zero, List.append_nil] at H; exact ⟨_, rfl, _, _, rfl, H, by assumption, by assumption⟩)

section
variable {w : World} {p b : Nat} {l : List Pl} {N : Nat}
theorem names_ret (hp : w.heap[p]? = some (blk [sl b 0 N N] 135)) (hb : w.heap[b]? = some (blk (rows plc l) 137)) (hN : l.length = N) (hN2 : N ≤ 256) (hg : ∀ a ∈ l, a.g ≤ 1000001) :
    Ret Try.prog 49 #[ptr p 0] w fun v w' => ∃ M, OwnS w.heap.size 3 1 v (namesFrom 0 l).length ((namesFrom 0 l).map I) M ∧ Hp w M w' := by
  refine Ret_of_W (args := [_]) Try.func49 rfl Try.ntmps49 Try.results49 (by simp) ?_
  have H := Hp.refl w
  have hlen := rows_length plc_len l
  have hO := OwnS.nil w.heap.size 3 1
  have hnl := namesFrom_le l 0
  refine W_seq ?_
  refine W_region_l ?_
  refine WL_stepM rfl (R_as) ?_
  refine WL_nil ?_
  refine W_seq ?_
  refine W_region_l ?_
  refine WL_stepM rfl (R_as) ?_
  refine WL_nil ?_
  refine W_seq ?_
  refine W_seq ?_
  refine W_region_l ?_
  refine WL_stepM rfl (R_mv) ?_
  refine WL_step rfl (R_nilCheck rfl) ?_
  refine WL_step rfl (R_fieldAddr (off' := 0) Try.underlying135 rfl Try.sizeOf133 (by decide) rfl rfl) ?_
  refine WL_step rfl (R_load Try.isAgg133 rfl (H.block hp (by simp)) rfl) ?_
  refine WL_step rfl (R_len_slice Try.underlying133 rfl) ?_
  refine WL_stepM rfl (R_mv) ?_
  refine WL_nil ?_
  refine W_block ?_
  refine W_loop (fun (i : Nat) E w' => ∃ v M out, i ≤ N ∧ E 0 = ptr p 0 ∧ E 3 = v ∧ E 9 = sl b 0 N N ∧ E 10 = I N ∧ E 11 = I i ∧ out ++ namesFrom i (l.drop i) = namesFrom 0 l ∧ OwnS w.heap.size 3 1 v out.length (out.map I) M ∧ Hp w M w') (fun i => N - i) 0 ?_ ?_
  · exact ⟨_, [], [], by omega, rfl, rfl, rfl, rfl, rfl, rfl, hO, H⟩
  · (clear H hO; rintro i E w1 ⟨v, M, out, hi, h0, h3, h1, h2, h4, hout, hO, H⟩; refine W_know5 h0 h3 h1 h2 h4 ?_; have hol := congrArg List.length hout; rw [List.length_append] at hol; by_cases hlt : i < N)
    · refine W_seq ?_
      refine W_region_l ?_
      refine WL_step rfl (R_lt_t rfl rfl (by omega)) ?_
      refine WL_nil ?_
      refine W_seq ?_
      refine W_cond_t rfl ?_
      refine W_skip ?_
      refine W_seq ?_
      refine W_block ?_
      refine W_seq ?_
      (obtain ⟨a, h⟩ : ∃ a, l[i]? = some a := ⟨_, List.getElem?_eq_getElem (by omega)⟩; have hga := hg _ (List.mem_of_getElem? h); rw [List.drop_eq_getElem_cons (by omega), (List.getElem?_eq_some_iff.1 h).2] at hout; have hus := plc_u a; cases hau : a.u <;> rw [hau] at hus <;> refine W_region_l ?_)
      · refine WL_stepM rfl (R_mv) ?_
        refine WL_step rfl (R_indexAddr Try.underlying133 Try.sizeOf137 rfl rfl (by omega) (by omega) idx0_castn) ?_
        refine WL_step rfl (R_loadA (vs := plc a) Try.isAgg137 Try.sizeOf137 rfl (H.blockN hb (by repeat' first | exact kNil | apply kCons | apply kApp | assumption | exact OwnS.keys (by assumption))) (pl_all h) (by omega)) ?_
        (refine WL_effn rfl (E_alloc (vs := plc zeroPl) H Try.zeroValue137 rfl) ?_; clear H; intro c5 w37 hc5 H)
        refine WL_stepM rfl (R_as) ?_
        (refine WL_effu rfl (E_storePl (a' := a) H rfl rfl .here) ?_; clear H; intro w39 H)
        refine WL_nil ?_
        refine W_seq ?_
        refine W_region_l ?_
        refine WL_step rfl (R_fieldAddr (off' := 7) Try.underlying137 rfl Try.sizeOf4 (by decide) rfl rfl) ?_
        refine WL_step rfl (R_load (v := .bool _) Try.isAgg4 rfl (H.get .here) hus) ?_
        refine WL_nil ?_
        refine W_cond_f rfl ?_
        refine W_skip ?_
        refine W_region_l ?_
        refine WL_step rfl (R_add rfl rfl (w_i64 (by omega))) ?_
        refine WL_stepM rfl (R_mv) ?_
        refine WL_nil ?_
        exact ⟨i + 1, by omega, v, M, out, by omega, rfl, rfl, rfl, rfl, rfl, (by rw [namesFrom, hau] at hout; exact hout), hO, H.pop (by assumption)⟩
      · refine WL_stepM rfl (R_mv) ?_
        refine WL_step rfl (R_indexAddr Try.underlying133 Try.sizeOf137 rfl rfl (by omega) (by omega) idx0_castn) ?_
        refine WL_step rfl (R_loadA (vs := plc a) Try.isAgg137 Try.sizeOf137 rfl (H.blockN hb (by repeat' first | exact kNil | apply kCons | apply kApp | assumption | exact OwnS.keys (by assumption))) (pl_all h) (by omega)) ?_
        (refine WL_effn rfl (E_alloc (vs := plc zeroPl) H Try.zeroValue137 rfl) ?_; clear H; intro c5 w56 hc5 H)
        refine WL_stepM rfl (R_as) ?_
        (refine WL_effu rfl (E_storePl (a' := a) H rfl rfl .here) ?_; clear H; intro w58 H)
        refine WL_nil ?_
        refine W_seq ?_
        refine W_region_l ?_
        refine WL_step rfl (R_fieldAddr (off' := 7) Try.underlying137 rfl Try.sizeOf4 (by decide) rfl rfl) ?_
        refine WL_step rfl (R_load (v := .bool _) Try.isAgg4 rfl (H.get .here) hus) ?_
        refine WL_nil ?_
        refine W_cond_t rfl ?_
        refine W_region_l ?_
        refine WL_stepM rfl (R_mv) ?_
        refine WL_stepM rfl (R_mv) ?_
        refine WL_stepM rfl (R_mv) ?_
        (refine WL_call rfl (R_call rfl Try.call70 rfl) (name_ret (H.blockN hp (by repeat' first | exact kNil | apply kCons | apply kApp | assumption | exact OwnS.keys (by assumption))) (H.blockN hb (by repeat' first | exact kNil | apply kCons | apply kApp | assumption | exact OwnS.keys (by assumption))) hN hN2 h hga) ?_; rintro _ w70 ⟨rfl, H1⟩; replace H := H.seq0 H1; clear H1)
        (refine WL_effn rfl (E_buildOnes (vs := [(.int _ _)]) H Try.underlying59 Try.sizeOf3 Try.zeroValue3 rfl rfl (by decide) rfl rfl (by simp [Value.oneCell'])) ?_; clear H; intro b71 w71 hb71 H)
        (refine WL_effm rfl (E_append H (.there (.there .last)) hO Try.underlying59 Try.typeInfo3 rfl rfl rfl rfl rfl rfl (src_one Try.underlying59 (H.get .here) rfl) (by omega) (by simp only [Try.t3]; omega)) ?_; clear H hO; intro vN MN w72 hO H; replace H := H.pop (by assumption))
        refine WL_stepM rfl (R_as) ?_
        refine WL_nil ?_
        refine W_region_l ?_
        refine WL_step rfl (R_add rfl rfl (w_i64 (by omega))) ?_
        refine WL_stepM rfl (R_mv) ?_
        refine WL_nil ?_
        exact ⟨i + 1, by omega, vN, MN, out ++ [((i + 256 * a.g : Nat) : Int)], by omega, rfl, rfl, rfl, rfl, rfl, (by rw [namesFrom, hau] at hout; rw [List.append_assoc]; exact hout), (by rw [List.length_append, List.map_append]; exact hO), H.pop (by assumption)⟩
    · refine W_seq ?_
      refine W_region_l ?_
      refine WL_step rfl (R_lt_f rfl rfl (by omega)) ?_
      refine WL_nil ?_
      refine W_seq ?_
      refine W_cond_f rfl ?_
      refine W_exit ?_
      refine (if_pos rfl).mpr ?_
      refine W_seq ?_
      refine W_region_l ?_
      refine WL_stepM rfl (R_mv) ?_
      refine WL_stepM rfl (R_as) ?_
      refine WL_nil ?_
      refine W_ret ?_
      (rw [List.drop_of_length_le (by omega)] at hout; simp only [namesFrom, List.append_nil] at hout; subst hout; exact ⟨_, rfl, M, hO, H⟩)

theorem add_ret (hp : w.heap[p]? = some (blk [sl b 0 N N] 135)) (hb : w.heap[b]? = some (blk (rows plc l) 137)) (hN : l.length = N) (hN2 : N ≤ 256) (hg : ∀ a ∈ l, a.g ≤ 1000001) (x : Vk) :
    Ret Try.prog 68 #[ptr p 0, vk x] w fun v w' =>
      (∃ i a, l[i]? = some a ∧ free a ∧ (∀ j a', j < i → l[j]? = some a' → ¬ free a') ∧ v = .tuple #[I (i + 256 * a.g : Nat), .bool true] ∧ Hp w [(b, blk (rows plc (l.set i ⟨x, a.g, true⟩)) 137)] w') ∨
      ((∀ a ∈ l, ¬ free a) ∧ v = .tuple #[I 0, .bool false] ∧ Hp w [] w') := by
  refine Ret_of_W (args := [_, _]) Try.func68 rfl Try.ntmps68 Try.results68 (by simp) ?_
  have H := (Hp.focus0 hp).focus hb (by simpa using ne_of_obj hb hp (by simp))
  have hlen := rows_length plc_len l
  refine W_seq ?_
  refine W_region_l ?_
  (refine WL_effn rfl (E_boxK (q := x) H rfl) ?_; clear H; intro c3 w3 hc3 H)
  refine WL_stepM rfl (R_as) ?_
  refine WL_stepM rfl (R_as) ?_
  refine WL_nil ?_
  refine W_seq ?_
  refine W_seq ?_
  refine W_region_l ?_
  refine WL_stepM rfl (R_mv) ?_
  refine WL_step rfl (R_nilCheck rfl) ?_
  refine WL_step rfl (R_fieldAddr (off' := 0) Try.underlying135 rfl Try.sizeOf133 (by decide) rfl rfl) ?_
  refine WL_step rfl (R_load Try.isAgg133 rfl (H.get (.there (.there .here))) rfl) ?_
  refine WL_step rfl (R_len_slice Try.underlying133 rfl) ?_
  refine WL_stepM rfl (R_mv) ?_
  refine WL_nil ?_
  refine W_block ?_
  refine W_loop (fun (i : Nat) E w' => i ≤ N ∧ E 0 = ptr p 0 ∧ E 3 = ptr c3 0 ∧ E 11 = sl b 0 N N ∧ E 12 = I N ∧ E 13 = I i ∧ (∀ j a', j < i → l[j]? = some a' → ¬ free a') ∧ Hp w [(c3, blk x.c 38), (b, blk (rows plc l) 137), (p, blk [sl b 0 N N] 135)] w') (fun i => N - i) 0 ?_ ?_
  · exact ⟨by omega, rfl, rfl, rfl, rfl, rfl, fun j a' hj _ => absurd hj (by omega), H⟩
  · (clear H; rintro i E w1 ⟨hi, h0, h1, h2, h3, h4, hf, H⟩; refine W_know5 h0 h1 h2 h3 h4 ?_; by_cases hlt : i < N)
    · refine W_seq ?_
      refine W_region_l ?_
      refine WL_step rfl (R_lt_t rfl rfl (by omega)) ?_
      refine WL_nil ?_
      refine W_seq ?_
      refine W_cond_t rfl ?_
      refine W_skip ?_
      refine W_seq ?_
      refine W_block ?_
      refine W_seq ?_
      (obtain ⟨a, h⟩ : ∃ a, l[i]? = some a := ⟨_, List.getElem?_eq_getElem (by omega)⟩; have hus := plc_u a; have hgs := plc_g a; cases hau : a.u <;> rw [hau] at hus <;> by_cases hg6 : a.g ≤ 1000000 <;> refine W_region_l ?_)
      · refine WL_stepM rfl (R_mv) ?_
        refine WL_step rfl (R_indexAddr Try.underlying133 Try.sizeOf137 rfl rfl (by omega) (by omega) idx0_castn) ?_
        refine WL_step rfl (R_loadA (vs := plc a) Try.isAgg137 Try.sizeOf137 rfl (H.get (.there .here)) (pl_all h) (by omega)) ?_
        (refine WL_effn rfl (E_alloc (vs := plc zeroPl) H Try.zeroValue137 rfl) ?_; clear H; intro c7 w35 hc7 H)
        refine WL_stepM rfl (R_as) ?_
        (refine WL_effu rfl (E_storePl (a' := a) H rfl rfl .here) ?_; clear H; intro w37 H)
        refine WL_nil ?_
        refine W_seq ?_
        refine W_region_l ?_
        refine WL_step rfl (R_fieldAddr (off' := 7) Try.underlying137 rfl Try.sizeOf4 (by decide) rfl rfl) ?_
        refine WL_step rfl (R_load (v := .bool _) Try.isAgg4 rfl (H.get .here) hus) ?_
        refine WL_step rfl (R_not_f rfl) ?_
        refine WL_stepM rfl (R_mv) ?_
        refine WL_guard_t rfl rfl ?_
        refine WL_step rfl (R_fieldAddr (off' := 6) Try.underlying137 rfl Try.sizeOf3 (by decide) rfl rfl) ?_
        refine WL_guard_t rfl rfl ?_
        refine WL_step rfl (R_load (v := I a.g) Try.isAgg3 rfl (H.get .here) hgs) ?_
        refine WL_guard_t rfl rfl ?_
        refine WL_step rfl (R_le_t rfl rfl (by omega)) ?_
        refine WL_stepM rfl (R_pk_t rfl) ?_
        refine WL_nil ?_
        refine W_cond_t rfl ?_
        refine W_seq ?_
        (have mk5 : True := trivial; refine W_draw (Kp [(c3, blk x.c 38), (p, blk [sl b 0 N N] 135)]) (fun _ => false) (by kernel_rfl) H ?_; clear H; intro w55 H)
        refine WA_takeM 0 rfl rfl rfl (by kernel_rfl) (by kernel_rfl) (H.kp.sub (by simp)) (fun _ hC => R_mv) ?_
        refine WA_take 1 rfl rfl rfl (by kernel_rfl) (by kernel_rfl) (H.kp.sub (by simp)) (fun _ hC => R_nilCheck rfl) ?_
        refine WA_take 2 rfl rfl rfl (by kernel_rfl) (by kernel_rfl) (H.kp.sub (by simp)) (fun _ hC => R_fieldAddr (off' := 0) Try.underlying135 rfl Try.sizeOf133 (by decide) rfl rfl) ?_
        refine WA_take 3 rfl rfl rfl (by kernel_rfl) (by kernel_rfl) (H.kp.sub (by simp)) (fun _ hC => R_load (v := sl b 0 N N) Try.isAgg133 rfl (hC.get (.there .here)) rfl) ?_
        refine WA_takeM 4 rfl rfl rfl (by kernel_rfl) (by kernel_rfl) (H.kp.sub (by simp)) (fun _ hC => R_mv) ?_
        refine WA_takeM 5 rfl rfl rfl (by kernel_rfl) (by kernel_rfl) (H.kp.sub (by simp)) (fun _ hC => R_mv) ?_
        refine WA_take 6 rfl rfl rfl (by kernel_rfl) (by kernel_rfl) (H.kp.sub (by simp)) (fun _ hC => R_nilCheck rfl) ?_
        refine WA_take 7 rfl rfl rfl (by kernel_rfl) (by kernel_rfl) (H.kp.sub (by simp)) (fun _ hC => R_fieldAddr (off' := 0) Try.underlying135 rfl Try.sizeOf133 (by decide) rfl rfl) ?_
        refine WA_take 8 rfl rfl rfl (by kernel_rfl) (by kernel_rfl) (H.kp.sub (by simp)) (fun _ hC => R_load (v := sl b 0 N N) Try.isAgg133 rfl (hC.get (.there .here)) rfl) ?_
        refine WA_takeM 9 rfl rfl rfl (by kernel_rfl) (by kernel_rfl) (H.kp.sub (by simp)) (fun _ hC => R_mv) ?_
        refine WA_take 10 rfl rfl rfl (by kernel_rfl) (by kernel_rfl) (H.kp.sub (by simp)) (fun _ hC => R_loadK (q := x) rfl (hC.get .here)) ?_
        refine WA_take 11 rfl rfl rfl (by kernel_rfl) (by kernel_rfl) (H.kp.sub (by simp)) (fun _ hC => R_indexAddr Try.underlying133 Try.sizeOf137 rfl rfl (by omega) (by omega) idx0_castn) ?_
        refine WA_take 12 rfl rfl rfl (by kernel_rfl) (by kernel_rfl) (H.kp.sub (by simp)) (fun _ hC => R_fieldAddr Try.underlying137 rfl Try.sizeOf38 (by decide) rfl rfl) ?_
        refine WA_one (i := 13) (by kernel_rfl) ?_
        (refine WI_effu rfl (.inl rfl) (E_storeA (vs := x.c) H (fun w => by rw [x.hc]; exact Try.sizeOf38 w) rfl rfl x.ho (.there (.there .here)) (by rw [x.hc, hlen]; show i * 8 + 0 + 6 ≤ _; omega)) (fun _ H _ => H.kp.sub (by simp)) ?_; clear H; intro w70 H; rw [x.hc] at H; replace H : Hp w [(c7, blk (plc a) 137), (c3, blk x.c 38), (b, blk ((rows plc l).take (i * 8 + 0) ++ x.c ++ (rows plc l).drop (i * 8 + 0 + 6)) 137), (p, blk [sl b 0 N N] 135)] w70 := H; rw [rows_val h x] at H)
        refine WA_take 14 rfl rfl rfl (by kernel_rfl) (by kernel_rfl) (H.kp.sub (by simp)) (fun _ hC => R_indexAddr Try.underlying133 Try.sizeOf137 rfl rfl (by omega) (by omega) idx0_castn) ?_
        refine WA_take 15 rfl rfl rfl (by kernel_rfl) (by kernel_rfl) (H.kp.sub (by simp)) (fun _ hC => R_fieldAddr (off' := _ + 7) Try.underlying137 rfl Try.sizeOf4 (by decide) rfl rfl) ?_
        refine WA_one (i := 16) (by kernel_rfl) ?_
        (refine WI_effu rfl (.inl rfl) (E_store (v := .bool true) H Try.sizeOf4 rfl rfl rfl (.there (.there .here)) (by rw [rows_length plc_len, List.length_set]; show i * 8 + 7 < _; omega)) (fun _ H _ => H.kp.sub (by simp)) ?_; clear H; intro w74 H)
        refine WA_done (by kernel_rfl) ?_
        refine W_seq ?_
        (replace H : Hp w [(c7, blk (plc a) 137), (c3, blk x.c 38), (b, blk ((rows plc (l.set i ⟨x, a.g, a.u⟩)).set (i * 8 + 7) (.bool true)) 137), (p, blk [sl b 0 N N] 135)] _ := H; rw [rows_set (j := 7) (v := .bool true) (a' := ⟨x, a.g, true⟩) (l := l.set i ⟨x, a.g, a.u⟩) (a := ⟨x, a.g, a.u⟩) plc_len (List.getElem?_set_self (by omega)) (by decide) (plc_setu ⟨x, a.g, a.u⟩ true).symm, List.set_set] at H; refine W_region_l ?_)
        refine WL_stepM rfl (R_mv) ?_
        refine WL_stepM rfl (R_mv) ?_
        (refine WL_call rfl (R_call rfl Try.call70 rfl) (name_ret (a := ⟨x, a.g, true⟩) (H.get (.there (.there (.there .here)))) (H.get (.there (.there .here))) (by simpa using hN) hN2 (List.getElem?_set_self (by omega)) (by show a.g ≤ 1000001; omega)) ?_; rintro _ w80 ⟨rfl, H1⟩; replace H := H.seq0 H1; clear H1)
        refine WL_stepM rfl (R_as) ?_
        refine WL_stepM rfl (R_as) ?_
        refine WL_nil ?_
        refine W_ret ?_
        exact ⟨_, rfl, .inl ⟨i, _, h, ⟨hau, hg6⟩, hf, rfl, (Hp.pop (Hp.pop H (by assumption)) (by assumption)).swap2.back hp⟩⟩
      · refine WL_stepM rfl (R_mv) ?_
        refine WL_step rfl (R_indexAddr Try.underlying133 Try.sizeOf137 rfl rfl (by omega) (by omega) idx0_castn) ?_
        refine WL_step rfl (R_loadA (vs := plc a) Try.isAgg137 Try.sizeOf137 rfl (H.get (.there .here)) (pl_all h) (by omega)) ?_
        (refine WL_effn rfl (E_alloc (vs := plc zeroPl) H Try.zeroValue137 rfl) ?_; clear H; intro c7 w89 hc7 H)
        refine WL_stepM rfl (R_as) ?_
        (refine WL_effu rfl (E_storePl (a' := a) H rfl rfl .here) ?_; clear H; intro w91 H)
        refine WL_nil ?_
        refine W_seq ?_
        refine W_region_l ?_
        refine WL_step rfl (R_fieldAddr (off' := 7) Try.underlying137 rfl Try.sizeOf4 (by decide) rfl rfl) ?_
        refine WL_step rfl (R_load (v := .bool _) Try.isAgg4 rfl (H.get .here) hus) ?_
        refine WL_step rfl (R_not_f rfl) ?_
        refine WL_stepM rfl (R_mv) ?_
        refine WL_guard_t rfl rfl ?_
        refine WL_step rfl (R_fieldAddr (off' := 6) Try.underlying137 rfl Try.sizeOf3 (by decide) rfl rfl) ?_
        refine WL_guard_t rfl rfl ?_
        refine WL_step rfl (R_load (v := I a.g) Try.isAgg3 rfl (H.get .here) hgs) ?_
        refine WL_guard_t rfl rfl ?_
        refine WL_step rfl (R_le_f rfl rfl (by omega)) ?_
        refine WL_stepM rfl (R_pk_t rfl) ?_
        refine WL_nil ?_
        refine W_cond_f rfl ?_
        refine W_skip ?_
        refine W_region_l ?_
        refine WL_step rfl (R_add rfl rfl (w_i64 (by omega))) ?_
        refine WL_stepM rfl (R_mv) ?_
        refine WL_nil ?_
        exact ⟨i + 1, by omega, by omega, rfl, rfl, rfl, rfl, rfl, (fun j a' hj hja hfr => by rcases Nat.lt_or_ge j i with h' | h'; exact hf j a' h' hja hfr; obtain rfl : j = i := (by omega); rw [h] at hja; cases hja; first | exact hg6 hfr.2 | (have h5 := hfr.1; rw [hau] at h5; cases h5)), H.pop (by assumption)⟩
      · refine WL_stepM rfl (R_mv) ?_
        refine WL_step rfl (R_indexAddr Try.underlying133 Try.sizeOf137 rfl rfl (by omega) (by omega) idx0_castn) ?_
        refine WL_step rfl (R_loadA (vs := plc a) Try.isAgg137 Try.sizeOf137 rfl (H.get (.there .here)) (pl_all h) (by omega)) ?_
        (refine WL_effn rfl (E_alloc (vs := plc zeroPl) H Try.zeroValue137 rfl) ?_; clear H; intro c7 w117 hc7 H)
        refine WL_stepM rfl (R_as) ?_
        (refine WL_effu rfl (E_storePl (a' := a) H rfl rfl .here) ?_; clear H; intro w119 H)
        refine WL_nil ?_
        refine W_seq ?_
        refine W_region_l ?_
        refine WL_step rfl (R_fieldAddr (off' := 7) Try.underlying137 rfl Try.sizeOf4 (by decide) rfl rfl) ?_
        refine WL_step rfl (R_load (v := .bool _) Try.isAgg4 rfl (H.get .here) hus) ?_
        refine WL_step rfl (R_not_t rfl) ?_
        refine WL_stepM rfl (R_mv) ?_
        refine WL_guard_f rfl rfl (by decide) ?_
        refine WL_guard_f rfl rfl (by decide) ?_
        refine WL_guard_f rfl rfl (by decide) ?_
        refine WL_stepM rfl (R_pk_f rfl) ?_
        refine WL_nil ?_
        refine W_cond_f rfl ?_
        refine W_skip ?_
        refine W_region_l ?_
        refine WL_step rfl (R_add rfl rfl (w_i64 (by omega))) ?_
        refine WL_stepM rfl (R_mv) ?_
        refine WL_nil ?_
        exact ⟨i + 1, by omega, by omega, rfl, rfl, rfl, rfl, rfl, (fun j a' hj hja hfr => by rcases Nat.lt_or_ge j i with h' | h'; exact hf j a' h' hja hfr; obtain rfl : j = i := (by omega); rw [h] at hja; cases hja; first | exact hg6 hfr.2 | (have h5 := hfr.1; rw [hau] at h5; cases h5)), H.pop (by assumption)⟩
      · refine WL_stepM rfl (R_mv) ?_
        refine WL_step rfl (R_indexAddr Try.underlying133 Try.sizeOf137 rfl rfl (by omega) (by omega) idx0_castn) ?_
        refine WL_step rfl (R_loadA (vs := plc a) Try.isAgg137 Try.sizeOf137 rfl (H.get (.there .here)) (pl_all h) (by omega)) ?_
        (refine WL_effn rfl (E_alloc (vs := plc zeroPl) H Try.zeroValue137 rfl) ?_; clear H; intro c7 w142 hc7 H)
        refine WL_stepM rfl (R_as) ?_
        (refine WL_effu rfl (E_storePl (a' := a) H rfl rfl .here) ?_; clear H; intro w144 H)
        refine WL_nil ?_
        refine W_seq ?_
        refine W_region_l ?_
        refine WL_step rfl (R_fieldAddr (off' := 7) Try.underlying137 rfl Try.sizeOf4 (by decide) rfl rfl) ?_
        refine WL_step rfl (R_load (v := .bool _) Try.isAgg4 rfl (H.get .here) hus) ?_
        refine WL_step rfl (R_not_t rfl) ?_
        refine WL_stepM rfl (R_mv) ?_
        refine WL_guard_f rfl rfl (by decide) ?_
        refine WL_guard_f rfl rfl (by decide) ?_
        refine WL_guard_f rfl rfl (by decide) ?_
        refine WL_stepM rfl (R_pk_f rfl) ?_
        refine WL_nil ?_
        refine W_cond_f rfl ?_
        refine W_skip ?_
        refine W_region_l ?_
        refine WL_step rfl (R_add rfl rfl (w_i64 (by omega))) ?_
        refine WL_stepM rfl (R_mv) ?_
        refine WL_nil ?_
        exact ⟨i + 1, by omega, by omega, rfl, rfl, rfl, rfl, rfl, (fun j a' hj hja hfr => by rcases Nat.lt_or_ge j i with h' | h'; exact hf j a' h' hja hfr; obtain rfl : j = i := (by omega); rw [h] at hja; cases hja; first | exact hg6 hfr.2 | (have h5 := hfr.1; rw [hau] at h5; cases h5)), H.pop (by assumption)⟩
    · refine W_seq ?_
      refine W_region_l ?_
      refine WL_step rfl (R_lt_f rfl rfl (by omega)) ?_
      refine WL_nil ?_
      refine W_seq ?_
      refine W_cond_f rfl ?_
      refine W_exit ?_
      refine (if_pos rfl).mpr ?_
      refine W_seq ?_
      refine W_region_l ?_
      refine WL_stepM rfl (R_as) ?_
      refine WL_stepM rfl (R_as) ?_
      refine WL_nil ?_
      refine W_ret ?_
      exact ⟨_, rfl, .inr ⟨fun a ha hfr => by obtain ⟨j, hj⟩ := List.mem_iff_getElem?.1 ha; exact hf j a (by have := (List.getElem?_eq_some_iff.1 hj).1; omega) hj hfr, rfl, ((H.pop (by assumption)).back hb).back hp⟩⟩

theorem add_yes {i : Nat} {a : Pl} (hp : w.heap[p]? = some (blk [sl b 0 N N] 135)) (hb : w.heap[b]? = some (blk (rows plc l) 137)) (hN : l.length = N) (hN2 : N ≤ 256) (hg : ∀ a ∈ l, a.g ≤ 1000001)
    (x : Vk) (h : l[i]? = some a) (hf : free a) (hlt : ∀ j a', j < i → l[j]? = some a' → ¬ free a') :
    Ret Try.prog 68 #[ptr p 0, vk x] w fun v w' => v = .tuple #[I (i + 256 * a.g : Nat), .bool true] ∧ Hp w [(b, blk (rows plc (l.set i ⟨x, a.g, true⟩)) 137)] w' := by
  refine (add_ret hp hb hN hN2 hg x).mono ?_
  rintro v w' (⟨i', a', h', hf', hlt', hv', H⟩ | ⟨hno, _⟩)
  · rcases Nat.lt_trichotomy i i' with hh | rfl | hh
    · exact (hlt' i a hh h hf).elim
    · rw [h] at h'; cases h'; exact ⟨hv', H⟩
    · exact (hlt i' a' hh h' hf').elim
  · exact (hno a (List.mem_of_getElem? h) hf).elim
theorem add_no (hp : w.heap[p]? = some (blk [sl b 0 N N] 135)) (hb : w.heap[b]? = some (blk (rows plc l) 137)) (hN : l.length = N) (hN2 : N ≤ 256) (hg : ∀ a ∈ l, a.g ≤ 1000001) (x : Vk) (hno : ∀ a ∈ l, ¬ free a) :
    Ret Try.prog 68 #[ptr p 0, vk x] w fun v w' => v = .tuple #[I 0, .bool false] ∧ Hp w [] w' := by
  refine (add_ret hp hb hN hN2 hg x).mono ?_
  rintro v w' (⟨i', a', h', hf', _⟩ | ⟨_, hv', H⟩)
  · exact (hno a' (List.mem_of_getElem? h') hf').elim
  · exact ⟨hv', H⟩
end
end Go.Proofs.Ythonajikgljgmaa.TabC

/-
  What the functions of package table do, over things of 6 cells.
-/
import Derived.Test.YtlpmfldijgdcoaaGreatDoorFxZ
import Derived.Test.YtlpmfldijgdcoaaGreatDoorProg
namespace Go.Proofs.YtlpmfldijgdcoaaGreatDoor.TabC
open Go Go.Proofs Go.Proofs.YtlpmfldijgdcoaaGreatDoor.Fx
set_option maxRecDepth 100000
set_option linter.unusedVariables false
set_option linter.unusedSimpArgs false
set_option maxHeartbeats 4000000

/-- a thing of 6 cells -/
structure Vk where
  c : List Value
  hc : c.length = 6
  ho : ∀ x ∈ c, x.oneCell' = true
abbrev vk (x : Vk) : Value := .agg x.c.toArray
def zk : Vk := ⟨[I 0, I 0, I 0, I 0, I 0, I 0], rfl, by simp [Value.oneCell']⟩
/-- a place of a table -/
structure Pl where
  v : Vk
  g : Nat
  u : Bool
def plc (a : Pl) : List Value := a.v.c ++ [I a.g, .bool a.u]
theorem plc_len (a : Pl) : (plc a).length = 8 := by unfold plc; rw [List.length_append, a.v.hc]; rfl
theorem plc_one (a : Pl) : ∀ x ∈ plc a, x.oneCell' = true := by
  intro x hx
  unfold plc at hx
  rcases List.mem_append.1 hx with h | h
  · exact a.v.ho x h
  · simp only [List.mem_cons, List.not_mem_nil, or_false] at h
    rcases h with rfl | rfl <;> rfl
theorem plc_g (a : Pl) : (plc a)[6]? = some (I a.g) := by unfold plc; rw [List.getElem?_append_right (by rw [a.v.hc]; decide), a.v.hc]; rfl
theorem plc_u (a : Pl) : (plc a)[7]? = some (.bool a.u) := by unfold plc; rw [List.getElem?_append_right (by rw [a.v.hc]; decide), a.v.hc]; rfl
theorem pl_gen {l : List Pl} {i : Nat} {a : Pl} (h : l[i]? = some a) : (rows plc l)[i * 8 + 6]? = some (I a.g) := (rows_get plc_len h (by decide)).trans (plc_g a)
theorem pl_used {l : List Pl} {i : Nat} {a : Pl} (h : l[i]? = some a) : (rows plc l)[i * 8 + 7]? = some (.bool a.u) := (rows_get plc_len h (by decide)).trans (plc_u a)
theorem pl_all {l : List Pl} {i : Nat} {a : Pl} (h : l[i]? = some a) : ((rows plc l).drop (i * 8)).take 8 = plc a := rows_one plc_len h
theorem pl_val {l : List Pl} {i : Nat} {a : Pl} (h : l[i]? = some a) : ((rows plc l).drop (i * 8 + 0)).take 6 = a.v.c := by
  have e := congrArg (List.take 6) (pl_all h)
  rw [List.take_take, show min 6 8 = 6 from rfl] at e
  rw [Nat.add_zero, e]
  unfold plc
  rw [List.take_left' a.v.hc]
theorem plc_setu (a : Pl) (b : Bool) : (plc a).set 7 (.bool b) = plc ⟨a.v, a.g, b⟩ := by
  unfold plc; rw [List.set_append_right _ _ (by rw [a.v.hc]; decide), a.v.hc]; rfl
/-- another thing at a place -/
theorem rows_val {l : List Pl} {i : Nat} {a : Pl} (h : l[i]? = some a) (x : Vk) : (rows plc l).take (i * 8 + 0) ++ x.c ++ (rows plc l).drop (i * 8 + 0 + 6) = rows plc (l.set i ⟨x, a.g, a.u⟩) := by
  have hi := (List.getElem?_eq_some_iff.1 h).1
  have e := rows_put (a' := ⟨x, a.g, a.u⟩) plc_len hi
  rw [← e, Nat.add_zero, List.append_assoc, List.append_assoc]
  congr 1
  have e2 : (rows plc l).drop (i * 8) = plc a ++ (rows plc l).drop (i * 8 + 8) := by
    rw [← pl_all h, show (rows plc l).drop (i * 8 + 8) = ((rows plc l).drop (i * 8)).drop 8 from by rw [List.drop_drop]]
    exact (List.take_append_drop 8 _).symm
  have e3 : (rows plc l).drop (i * 8 + 6) = [I a.g, .bool a.u] ++ (rows plc l).drop (i * 8 + 8) := by
    rw [show (rows plc l).drop (i * 8 + 6) = ((rows plc l).drop (i * 8)).drop 6 from by rw [List.drop_drop], e2]
    show (a.v.c ++ [I a.g, .bool a.u] ++ _).drop 6 = _
    rw [List.append_assoc, List.drop_left' a.v.hc]
  rw [e3]
  show x.c ++ ([I a.g, .bool a.u] ++ _) = (x.c ++ [I a.g, .bool a.u]) ++ _
  rw [List.append_assoc]

section
variable {E : Env} {w0 w : World} {L : List (Nat × Obj)} {d : Option Nat} {ty e : TypeId} {pos : String} {after : Array Edge} {x y : Operand} {b : Nat} {p q : Vk} {f : Obj → List (Nat × Obj)} {c : List Value}
theorem k_all (q : Vk) : (q.c.drop 0).take 6 = q.c := by rw [List.drop_zero, List.take_of_length_le (by rw [q.hc]; decide)]
theorem ldK (hb : w.heap[b]? = some (blk q.c e)) : (loadVar 125 ⟨b, 0, none⟩).run Tryz.prog w = .ok (vk q) w :=
  ldA Tryz.isAgg125 Tryz.sizeOf125 hb (k_all q) (by rw [q.hc]; decide)
theorem R_loadK (hx : ev E x = ptr b 0) (hb : w.heap[b]? = some (blk q.c e)) : (execOp (ev E) (mk d (.load 125 x) ty pos after)).run Tryz.prog w = .ok (.value (vk q)) w :=
  R_loadA Tryz.isAgg125 Tryz.sizeOf125 hx hb (k_all q) (by rw [q.hc]; decide)
theorem E_storeK (H : Hp w0 L w) (hx : ev E x = ptr b 0) (hy : ev E y = vk q) (hL : At L b (blk p.c e) f) :
    ∃ w', Hp w0 (f (blk q.c e)) w' ∧ (execOp (ev E) (mk d (.store 125 x y) ty pos after)).run Tryz.prog w = .ok .skip w' := by
  have h := E_storeA (d := d) (ty := ty) (pos := pos) (after := after) (vs := q.c) H (fun w => by rw [q.hc]; exact Tryz.sizeOf125 w) hx hy q.ho hL (by rw [q.hc, p.hc]; decide)
  rw [List.take_zero, List.nil_append, q.hc, List.drop_of_length_le (by rw [p.hc]; decide), List.append_nil] at h
  exact h
theorem E_allocK (H : Hp w0 L w) : ∃ b w', w0.heap.size ≤ b ∧ Hp w0 ((b, blk zk.c 125) :: L) w' ∧ (execOp (ev E) (mk d (.alloc 125) ty pos after)).run Tryz.prog w = .ok (.value (ptr b 0)) w' :=
  E_alloc (vs := zk.c) H Tryz.zeroValue125 rfl
theorem E_boxK (H : Hp w0 L w) (hx : ev E x = vk q) : ∃ b w', w0.heap.size ≤ b ∧ Hp w0 ((b, blk q.c 125) :: L) w' ∧ (execOp (ev E) (mk d (.box 125 x) ty pos after)).run Tryz.prog w = .ok (.value (ptr b 0)) w' :=
  E_box (v := vk q) (vs := q.c) H hx rfl
/-- a whole place, as it was taken out of the row -/
theorem E_storePl {a a' : Pl} (H : Hp w0 L w) (hx : ev E x = ptr b 0) (hy : ev E y = .agg (plc a').toArray) (hL : At L b (blk (plc a) e) f) :
    ∃ w', Hp w0 (f (blk (plc a') e)) w' ∧ (execOp (ev E) (mk d (.store 211 x y) ty pos after)).run Tryz.prog w = .ok .skip w' := by
  have h := E_storeA (d := d) (ty := ty) (pos := pos) (after := after) (vs := plc a') H (fun w => by rw [plc_len]; exact Tryz.sizeOf211 w) hx hy (plc_one a') hL (by rw [plc_len, plc_len]; decide)
  rw [List.take_zero, List.nil_append, plc_len, List.drop_of_length_le (by rw [plc_len]; decide), List.append_nil] at h
  exact h
end

def zeroPl : Pl := ⟨zk, 0, false⟩
def newPl : Pl := ⟨zk, 1, false⟩
def szOf (n : Int) : Nat := (min (max n 0) 256).toNat
def free (a : Pl) : Prop := a.u = false ∧ a.g ≤ 1000000
/-- the names that are there, from a place on -/
def namesFrom : Nat → List Pl → List Int
  | _, [] => []
  | k, a :: l => if a.u = true then ((k + 256 * a.g : Nat) : Int) :: namesFrom (k + 1) l else namesFrom (k + 1) l
theorem namesFrom_le : ∀ (l : List Pl) (k : Nat), (namesFrom k l).length ≤ l.length
  | [], k => by simp [namesFrom]
  | a :: l, k => by
    have := namesFrom_le l (k + 1)
    unfold namesFrom
    split <;> simp <;> omega
theorem rows_rep (n : Nat) (a : Pl) : (List.replicate n (plc a)).flatten = rows plc (List.replicate n a) := by
  unfold rows; rw [List.flatMap_def, List.map_replicate]
theorem rep_step {i n : Nat} (h : i < n) : (List.replicate i newPl ++ List.replicate (n - i) zeroPl).set i newPl = List.replicate (i + 1) newPl ++ List.replicate (n - (i + 1)) zeroPl := by
  rw [List.set_append, if_neg (by simp), List.length_replicate, Nat.sub_self, show n - i = (n - (i + 1)) + 1 from by omega, List.replicate_succ, List.set_cons_zero, List.replicate_succ', List.append_assoc]
  rfl
theorem rep_get {i n : Nat} (h : i < n) : (List.replicate i newPl ++ List.replicate (n - i) zeroPl)[i]? = some zeroPl := by
  rw [List.getElem?_append_right (by simp), List.length_replicate, Nat.sub_self, List.getElem?_replicate, if_pos (by omega)]

section
variable {w : World} {p b : Nat} {l : List Pl} {N : Nat}
theorem name_ret {i : Nat} {a : Pl} (hp : w.heap[p]? = some (blk [sl b 0 N N] 209)) (hb : w.heap[b]? = some (blk (rows plc l) 211)) (hN : l.length = N) (hN2 : N ≤ 256) (h : l[i]? = some a) (hg : a.g ≤ 1000001) :
    Ret Tryz.prog 160 #[ptr p 0, I i] w fun v w' => v = I (i + 256 * a.g : Nat) ∧ Hp w [] w' := by
  refine Ret_of_W (args := [_, _]) Tryz.func160 rfl Tryz.ntmps160 Tryz.results160 (by simp) ?_
  have H := Hp.refl w
  have hi := (List.getElem?_eq_some_iff.1 h).1
  refine W_seq ?_
  refine W_region_l ?_
  refine WL_stepM rfl (R_as) ?_
  refine WL_nil ?_
  refine W_seq ?_
  refine W_region_l ?_
  refine WL_stepM rfl (R_mv) ?_
  refine WL_stepM rfl (R_mv) ?_
  refine WL_step rfl (R_nilCheck rfl) ?_
  refine WL_step rfl (R_fieldAddr (off' := 0) Tryz.underlying209 rfl Tryz.sizeOf207 (by decide) rfl rfl) ?_
  refine WL_step rfl (R_load Tryz.isAgg207 rfl (H.block hp (by simp)) rfl) ?_
  refine WL_stepM rfl (R_mv) ?_
  refine WL_step rfl (R_indexAddr Tryz.underlying207 Tryz.sizeOf211 rfl rfl (by omega) (by omega) idx0_castn) ?_
  refine WL_step rfl (R_fieldAddr (off' := _ + 6) Tryz.underlying211 rfl Tryz.sizeOf3 (by decide) rfl rfl) ?_
  refine WL_step rfl (R_load Tryz.isAgg3 rfl (H.block hb (by simp)) (pl_gen h)) ?_
  refine WL_step rfl (R_mul (r := ((256 * a.g : Nat) : Int)) rfl rfl (by rw [w_i64 (by omega)]; omega)) ?_
  refine WL_step rfl (R_add (r := ((i + 256 * a.g : Nat) : Int)) rfl rfl (by rw [w_i64 (by omega)]; omega)) ?_
  refine WL_stepM rfl (R_as) ?_
  refine WL_nil ?_
  refine W_ret ?_
  exact ⟨_, rfl, rfl, H⟩

theorem at_yes {i : Nat} {a : Pl} (hp : w.heap[p]? = some (blk [sl b 0 N N] 209)) (hb : w.heap[b]? = some (blk (rows plc l) 211)) (hN : l.length = N) (hN2 : N ≤ 256) (h : l[i]? = some a) (hg : a.g ≤ 1000001) (hu : a.u = true) :
    Ret Tryz.prog 196 #[ptr p 0, I (i + 256 * a.g : Nat)] w fun v w' => v = ptr b (i * 8) ∧ Hp w [] w' := by
  refine Ret_of_W (args := [_, _]) Tryz.func196 rfl Tryz.ntmps196 Tryz.results196 (by simp) ?_
  have H := Hp.refl w
  have hi := (List.getElem?_eq_some_iff.1 h).1
  have hus := pl_used h
  rw [hu] at hus
  refine W_seq ?_
  refine W_region_l ?_
  refine WL_stepM rfl (R_as) ?_
  refine WL_nil ?_
  refine W_seq ?_
  refine W_region_l ?_
  refine WL_stepM rfl (R_mv) ?_
  refine WL_step rfl (R_bits (r := (i : Int)) rfl rfl (by simp) ((and_mask_i64 8 256 (by decide) rfl (by decide)).trans (by omega))) ?_
  refine WL_stepM rfl (R_as) ?_
  refine WL_nil ?_
  refine W_seq ?_
  refine W_seq ?_
  refine W_region_l ?_
  refine WL_stepM rfl (R_mv) ?_
  refine WL_step rfl (R_lt_f rfl rfl (by omega)) ?_
  refine WL_stepM rfl (R_mv) ?_
  refine WL_guard_t rfl rfl ?_
  refine WL_stepM rfl (R_mv) ?_
  refine WL_guard_t rfl rfl ?_
  refine WL_stepM rfl (R_mv) ?_
  refine WL_guard_t rfl rfl ?_
  refine WL_step rfl (R_nilCheck rfl) ?_
  refine WL_guard_t rfl rfl ?_
  refine WL_step rfl (R_fieldAddr (off' := 0) Tryz.underlying209 rfl Tryz.sizeOf207 (by decide) rfl rfl) ?_
  refine WL_guard_t rfl rfl ?_
  refine WL_step rfl (R_load Tryz.isAgg207 rfl (H.block hp (by simp)) rfl) ?_
  refine WL_guard_t rfl rfl ?_
  refine WL_step rfl (R_len_slice Tryz.underlying207 rfl) ?_
  refine WL_guard_t rfl rfl ?_
  refine WL_step rfl (R_ge_f rfl rfl (by omega)) ?_
  refine WL_stepM rfl (R_pk_f rfl) ?_
  refine WL_stepM rfl (R_mv) ?_
  refine WL_guard_t rfl rfl ?_
  refine WL_stepM rfl (R_mv) ?_
  refine WL_guard_t rfl rfl ?_
  refine WL_step rfl (R_nilCheck rfl) ?_
  refine WL_guard_t rfl rfl ?_
  refine WL_step rfl (R_fieldAddr (off' := 0) Tryz.underlying209 rfl Tryz.sizeOf207 (by decide) rfl rfl) ?_
  refine WL_guard_t rfl rfl ?_
  refine WL_step rfl (R_load Tryz.isAgg207 rfl (H.block hp (by simp)) rfl) ?_
  refine WL_guard_t rfl rfl ?_
  refine WL_stepM rfl (R_mv) ?_
  refine WL_guard_t rfl rfl ?_
  refine WL_step rfl (R_indexAddr Tryz.underlying207 Tryz.sizeOf211 rfl rfl (by omega) (by omega) idx0_castn) ?_
  refine WL_guard_t rfl rfl ?_
  refine WL_step rfl (R_fieldAddr (off' := _ + 7) Tryz.underlying211 rfl Tryz.sizeOf4 (by decide) rfl rfl) ?_
  refine WL_guard_t rfl rfl ?_
  refine WL_step rfl (R_load Tryz.isAgg4 rfl (H.block hb (by simp)) hus) ?_
  refine WL_guard_t rfl rfl ?_
  refine WL_step rfl (R_not_t rfl) ?_
  refine WL_stepM rfl (R_pk_f rfl) ?_
  refine WL_stepM rfl (R_mv) ?_
  refine WL_guard_t rfl rfl ?_
  refine WL_stepM rfl (R_mv) ?_
  refine WL_guard_t rfl rfl ?_
  refine WL_stepM rfl (R_mv) ?_
  refine WL_guard_t rfl rfl ?_
  (refine WL_call rfl (R_call rfl Tryz.call160 rfl) (name_ret (H.block hp (by simp)) (H.block hb (by simp)) hN hN2 h hg) ?_; rintro _ w58 ⟨rfl, H1⟩; replace H := H.seq0 H1; clear H1)
  refine WL_guard_t rfl rfl ?_
  refine WL_stepM rfl (R_mv) ?_
  refine WL_guard_t rfl rfl ?_
  refine WL_step rfl (R_ne_f rfl rfl (by omega)) ?_
  refine WL_stepM rfl (R_pk_f rfl) ?_
  refine WL_nil ?_
  refine W_cond_f rfl ?_
  refine W_skip ?_
  refine W_seq ?_
  refine W_region_l ?_
  refine WL_stepM rfl (R_mv) ?_
  refine WL_step rfl (R_nilCheck rfl) ?_
  refine WL_step rfl (R_fieldAddr (off' := 0) Tryz.underlying209 rfl Tryz.sizeOf207 (by decide) rfl rfl) ?_
  refine WL_step rfl (R_load Tryz.isAgg207 rfl (H.block hp (by simp)) rfl) ?_
  refine WL_stepM rfl (R_mv) ?_
  refine WL_step rfl (R_indexAddr Tryz.underlying207 Tryz.sizeOf211 rfl rfl (by omega) (by omega) idx0_castn) ?_
  refine WL_stepM rfl (R_as) ?_
  refine WL_nil ?_
  refine W_ret ?_
  exact ⟨_, rfl, rfl, H⟩

theorem get_yes {i : Nat} {a : Pl} (hp : w.heap[p]? = some (blk [sl b 0 N N] 209)) (hb : w.heap[b]? = some (blk (rows plc l) 211)) (hN : l.length = N) (hN2 : N ≤ 256) (h : l[i]? = some a) (hg : a.g ≤ 1000001) (hu : a.u = true) :
    Ret Tryz.prog 193 #[ptr p 0, I (i + 256 * a.g : Nat)] w fun v w' => v = .tuple #[vk a.v, .bool true] ∧ Hp w [] w' := by
  refine Ret_of_WC (args := [_, _]) Tryz.func193 rfl Tryz.ntmps193 Tryz.results193 (by simp) ?_
  have H := Hp.refl w
  have hi := (List.getElem?_eq_some_iff.1 h).1
  have hlen := rows_length plc_len l
  refine W_seq ?_
  refine W_region_l ?_
  (refine WL_effn rfl (E_allocK H) ?_; clear H; intro c4 w3 hc4 H)
  refine WL_stepM rfl (R_as) ?_
  refine WL_nil ?_
  refine W_seq ?_
  refine W_region_l ?_
  refine WL_stepM rfl (R_mv) ?_
  refine WL_stepM rfl (R_mv) ?_
  (refine WL_call rfl (R_call rfl Tryz.call196 rfl) (at_yes (H.blockN hp kYs) (H.blockN hb kYs) hN hN2 h hg hu) ?_; rintro _ w10 ⟨rfl, H1⟩; replace H := H.seq0 H1; clear H1)
  refine WL_stepM rfl (R_as) ?_
  refine WL_nil ?_
  refine W_seq ?_
  refine W_seq ?_
  refine W_region_l ?_
  refine WL_stepM rfl (R_mv) ?_
  refine WL_step rfl (R_eq_ptr_nil Tryz.underlying302 rfl rfl) ?_
  refine WL_nil ?_
  refine W_cond_f rfl ?_
  refine W_skip ?_
  refine W_seq ?_
  refine W_region_l ?_
  refine WL_stepM rfl (R_mv) ?_
  refine WL_step rfl (R_nilCheck rfl) ?_
  refine WL_step rfl (R_fieldAddr Tryz.underlying211 rfl Tryz.sizeOf125 (by decide) rfl rfl) ?_
  refine WL_step rfl (R_loadA (vs := a.v.c) Tryz.isAgg125 Tryz.sizeOf125 rfl (H.blockN hb kYs) (pl_val h) (by rw [hlen]; show i * 8 + 0 + 6 ≤ _; omega)) ?_
  (refine WL_effu rfl (E_storeK H rfl rfl .here) ?_; clear H; intro w27 H)
  refine WL_stepM rfl (R_as) ?_
  refine WL_nil ?_
  refine W_ret ?_
  exact ⟨_, ⟨_, _, rfl, ldK (H.get .here), rfl⟩, rfl, H.none kYs⟩

end

theorem new_ret (n : Int) (w : World) : Ret Tryz.prog 77 #[I n] w fun v w' => ∃ p b, v = ptr p 0 ∧
    Hp w [(p, blk [sl b 0 (szOf n) (szOf n)] 209), (b, blk (rows plc (List.replicate (szOf n) newPl)) 211)] w' ∧ w.heap.size ≤ p ∧ w.heap.size ≤ b := by
  refine Ret_of_W (args := [_]) Tryz.func77 rfl Tryz.ntmps77 Tryz.results77 (by simp) ?_
  have H := Hp.refl w
  obtain ⟨m, hm, hm2⟩ : ∃ m : Nat, min (max n 0) 256 = (m : Int) ∧ szOf n = m := ⟨szOf n, by unfold szOf; omega, rfl⟩
  have hm3 : m ≤ 256 := by omega
  rw [hm2]
  refine W_seq ?_
  refine W_region_l ?_
  refine WL_stepM rfl (R_as) ?_
  refine WL_nil ?_
  refine W_seq ?_
  refine W_region_l ?_
  refine WL_stepM rfl (R_mv) ?_
  refine WL_step rfl (R_max rfl rfl rfl) ?_
  refine WL_step rfl (R_min rfl rfl hm) ?_
  (refine WL_effn rfl (E_makeSliceA (zs := plc zeroPl) H Tryz.underlying207 Tryz.sizeOf211 Tryz.typeInfo211 Tryz.zeroValue211 rfl rfl rfl rfl (by omega) (by omega) (by omega) (by simp only [Tryz.t211]; omega)) ?_; clear H; intro b w10 hb H; rw [Int.toNat_natCast, rows_rep] at H; rw [Int.toNat_natCast])
  refine WL_step rfl (R_buildL (places := [(0, 1)]) (vs := [(.slice _ _ _)]) Tryz.underlying209 Tryz.typeInfo209 rfl rfl (by kernel_rfl) rfl rfl rfl) ?_
  (refine WL_effn rfl (E_box (vs := [sl b 0 m m]) H rfl rfl) ?_; clear H; intro p w12 hp H)
  refine WL_stepM rfl (R_as) ?_
  refine WL_nil ?_
  refine W_seq ?_
  refine W_seq ?_
  refine W_region_l ?_
  refine WL_stepM rfl (R_mv) ?_
  refine WL_step rfl (R_nilCheck rfl) ?_
  refine WL_step rfl (R_fieldAddr (off' := 0) Tryz.underlying209 rfl Tryz.sizeOf207 (by decide) rfl rfl) ?_
  refine WL_step rfl (R_load Tryz.isAgg207 rfl (H.get .here) rfl) ?_
  refine WL_step rfl (R_len_slice Tryz.underlying207 rfl) ?_
  refine WL_stepM rfl (R_mv) ?_
  refine WL_nil ?_
  refine W_block ?_
  refine W_loop (fun (i : Nat) E w' => i ≤ m ∧ E 3 = ptr p 0 ∧ E 15 = I m ∧ E 16 = I i ∧ Hp w [(p, blk [sl b 0 m m] 209), (b, blk (rows plc (List.replicate i newPl ++ List.replicate (m - i) zeroPl)) 211)] w') (fun i => m - i) 0 ?_ ?_
  · exact ⟨by omega, rfl, rfl, rfl, H⟩
  · (clear H; rintro i E w1 ⟨hi, h0, h1, h2, H⟩; refine W_know3 h0 h1 h2 ?_; by_cases hlt : i < m)
    · refine W_seq ?_
      refine W_region_l ?_
      refine WL_step rfl (R_lt_t rfl rfl (by omega)) ?_
      refine WL_nil ?_
      refine W_seq ?_
      refine W_cond_t rfl ?_
      refine W_skip ?_
      refine W_seq ?_
      refine W_block ?_
      refine W_seq ?_
      refine W_region_l ?_
      refine WL_stepM rfl (R_mv) ?_
      refine WL_stepM rfl (R_as) ?_
      refine WL_nil ?_
      (have hlen := rows_length plc_len (List.replicate i newPl ++ List.replicate (m - i) zeroPl); rw [List.length_append, List.length_replicate, List.length_replicate] at hlen; refine W_region_l ?_)
      refine WL_stepM rfl (R_mv) ?_
      refine WL_step rfl (R_nilCheck rfl) ?_
      refine WL_step rfl (R_fieldAddr (off' := 0) Tryz.underlying209 rfl Tryz.sizeOf207 (by decide) rfl rfl) ?_
      refine WL_step rfl (R_load Tryz.isAgg207 rfl (H.get .here) rfl) ?_
      refine WL_stepM rfl (R_mv) ?_
      refine WL_step rfl (R_indexAddr Tryz.underlying207 Tryz.sizeOf211 rfl rfl (by omega) (by omega) idx0_castn) ?_
      refine WL_step rfl (R_fieldAddr (off' := _ + 6) Tryz.underlying211 rfl Tryz.sizeOf3 (by decide) rfl rfl) ?_
      (refine WL_effu rfl (E_store (v := (.int _ _)) H Tryz.sizeOf3 rfl rfl rfl (.there .here) (by omega)) ?_; clear H; intro w51 H)
      refine WL_nil ?_
      (rw [rows_set (j := 6) (v := I 1) (a' := newPl) plc_len (rep_get hlt) (by decide) rfl, rep_step hlt] at H; refine W_region_l ?_)
      refine WL_step rfl (R_add rfl rfl (w_i64 (by omega))) ?_
      refine WL_stepM rfl (R_mv) ?_
      refine WL_nil ?_
      exact ⟨i + 1, by omega, by omega, rfl, rfl, rfl, H⟩
    · refine W_seq ?_
      refine W_region_l ?_
      refine WL_step rfl (R_lt_f rfl rfl (by omega)) ?_
      refine WL_nil ?_
      refine W_seq ?_
      refine W_cond_f rfl ?_
      refine W_exit ?_
      refine (if_pos rfl).mpr ?_
      refine W_seq ?_
      refine W_region_l ?_
      refine WL_stepM rfl (R_mv) ?_
      refine WL_stepM rfl (R_as) ?_
      refine WL_nil ?_
      refine W_ret ?_
      (obtain rfl : i = m := (by omega); rw [Nat.sub_self, List.replicate_zero, List.append_nil] at H; exact ⟨_, rfl, _, _, rfl, H, by assumption, by assumption⟩)

section
variable {w : World} {p b : Nat} {l : List Pl} {N : Nat}
theorem names_ret (hp : w.heap[p]? = some (blk [sl b 0 N N] 209)) (hb : w.heap[b]? = some (blk (rows plc l) 211)) (hN : l.length = N) (hN2 : N ≤ 256) (hg : ∀ a ∈ l, a.g ≤ 1000001) :
    Ret Tryz.prog 121 #[ptr p 0] w fun v w' => ∃ M, OwnS w.heap.size 3 1 v (namesFrom 0 l).length ((namesFrom 0 l).map I) M ∧ Hp w M w' := by
  refine Ret_of_W (args := [_]) Tryz.func121 rfl Tryz.ntmps121 Tryz.results121 (by simp) ?_
  have H := Hp.refl w
  have hlen := rows_length plc_len l
  have hO := OwnS.nil w.heap.size 3 1
  have hnl := namesFrom_le l 0
  refine W_seq ?_
  refine W_region_l ?_
  refine WL_stepM rfl (R_as) ?_
  refine WL_nil ?_
  refine W_seq ?_
  refine W_region_l ?_
  refine WL_stepM rfl (R_as) ?_
  refine WL_nil ?_
  refine W_seq ?_
  refine W_seq ?_
  refine W_region_l ?_
  refine WL_stepM rfl (R_mv) ?_
  refine WL_step rfl (R_nilCheck rfl) ?_
  refine WL_step rfl (R_fieldAddr (off' := 0) Tryz.underlying209 rfl Tryz.sizeOf207 (by decide) rfl rfl) ?_
  refine WL_step rfl (R_load Tryz.isAgg207 rfl (H.block hp (by simp)) rfl) ?_
  refine WL_step rfl (R_len_slice Tryz.underlying207 rfl) ?_
  refine WL_stepM rfl (R_mv) ?_
  refine WL_nil ?_
  refine W_block ?_
  refine W_loop (fun (i : Nat) E w' => ∃ v M out, i ≤ N ∧ E 0 = ptr p 0 ∧ E 3 = v ∧ E 9 = sl b 0 N N ∧ E 10 = I N ∧ E 11 = I i ∧ out ++ namesFrom i (l.drop i) = namesFrom 0 l ∧ OwnS w.heap.size 3 1 v out.length (out.map I) M ∧ Hp w M w') (fun i => N - i) 0 ?_ ?_
  · exact ⟨_, [], [], by omega, rfl, rfl, rfl, rfl, rfl, rfl, hO, H⟩
  · (clear H hO; rintro i E w1 ⟨v, M, out, hi, h0, h3, h1, h2, h4, hout, hO, H⟩; refine W_know5 h0 h3 h1 h2 h4 ?_; have hol := congrArg List.length hout; rw [List.length_append] at hol; by_cases hlt : i < N)
    · refine W_seq ?_
      refine W_region_l ?_
      refine WL_step rfl (R_lt_t rfl rfl (by omega)) ?_
      refine WL_nil ?_
      refine W_seq ?_
      refine W_cond_t rfl ?_
      refine W_skip ?_
      refine W_seq ?_
      refine W_block ?_
      refine W_seq ?_
      (obtain ⟨a, h⟩ : ∃ a, l[i]? = some a := ⟨_, List.getElem?_eq_getElem (by omega)⟩; have hga := hg _ (List.mem_of_getElem? h); rw [List.drop_eq_getElem_cons (by omega), (List.getElem?_eq_some_iff.1 h).2] at hout; have hus := plc_u a; cases hau : a.u <;> rw [hau] at hus <;> refine W_region_l ?_)
      · refine WL_stepM rfl (R_mv) ?_
        refine WL_step rfl (R_indexAddr Tryz.underlying207 Tryz.sizeOf211 rfl rfl (by omega) (by omega) idx0_castn) ?_
        refine WL_step rfl (R_loadA (vs := plc a) Tryz.isAgg211 Tryz.sizeOf211 rfl (H.blockN hb kYs) (pl_all h) (by omega)) ?_
        (refine WL_effn rfl (E_alloc (vs := plc zeroPl) H Tryz.zeroValue211 rfl) ?_; clear H; intro c5 w37 hc5 H)
        refine WL_stepM rfl (R_as) ?_
        (refine WL_effu rfl (E_storePl (a' := a) H rfl rfl .here) ?_; clear H; intro w39 H)
        refine WL_nil ?_
        refine W_seq ?_
        refine W_region_l ?_
        refine WL_step rfl (R_fieldAddr (off' := 7) Tryz.underlying211 rfl Tryz.sizeOf4 (by decide) rfl rfl) ?_
        refine WL_step rfl (R_load (v := .bool _) Tryz.isAgg4 rfl (H.get .here) hus) ?_
        refine WL_nil ?_
        refine W_cond_f rfl ?_
        refine W_skip ?_
        refine W_region_l ?_
        refine WL_step rfl (R_add rfl rfl (w_i64 (by omega))) ?_
        refine WL_stepM rfl (R_mv) ?_
        refine WL_nil ?_
        exact ⟨i + 1, by omega, v, M, out, by omega, rfl, rfl, rfl, rfl, rfl, (by rw [namesFrom, hau] at hout; exact hout), hO, H.pop (by assumption)⟩
      · refine WL_stepM rfl (R_mv) ?_
        refine WL_step rfl (R_indexAddr Tryz.underlying207 Tryz.sizeOf211 rfl rfl (by omega) (by omega) idx0_castn) ?_
        refine WL_step rfl (R_loadA (vs := plc a) Tryz.isAgg211 Tryz.sizeOf211 rfl (H.blockN hb kYs) (pl_all h) (by omega)) ?_
        (refine WL_effn rfl (E_alloc (vs := plc zeroPl) H Tryz.zeroValue211 rfl) ?_; clear H; intro c5 w56 hc5 H)
        refine WL_stepM rfl (R_as) ?_
        (refine WL_effu rfl (E_storePl (a' := a) H rfl rfl .here) ?_; clear H; intro w58 H)
        refine WL_nil ?_
        refine W_seq ?_
        refine W_region_l ?_
        refine WL_step rfl (R_fieldAddr (off' := 7) Tryz.underlying211 rfl Tryz.sizeOf4 (by decide) rfl rfl) ?_
        refine WL_step rfl (R_load (v := .bool _) Tryz.isAgg4 rfl (H.get .here) hus) ?_
        refine WL_nil ?_
        refine W_cond_t rfl ?_
        refine W_region_l ?_
        refine WL_stepM rfl (R_mv) ?_
        refine WL_stepM rfl (R_mv) ?_
        refine WL_stepM rfl (R_mv) ?_
        (refine WL_call rfl (R_call rfl Tryz.call160 rfl) (name_ret (H.blockN hp kYs) (H.blockN hb kYs) hN hN2 h hga) ?_; rintro _ w70 ⟨rfl, H1⟩; replace H := H.seq0 H1; clear H1)
        (refine WL_effn rfl (E_buildOnes (vs := [(.int _ _)]) H Tryz.underlying22 Tryz.sizeOf3 Tryz.zeroValue3 rfl rfl (by decide) rfl rfl (by simp [Value.oneCell'])) ?_; clear H; intro b71 w71 hb71 H)
        (refine WL_effm rfl (E_append H (.there (.there .last)) hO Tryz.underlying22 Tryz.typeInfo3 rfl rfl rfl rfl rfl rfl (src_one Tryz.underlying22 (H.get .here) rfl) (by omega) (by simp only [Tryz.t3]; omega)) ?_; clear H hO; intro vN MN w72 hO H; replace H := H.pop (by assumption))
        refine WL_stepM rfl (R_as) ?_
        refine WL_nil ?_
        refine W_region_l ?_
        refine WL_step rfl (R_add rfl rfl (w_i64 (by omega))) ?_
        refine WL_stepM rfl (R_mv) ?_
        refine WL_nil ?_
        exact ⟨i + 1, by omega, vN, MN, out ++ [((i + 256 * a.g : Nat) : Int)], by omega, rfl, rfl, rfl, rfl, rfl, (by rw [namesFrom, hau] at hout; rw [List.append_assoc]; exact hout), (by rw [List.length_append, List.map_append]; exact hO), H.pop (by assumption)⟩
    · refine W_seq ?_
      refine W_region_l ?_
      refine WL_step rfl (R_lt_f rfl rfl (by omega)) ?_
      refine WL_nil ?_
      refine W_seq ?_
      refine W_cond_f rfl ?_
      refine W_exit ?_
      refine (if_pos rfl).mpr ?_
      refine W_seq ?_
      refine W_region_l ?_
      refine WL_stepM rfl (R_mv) ?_
      refine WL_stepM rfl (R_as) ?_
      refine WL_nil ?_
      refine W_ret ?_
      (rw [List.drop_of_length_le (by omega)] at hout; simp only [namesFrom, List.append_nil] at hout; subst hout; exact ⟨_, rfl, M, hO, H⟩)

theorem add_ret (hp : w.heap[p]? = some (blk [sl b 0 N N] 209)) (hb : w.heap[b]? = some (blk (rows plc l) 211)) (hN : l.length = N) (hN2 : N ≤ 256) (hg : ∀ a ∈ l, a.g ≤ 1000001) (x : Vk) :
    Ret Tryz.prog 120 #[ptr p 0, vk x] w fun v w' =>
      (∃ i a, l[i]? = some a ∧ free a ∧ (∀ j a', j < i → l[j]? = some a' → ¬ free a') ∧ v = .tuple #[I (i + 256 * a.g : Nat), .bool true] ∧ Hp w [(b, blk (rows plc (l.set i ⟨x, a.g, true⟩)) 211)] w') ∨
      ((∀ a ∈ l, ¬ free a) ∧ v = .tuple #[I 0, .bool false] ∧ Hp w [] w') := by
  refine Ret_of_W (args := [_, _]) Tryz.func120 rfl Tryz.ntmps120 Tryz.results120 (by simp) ?_
  have H := (Hp.focus0 hp).focus hb (by simpa using ne_of_obj hb hp (by simp))
  have hlen := rows_length plc_len l
  refine W_seq ?_
  refine W_region_l ?_
  (refine WL_effn rfl (E_boxK (q := x) H rfl) ?_; clear H; intro c3 w3 hc3 H)
  refine WL_stepM rfl (R_as) ?_
  refine WL_stepM rfl (R_as) ?_
  refine WL_nil ?_
  refine W_seq ?_
  refine W_seq ?_
  refine W_region_l ?_
  refine WL_stepM rfl (R_mv) ?_
  refine WL_step rfl (R_nilCheck rfl) ?_
  refine WL_step rfl (R_fieldAddr (off' := 0) Tryz.underlying209 rfl Tryz.sizeOf207 (by decide) rfl rfl) ?_
  refine WL_step rfl (R_load Tryz.isAgg207 rfl (H.get (.there (.there .here))) rfl) ?_
  refine WL_step rfl (R_len_slice Tryz.underlying207 rfl) ?_
  refine WL_stepM rfl (R_mv) ?_
  refine WL_nil ?_
  refine W_block ?_
  refine W_loop (fun (i : Nat) E w' => i ≤ N ∧ E 0 = ptr p 0 ∧ E 3 = ptr c3 0 ∧ E 11 = sl b 0 N N ∧ E 12 = I N ∧ E 13 = I i ∧ (∀ j a', j < i → l[j]? = some a' → ¬ free a') ∧ Hp w [(c3, blk x.c 125), (b, blk (rows plc l) 211), (p, blk [sl b 0 N N] 209)] w') (fun i => N - i) 0 ?_ ?_
  · exact ⟨by omega, rfl, rfl, rfl, rfl, rfl, fun j a' hj _ => absurd hj (by omega), H⟩
  · (clear H; rintro i E w1 ⟨hi, h0, h1, h2, h3, h4, hf, H⟩; refine W_know5 h0 h1 h2 h3 h4 ?_; by_cases hlt : i < N)
    · refine W_seq ?_
      refine W_region_l ?_
      refine WL_step rfl (R_lt_t rfl rfl (by omega)) ?_
      refine WL_nil ?_
      refine W_seq ?_
      refine W_cond_t rfl ?_
      refine W_skip ?_
      refine W_seq ?_
      refine W_block ?_
      refine W_seq ?_
      (obtain ⟨a, h⟩ : ∃ a, l[i]? = some a := ⟨_, List.getElem?_eq_getElem (by omega)⟩; have hus := plc_u a; have hgs := plc_g a; cases hau : a.u <;> rw [hau] at hus <;> by_cases hg6 : a.g ≤ 1000000 <;> refine W_region_l ?_)
      · refine WL_stepM rfl (R_mv) ?_
        refine WL_step rfl (R_indexAddr Tryz.underlying207 Tryz.sizeOf211 rfl rfl (by omega) (by omega) idx0_castn) ?_
        refine WL_step rfl (R_loadA (vs := plc a) Tryz.isAgg211 Tryz.sizeOf211 rfl (H.get (.there .here)) (pl_all h) (by omega)) ?_
        (refine WL_effn rfl (E_alloc (vs := plc zeroPl) H Tryz.zeroValue211 rfl) ?_; clear H; intro c7 w35 hc7 H)
        refine WL_stepM rfl (R_as) ?_
        (refine WL_effu rfl (E_storePl (a' := a) H rfl rfl .here) ?_; clear H; intro w37 H)
        refine WL_nil ?_
        refine W_seq ?_
        refine W_region_l ?_
        refine WL_step rfl (R_fieldAddr (off' := 7) Tryz.underlying211 rfl Tryz.sizeOf4 (by decide) rfl rfl) ?_
        refine WL_step rfl (R_load (v := .bool _) Tryz.isAgg4 rfl (H.get .here) hus) ?_
        refine WL_step rfl (R_not_f rfl) ?_
        refine WL_stepM rfl (R_mv) ?_
        refine WL_guard_t rfl rfl ?_
        refine WL_step rfl (R_fieldAddr (off' := 6) Tryz.underlying211 rfl Tryz.sizeOf3 (by decide) rfl rfl) ?_
        refine WL_guard_t rfl rfl ?_
        refine WL_step rfl (R_load (v := I a.g) Tryz.isAgg3 rfl (H.get .here) hgs) ?_
        refine WL_guard_t rfl rfl ?_
        refine WL_step rfl (R_le_t rfl rfl (by omega)) ?_
        refine WL_stepM rfl (R_pk_t rfl) ?_
        refine WL_nil ?_
        refine W_cond_t rfl ?_
        refine W_seq ?_
        (have mk5 : True := trivial; refine W_draw (Kp [(c3, blk x.c 125), (p, blk [sl b 0 N N] 209)]) (fun _ => false) (by kernel_rfl) H ?_; clear H; intro w55 H)
        refine WA_takeM 0 rfl rfl rfl (by kernel_rfl) (by kernel_rfl) (H.kp.sub (by simp)) (fun _ hC => R_mv) ?_
        refine WA_take 1 rfl rfl rfl (by kernel_rfl) (by kernel_rfl) (H.kp.sub (by simp)) (fun _ hC => R_nilCheck rfl) ?_
        refine WA_take 2 rfl rfl rfl (by kernel_rfl) (by kernel_rfl) (H.kp.sub (by simp)) (fun _ hC => R_fieldAddr (off' := 0) Tryz.underlying209 rfl Tryz.sizeOf207 (by decide) rfl rfl) ?_
        refine WA_take 3 rfl rfl rfl (by kernel_rfl) (by kernel_rfl) (H.kp.sub (by simp)) (fun _ hC => R_load (v := sl b 0 N N) Tryz.isAgg207 rfl (hC.get (.there .here)) rfl) ?_
        refine WA_takeM 4 rfl rfl rfl (by kernel_rfl) (by kernel_rfl) (H.kp.sub (by simp)) (fun _ hC => R_mv) ?_
        refine WA_takeM 5 rfl rfl rfl (by kernel_rfl) (by kernel_rfl) (H.kp.sub (by simp)) (fun _ hC => R_mv) ?_
        refine WA_take 6 rfl rfl rfl (by kernel_rfl) (by kernel_rfl) (H.kp.sub (by simp)) (fun _ hC => R_nilCheck rfl) ?_
        refine WA_take 7 rfl rfl rfl (by kernel_rfl) (by kernel_rfl) (H.kp.sub (by simp)) (fun _ hC => R_fieldAddr (off' := 0) Tryz.underlying209 rfl Tryz.sizeOf207 (by decide) rfl rfl) ?_
        refine WA_take 8 rfl rfl rfl (by kernel_rfl) (by kernel_rfl) (H.kp.sub (by simp)) (fun _ hC => R_load (v := sl b 0 N N) Tryz.isAgg207 rfl (hC.get (.there .here)) rfl) ?_
        refine WA_takeM 9 rfl rfl rfl (by kernel_rfl) (by kernel_rfl) (H.kp.sub (by simp)) (fun _ hC => R_mv) ?_
        refine WA_take 10 rfl rfl rfl (by kernel_rfl) (by kernel_rfl) (H.kp.sub (by simp)) (fun _ hC => R_loadK (q := x) rfl (hC.get .here)) ?_
        refine WA_take 11 rfl rfl rfl (by kernel_rfl) (by kernel_rfl) (H.kp.sub (by simp)) (fun _ hC => R_indexAddr Tryz.underlying207 Tryz.sizeOf211 rfl rfl (by omega) (by omega) idx0_castn) ?_
        refine WA_take 12 rfl rfl rfl (by kernel_rfl) (by kernel_rfl) (H.kp.sub (by simp)) (fun _ hC => R_fieldAddr Tryz.underlying211 rfl Tryz.sizeOf125 (by decide) rfl rfl) ?_
        refine WA_one (i := 13) (by kernel_rfl) ?_
        (refine WI_effu rfl (.inl rfl) (E_storeA (vs := x.c) H (fun w => by rw [x.hc]; exact Tryz.sizeOf125 w) rfl rfl x.ho (.there (.there .here)) (by rw [x.hc, hlen]; show i * 8 + 0 + 6 ≤ _; omega)) (fun _ H _ => H.kp.sub (by simp)) ?_; clear H; intro w70 H; rw [x.hc] at H; replace H : Hp w [(c7, blk (plc a) 211), (c3, blk x.c 125), (b, blk ((rows plc l).take (i * 8 + 0) ++ x.c ++ (rows plc l).drop (i * 8 + 0 + 6)) 211), (p, blk [sl b 0 N N] 209)] w70 := H; rw [rows_val h x] at H)
        refine WA_take 14 rfl rfl rfl (by kernel_rfl) (by kernel_rfl) (H.kp.sub (by simp)) (fun _ hC => R_indexAddr Tryz.underlying207 Tryz.sizeOf211 rfl rfl (by omega) (by omega) idx0_castn) ?_
        refine WA_take 15 rfl rfl rfl (by kernel_rfl) (by kernel_rfl) (H.kp.sub (by simp)) (fun _ hC => R_fieldAddr (off' := _ + 7) Tryz.underlying211 rfl Tryz.sizeOf4 (by decide) rfl rfl) ?_
        refine WA_one (i := 16) (by kernel_rfl) ?_
        (refine WI_effu rfl (.inl rfl) (E_store (v := .bool true) H Tryz.sizeOf4 rfl rfl rfl (.there (.there .here)) (by rw [rows_length plc_len, List.length_set]; show i * 8 + 7 < _; omega)) (fun _ H _ => H.kp.sub (by simp)) ?_; clear H; intro w74 H)
        refine WA_done (by kernel_rfl) ?_
        refine W_seq ?_
        (replace H : Hp w [(c7, blk (plc a) 211), (c3, blk x.c 125), (b, blk ((rows plc (l.set i ⟨x, a.g, a.u⟩)).set (i * 8 + 7) (.bool true)) 211), (p, blk [sl b 0 N N] 209)] _ := H; rw [rows_set (j := 7) (v := .bool true) (a' := ⟨x, a.g, true⟩) (l := l.set i ⟨x, a.g, a.u⟩) (a := ⟨x, a.g, a.u⟩) plc_len (List.getElem?_set_self (by omega)) (by decide) (plc_setu ⟨x, a.g, a.u⟩ true).symm, List.set_set] at H; refine W_region_l ?_)
        refine WL_stepM rfl (R_mv) ?_
        refine WL_stepM rfl (R_mv) ?_
        (refine WL_call rfl (R_call rfl Tryz.call160 rfl) (name_ret (a := ⟨x, a.g, true⟩) (H.get (.there (.there (.there .here)))) (H.get (.there (.there .here))) (by simpa using hN) hN2 (List.getElem?_set_self (by omega)) (by show a.g ≤ 1000001; omega)) ?_; rintro _ w80 ⟨rfl, H1⟩; replace H := H.seq0 H1; clear H1)
        refine WL_stepM rfl (R_as) ?_
        refine WL_stepM rfl (R_as) ?_
        refine WL_nil ?_
        refine W_ret ?_
        exact ⟨_, rfl, .inl ⟨i, _, h, ⟨hau, hg6⟩, hf, rfl, (Hp.pop (Hp.pop H (by assumption)) (by assumption)).swap2.back hp⟩⟩
      · refine WL_stepM rfl (R_mv) ?_
        refine WL_step rfl (R_indexAddr Tryz.underlying207 Tryz.sizeOf211 rfl rfl (by omega) (by omega) idx0_castn) ?_
        refine WL_step rfl (R_loadA (vs := plc a) Tryz.isAgg211 Tryz.sizeOf211 rfl (H.get (.there .here)) (pl_all h) (by omega)) ?_
        (refine WL_effn rfl (E_alloc (vs := plc zeroPl) H Tryz.zeroValue211 rfl) ?_; clear H; intro c7 w89 hc7 H)
        refine WL_stepM rfl (R_as) ?_
        (refine WL_effu rfl (E_storePl (a' := a) H rfl rfl .here) ?_; clear H; intro w91 H)
        refine WL_nil ?_
        refine W_seq ?_
        refine W_region_l ?_
        refine WL_step rfl (R_fieldAddr (off' := 7) Tryz.underlying211 rfl Tryz.sizeOf4 (by decide) rfl rfl) ?_
        refine WL_step rfl (R_load (v := .bool _) Tryz.isAgg4 rfl (H.get .here) hus) ?_
        refine WL_step rfl (R_not_f rfl) ?_
        refine WL_stepM rfl (R_mv) ?_
        refine WL_guard_t rfl rfl ?_
        refine WL_step rfl (R_fieldAddr (off' := 6) Tryz.underlying211 rfl Tryz.sizeOf3 (by decide) rfl rfl) ?_
        refine WL_guard_t rfl rfl ?_
        refine WL_step rfl (R_load (v := I a.g) Tryz.isAgg3 rfl (H.get .here) hgs) ?_
        refine WL_guard_t rfl rfl ?_
        refine WL_step rfl (R_le_f rfl rfl (by omega)) ?_
        refine WL_stepM rfl (R_pk_t rfl) ?_
        refine WL_nil ?_
        refine W_cond_f rfl ?_
        refine W_skip ?_
        refine W_region_l ?_
        refine WL_step rfl (R_add rfl rfl (w_i64 (by omega))) ?_
        refine WL_stepM rfl (R_mv) ?_
        refine WL_nil ?_
        exact ⟨i + 1, by omega, by omega, rfl, rfl, rfl, rfl, rfl, (fun j a' hj hja hfr => by rcases Nat.lt_or_ge j i with h' | h'; exact hf j a' h' hja hfr; obtain rfl : j = i := (by omega); rw [h] at hja; cases hja; first | exact hg6 hfr.2 | (have h5 := hfr.1; rw [hau] at h5; cases h5)), H.pop (by assumption)⟩
      · refine WL_stepM rfl (R_mv) ?_
        refine WL_step rfl (R_indexAddr Tryz.underlying207 Tryz.sizeOf211 rfl rfl (by omega) (by omega) idx0_castn) ?_
        refine WL_step rfl (R_loadA (vs := plc a) Tryz.isAgg211 Tryz.sizeOf211 rfl (H.get (.there .here)) (pl_all h) (by omega)) ?_
        (refine WL_effn rfl (E_alloc (vs := plc zeroPl) H Tryz.zeroValue211 rfl) ?_; clear H; intro c7 w117 hc7 H)
        refine WL_stepM rfl (R_as) ?_
        (refine WL_effu rfl (E_storePl (a' := a) H rfl rfl .here) ?_; clear H; intro w119 H)
        refine WL_nil ?_
        refine W_seq ?_
        refine W_region_l ?_
        refine WL_step rfl (R_fieldAddr (off' := 7) Tryz.underlying211 rfl Tryz.sizeOf4 (by decide) rfl rfl) ?_
        refine WL_step rfl (R_load (v := .bool _) Tryz.isAgg4 rfl (H.get .here) hus) ?_
        refine WL_step rfl (R_not_t rfl) ?_
        refine WL_stepM rfl (R_mv) ?_
        refine WL_guard_f rfl rfl (by decide) ?_
        refine WL_guard_f rfl rfl (by decide) ?_
        refine WL_guard_f rfl rfl (by decide) ?_
        refine WL_stepM rfl (R_pk_f rfl) ?_
        refine WL_nil ?_
        refine W_cond_f rfl ?_
        refine W_skip ?_
        refine W_region_l ?_
        refine WL_step rfl (R_add rfl rfl (w_i64 (by omega))) ?_
        refine WL_stepM rfl (R_mv) ?_
        refine WL_nil ?_
        exact ⟨i + 1, by omega, by omega, rfl, rfl, rfl, rfl, rfl, (fun j a' hj hja hfr => by rcases Nat.lt_or_ge j i with h' | h'; exact hf j a' h' hja hfr; obtain rfl : j = i := (by omega); rw [h] at hja; cases hja; first | exact hg6 hfr.2 | (have h5 := hfr.1; rw [hau] at h5; cases h5)), H.pop (by assumption)⟩
      · refine WL_stepM rfl (R_mv) ?_
        refine WL_step rfl (R_indexAddr Tryz.underlying207 Tryz.sizeOf211 rfl rfl (by omega) (by omega) idx0_castn) ?_
        refine WL_step rfl (R_loadA (vs := plc a) Tryz.isAgg211 Tryz.sizeOf211 rfl (H.get (.there .here)) (pl_all h) (by omega)) ?_
        (refine WL_effn rfl (E_alloc (vs := plc zeroPl) H Tryz.zeroValue211 rfl) ?_; clear H; intro c7 w142 hc7 H)
        refine WL_stepM rfl (R_as) ?_
        (refine WL_effu rfl (E_storePl (a' := a) H rfl rfl .here) ?_; clear H; intro w144 H)
        refine WL_nil ?_
        refine W_seq ?_
        refine W_region_l ?_
        refine WL_step rfl (R_fieldAddr (off' := 7) Tryz.underlying211 rfl Tryz.sizeOf4 (by decide) rfl rfl) ?_
        refine WL_step rfl (R_load (v := .bool _) Tryz.isAgg4 rfl (H.get .here) hus) ?_
        refine WL_step rfl (R_not_t rfl) ?_
        refine WL_stepM rfl (R_mv) ?_
        refine WL_guard_f rfl rfl (by decide) ?_
        refine WL_guard_f rfl rfl (by decide) ?_
        refine WL_guard_f rfl rfl (by decide) ?_
        refine WL_stepM rfl (R_pk_f rfl) ?_
        refine WL_nil ?_
        refine W_cond_f rfl ?_
        refine W_skip ?_
        refine W_region_l ?_
        refine WL_step rfl (R_add rfl rfl (w_i64 (by omega))) ?_
        refine WL_stepM rfl (R_mv) ?_
        refine WL_nil ?_
        exact ⟨i + 1, by omega, by omega, rfl, rfl, rfl, rfl, rfl, (fun j a' hj hja hfr => by rcases Nat.lt_or_ge j i with h' | h'; exact hf j a' h' hja hfr; obtain rfl : j = i := (by omega); rw [h] at hja; cases hja; first | exact hg6 hfr.2 | (have h5 := hfr.1; rw [hau] at h5; cases h5)), H.pop (by assumption)⟩
    · refine W_seq ?_
      refine W_region_l ?_
      refine WL_step rfl (R_lt_f rfl rfl (by omega)) ?_
      refine WL_nil ?_
      refine W_seq ?_
      refine W_cond_f rfl ?_
      refine W_exit ?_
      refine (if_pos rfl).mpr ?_
      refine W_seq ?_
      refine W_region_l ?_
      refine WL_stepM rfl (R_as) ?_
      refine WL_stepM rfl (R_as) ?_
      refine WL_nil ?_
      refine W_ret ?_
      exact ⟨_, rfl, .inr ⟨fun a ha hfr => by obtain ⟨j, hj⟩ := List.mem_iff_getElem?.1 ha; exact hf j a (by have := (List.getElem?_eq_some_iff.1 hj).1; omega) hj hfr, rfl, ((H.pop (by assumption)).back hb).back hp⟩⟩

theorem add_yes {i : Nat} {a : Pl} (hp : w.heap[p]? = some (blk [sl b 0 N N] 209)) (hb : w.heap[b]? = some (blk (rows plc l) 211)) (hN : l.length = N) (hN2 : N ≤ 256) (hg : ∀ a ∈ l, a.g ≤ 1000001)
    (x : Vk) (h : l[i]? = some a) (hf : free a) (hlt : ∀ j a', j < i → l[j]? = some a' → ¬ free a') :
    Ret Tryz.prog 120 #[ptr p 0, vk x] w fun v w' => v = .tuple #[I (i + 256 * a.g : Nat), .bool true] ∧ Hp w [(b, blk (rows plc (l.set i ⟨x, a.g, true⟩)) 211)] w' := by
  refine (add_ret hp hb hN hN2 hg x).mono ?_
  rintro v w' (⟨i', a', h', hf', hlt', hv', H⟩ | ⟨hno, _⟩)
  · rcases Nat.lt_trichotomy i i' with hh | rfl | hh
    · exact (hlt' i a hh h hf).elim
    · rw [h] at h'; cases h'; exact ⟨hv', H⟩
    · exact (hlt i' a' hh h' hf').elim
  · exact (hno a (List.mem_of_getElem? h) hf).elim
end
end Go.Proofs.YtlpmfldijgdcoaaGreatDoor.TabC

/-
  Spaces of caps: their blocks; one is made.
-/
namespace Go.Proofs.YtlpmfldijgdcoaaGreatDoor.Caps
open Go Go.Proofs Go.Proofs.YtlpmfldijgdcoaaGreatDoor.Fx Go.Proofs.YtlpmfldijgdcoaaGreatDoor.TabC
set_option maxRecDepth 100000
set_option linter.unusedVariables false
set_option linter.unusedSimpArgs false
set_option maxHeartbeats 4000000

/-- a table's blocks -/
def tbB : List (Nat × Nat) → List (List Pl) → List (Nat × Obj)
  | q :: PB, t :: ts => (q.1, blk [sl q.2 0 32 32] 209) :: (q.2, blk (rows plc t) 211) :: tbB PB ts
  | _, _ => []
def ptrs (PB : List (Nat × Nat)) : List Value := PB.map fun q => ptr q.1 0
def spB (s bs cap : Nat) (sp : List Value) (PB : List (Nat × Nat)) (ts : List (List Pl)) : List (Nat × Obj) :=
  (s, blk [sl bs 0 PB.length cap] 164) :: (bs, blk (ptrs PB ++ sp) 165) :: tbB PB ts
/-- what holds of the tables -/
structure Inv (PB : List (Nat × Nat)) (ts : List (List Pl)) : Prop where
  len : ts.length = PB.length
  sz : ∀ t ∈ ts, t.length = 32
  gn : ∀ t ∈ ts, ∀ a ∈ t, a.g ≤ 1000001
/-- a space lies in the world -/
structure Sp (w : World) (s : Nat) (PB : List (Nat × Nat)) (ts : List (List Pl)) : Prop where
  ex : ∃ bs cap sp, w.heap[s]? = some (blk [sl bs 0 PB.length cap] 164) ∧ w.heap[bs]? = some (blk (ptrs PB ++ sp) 165)
  tp : ∀ (j : Nat) (q : Nat × Nat), PB[j]? = some q → w.heap[q.1]? = some (blk [sl q.2 0 32 32] 209)
  tb : ∀ (j : Nat) (q : Nat × Nat) (t : List Pl), PB[j]? = some q → ts[j]? = some t → w.heap[q.2]? = some (blk (rows plc t) 211)
  inv : Inv PB ts
theorem Sp.monoN {w w' : World} {s : Nat} {PB : List (Nat × Nat)} {ts : List (List Pl)} {L : List (Nat × Obj)} (h : Sp w s PB ts) (H : Hp w L w') (hn : ∀ p ∈ L, w.heap.size ≤ p.1) : Sp w' s PB ts := by
  obtain ⟨bs, cap, sp, h1, h2⟩ := h.ex
  exact ⟨⟨bs, cap, sp, H.blockN h1 hn, H.blockN h2 hn⟩, fun j q hq => H.blockN (h.tp j q hq) hn, fun j q t hq ht => H.blockN (h.tb j q t hq ht) hn, h.inv⟩
theorem tbB_mem : ∀ {PB : List (Nat × Nat)} {ts : List (List Pl)} {j : Nat} {q : Nat × Nat} {t : List Pl}, PB[j]? = some q → ts[j]? = some t →
    (q.1, blk [sl q.2 0 32 32] 209) ∈ tbB PB ts ∧ (q.2, blk (rows plc t) 211) ∈ tbB PB ts
  | q0 :: PB, t0 :: ts, 0, q, t, hq, ht => by
    cases hq; cases ht
    exact ⟨.head _, .tail _ (.head _)⟩
  | q0 :: PB, t0 :: ts, j + 1, q, t, hq, ht => by
    have := tbB_mem (PB := PB) (ts := ts) (j := j) (by simpa using hq) (by simpa using ht)
    exact ⟨.tail _ (.tail _ this.1), .tail _ (.tail _ this.2)⟩
  | [], _, _, _, _, hq, _ => by simp at hq
  | _ :: _, [], _, _, _, _, ht => by simp at ht
theorem Sp.of {w : World} {s bs cap : Nat} {sp : List Value} {PB : List (Nat × Nat)} {ts : List (List Pl)} (hh : ∀ p ∈ spB s bs cap sp PB ts, w.heap[p.1]? = some p.2) (hI : Inv PB ts) : Sp w s PB ts := by
  refine ⟨⟨bs, cap, sp, hh _ (.head _), hh _ (.tail _ (.head _))⟩, fun j q hq => ?_, fun j q t hq ht => hh _ (.tail _ (.tail _ (tbB_mem hq ht).2)), hI⟩
  have hj := (List.getElem?_eq_some_iff.1 hq).1
  rw [← hI.len] at hj
  exact hh _ (.tail _ (.tail _ (tbB_mem hq (List.getElem?_eq_getElem hj)).1))
theorem tbB_at : ∀ {PB : List (Nat × Nat)} {ts : List (List Pl)} {j : Nat} {q : Nat × Nat} {t : List Pl}, PB[j]? = some q → ts[j]? = some t →
    ∃ f, At (tbB PB ts) q.2 (blk (rows plc t) 211) f ∧ ∀ t', f (blk (rows plc t') 211) = tbB PB (ts.set j t')
  | q0 :: PB, t0 :: ts, 0, q, t, hq, ht => by
    cases hq; cases ht
    exact ⟨_, .there .here, fun _ => rfl⟩
  | q0 :: PB, t0 :: ts, j + 1, q, t, hq, ht => by
    obtain ⟨f, h1, h2⟩ := tbB_at (PB := PB) (ts := ts) (j := j) (by simpa using hq) (by simpa using ht)
    exact ⟨_, .there (.there h1), fun t' => by show _ :: _ :: f _ = _; rw [h2]; rfl⟩
  | [], _, _, _, _, hq, _ => by simp at hq
  | _ :: _, [], _, _, _, _, ht => by simp at ht
theorem at_left {L B : List (Nat × Obj)} {b : Nat} {o : Obj} {f} (h : At L b o f) : At (L ++ B) b o (fun o => f o ++ B) := by
  induction h with
  | here => exact .here
  | there _ ih => exact .there ih
/-- one table is turned -/
theorem seqSp {w0 w w' : World} {A B : List (Nat × Obj)} {s bs cap j : Nat} {sp : List Value} {PB : List (Nat × Nat)} {ts : List (List Pl)} {q : Nat × Nat} {t t' : List Pl} (H : Hp w0 (A ++ (spB s bs cap sp PB ts ++ B)) w) (hq : PB[j]? = some q) (ht : ts[j]? = some t)
    (H1 : Hp w [(q.2, blk (rows plc t') 211)] w') : Hp w0 (A ++ (spB s bs cap sp PB (ts.set j t') ++ B)) w' := by
  obtain ⟨f, h1, h2⟩ := tbB_at hq ht
  have h3 := H.seq H1 (okSeq_set (.app A (at_left (B := B) (.there (.there h1)))) okSeq_nil)
  have e := h2 t'
  show Hp w0 (A ++ ((s, blk [sl bs 0 PB.length cap] 164) :: (bs, blk (ptrs PB ++ sp) 165) :: tbB PB (ts.set j t') ++ B)) w'
  rw [← e]
  exact h3
theorem Inv.set {PB : List (Nat × Nat)} {ts : List (List Pl)} (h : Inv PB ts) {j : Nat} {t' : List Pl} (h1 : t'.length = 32) (h2 : ∀ a ∈ t', a.g ≤ 1000001) : Inv PB (ts.set j t') :=
  ⟨by rw [List.length_set]; exact h.len, fun t ht => (List.mem_or_eq_of_mem_set ht).elim (h.sz t) (fun e => e ▸ h1), fun t ht => (List.mem_or_eq_of_mem_set ht).elim (h.gn t) (fun e => e ▸ h2)⟩
theorem spB_keys {B s bs cap : Nat} {sp : List Value} (h1 : B ≤ s) (h2 : B ≤ bs) : ∀ {PB : List (Nat × Nat)} {ts : List (List Pl)}, (∀ q ∈ PB, B ≤ q.1 ∧ B ≤ q.2) → ∀ p ∈ spB s bs cap sp PB ts, B ≤ p.1 := by
  intro PB ts hP
  have hk : ∀ (PB : List (Nat × Nat)) (ts : List (List Pl)), (∀ q ∈ PB, B ≤ q.1 ∧ B ≤ q.2) → ∀ p ∈ tbB PB ts, B ≤ p.1 := by
    intro PB
    induction PB with
    | nil => intro ts _ p hp; cases ts <;> cases hp
    | cons q PB ih =>
      intro ts hP p hp
      cases ts with
      | nil => cases hp
      | cons t ts =>
        have hq := hP q (.head _)
        rcases List.mem_cons.1 hp with rfl | hp
        · exact hq.1
        · rcases List.mem_cons.1 hp with rfl | hp
          · exact hq.2
          · exact ih ts (fun q hq => hP q (.tail _ hq)) p hp
  exact kCons h1 (kCons h2 (hk PB ts hP))
theorem tbB_snoc : ∀ {PB : List (Nat × Nat)} {ts : List (List Pl)} {q : Nat × Nat} {t : List Pl}, ts.length = PB.length → tbB (PB ++ [q]) (ts ++ [t]) = tbB PB ts ++ [(q.1, blk [sl q.2 0 32 32] 209), (q.2, blk (rows plc t) 211)]
  | [], [], q, t, _ => rfl
  | q0 :: PB, t0 :: ts, q, t, h => by
    show _ :: _ :: tbB (PB ++ [q]) (ts ++ [t]) = _
    rw [tbB_snoc (by simpa using h)]; rfl
  | [], _ :: _, _, _, h => by simp at h
  | _ :: _, [], _, _, h => by simp at h

/-- a table of nothing -/
def t0 : List Pl := List.replicate 32 newPl
theorem new_perm {α : Type} (a b : α) (M T : List α) (x : α) : (a :: b :: (M ++ (x :: T))).Perm (M ++ (x :: (T ++ [a, b]))) := by
  have h : (a :: b :: (M ++ (x :: T))).Perm ((M ++ (x :: T)) ++ [a, b]) := (List.perm_append_comm (l₁ := [a, b]) (l₂ := M ++ (x :: T)))
  rwa [List.append_assoc, List.cons_append] at h

theorem new_ret {E : Nat} (h1 : 1 ≤ E) (h40 : E ≤ 40) (w : World) : Ret Tryz.prog 45 #[I E] w fun v w' => ∃ s bs cap sp PB, v = ptr s 0 ∧ PB.length = E ∧ w.heap.size ≤ s ∧ w.heap.size ≤ bs ∧ (∀ q ∈ PB, w.heap.size ≤ q.1 ∧ w.heap.size ≤ q.2) ∧
    Hp w (spB s bs cap sp PB (List.replicate E t0)) w' := by
  refine Ret_of_W (args := [_]) Tryz.func45 rfl Tryz.ntmps45 Tryz.results45 (by simp) ?_
  have H := Hp.refl w
  have hO := OwnS.nil w.heap.size 165 1
  refine W_seq ?_
  refine W_region_l ?_
  refine WL_stepM rfl (R_as) ?_
  refine WL_nil ?_
  refine W_seq ?_
  refine W_region_l ?_
  refine WL_step rfl (R_buildL (places := [(0, 1)]) (vs := [(.slice _ _ _)]) Tryz.underlying164 Tryz.typeInfo164 rfl rfl (by kernel_rfl) rfl rfl rfl) ?_
  (refine WL_effn rfl (E_box (vs := [nilS]) H rfl rfl) ?_; clear H; intro s w8 hs H)
  refine WL_stepM rfl (R_as) ?_
  refine WL_nil ?_
  refine W_seq ?_
  refine W_seq ?_
  refine W_region_l ?_
  refine WL_stepM rfl (R_mv) ?_
  refine WL_step rfl (R_max (r := (E : Int)) rfl rfl (by omega)) ?_
  refine WL_step rfl (R_min (r := (E : Int)) rfl rfl (by omega)) ?_
  refine WL_stepM rfl (R_mv) ?_
  refine WL_nil ?_
  refine W_block ?_
  refine W_loop (fun (i : Nat) F w' => ∃ (v : Value) (M : List (Nat × Obj)) (PB : List (Nat × Nat)), i ≤ E ∧ PB.length = i ∧ (∀ q ∈ PB, w.heap.size ≤ q.1 ∧ w.heap.size ≤ q.2) ∧ (∀ p ∈ tbB PB (List.replicate i t0), w.heap.size ≤ p.1) ∧ F 3 = ptr s 0 ∧ F 8 = I E ∧ F 9 = I i ∧ OwnS w.heap.size 165 1 v i (ptrs PB) M ∧ Hp w (M ++ ((s, blk [v] 164) :: tbB PB (List.replicate i t0))) w') (fun i => E - i) 0 ?_ ?_
  · exact ⟨_, [], [], by omega, rfl, (fun _ h => nomatch h), kNil, rfl, rfl, rfl, hO, H⟩
  · (clear H hO; rintro i F w1 ⟨v, M, PB, hi, hPl, hPk, hTk, h0, h1', h2, hO, H⟩; obtain ⟨av, cv, rfl⟩ := OwnS.form hO; refine W_know3 h0 h1' h2 ?_)
    refine W_seq ?_
    refine W_region_l ?_
    refine WL_step rfl (R_lt rfl rfl) ?_
    refine WL_nil ?_
    refine W_seq ?_
    refine W_if rfl (fun h28 => ?_) (fun h28 => ?_)
    · refine W_skip ?_
      refine W_seq ?_
      refine W_block ?_
      (refine W_draw (Kp [(s, blk [.slice av i cv] 164)]) (fun j => Nat.ble 8 j) (by kernel_rfl) H ?_; clear H; intro w32 H)
      refine WA_takeM 0 rfl rfl rfl (by kernel_rfl) (by kernel_rfl) (H.kp.sub (by simp)) (fun _ hC => R_mv) ?_
      refine WA_takeM 1 rfl rfl rfl (by kernel_rfl) (by kernel_rfl) (H.kp.sub (by simp)) (fun _ hC => R_mv) ?_
      refine WA_take 2 rfl rfl rfl (by kernel_rfl) (by kernel_rfl) (H.kp.sub (by simp)) (fun _ hC => R_nilCheck rfl) ?_
      refine WA_take 3 rfl rfl rfl (by kernel_rfl) (by kernel_rfl) (H.kp.sub (by simp)) (fun _ hC => R_fieldAddr (off' := 0) Tryz.underlying164 rfl Tryz.sizeOf162 (by decide) rfl rfl) ?_
      refine WA_take 4 rfl rfl rfl (by kernel_rfl) (by kernel_rfl) (H.kp.sub (by simp)) (fun _ hC => R_load (v := .slice av i cv) Tryz.isAgg162 rfl (hC.get .here) rfl) ?_
      refine WA_one (i := 5) (by kernel_rfl) ?_
      (refine WI_call rfl (.inl rfl) (R_call rfl Tryz.call77 rfl) (TabC.new_ret 32 _) (fun _ _ ⟨_, _, _, hR, hR1, hR2⟩ _ => (H.seqN hR (kCons hR1 (kCons hR2 kNil))).kp.sub (by simp)) ?_; rintro _ w39 ⟨p, b, rfl, H1, hp, hb⟩; rw [show szOf 32 = 32 from rfl] at H1; have hsz := H.size; replace H := H.seqN H1 (kCons hp (kCons hb kNil)); rw [List.cons_append, List.cons_append, List.nil_append] at H; replace hp := Nat.le_trans hsz hp; replace hb := Nat.le_trans hsz hb; clear H1 hsz)
      refine WA_one (i := 6) (by kernel_rfl) ?_
      (refine WI_effnA rfl (.inl rfl) (E_buildOnes (vs := [ptr p 0]) H Tryz.underlying162 Tryz.sizeOf165 Tryz.zeroValue165 rfl rfl (by decide) rfl rfl (by simp [Value.oneCell'])) (fun _ _ _ H => (by first | exact fun h => absurd h (by decide) | exact fun _ => H | exact fun _ => H.none kYs | exact fun _ => H.dropN kYs | exact fun _ => H.pop (by assumption) | exact fun _ => (H.pop (by assumption)).pop (by assumption) | exact fun _ => H.kp | exact fun _ => H.kp.tail | exact fun _ => H.kp.tail.tail | exact fun _ => H.kp.tail.tail.tail | exact fun _ => H.kp.sub (by simp) | exact fun _ => Kp.nil | exact fun _ => H.kh (by simp) kYs)) ?_; clear H; intro c17 w41 hc17 H)
      refine WA_one (i := 7) (by kernel_rfl) ?_
      (refine WI_effm rfl (.inl rfl) (E_append (len := i) (news := [ptr p 0]) (m := 1) H (.there (.there (.there .here))) hO Tryz.underlying162 Tryz.typeInfo165 rfl rfl rfl rfl rfl rfl (src_one Tryz.underlying162 (H.get .here) rfl) (by simp; omega) (by simp [Tryz.t165]; omega)) (fun _ _ H => (by first | exact fun h => absurd h (by decide) | exact fun _ => H | exact fun _ => H.none kYs | exact fun _ => H.dropN kYs | exact fun _ => H.pop (by assumption) | exact fun _ => (H.pop (by assumption)).pop (by assumption) | exact fun _ => H.kp | exact fun _ => H.kp.tail | exact fun _ => H.kp.tail.tail | exact fun _ => H.kp.tail.tail.tail | exact fun _ => H.kp.sub (by simp) | exact fun _ => Kp.nil | exact fun _ => H.kh (by simp) kYs)) ?_; clear H hO; intro vN MN w43 hO H; replace H := H.pop (by assumption); obtain ⟨aN, cN, rfl⟩ := OwnS.form hO)
      refine WA_one (i := 8) (by kernel_rfl) ?_
      refine WI_value rfl (.inl rfl) (R_nilCheck rfl) (by first | exact fun h => absurd h (by decide) | exact fun _ => H | exact fun _ => H.none kYs | exact fun _ => H.dropN kYs | exact fun _ => H.pop (by assumption) | exact fun _ => (H.pop (by assumption)).pop (by assumption) | exact fun _ => H.kp | exact fun _ => H.kp.tail | exact fun _ => H.kp.tail.tail | exact fun _ => H.kp.tail.tail.tail | exact fun _ => H.kp.sub (by simp) | exact fun _ => Kp.nil | exact fun _ => H.kh (by simp) kYs) ?_
      refine WA_one (i := 9) (by kernel_rfl) ?_
      refine WI_value rfl (.inl rfl) (R_fieldAddr (off' := 0) Tryz.underlying164 rfl Tryz.sizeOf162 (by decide) rfl rfl) (by first | exact fun h => absurd h (by decide) | exact fun _ => H | exact fun _ => H.none kYs | exact fun _ => H.dropN kYs | exact fun _ => H.pop (by assumption) | exact fun _ => (H.pop (by assumption)).pop (by assumption) | exact fun _ => H.kp | exact fun _ => H.kp.tail | exact fun _ => H.kp.tail.tail | exact fun _ => H.kp.tail.tail.tail | exact fun _ => H.kp.sub (by simp) | exact fun _ => Kp.nil | exact fun _ => H.kh (by simp) kYs) ?_
      refine WA_one (i := 10) (by kernel_rfl) ?_
      (refine WI_effu rfl (.inl rfl) (E_store (v := .slice aN (i + 1) cN) H Tryz.sizeOf162 rfl rfl rfl (.there (.there (.app _ .here))) (by simp)) (fun _ _ h => absurd h (by decide)) ?_; clear H; intro w49 H)
      refine WA_done (by kernel_rfl) ?_
      refine W_region_l ?_
      refine WL_step rfl (R_add rfl rfl (w_i64 (by omega))) ?_
      refine WL_stepM rfl (R_mv) ?_
      refine WL_nil ?_
      exact ⟨i + 1, by omega, _, MN, PB ++ [(p, b)], by omega, (by rw [List.length_append, hPl]; rfl), (fun q hq => (List.mem_append.1 hq).elim (hPk q) (fun h => by rw [List.mem_singleton.1 h]; exact ⟨hp, hb⟩)), (by rw [List.replicate_succ', tbB_snoc (by simp [hPl])]; exact kApp hTk (kCons hp (kCons hb kNil))), rfl, rfl, rfl, (by rw [show ptrs (PB ++ [(p, b)]) = ptrs PB ++ [ptr p 0] from by simp [ptrs]]; exact hO), (by rw [List.replicate_succ', tbB_snoc (by simp [hPl])]; exact H.perm (new_perm _ _ _ _ _))⟩
    · refine W_exit ?_
      refine (if_pos rfl).mpr ?_
      refine W_seq ?_
      refine W_region_l ?_
      refine WL_stepM rfl (R_mv) ?_
      refine WL_stepM rfl (R_as) ?_
      refine WL_nil ?_
      refine W_ret ?_
      (obtain rfl : i = E := (by omega); obtain ⟨bs, cap, sp, hv, hbs, hM, hsp, hcap⟩ := OwnS.pos hO (by omega); cases hv; subst hM; subst hPl; exact ⟨_, rfl, s, bs, _, sp, PB, rfl, rfl, hs, hbs, hPk, H.swap2⟩)
end Go.Proofs.YtlpmfldijgdcoaaGreatDoor.Caps

/-
  Spaces of caps: put, got, granted.
-/
namespace Go.Proofs.YtlpmfldijgdcoaaGreatDoor.Caps
open Go Go.Proofs Go.Proofs.YtlpmfldijgdcoaaGreatDoor.Fx Go.Proofs.YtlpmfldijgdcoaaGreatDoor.TabC
set_option maxRecDepth 100000
set_option linter.unusedVariables false
set_option linter.unusedSimpArgs false
set_option maxHeartbeats 8000000

/-- a cap -/
def cp (o r lo n re rn : Int) : Vk := ⟨[I o, I r, I lo, I n, I re, I rn], rfl, by simp [Value.oneCell']⟩
theorem b_andNot {a b : Nat} (ha : a < 8) (hb : b < 8) : bitsOf .andNot .i64 (a : Int) (b : Int) = ((a &&& (7 - b) : Nat) : Int) := by
  have : ∀ a b : Fin 8, bitsOf .andNot .i64 (a.val : Int) (b.val : Int) = ((a.val &&& (7 - b.val) : Nat) : Int) := by decide
  exact this ⟨a, ha⟩ ⟨b, hb⟩
theorem ptrs_get {PB : List (Nat × Nat)} {sp : List Value} {j : Nat} {q : Nat × Nat} (h : PB[j]? = some q) : (ptrs PB ++ sp)[j]? = some (ptr q.1 0) := by
  have hj := (List.getElem?_eq_some_iff.1 h).1
  rw [List.getElem?_append_left (by simpa [ptrs] using hj), ptrs, List.getElem?_map, h]; rfl

theorem in_ret (n : Int) (w : World) : Ret Tryz.prog 80 #[I n] w fun v w' => v = .bool (decide (0 ≤ n ∧ n ≤ 65536)) ∧ Hp w [] w' := by
  refine Ret_of_W (args := [_]) Tryz.func80 rfl Tryz.ntmps80 Tryz.results80 (by simp) ?_
  have H := Hp.refl w
  refine W_seq ?_
  refine W_region_l ?_
  refine WL_stepM rfl (R_as) ?_
  refine WL_nil ?_
  refine W_seq ?_
  refine W_region_l ?_
  refine WL_stepM rfl (R_mv) ?_
  refine WL_step rfl (R_ge rfl rfl) ?_
  refine WL_stepM rfl (R_mv) ?_
  apply WL_andK 3 5 8 [(6, 8)] H
  case hc => rfl
  case h1 =>
    intro h10
    refine WL_guard_t rfl rfl ?_
    refine WL_stepM rfl (R_mv) ?_
    refine WL_guard_t rfl rfl ?_
    refine WL_step rfl (R_le rfl rfl) ?_
    refine WL_stepM rfl (R_pk_t rfl) ?_
    refine WL_nil ?_
    exact ⟨(same_mov rfl (same_updo rfl (same_mov rfl Same.refl))), rfl, H⟩
  case h0 =>
    intro h10
    refine WL_guard_f rfl rfl (by decide) ?_
    refine WL_guard_f rfl rfl (by decide) ?_
    refine WL_stepM rfl (R_pk_f rfl) ?_
    refine WL_nil ?_
    exact ⟨(same_mov rfl (same_updo rfl (same_updo rfl Same.refl))), rfl, H⟩
  case h2 =>
    (clear H; intro E10 w10 H)
    refine WL_stepM rfl (R_as) ?_
    refine WL_nil ?_
    refine W_ret ?_
    exact ⟨_, rfl, congrArg Value.bool (decide_eq_decide.2 (by omega)), H⟩

section
variable {w : World} {s : Nat} {PB : List (Nat × Nat)} {ts : List (List Pl)}
theorem is_ret (hS : Sp w s PB ts) (n : Int) : Ret Tryz.prog 81 #[ptr s 0, I n] w fun v w' => v = .bool (decide (0 ≤ n ∧ n < PB.length)) ∧ Hp w [] w' := by
  obtain ⟨bs, cap, sp, hs, hbs⟩ := hS.ex
  refine Ret_of_W (args := [_, _]) Tryz.func81 rfl Tryz.ntmps81 Tryz.results81 (by simp) ?_
  have H := Hp.refl w
  refine W_seq ?_
  refine W_region_l ?_
  refine WL_stepM rfl (R_as) ?_
  refine WL_nil ?_
  refine W_seq ?_
  refine W_region_l ?_
  refine WL_stepM rfl (R_mv) ?_
  refine WL_step rfl (R_ge rfl rfl) ?_
  refine WL_stepM rfl (R_mv) ?_
  apply WL_andK 8 7 15 [(8, 15)] H
  case hc => rfl
  case h1 =>
    intro h10
    refine WL_guard_t rfl rfl ?_
    refine WL_stepM rfl (R_mv) ?_
    refine WL_guard_t rfl rfl ?_
    refine WL_stepM rfl (R_mv) ?_
    refine WL_guard_t rfl rfl ?_
    refine WL_step rfl (R_nilCheck rfl) ?_
    refine WL_guard_t rfl rfl ?_
    refine WL_step rfl (R_fieldAddr (off' := 0) Tryz.underlying164 rfl Tryz.sizeOf162 (by decide) rfl rfl) ?_
    refine WL_guard_t rfl rfl ?_
    refine WL_step rfl (R_load (v := sl bs 0 PB.length cap) Tryz.isAgg162 rfl (H.block hs (by simp)) rfl) ?_
    refine WL_guard_t rfl rfl ?_
    refine WL_step rfl (R_len_slice Tryz.underlying162 rfl) ?_
    refine WL_guard_t rfl rfl ?_
    refine WL_step rfl (R_lt rfl rfl) ?_
    refine WL_stepM rfl (R_pk_t rfl) ?_
    refine WL_nil ?_
    exact ⟨(same_mov rfl (same_updo rfl (same_updo rfl (same_updo rfl (same_updo rfl (same_updo rfl (same_mov rfl (same_mov rfl Same.refl)))))))), rfl, H⟩
  case h0 =>
    intro h10
    refine WL_guard_f rfl rfl (by decide) ?_
    refine WL_guard_f rfl rfl (by decide) ?_
    refine WL_guard_f rfl rfl (by decide) ?_
    refine WL_guard_f rfl rfl (by decide) ?_
    refine WL_guard_f rfl rfl (by decide) ?_
    refine WL_guard_f rfl rfl (by decide) ?_
    refine WL_guard_f rfl rfl (by decide) ?_
    refine WL_stepM rfl (R_pk_f rfl) ?_
    refine WL_nil ?_
    exact ⟨(same_mov rfl (same_updo rfl (same_updo rfl (same_updo rfl (same_updo rfl (same_updo rfl (same_updo rfl (same_updo rfl Same.refl)))))))), rfl, H⟩
  case h2 =>
    (clear H; intro E10 w10 H)
    refine WL_stepM rfl (R_as) ?_
    refine WL_nil ?_
    refine W_ret ?_
    exact ⟨_, rfl, congrArg Value.bool (decide_eq_decide.2 (by omega)), H⟩

theorem add_yes {j i : Nat} {q : Nat × Nat} {t : List Pl} {a : Pl} (hS : Sp w s PB ts) (hq : PB[j]? = some q) (ht : ts[j]? = some t) (x : Vk) (h : t[i]? = some a) (hf : free a) (hl : ∀ k a', k < i → t[k]? = some a' → ¬ free a') :
    Ret Tryz.prog 82 #[ptr s 0, I j, vk x] w fun v w' => v = .tuple #[I (i + 256 * a.g : Nat), I 0] ∧ Hp w [(q.2, blk (rows plc (t.set i ⟨x, a.g, true⟩)) 211)] w' := by
  obtain ⟨bs, cap, sp, hs, hbs⟩ := hS.ex
  have htp := hS.tp j q hq
  have htb := hS.tb j q t hq ht
  have hj := (List.getElem?_eq_some_iff.1 hq).1
  have hsz := hS.inv.sz t (List.mem_of_getElem? ht)
  have hgn := hS.inv.gn t (List.mem_of_getElem? ht)
  refine Ret_of_W (args := [_, _, _]) Tryz.func82 rfl Tryz.ntmps82 Tryz.results82 (by simp) ?_
  have n1 : q.1 ≠ q.2 := ne_of_obj htp htb (by simp)
  have n2 : bs ≠ q.1 := ne_of_obj hbs htp (by simp)
  have n3 : bs ≠ q.2 := ne_of_obj hbs htb (by simp)
  have n4 : s ≠ bs := ne_of_obj hs hbs (by simp)
  have n5 : s ≠ q.1 := ne_of_obj hs htp (by simp)
  have n6 : s ≠ q.2 := ne_of_obj hs htb (by simp)
  have H := (((Hp.focus0 htb).focus htp (by simpa using n1)).focus hbs (by simpa using ⟨n2, n3⟩)).focus hs (by simpa using ⟨n4, n5, n6⟩)
  refine W_seq ?_
  refine W_region_l ?_
  (refine WL_effn rfl (E_boxK (q := x) H rfl) ?_; clear H; intro c5 w3 hc5 H)
  refine WL_stepM rfl (R_as) ?_
  refine WL_stepM rfl (R_as) ?_
  refine WL_nil ?_
  refine W_seq ?_
  (refine W_draw (Kp [(c5, blk x.c 125), (s, blk [sl bs 0 PB.length cap] 164), (bs, blk (ptrs PB ++ sp) 165)]) (fun _ => false) (by kernel_rfl) H ?_; clear H; intro w8 H)
  refine WA_takeM 0 rfl rfl rfl (by kernel_rfl) (by kernel_rfl) (H.kp.sub (by simp)) (fun _ hC => R_mv) ?_
  refine WA_take 1 rfl rfl rfl (by kernel_rfl) (by kernel_rfl) (H.kp.sub (by simp)) (fun _ hC => R_nilCheck rfl) ?_
  refine WA_take 2 rfl rfl rfl (by kernel_rfl) (by kernel_rfl) (H.kp.sub (by simp)) (fun _ hC => R_fieldAddr (off' := 0) Tryz.underlying164 rfl Tryz.sizeOf162 (by decide) rfl rfl) ?_
  refine WA_take 3 rfl rfl rfl (by kernel_rfl) (by kernel_rfl) (H.kp.sub (by simp)) (fun _ hC => R_load (v := sl bs 0 PB.length cap) Tryz.isAgg162 rfl (hC.get (.there .here)) rfl) ?_
  refine WA_takeM 4 rfl rfl rfl (by kernel_rfl) (by kernel_rfl) (H.kp.sub (by simp)) (fun _ hC => R_mv) ?_
  refine WA_take 5 rfl rfl rfl (by kernel_rfl) (by kernel_rfl) (H.kp.sub (by simp)) (fun _ hC => R_indexAddr (off' := j) Tryz.underlying162 Tryz.sizeOf165 rfl rfl (by omega) (by omega) (by omega)) ?_
  refine WA_take 6 rfl rfl rfl (by kernel_rfl) (by kernel_rfl) (H.kp.sub (by simp)) (fun _ hC => R_load (v := ptr q.1 0) Tryz.isAgg165 rfl (hC.get (.there (.there .here))) (ptrs_get hq)) ?_
  refine WA_take 7 rfl rfl rfl (by kernel_rfl) (by kernel_rfl) (H.kp.sub (by simp)) (fun _ hC => R_loadK (q := x) rfl (hC.get .here)) ?_
  refine WA_one (i := 8) (by kernel_rfl) ?_
  (refine WI_call rfl (.inl rfl) (R_call rfl Tryz.call120 rfl) (TabC.add_yes (H.get (.there (.there (.there .here)))) (H.get (.there (.there (.there (.there .here))))) hsz (by decide) hgn x h hf hl) (fun _ _ hR _ => (H.seq hR.2 (okSeq_set (.there (.there (.there (.there .here)))) okSeq_nil)).kp.sub (by simp)) ?_; rintro _ w18 ⟨rfl, H1⟩; replace H := H.seq H1 (okSeq_set (.there (.there (.there (.there .here)))) okSeq_nil); clear H1)
  refine WA_takeM 9 rfl rfl rfl (by kernel_rfl) (by kernel_rfl) (H.kp.sub (by simp)) (fun _ hC => R_mv) ?_
  refine WA_take 10 rfl rfl rfl (by kernel_rfl) (by kernel_rfl) (H.kp.sub (by simp)) (fun _ hC => R_extract rfl rfl) ?_
  refine WA_take 11 rfl rfl rfl (by kernel_rfl) (by kernel_rfl) (H.kp.sub (by simp)) (fun _ hC => R_extract rfl rfl) ?_
  refine WA_takeM 12 rfl rfl rfl (by kernel_rfl) (by kernel_rfl) (H.kp.sub (by simp)) (fun _ hC => R_as) ?_
  refine WA_takeM 13 rfl rfl rfl (by kernel_rfl) (by kernel_rfl) (H.kp.sub (by simp)) (fun _ hC => R_as) ?_
  refine WA_done (by kernel_rfl) ?_
  refine W_seq ?_
  refine W_seq ?_
  refine W_region_l ?_
  refine WL_stepM rfl (R_mv) ?_
  refine WL_step rfl (R_not_t rfl) ?_
  refine WL_nil ?_
  refine W_cond_f rfl ?_
  refine W_skip ?_
  refine W_seq ?_
  refine W_region_l ?_
  refine WL_stepM rfl (R_mv) ?_
  refine WL_stepM rfl (R_as) ?_
  refine WL_stepM rfl (R_as) ?_
  refine WL_nil ?_
  refine W_ret ?_
  exact ⟨_, rfl, rfl, (((H.pop (by assumption)).back hs).back hbs).back htp⟩

theorem get_yes {j i : Nat} {q : Nat × Nat} {t : List Pl} {a : Pl} (hS : Sp w s PB ts) (hq : PB[j]? = some q) (ht : ts[j]? = some t) (h : t[i]? = some a) (hu : a.u = true) :
    Ret Tryz.prog 152 #[ptr s 0, I j, I (i + 256 * a.g : Nat)] w fun v w' => v = .tuple #[vk a.v, I 0] ∧ Hp w [] w' := by
  obtain ⟨bs, cap, sp, hs, hbs⟩ := hS.ex
  have htp := hS.tp j q hq
  have htb := hS.tb j q t hq ht
  have hj := (List.getElem?_eq_some_iff.1 hq).1
  have hsz := hS.inv.sz t (List.mem_of_getElem? ht)
  have hgn := hS.inv.gn t (List.mem_of_getElem? ht)
  refine Ret_of_WC (args := [_, _, _]) Tryz.func152 rfl Tryz.ntmps152 Tryz.results152 (by simp) ?_
  have H := Hp.refl w
  refine W_seq ?_
  refine W_region_l ?_
  (refine WL_effn rfl (E_allocK H) ?_; clear H; intro c3 w3 hc3 H)
  refine WL_stepM rfl (R_as) ?_
  refine WL_nil ?_
  refine W_seq ?_
  refine W_seq ?_
  refine W_region_l ?_
  refine WL_stepM rfl (R_mv) ?_
  refine WL_stepM rfl (R_mv) ?_
  (refine WL_call rfl (R_call rfl Tryz.call81 rfl) (is_ret (hS.monoN H kYs) _) ?_; rintro _ w11 ⟨rfl, H1⟩; rw [decide_eq_true (show 0 ≤ (j : Int) ∧ (j : Int) < PB.length by omega)]; replace H := H.seq0 H1; clear H1)
  refine WL_step rfl (R_not_t rfl) ?_
  refine WL_nil ?_
  refine W_cond_f rfl ?_
  refine W_skip ?_
  refine W_seq ?_
  refine W_region_l ?_
  refine WL_stepM rfl (R_mv) ?_
  refine WL_step rfl (R_nilCheck rfl) ?_
  refine WL_step rfl (R_fieldAddr (off' := 0) Tryz.underlying164 rfl Tryz.sizeOf162 (by decide) rfl rfl) ?_
  refine WL_step rfl (R_load (v := sl bs 0 PB.length cap) Tryz.isAgg162 rfl (H.blockN hs kYs) rfl) ?_
  refine WL_stepM rfl (R_mv) ?_
  refine WL_step rfl (R_indexAddr Tryz.underlying162 Tryz.sizeOf165 rfl rfl (by omega) (by omega) idx0_cast) ?_
  refine WL_step rfl (R_load (v := ptr q.1 0) Tryz.isAgg165 rfl (H.blockN hbs kYs) (ptrs_get hq)) ?_
  refine WL_stepM rfl (R_mv) ?_
  (refine WL_call rfl (R_call rfl Tryz.call193 rfl) (TabC.get_yes (H.blockN htp kYs) (H.blockN htb kYs) hsz (by decide) h (hgn a (List.mem_of_getElem? h)) hu) ?_; rintro _ w26 ⟨rfl, H1⟩; replace H := H.seq0 H1; clear H1)
  refine WL_stepM rfl (R_mv) ?_
  refine WL_step rfl (R_extract rfl rfl) ?_
  refine WL_step rfl (R_extract rfl rfl) ?_
  (refine WL_effn rfl (E_allocK H) ?_; clear H; intro c30 w30 hc30 H)
  (refine WL_effu rfl (E_storeK H rfl rfl .here) ?_; clear H; intro w31 H)
  refine WL_stepM rfl (R_as) ?_
  refine WL_nil ?_
  refine W_seq ?_
  refine W_seq ?_
  refine W_region_l ?_
  refine WL_stepM rfl (R_mv) ?_
  refine WL_step rfl (R_not_t rfl) ?_
  refine WL_nil ?_
  refine W_cond_f rfl ?_
  refine W_skip ?_
  refine W_seq ?_
  refine W_region_l ?_
  refine WL_step rfl (R_loadK rfl (H.get .here)) ?_
  (refine WL_effu rfl (E_storeK H rfl rfl (.there .here)) ?_; clear H; intro w45 H)
  refine WL_stepM rfl (R_as) ?_
  refine WL_nil ?_
  refine W_ret ?_
  exact ⟨_, ⟨_, _, rfl, ldK (H.get (.there .here)), rfl⟩, rfl, H.none kYs⟩

theorem put_yes {j i r : Nat} {q : Nat × Nat} {t : List Pl} {a : Pl} {o lo n re rn : Int} (hS : Sp w s PB ts) (hq : PB[j]? = some q) (ht : ts[j]? = some t) (hr : r < 8) (hlo : 0 ≤ lo ∧ lo ≤ 65536) (hn : 0 ≤ n ∧ n ≤ 65536) (h : t[i]? = some a) (hf : free a) (hl : ∀ k a', k < i → t[k]? = some a' → ¬ free a') :
    Ret Tryz.prog 52 #[ptr s 0, I j, vk (cp o r lo n re rn)] w fun v w' => v = .tuple #[I (i + 256 * a.g : Nat), I 0] ∧ Hp w [(q.2, blk (rows plc (t.set i ⟨cp o r lo n 0 0, a.g, true⟩)) 211)] w' := by
  have hj := (List.getElem?_eq_some_iff.1 hq).1
  have htb := hS.tb j q t hq ht
  refine Ret_of_W (args := [_, _, _]) Tryz.func52 rfl Tryz.ntmps52 Tryz.results52 (by simp) ?_
  have H := Hp.refl w
  refine W_seq ?_
  refine W_region_l ?_
  (refine WL_effn rfl (E_boxK (q := cp o r lo n re rn) H rfl) ?_; clear H; intro c5 w3 hc5 H)
  refine WL_stepM rfl (R_as) ?_
  refine WL_stepM rfl (R_as) ?_
  refine WL_nil ?_
  refine W_seq ?_
  refine W_region_l ?_
  refine WL_stepM rfl (R_as) ?_
  refine WL_nil ?_
  refine W_seq ?_
  refine W_seq ?_
  refine W_region_l ?_
  refine WL_stepM rfl (R_mv) ?_
  refine WL_stepM rfl (R_mv) ?_
  (refine WL_call rfl (R_call rfl Tryz.call81 rfl) (is_ret (hS.monoN H kYs) _) ?_; rintro _ w16 ⟨rfl, H1⟩; rw [decide_eq_true (show 0 ≤ (j : Int) ∧ (j : Int) < PB.length by omega)]; replace H := H.seq0 H1; clear H1)
  refine WL_step rfl (R_not_t rfl) ?_
  refine WL_stepM rfl (R_mv) ?_
  refine WL_guard_t rfl rfl ?_
  refine WL_step rfl (R_fieldAddr (off' := 1) Tryz.underlying125 rfl Tryz.sizeOf3 (by decide) rfl rfl) ?_
  refine WL_guard_t rfl rfl ?_
  refine WL_step rfl (R_load Tryz.isAgg3 rfl (H.get .here) rfl) ?_
  refine WL_guard_t rfl rfl ?_
  refine WL_step rfl (R_bits (r := 0) rfl rfl (by simp) ((b_andNot hr (b := 7) (by decide)).trans (by simp))) ?_
  refine WL_guard_t rfl rfl ?_
  refine WL_step rfl (R_ne_f rfl rfl (by omega)) ?_
  refine WL_stepM rfl (R_pk_f rfl) ?_
  refine WL_stepM rfl (R_mv) ?_
  refine WL_guard_t rfl rfl ?_
  refine WL_stepM rfl (R_mv) ?_
  refine WL_guard_t rfl rfl ?_
  refine WL_step rfl (R_fieldAddr (off' := 2) Tryz.underlying125 rfl Tryz.sizeOf3 (by decide) rfl rfl) ?_
  refine WL_guard_t rfl rfl ?_
  refine WL_step rfl (R_load Tryz.isAgg3 rfl (H.get .here) rfl) ?_
  refine WL_guard_t rfl rfl ?_
  (refine WL_call rfl (R_call rfl Tryz.call80 rfl) (in_ret lo _) ?_; rintro _ w36 ⟨rfl, H1⟩; rw [decide_eq_true hlo]; replace H := H.seq0 H1; clear H1)
  refine WL_guard_t rfl rfl ?_
  refine WL_step rfl (R_not_t rfl) ?_
  refine WL_stepM rfl (R_pk_f rfl) ?_
  refine WL_stepM rfl (R_mv) ?_
  refine WL_guard_t rfl rfl ?_
  refine WL_stepM rfl (R_mv) ?_
  refine WL_guard_t rfl rfl ?_
  refine WL_step rfl (R_fieldAddr (off' := 3) Tryz.underlying125 rfl Tryz.sizeOf3 (by decide) rfl rfl) ?_
  refine WL_guard_t rfl rfl ?_
  refine WL_step rfl (R_load Tryz.isAgg3 rfl (H.get .here) rfl) ?_
  refine WL_guard_t rfl rfl ?_
  (refine WL_call rfl (R_call rfl Tryz.call80 rfl) (in_ret n _) ?_; rintro _ w48 ⟨rfl, H1⟩; rw [decide_eq_true hn]; replace H := H.seq0 H1; clear H1)
  refine WL_guard_t rfl rfl ?_
  refine WL_step rfl (R_not_t rfl) ?_
  refine WL_stepM rfl (R_pk_f rfl) ?_
  refine WL_nil ?_
  refine W_cond_f rfl ?_
  refine W_skip ?_
  refine W_seq ?_
  refine W_region_l ?_
  refine WL_step rfl (R_buildL (places := [(0, 1), (1, 1)]) (vs := [I 0, I 0]) Tryz.underlying123 Tryz.typeInfo123 rfl rfl (by kernel_rfl) rfl rfl rfl) ?_
  refine WL_step rfl (R_fieldAddr (off' := 4) Tryz.underlying125 rfl Tryz.sizeOf123 (by decide) rfl rfl) ?_
  (refine WL_effu rfl (E_storeA (vs := [(.int _ _), (.int _ _)]) H Tryz.sizeOf123 rfl rfl (by simp [Value.oneCell']) .here (Nat.le_of_ble_eq_true rfl)) ?_; clear H; intro w59 H)
  refine WL_nil ?_
  refine W_seq ?_
  refine W_region_l ?_
  refine WL_stepM rfl (R_mv) ?_
  refine WL_stepM rfl (R_mv) ?_
  refine WL_step rfl (R_loadK (q := cp o r lo n 0 0) rfl (H.get .here)) ?_
  (refine WL_call rfl (R_call rfl Tryz.call82 rfl) (add_yes (hS.monoN H kYs) hq ht (cp o r lo n 0 0) h hf hl) ?_; rintro _ w66 ⟨rfl, H1⟩; replace H := H.seqB htb kYs H1; clear H1)
  refine WL_step rfl (R_extract rfl rfl) ?_
  refine WL_step rfl (R_extract rfl rfl) ?_
  refine WL_stepM rfl (R_as) ?_
  refine WL_stepM rfl (R_as) ?_
  refine WL_nil ?_
  refine W_ret ?_
  exact ⟨_, rfl, rfl, H.pop2 (by assumption)⟩

end
end Go.Proofs.YtlpmfldijgdcoaaGreatDoor.Caps

/-
  Spaces of caps: granted.
-/
namespace Go.Proofs.YtlpmfldijgdcoaaGreatDoor.Caps
open Go Go.Proofs Go.Proofs.YtlpmfldijgdcoaaGreatDoor.Fx Go.Proofs.YtlpmfldijgdcoaaGreatDoor.TabC
set_option maxRecDepth 100000
set_option linter.unusedVariables false
set_option linter.unusedSimpArgs false
set_option maxHeartbeats 8000000

section
variable {w : World} {s : Nat} {PB : List (Nat × Nat)} {ts : List (List Pl)} {j i g0 : Nat} {q : Nat × Nat} {t : List Pl} {o r lo n re rn : Int}

end
end Go.Proofs.YtlpmfldijgdcoaaGreatDoor.Caps

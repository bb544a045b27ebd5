/-
  Commons of two processes that share a pipe, any link made wrong: what is told.
-/
import Derived.Test.YthonajikgljgmaaAudJ
import Derived.Test.YthonajikgljgmaaOneB
import Derived.Test.YthonajikgljgmaaSlotM1
namespace Go.Proofs.Ythonajikgljgmaa.Aud
open Go Go.Proofs Go.Proofs.Ythonajikgljgmaa.Fx
set_option maxRecDepth 100000
set_option linter.unusedVariables false
set_option linter.unusedSimpArgs false
set_option maxHeartbeats 16000000

def putAll (X : List UInt8) (p q : Slot.Pi) (f h : File.Fl) (r : Ring.Pi) : List UInt8 :=
  Mem.put (Mem.put (Mem.put (Mem.put (Mem.put X (Slot.bytesP p) 0) (Slot.bytesP q) 24) (File.fileBytes f) 200) (File.fileBytes h) 208) (Ring.bytesP r) 368
theorem put_len {X ys : List UInt8} {a : Nat} (hX : X.length = 492) (h : a + ys.length ≤ 492) : (Mem.put X ys a).length = 492 := by rw [Mem.put_length (by omega), hX]
theorem fb_len (f : File.Fl) : (File.fileBytes f).length = 8 := rfl
theorem putAll_len {X : List UInt8} (p q : Slot.Pi) (f h : File.Fl) (r : Ring.Pi) (hX : X.length = 492) : (putAll X p q f h r).length = 492 :=
  put_len (put_len (put_len (put_len (put_len hX (by rw [Slot.bytes_len]; decide)) (by rw [Slot.bytes_len]; decide)) (by rw [fb_len]; decide)) (by rw [fb_len]; decide)) (by rw [Ring.bytes_len]; decide)

theorem put_ret {w0 w : World} {c5 c6 c7 c8 c9 bb bc : Nat} {p q : Slot.Pi} {f h : File.Fl} {r : Ring.Pi} {X : List UInt8} {bsp : List Value} (hp : Slot.okP p) (hq : Slot.okP q) (hf : File.fileOk f) (hh : File.fileOk h) (hr : Ring.okP r) (hX : X.length = 492) (hbc : 492 ≤ bc)
    (H : Hp w0 [(c5, blk [sl bb 0 492 bc] 22), (c6, blk (Slot.piC p) 67), (c7, blk (Slot.piC q) 67), (c8, blk (File.flC f ++ File.flC h) 70), (c9, blk (Ring.piC r) 73), (bb, blk (X.map U ++ bsp) 5)] w) :
    Ret Try.prog 31 #[ptr c5 0, ptr c6 0, ptr c7 0, ptr c8 0, ptr c9 0] w fun v w' => Hp w0 [(c5, blk [sl bb 0 492 bc] 22), (c6, blk (Slot.piC p) 67), (c7, blk (Slot.piC q) 67), (c8, blk (File.flC f ++ File.flC h) 70), (c9, blk (Ring.piC r) 73), (bb, blk ((putAll X p q f h r).map U ++ bsp) 5)] w' := by
  refine Ret_of_W (args := [_, _, _, _, _]) Try.func31 rfl Try.ntmps31 Try.results31 (by simp) ?_
  have l1 := put_len hX (a := 0) (ys := Slot.bytesP p) (by rw [Slot.bytes_len]; decide)
  have l2 := put_len l1 (a := 24) (ys := Slot.bytesP q) (by rw [Slot.bytes_len]; decide)
  have l3 := put_len l2 (a := 200) (ys := File.fileBytes f) (by rw [fb_len]; decide)
  have l4 := put_len l3 (a := 208) (ys := File.fileBytes h) (by rw [fb_len]; decide)
  have s1 := Slot.bytes_len p
  have s2 := Slot.bytes_len q
  have s3 := fb_len f
  have s4 := fb_len h
  have s5 := Ring.bytes_len r
  refine W_seq ?_
  (refine W_draw (Kp [(c5, blk [sl bb 0 492 bc] 22), (c6, blk (Slot.piC p) 67), (c7, blk (Slot.piC q) 67), (c8, blk (File.flC f ++ File.flC h) 70), (c9, blk (Ring.piC r) 73)]) (fun _ => false) (by kernel_rfl) H ?_; clear H; intro w2 H)
  refine WA_take 0 rfl rfl rfl (by kernel_rfl) (by kernel_rfl) (H.kp.sub (by simp)) (fun _ hC => R_load (v := sl bb 0 492 bc) Try.isAgg22 rfl (hC.get .here) rfl) ?_
  refine WA_take 1 rfl rfl rfl (by kernel_rfl) (by kernel_rfl) (H.kp.sub (by simp)) (fun _ hC => Slot.R_loadP (p := p) rfl (hC.get (.there .here))) ?_
  refine WA_one (i := 2) (by kernel_rfl) ?_
  (refine WI_call rfl (.inl rfl) (R_call rfl Try.call32 rfl) (Slot.refBytes_ret p hp _) (fun _ _ hR _ => (H.seq0 hR.2).kp.sub (by simp)) ?_; rintro _ w6 ⟨rfl, H1⟩; replace H := H.seq0 H1; clear H1)
  refine WA_one (i := 3) (by kernel_rfl) ?_
  (refine WI_effm rfl (.inl rfl) (E_putS (ys := Slot.bytesP p) (a := 0) H (.there (.there (.there (.there (.there .here))))) Try.underlying22 Try.sizeOf5 rfl rfl S_csrc (by rw [hX]) (by omega)) (fun _ _ H => (by first | exact fun h => absurd h (by decide) | exact fun _ => H | exact fun _ => H.none (by repeat' first | exact kNil | apply kCons | apply kApp | assumption | exact OwnS.keys (by assumption)) | exact fun _ => H.dropN (by repeat' first | exact kNil | apply kCons | apply kApp | assumption | exact OwnS.keys (by assumption)) | exact fun _ => H.pop (by assumption) | exact fun _ => (H.pop (by assumption)).pop (by assumption) | exact fun _ => H.kp | exact fun _ => H.kp.tail | exact fun _ => H.kp.tail.tail | exact fun _ => H.kp.tail.tail.tail | exact fun _ => H.kp.sub (by simp) | exact fun _ => Kp.nil | exact fun _ => H.kh (by simp) (by repeat' first | exact kNil | apply kCons | apply kApp | assumption | exact OwnS.keys (by assumption)))) ?_; clear H; rintro _ _ w8 rfl H)
  refine WA_done (by kernel_rfl) ?_
  refine W_seq ?_
  (refine W_draw (Kp [(c5, blk [sl bb 0 492 bc] 22), (c6, blk (Slot.piC p) 67), (c7, blk (Slot.piC q) 67), (c8, blk (File.flC f ++ File.flC h) 70), (c9, blk (Ring.piC r) 73)]) (fun _ => false) (by kernel_rfl) H ?_; clear H; intro w11 H)
  refine WA_take 0 rfl rfl rfl (by kernel_rfl) (by kernel_rfl) (H.kp.sub (by simp)) (fun _ hC => R_load (v := sl bb 0 492 bc) Try.isAgg22 rfl (hC.get .here) rfl) ?_
  refine WA_take 1 rfl rfl rfl (by kernel_rfl) (by kernel_rfl) (H.kp.sub (by simp)) (fun _ hC => R_from (k := 24) (m := 468) (k' := 24) Try.underlying22 Try.sizeOf5 rfl rfl rfl (by omega) (by decide) (by omega)) ?_
  refine WA_take 2 rfl rfl rfl (by kernel_rfl) (by kernel_rfl) (H.kp.sub (by simp)) (fun _ hC => Slot.R_loadP (p := q) rfl (hC.get (.there (.there .here)))) ?_
  refine WA_one (i := 3) (by kernel_rfl) ?_
  (refine WI_call rfl (.inl rfl) (R_call rfl Try.call32 rfl) (Slot.refBytes_ret q hq _) (fun _ _ hR _ => (H.seq0 hR.2).kp.sub (by simp)) ?_; rintro _ w16 ⟨rfl, H1⟩; replace H := H.seq0 H1; clear H1)
  refine WA_one (i := 4) (by kernel_rfl) ?_
  (refine WI_effm rfl (.inl rfl) (E_putS (ys := Slot.bytesP q) (a := 24) H (.there (.there (.there (.there (.there .here))))) Try.underlying22 Try.sizeOf5 rfl rfl S_csrc (by rw [l1]) (by omega)) (fun _ _ H => (by first | exact fun h => absurd h (by decide) | exact fun _ => H | exact fun _ => H.none (by repeat' first | exact kNil | apply kCons | apply kApp | assumption | exact OwnS.keys (by assumption)) | exact fun _ => H.dropN (by repeat' first | exact kNil | apply kCons | apply kApp | assumption | exact OwnS.keys (by assumption)) | exact fun _ => H.pop (by assumption) | exact fun _ => (H.pop (by assumption)).pop (by assumption) | exact fun _ => H.kp | exact fun _ => H.kp.tail | exact fun _ => H.kp.tail.tail | exact fun _ => H.kp.tail.tail.tail | exact fun _ => H.kp.sub (by simp) | exact fun _ => Kp.nil | exact fun _ => H.kh (by simp) (by repeat' first | exact kNil | apply kCons | apply kApp | assumption | exact OwnS.keys (by assumption)))) ?_; clear H; rintro _ _ w18 rfl H)
  refine WA_done (by kernel_rfl) ?_
  refine W_seq ?_
  (refine W_draw (Kp [(c5, blk [sl bb 0 492 bc] 22), (c6, blk (Slot.piC p) 67), (c7, blk (Slot.piC q) 67), (c8, blk (File.flC f ++ File.flC h) 70), (c9, blk (Ring.piC r) 73)]) (fun _ => false) (by kernel_rfl) H ?_; clear H; intro w21 H)
  refine WA_take 0 rfl rfl rfl (by kernel_rfl) (by kernel_rfl) (H.kp.sub (by simp)) (fun _ hC => R_load (v := sl bb 0 492 bc) Try.isAgg22 rfl (hC.get .here) rfl) ?_
  refine WA_take 1 rfl rfl rfl (by kernel_rfl) (by kernel_rfl) (H.kp.sub (by simp)) (fun _ hC => R_from (k := 200) (m := 292) (k' := 200) Try.underlying22 Try.sizeOf5 rfl rfl rfl (by omega) (by decide) (by omega)) ?_
  refine WA_take 2 rfl rfl rfl (by kernel_rfl) (by kernel_rfl) (H.kp.sub (by simp)) (fun _ hC => R_indexAddrA (off' := 0) Try.underlying70 Try.sizeOf69 rfl rfl (by decide) (by decide) (by decide)) ?_
  refine WA_take 3 rfl rfl rfl (by kernel_rfl) (by kernel_rfl) (H.kp.sub (by simp)) (fun _ hC => R_loadA (vs := File.flC f) Try.isAgg69 Try.sizeOf69 rfl (hC.get (.there (.there (.there .here)))) rfl (by simp [File.flC])) ?_
  refine WA_one (i := 4) (by kernel_rfl) ?_
  (refine WI_call rfl (.inl rfl) (R_call rfl Try.call33 rfl) (File.refBytes_ret f hf _) (fun _ _ hR _ => (H.seq0 hR.2).kp.sub (by simp)) ?_; rintro _ w27 ⟨rfl, H1⟩; replace H := H.seq0 H1; clear H1)
  refine WA_one (i := 5) (by kernel_rfl) ?_
  (refine WI_effm rfl (.inl rfl) (E_putS (ys := File.fileBytes f) (a := 200) H (.there (.there (.there (.there (.there .here))))) Try.underlying22 Try.sizeOf5 rfl rfl S_csrc (by rw [l2]) (by omega)) (fun _ _ H => (by first | exact fun h => absurd h (by decide) | exact fun _ => H | exact fun _ => H.none (by repeat' first | exact kNil | apply kCons | apply kApp | assumption | exact OwnS.keys (by assumption)) | exact fun _ => H.dropN (by repeat' first | exact kNil | apply kCons | apply kApp | assumption | exact OwnS.keys (by assumption)) | exact fun _ => H.pop (by assumption) | exact fun _ => (H.pop (by assumption)).pop (by assumption) | exact fun _ => H.kp | exact fun _ => H.kp.tail | exact fun _ => H.kp.tail.tail | exact fun _ => H.kp.tail.tail.tail | exact fun _ => H.kp.sub (by simp) | exact fun _ => Kp.nil | exact fun _ => H.kh (by simp) (by repeat' first | exact kNil | apply kCons | apply kApp | assumption | exact OwnS.keys (by assumption)))) ?_; clear H; rintro _ _ w29 rfl H)
  refine WA_done (by kernel_rfl) ?_
  refine W_seq ?_
  (refine W_draw (Kp [(c5, blk [sl bb 0 492 bc] 22), (c6, blk (Slot.piC p) 67), (c7, blk (Slot.piC q) 67), (c8, blk (File.flC f ++ File.flC h) 70), (c9, blk (Ring.piC r) 73)]) (fun _ => false) (by kernel_rfl) H ?_; clear H; intro w32 H)
  refine WA_take 0 rfl rfl rfl (by kernel_rfl) (by kernel_rfl) (H.kp.sub (by simp)) (fun _ hC => R_load (v := sl bb 0 492 bc) Try.isAgg22 rfl (hC.get .here) rfl) ?_
  refine WA_take 1 rfl rfl rfl (by kernel_rfl) (by kernel_rfl) (H.kp.sub (by simp)) (fun _ hC => R_from (k := 208) (m := 284) (k' := 208) Try.underlying22 Try.sizeOf5 rfl rfl rfl (by omega) (by decide) (by omega)) ?_
  refine WA_take 2 rfl rfl rfl (by kernel_rfl) (by kernel_rfl) (H.kp.sub (by simp)) (fun _ hC => R_indexAddrA (off' := 4) Try.underlying70 Try.sizeOf69 rfl rfl (by decide) (by decide) (by decide)) ?_
  refine WA_take 3 rfl rfl rfl (by kernel_rfl) (by kernel_rfl) (H.kp.sub (by simp)) (fun _ hC => R_loadA (vs := File.flC h) Try.isAgg69 Try.sizeOf69 rfl (hC.get (.there (.there (.there .here)))) rfl (by simp [File.flC])) ?_
  refine WA_one (i := 4) (by kernel_rfl) ?_
  (refine WI_call rfl (.inl rfl) (R_call rfl Try.call33 rfl) (File.refBytes_ret h hh _) (fun _ _ hR _ => (H.seq0 hR.2).kp.sub (by simp)) ?_; rintro _ w38 ⟨rfl, H1⟩; replace H := H.seq0 H1; clear H1)
  refine WA_one (i := 5) (by kernel_rfl) ?_
  (refine WI_effm rfl (.inl rfl) (E_putS (ys := File.fileBytes h) (a := 208) H (.there (.there (.there (.there (.there .here))))) Try.underlying22 Try.sizeOf5 rfl rfl S_csrc (by rw [l3]) (by omega)) (fun _ _ H => (by first | exact fun h => absurd h (by decide) | exact fun _ => H | exact fun _ => H.none (by repeat' first | exact kNil | apply kCons | apply kApp | assumption | exact OwnS.keys (by assumption)) | exact fun _ => H.dropN (by repeat' first | exact kNil | apply kCons | apply kApp | assumption | exact OwnS.keys (by assumption)) | exact fun _ => H.pop (by assumption) | exact fun _ => (H.pop (by assumption)).pop (by assumption) | exact fun _ => H.kp | exact fun _ => H.kp.tail | exact fun _ => H.kp.tail.tail | exact fun _ => H.kp.tail.tail.tail | exact fun _ => H.kp.sub (by simp) | exact fun _ => Kp.nil | exact fun _ => H.kh (by simp) (by repeat' first | exact kNil | apply kCons | apply kApp | assumption | exact OwnS.keys (by assumption)))) ?_; clear H; rintro _ _ w40 rfl H)
  refine WA_done (by kernel_rfl) ?_
  (refine W_draw (Kp [(c5, blk [sl bb 0 492 bc] 22), (c6, blk (Slot.piC p) 67), (c7, blk (Slot.piC q) 67), (c8, blk (File.flC f ++ File.flC h) 70), (c9, blk (Ring.piC r) 73)]) (fun _ => false) (by kernel_rfl) H ?_; clear H; intro w42 H)
  refine WA_take 0 rfl rfl rfl (by kernel_rfl) (by kernel_rfl) (H.kp.sub (by simp)) (fun _ hC => R_load (v := sl bb 0 492 bc) Try.isAgg22 rfl (hC.get .here) rfl) ?_
  refine WA_take 1 rfl rfl rfl (by kernel_rfl) (by kernel_rfl) (H.kp.sub (by simp)) (fun _ hC => R_from (k := 368) (m := 124) (k' := 368) Try.underlying22 Try.sizeOf5 rfl rfl rfl (by omega) (by decide) (by omega)) ?_
  refine WA_take 2 rfl rfl rfl (by kernel_rfl) (by kernel_rfl) (H.kp.sub (by simp)) (fun _ hC => Ring.R_loadP (p := r) rfl (hC.get (.there (.there (.there (.there .here)))))) ?_
  refine WA_one (i := 3) (by kernel_rfl) ?_
  (refine WI_call rfl (.inl rfl) (R_call rfl Try.call34 rfl) (Ring.refBytes_ret r hr _) (fun _ _ hR _ => (H.seq0 hR.2).kp.sub (by simp)) ?_; rintro _ w47 ⟨rfl, H1⟩; replace H := H.seq0 H1; clear H1)
  refine WA_one (i := 4) (by kernel_rfl) ?_
  (refine WI_effm rfl (.inl rfl) (E_putS (ys := Ring.bytesP r) (a := 368) H (.there (.there (.there (.there (.there .here))))) Try.underlying22 Try.sizeOf5 rfl rfl S_csrc (by rw [l4]) (by omega)) (fun _ _ H => (by first | exact fun h => absurd h (by decide) | exact fun _ => H | exact fun _ => H.none (by repeat' first | exact kNil | apply kCons | apply kApp | assumption | exact OwnS.keys (by assumption)) | exact fun _ => H.dropN (by repeat' first | exact kNil | apply kCons | apply kApp | assumption | exact OwnS.keys (by assumption)) | exact fun _ => H.pop (by assumption) | exact fun _ => (H.pop (by assumption)).pop (by assumption) | exact fun _ => H.kp | exact fun _ => H.kp.tail | exact fun _ => H.kp.tail.tail | exact fun _ => H.kp.tail.tail.tail | exact fun _ => H.kp.sub (by simp) | exact fun _ => Kp.nil | exact fun _ => H.kh (by simp) (by repeat' first | exact kNil | apply kCons | apply kApp | assumption | exact OwnS.keys (by assumption)))) ?_; clear H; rintro _ _ w49 rfl H)
  refine WA_done (by kernel_rfl) ?_
  exact ⟨_, rfl, H⟩

/-- the links, whole -/
def lp : Slot.Pi := { Slot.zeroP with s := 1, f := [0, 2, 3, 0, 0, 0, 0, 0], hf := rfl }
def lq : Slot.Pi := { Slot.zeroP with s := 1, p := 1, f := [2, 0, 0, 0, 0, 0, 0, 0], hf := rfl }
def lf : File.Fl := ⟨1, 2, 2, 0⟩
def lh : File.Fl := ⟨2, 2, 1, 0⟩
/-- the links, one made wrong -/
def wp (W B : Nat) : Slot.Pi := if W = 7 then { lp with g := (B : Int) } else lp
def wq (W B : Nat) : Slot.Pi := if W = 0 then { lq with p := 2 } else if W = 1 then { lq with p := ((2 + B : Nat) : Int) } else if W = 2 then { lq with f := [2, ((8 + B : Nat) : Int), 0, 0, 0, 0, 0, 0], hf := rfl } else lq
def wf (W B : Nat) : File.Fl := if W = 3 then ⟨1, 2, ((2 + B : Nat) : Int), 0⟩ else lf
def wh (W : Nat) : File.Fl := if W = 4 then ⟨2, 2, 1, 1⟩ else lh
def wr (W B : Nat) : Ring.Pi := if W = 5 then { pipe11 with r := ((1 + B : Nat) : Int) } else if W = 6 then { pipe11 with w := 0 } else pipe11
def want (W : Nat) : List UInt8 := if W = 0 ∨ W = 1 then [112, 97, 114, 101, 110, 116] else if W = 2 then [102, 100] else if W = 3 then [114, 101, 102, 115] else if W = 5 ∨ W = 6 then [101, 110, 100, 115] else []
def X1 : List UInt8 := putAll blankB lp lq lf lh pipe11
def X2 (W B : Nat) : List UInt8 := putAll X1 (wp W B) (wq W B) (wf W B) (wh W) (wr W B)
theorem X1_faults : faults X1 = [] := by kernel_rfl
theorem w_ok (W B : Nat) (hW : W < 8) (hB : 1 ≤ B ∧ B ≤ 4) : Slot.okP (wp W B) ∧ Slot.okP (wq W B) ∧ File.fileOk (wf W B) ∧ File.fileOk (wh W) ∧ Ring.okP (wr W B) := by
  have : ∀ W : Fin 8, ∀ B : Fin 4, Slot.okP (wp W.val (B.val + 1)) ∧ Slot.okP (wq W.val (B.val + 1)) ∧ File.fileOk (wf W.val (B.val + 1)) ∧ File.fileOk (wh W.val) ∧ Ring.okP (wr W.val (B.val + 1)) := by decide +kernel
  have h := this ⟨W, hW⟩ ⟨B - 1, by omega⟩
  simp only [show B - 1 + 1 = B from by omega] at h
  exact h
theorem X2_faults (W B : Nat) (hW : W < 8) (hB : 1 ≤ B ∧ B ≤ 4) : faults (X2 W B) = if want W = [] then [] else [want W] := by
  have : ∀ W : Fin 8, ∀ B : Fin 4, faults (X2 W.val (B.val + 1)) = if want W.val = [] then [] else [want W.val] := by decide +kernel
  have h := this ⟨W, hW⟩ ⟨B - 1, by omega⟩
  simp only [show B - 1 + 1 = B from by omega] at h
  exact h
end Go.Proofs.Ythonajikgljgmaa.Aud

/-
Commons that were looked at: records are set, and freed. Records beside each other: what is put into one changes no other; commons that were looked at stay so. Commons that were looked at, and stay so: what is set, and freed, as functions of the bytes. Hosts: the section is asked for, left, and quit, whoever waits. Processes: who one is; the least free slot; the slots of which something is true. Processes: what a fork shares; a fork. Processes: a fork; a file that is closed. Processes: all files closed; children left alone; an end; a wait. Processes: children are left alone; an end; a wait. Processes: an end; a wait. Processes: a wait. Calls of forks, ends and waits; signals that nobody sent.
-/
import Derived.Test.YtlpmfldijgdcoaaGreatDoorK5
set_option maxRecDepth 100000
set_option maxHeartbeats 16000000
namespace Go.Proofs.YtlpmfldijgdcoaaGreatDoor.Cm
open Go Go.Proofs Fx Kn Tryz
theorem fenc_no (f : File.Fl) (hok : ¬ File.Yz f) (w : World) :
  Ret Tryz.prog 88 #[File.vF f] w fun v w' => v = .tuple #[nilS, .bool false] ∧ Hp w [] w' :=
 (File.Bl f w).mono fun v w' h => by
  rcases h with ⟨h, _⟩ | ⟨_, h⟩
  ·exact (hok h).elim
  ·exact h
section
variable {w : World} {c : Nat} {C : Cs}
theorem CmI.same0 (hM : CmI w c C) {w' : World} (H : Hp w [] w') : Hp w C.mB w' := H.foc hM.hK.hb Xu
theorem SetProc_gen (hM : CmI w c C) {i : Nat} {j at_ : Nat} (hr : Rc C.nms.length 1 i j at_ 24) (p : Slot.Pi) (hlen : (Slot.Xm p).length = 24) :
  Ret Tryz.prog 58 #[ptr c 0, I i, Slot.vP p] w fun v w' => v = .bool (decide (((1 : Int), ((i : Nat) : Int)) ∉ C.bad ∧ Slot.okP p)) ∧ Hp w (C.Xh (if ((1 : Int), ((i : Nat) : Int)) ∉ C.bad ∧ Slot.okP p then (C.put j at_ (Slot.Xm p)).κ.xs else C.κ.xs)).mB w' := by
 refine Qi (args := [_, _, _]) func58 rfl ntmps58 results58 (by simp) ?_
 have H := Hp.refl w
 have hbk := hM.hK.hb
 by_cases hb : ((1 : Int), ((i : Nat) : Int)) ∈ C.bad
 ·rw [if_neg (fun h => h.1 hb), decide_eq_false (fun h => h.1 hb)]
  by_cases hok : Slot.okP p
  ·(refine Js (Jr (Qb rfl (Slot.Ys H rfl) ?_)); clear H; intro cb w3 hcb H)
   (refine Ja (Jn (Js (Jr (J (Slot.Xa rfl (H.get .here)) (Jy rfl call91 rfl (Slot.Db p hok _) ?_))))); rintro _ w9 ⟨b, rfl, hb9, H1⟩; have hsz := H.size; replace H := H.Zo H1 (Qu hb9 Xu); replace hb9 := Nat.le_trans hsz hb9; clear H1 hsz)
   (refine Jm (Jx rfl rfl (Jx rfl rfl (Ja (Ja (Jn (Js (Jr (Jm (Jm (Jz rfl call92 rfl (C_proc _ _) H ?_)))))))))); intro w20 H)
   (refine Jm (Jm (Jz rfl call86 rfl (Ui (kind := 1) (idx := i) (hM.Ql H kYs) hr hb true) H ?_)); intro w23 H)
   refine Ja (Jn (Je ?_))
   exact ⟨_, rfl, rfl, hM.same0 (H.none kYs)⟩
  ·(refine Js (Jr (Qb rfl (Slot.Ys H rfl) ?_)); clear H; intro cb w3 hcb H)
   (refine Ja (Jn (Js (Jr (J (Slot.Xa rfl (H.get .here)) (Jz rfl call91 rfl (Slot.enc_no p hok _) H ?_))))); intro w9 H)
   (refine Jm (Jx rfl rfl (Jx rfl rfl (Ja (Ja (Jn (Js (Jr (Jm (Jm (Jz rfl call92 rfl (C_proc _ _) H ?_)))))))))); intro w20 H)
   (refine Jm (Jm (Jz rfl call86 rfl (Ui (kind := 1) (idx := i) (hM.Ql H kYs) hr hb false) H ?_)); intro w23 H)
   refine Ja (Jn (Je ?_))
   exact ⟨_, rfl, rfl, hM.same0 (H.none kYs)⟩
 ·by_cases hok : Slot.okP p
  ·rw [if_pos ⟨hb, hok⟩, decide_eq_true (show ((1 : Int), ((i : Nat) : Int)) ∉ C.bad ∧ Slot.okP p from ⟨hb, hok⟩)]
   (refine Js (Jr (Qb rfl (Slot.Ys H rfl) ?_)); clear H; intro cb w3 hcb H)
   (refine Ja (Jn (Js (Jr (J (Slot.Xa rfl (H.get .here)) (Jy rfl call91 rfl (Slot.Db p hok _) ?_))))); rintro _ w9 ⟨b, rfl, hb9, H1⟩; have hsz := H.size; replace H := H.Zo H1 (Qu hb9 Xu); replace hb9 := Nat.le_trans hsz hb9; clear H1 hsz)
   (refine Jm (Jx rfl rfl (Jx rfl rfl (Ja (Ja (Jn (Js (Jr (Jm (Jm (Jz rfl call92 rfl (C_proc _ _) H ?_)))))))))); intro w20 H)
   (refine Jm (Jm (Jy rfl call86 rfl (Uh (kind := 1) (idx := i) (hM.Ql H kYs) hr hb (RdS.blk (H.get .here) (by rw [List.drop_zero, List.take_of_length_le (by rw [List.length_map, hlen]; exact Nat.le_refl _)]) (by rw [List.length_map, hlen]; exact Nat.le_refl _) (Nat.le_refl _)) hlen) ?_)); rintro _ w23 ⟨rfl, hM2, H1⟩; replace H := H.Bx hbk kYs H1; clear H1)
   refine Ja (Jn (Je ?_))
   exact ⟨_, rfl, rfl, (H.pop2 (by assumption)).pop2 (by assumption)⟩
  ·rw [if_neg (fun h => hok h.2), decide_eq_false (fun h => hok h.2)]
   (refine Js (Jr (Qb rfl (Slot.Ys H rfl) ?_)); clear H; intro cb w3 hcb H)
   (refine Ja (Jn (Js (Jr (J (Slot.Xa rfl (H.get .here)) (Jz rfl call91 rfl (Slot.enc_no p hok _) H ?_))))); intro w9 H)
   (refine Jm (Jx rfl rfl (Jx rfl rfl (Ja (Ja (Jn (Js (Jr (Jm (Jm (Jz rfl call92 rfl (C_proc _ _) H ?_)))))))))); intro w20 H)
   (refine Jm (Jm (Jz rfl call86 rfl (No (kind := 1) (idx := i) (hM.Ql H kYs) hr) H ?_)); intro w23 H)
   refine Ja (Jn (Je ?_))
   exact ⟨_, rfl, rfl, hM.same0 (H.none kYs)⟩
theorem SetFile_gen (hM : CmI w c C) {i : Nat} {j at_ : Nat} (hr : Rc C.nms.length 2 i j at_ 8) (p : File.Fl) (hlen : (File.Yj p).length = 8) :
  Ret Tryz.prog 56 #[ptr c 0, I i, File.vF p] w fun v w' => v = .bool (decide (((2 : Int), ((i : Nat) : Int)) ∉ C.bad ∧ File.Yz p)) ∧ Hp w (C.Xh (if ((2 : Int), ((i : Nat) : Int)) ∉ C.bad ∧ File.Yz p then (C.put j at_ (File.Yj p)).κ.xs else C.κ.xs)).mB w' := by
 refine Qi (args := [_, _, _]) func56 rfl ntmps56 results56 (by simp) ?_
 have H := Hp.refl w
 have hbk := hM.hK.hb
 by_cases hb : ((2 : Int), ((i : Nat) : Int)) ∈ C.bad
 ·rw [if_neg (fun h => h.1 hb), decide_eq_false (fun h => h.1 hb)]
  by_cases hok : File.Yz p
  ·(refine Js (Jr (Qb rfl (File.E_boxL H rfl) ?_)); clear H; intro cb w3 hcb H)
   (refine Ja (Jn (Js (Jr (J (File.Df rfl (H.get .here)) (Jy rfl call88 rfl (fenc_yes p hok _) ?_))))); rintro _ w9 ⟨b, rfl, hb9, H1⟩; have hsz := H.size; replace H := H.Zo H1 (Qu hb9 Xu); replace hb9 := Nat.le_trans hsz hb9; clear H1 hsz)
   (refine Jm (Jx rfl rfl (Jx rfl rfl (Ja (Ja (Jn (Js (Jr (Jm (Jm (Jz rfl call89 rfl (C_file _ _) H ?_)))))))))); intro w20 H)
   (refine Jm (Jm (Jz rfl call86 rfl (Ui (kind := 2) (idx := i) (hM.Ql H kYs) hr hb true) H ?_)); intro w23 H)
   refine Ja (Jn (Je ?_))
   exact ⟨_, rfl, rfl, hM.same0 (H.none kYs)⟩
  ·(refine Js (Jr (Qb rfl (File.E_boxL H rfl) ?_)); clear H; intro cb w3 hcb H)
   (refine Ja (Jn (Js (Jr (J (File.Df rfl (H.get .here)) (Jz rfl call88 rfl (fenc_no p hok _) H ?_))))); intro w9 H)
   (refine Jm (Jx rfl rfl (Jx rfl rfl (Ja (Ja (Jn (Js (Jr (Jm (Jm (Jz rfl call89 rfl (C_file _ _) H ?_)))))))))); intro w20 H)
   (refine Jm (Jm (Jz rfl call86 rfl (Ui (kind := 2) (idx := i) (hM.Ql H kYs) hr hb false) H ?_)); intro w23 H)
   refine Ja (Jn (Je ?_))
   exact ⟨_, rfl, rfl, hM.same0 (H.none kYs)⟩
 ·by_cases hok : File.Yz p
  ·rw [if_pos ⟨hb, hok⟩, decide_eq_true (show ((2 : Int), ((i : Nat) : Int)) ∉ C.bad ∧ File.Yz p from ⟨hb, hok⟩)]
   (refine Js (Jr (Qb rfl (File.E_boxL H rfl) ?_)); clear H; intro cb w3 hcb H)
   (refine Ja (Jn (Js (Jr (J (File.Df rfl (H.get .here)) (Jy rfl call88 rfl (fenc_yes p hok _) ?_))))); rintro _ w9 ⟨b, rfl, hb9, H1⟩; have hsz := H.size; replace H := H.Zo H1 (Qu hb9 Xu); replace hb9 := Nat.le_trans hsz hb9; clear H1 hsz)
   (refine Jm (Jx rfl rfl (Jx rfl rfl (Ja (Ja (Jn (Js (Jr (Jm (Jm (Jz rfl call89 rfl (C_file _ _) H ?_)))))))))); intro w20 H)
   (refine Jm (Jm (Jy rfl call86 rfl (Uh (kind := 2) (idx := i) (hM.Ql H kYs) hr hb (RdS.blk (H.get .here) (by rw [List.drop_zero, List.take_of_length_le (by rw [List.length_map, hlen]; exact Nat.le_refl _)]) (by rw [List.length_map, hlen]; exact Nat.le_refl _) (Nat.le_refl _)) hlen) ?_)); rintro _ w23 ⟨rfl, hM2, H1⟩; replace H := H.Bx hbk kYs H1; clear H1)
   refine Ja (Jn (Je ?_))
   exact ⟨_, rfl, rfl, (H.pop2 (by assumption)).pop2 (by assumption)⟩
  ·rw [if_neg (fun h => hok h.2), decide_eq_false (fun h => hok h.2)]
   (refine Js (Jr (Qb rfl (File.E_boxL H rfl) ?_)); clear H; intro cb w3 hcb H)
   (refine Ja (Jn (Js (Jr (J (File.Df rfl (H.get .here)) (Jz rfl call88 rfl (fenc_no p hok _) H ?_))))); intro w9 H)
   (refine Jm (Jx rfl rfl (Jx rfl rfl (Ja (Ja (Jn (Js (Jr (Jm (Jm (Jz rfl call89 rfl (C_file _ _) H ?_)))))))))); intro w20 H)
   (refine Jm (Jm (Jz rfl call86 rfl (No (kind := 2) (idx := i) (hM.Ql H kYs) hr) H ?_)); intro w23 H)
   refine Ja (Jn (Je ?_))
   exact ⟨_, rfl, rfl, hM.same0 (H.none kYs)⟩
theorem SetPipe_gen (hM : CmI w c C) {i : Nat} {j at_ : Nat} (hr : Rc C.nms.length 3 i j at_ 40) (p : Ring.Pi) (hlen : (Ring.Xm p).length = 40) :
  Ret Tryz.prog 57 #[ptr c 0, I i, Ring.vP p] w fun v w' => v = .bool (decide (((3 : Int), ((i : Nat) : Int)) ∉ C.bad ∧ Ring.okP p)) ∧ Hp w (C.Xh (if ((3 : Int), ((i : Nat) : Int)) ∉ C.bad ∧ Ring.okP p then (C.put j at_ (Ring.Xm p)).κ.xs else C.κ.xs)).mB w' := by
 refine Qi (args := [_, _, _]) func57 rfl ntmps57 results57 (by simp) ?_
 have H := Hp.refl w
 have hbk := hM.hK.hb
 by_cases hb : ((3 : Int), ((i : Nat) : Int)) ∈ C.bad
 ·rw [if_neg (fun h => h.1 hb), decide_eq_false (fun h => h.1 hb)]
  by_cases hok : Ring.okP p
  ·(refine Js (Jr (Qb rfl (Ring.Ys H rfl) ?_)); clear H; intro cb w3 hcb H)
   (refine Ja (Jn (Js (Jr (J (Ring.Xa rfl (H.get .here)) (Jy rfl call85 rfl (Ring.Db p hok _) ?_))))); rintro _ w9 ⟨b, rfl, hb9, H1⟩; have hsz := H.size; replace H := H.Zo H1 (Qu hb9 Xu); replace hb9 := Nat.le_trans hsz hb9; clear H1 hsz)
   (refine Jm (Jx rfl rfl (Jx rfl rfl (Ja (Ja (Jn (Js (Jr (Jm (Jm (Jz rfl call90 rfl (C_pipe _ _) H ?_)))))))))); intro w20 H)
   (refine Jm (Jm (Jz rfl call86 rfl (Ui (kind := 3) (idx := i) (hM.Ql H kYs) hr hb true) H ?_)); intro w23 H)
   refine Ja (Jn (Je ?_))
   exact ⟨_, rfl, rfl, hM.same0 (H.none kYs)⟩
  ·(refine Js (Jr (Qb rfl (Ring.Ys H rfl) ?_)); clear H; intro cb w3 hcb H)
   (refine Ja (Jn (Js (Jr (J (Ring.Xa rfl (H.get .here)) (Jz rfl call85 rfl (Ring.enc_no p hok _) H ?_))))); intro w9 H)
   (refine Jm (Jx rfl rfl (Jx rfl rfl (Ja (Ja (Jn (Js (Jr (Jm (Jm (Jz rfl call90 rfl (C_pipe _ _) H ?_)))))))))); intro w20 H)
   (refine Jm (Jm (Jz rfl call86 rfl (Ui (kind := 3) (idx := i) (hM.Ql H kYs) hr hb false) H ?_)); intro w23 H)
   refine Ja (Jn (Je ?_))
   exact ⟨_, rfl, rfl, hM.same0 (H.none kYs)⟩
 ·by_cases hok : Ring.okP p
  ·rw [if_pos ⟨hb, hok⟩, decide_eq_true (show ((3 : Int), ((i : Nat) : Int)) ∉ C.bad ∧ Ring.okP p from ⟨hb, hok⟩)]
   (refine Js (Jr (Qb rfl (Ring.Ys H rfl) ?_)); clear H; intro cb w3 hcb H)
   (refine Ja (Jn (Js (Jr (J (Ring.Xa rfl (H.get .here)) (Jy rfl call85 rfl (Ring.Db p hok _) ?_))))); rintro _ w9 ⟨b, rfl, hb9, H1⟩; have hsz := H.size; replace H := H.Zo H1 (Qu hb9 Xu); replace hb9 := Nat.le_trans hsz hb9; clear H1 hsz)
   (refine Jm (Jx rfl rfl (Jx rfl rfl (Ja (Ja (Jn (Js (Jr (Jm (Jm (Jz rfl call90 rfl (C_pipe _ _) H ?_)))))))))); intro w20 H)
   (refine Jm (Jm (Jy rfl call86 rfl (Uh (kind := 3) (idx := i) (hM.Ql H kYs) hr hb (RdS.blk (H.get .here) (by rw [List.drop_zero, List.take_of_length_le (by rw [List.length_map, hlen]; exact Nat.le_refl _)]) (by rw [List.length_map, hlen]; exact Nat.le_refl _) (Nat.le_refl _)) hlen) ?_)); rintro _ w23 ⟨rfl, hM2, H1⟩; replace H := H.Bx hbk kYs H1; clear H1)
   refine Ja (Jn (Je ?_))
   exact ⟨_, rfl, rfl, (H.pop2 (by assumption)).pop2 (by assumption)⟩
  ·rw [if_neg (fun h => hok h.2), decide_eq_false (fun h => hok h.2)]
   (refine Js (Jr (Qb rfl (Ring.Ys H rfl) ?_)); clear H; intro cb w3 hcb H)
   (refine Ja (Jn (Js (Jr (J (Ring.Xa rfl (H.get .here)) (Jz rfl call85 rfl (Ring.enc_no p hok _) H ?_))))); intro w9 H)
   (refine Jm (Jx rfl rfl (Jx rfl rfl (Ja (Ja (Jn (Js (Jr (Jm (Jm (Jz rfl call90 rfl (C_pipe _ _) H ?_)))))))))); intro w20 H)
   (refine Jm (Jm (Jz rfl call86 rfl (No (kind := 3) (idx := i) (hM.Ql H kYs) hr) H ?_)); intro w23 H)
   refine Ja (Jn (Je ?_))
   exact ⟨_, rfl, rfl, hM.same0 (H.none kYs)⟩
theorem SetTerm_gen (hM : CmI w c C) {j at_ : Nat} (hr : Rc C.nms.length 4 0 j at_ 40) (p : Ring.Pi) (hlen : (Ring.Xm p).length = 40) :
  Ret Tryz.prog 54 #[ptr c 0, Ring.vP p] w fun v w' => v = .bool (decide (((4 : Int), ((0 : Nat) : Int)) ∉ C.bad ∧ Ring.okP p)) ∧ Hp w (C.Xh (if ((4 : Int), ((0 : Nat) : Int)) ∉ C.bad ∧ Ring.okP p then (C.put j at_ (Ring.Xm p)).κ.xs else C.κ.xs)).mB w' := by
 refine Qi (args := [_, _]) func54 rfl ntmps54 results54 (by simp) ?_
 have H := Hp.refl w
 have hbk := hM.hK.hb
 by_cases hb : ((4 : Int), ((0 : Nat) : Int)) ∈ C.bad
 ·rw [if_neg (fun h => h.1 hb), decide_eq_false (fun h => h.1 hb)]
  by_cases hok : Ring.okP p
  ·(refine Js (Jr (Qb rfl (Ring.Ys H rfl) ?_)); clear H; intro cb w3 hcb H)
   (refine Ja (Jn (Js (Jr (J (Ring.Xa rfl (H.get .here)) (Jy rfl call85 rfl (Ring.Db p hok _) ?_))))); rintro _ w9 ⟨b, rfl, hb9, H1⟩; have hsz := H.size; replace H := H.Zo H1 (Qu hb9 Xu); replace hb9 := Nat.le_trans hsz hb9; clear H1 hsz)
   (refine Jm (Jx rfl rfl (Jx rfl rfl (Ja (Ja (Jn (Js (Jr (Jm (J (Qm (places := [(0, 1), (1, 1)]) (vs := [I ((4 : Nat) : Int), I ((0 : Nat) : Int)]) underlying182 typeInfo182 rfl rfl (by kernel_rfl) rfl rfl rfl) (Jm (Jm (Jz rfl call86 rfl (Ui (kind := 4) (idx := 0) (hM.Ql H kYs) hr hb true) H ?_)))))))))))); intro w22 H)
   refine Ja (Jn (Je ?_))
   exact ⟨_, rfl, rfl, hM.same0 (H.none kYs)⟩
  ·(refine Js (Jr (Qb rfl (Ring.Ys H rfl) ?_)); clear H; intro cb w3 hcb H)
   (refine Ja (Jn (Js (Jr (J (Ring.Xa rfl (H.get .here)) (Jz rfl call85 rfl (Ring.enc_no p hok _) H ?_))))); intro w9 H)
   (refine Jm (Jx rfl rfl (Jx rfl rfl (Ja (Ja (Jn (Js (Jr (Jm (J (Qm (places := [(0, 1), (1, 1)]) (vs := [I ((4 : Nat) : Int), I ((0 : Nat) : Int)]) underlying182 typeInfo182 rfl rfl (by kernel_rfl) rfl rfl rfl) (Jm (Jm (Jz rfl call86 rfl (Ui (kind := 4) (idx := 0) (hM.Ql H kYs) hr hb false) H ?_)))))))))))); intro w22 H)
   refine Ja (Jn (Je ?_))
   exact ⟨_, rfl, rfl, hM.same0 (H.none kYs)⟩
 ·by_cases hok : Ring.okP p
  ·rw [if_pos ⟨hb, hok⟩, decide_eq_true (show ((4 : Int), ((0 : Nat) : Int)) ∉ C.bad ∧ Ring.okP p from ⟨hb, hok⟩)]
   (refine Js (Jr (Qb rfl (Ring.Ys H rfl) ?_)); clear H; intro cb w3 hcb H)
   (refine Ja (Jn (Js (Jr (J (Ring.Xa rfl (H.get .here)) (Jy rfl call85 rfl (Ring.Db p hok _) ?_))))); rintro _ w9 ⟨b, rfl, hb9, H1⟩; have hsz := H.size; replace H := H.Zo H1 (Qu hb9 Xu); replace hb9 := Nat.le_trans hsz hb9; clear H1 hsz)
   (refine Jm (Jx rfl rfl (Jx rfl rfl (Ja (Ja (Jn (Js (Jr (Jm (J (Qm (places := [(0, 1), (1, 1)]) (vs := [I ((4 : Nat) : Int), I ((0 : Nat) : Int)]) underlying182 typeInfo182 rfl rfl (by kernel_rfl) rfl rfl rfl) (Jm (Jm (Jy rfl call86 rfl (Uh (kind := 4) (idx := 0) (hM.Ql H kYs) hr hb (RdS.blk (H.get .here) (by rw [List.drop_zero, List.take_of_length_le (by rw [List.length_map, hlen]; exact Nat.le_refl _)]) (by rw [List.length_map, hlen]; exact Nat.le_refl _) (Nat.le_refl _)) hlen) ?_)))))))))))); rintro _ w22 ⟨rfl, hM2, H1⟩; replace H := H.Bx hbk kYs H1; clear H1)
   refine Ja (Jn (Je ?_))
   exact ⟨_, rfl, rfl, (H.pop2 (by assumption)).pop2 (by assumption)⟩
  ·rw [if_neg (fun h => hok h.2), decide_eq_false (fun h => hok h.2)]
   (refine Js (Jr (Qb rfl (Ring.Ys H rfl) ?_)); clear H; intro cb w3 hcb H)
   (refine Ja (Jn (Js (Jr (J (Ring.Xa rfl (H.get .here)) (Jz rfl call85 rfl (Ring.enc_no p hok _) H ?_))))); intro w9 H)
   (refine Jm (Jx rfl rfl (Jx rfl rfl (Ja (Ja (Jn (Js (Jr (Jm (J (Qm (places := [(0, 1), (1, 1)]) (vs := [I ((4 : Nat) : Int), I ((0 : Nat) : Int)]) underlying182 typeInfo182 rfl rfl (by kernel_rfl) rfl rfl rfl) (Jm (Jm (Jz rfl call86 rfl (No (kind := 4) (idx := 0) (hM.Ql H kYs) hr) H ?_)))))))))))); intro w22 H)
   refine Ja (Jn (Je ?_))
   exact ⟨_, rfl, rfl, hM.same0 (H.none kYs)⟩
theorem SetPipe_out (hM : CmI w c C) {i : Nat} (hi : 3 + C.nms.length ≤ i) (hb : i ≤ 1000) (p : Ring.Pi) :
  Ret Tryz.prog 57 #[ptr c 0, I i, Ring.vP p] w fun v w' => v = .bool false ∧ Hp w [] w' := by
 refine Qi (args := [_, _, _]) func57 rfl ntmps57 results57 (by simp) ?_
 have H := Hp.refl w
 by_cases hok : Ring.okP p
 ·(refine Js (Jr (Qb rfl (Ring.Ys H rfl) ?_)); clear H; intro cb w3 hcb H)
  (refine Ja (Jn (Js (Jr (J (Ring.Xa rfl (H.get .here)) (Jy rfl call85 rfl (Ring.Db p hok _) ?_))))); rintro _ w9 ⟨b, rfl, hb9, H1⟩; have hsz := H.size; replace H := H.Zo H1 (Qu hb9 Xu); replace hb9 := Nat.le_trans hsz hb9; clear H1 hsz)
  (refine Jm (Jx rfl rfl (Jx rfl rfl (Ja (Ja (Jn (Js (Jr (Jm (Jm (Jz rfl call90 rfl (C_pipe _ _) H ?_)))))))))); intro w20 H)
  (refine Jm (Jm (Jz rfl call86 rfl (write_out (kind := 3) (idx := i) (hM.Ql H kYs) rfl hi hb true) H ?_)); intro w23 H)
  refine Ja (Jn (Je ?_))
  exact ⟨_, rfl, rfl, H.none kYs⟩
 ·(refine Js (Jr (Qb rfl (Ring.Ys H rfl) ?_)); clear H; intro cb w3 hcb H)
  (refine Ja (Jn (Js (Jr (J (Ring.Xa rfl (H.get .here)) (Jz rfl call85 rfl (Ring.enc_no p hok _) H ?_))))); intro w9 H)
  (refine Jm (Jx rfl rfl (Jx rfl rfl (Ja (Ja (Jn (Js (Jr (Jm (Jm (Jz rfl call90 rfl (C_pipe _ _) H ?_)))))))))); intro w20 H)
  (refine Jm (Jm (Jz rfl call86 rfl (write_out (kind := 3) (idx := i) (hM.Ql H kYs) rfl hi hb false) H ?_)); intro w23 H)
  refine Ja (Jn (Je ?_))
  exact ⟨_, rfl, rfl, H.none kYs⟩
theorem blank_gen (hM : CmI w c C) {kind idx j at_ n : Nat} (h : Rc C.nms.length kind idx j at_ n) :
  Ret Tryz.prog 231 #[ptr c 0, .agg #[I kind, I idx]] w fun v w' => v = .bool (decide (((kind : Int), (idx : Int)) ∉ C.bad)) ∧ Hp w (C.Xh (if ((kind : Int), (idx : Int)) ∉ C.bad then (C.put j at_ (List.replicate n 0)).κ.xs else C.κ.xs)).mB w' := by
 refine Qi (args := [_, _]) func231 rfl ntmps231 results231 (by simp) ?_
 have H := Hp.refl w
 have hbk := hM.hK.hb
 obtain ⟨nm, x, hnm, hx, hfit, hn40, ha5⟩ := h.fit hM
 have hn : ((n : Nat) : Int).toNat = n := by simp
 by_cases hb : ((kind : Int), (idx : Int)) ∈ C.bad
 ·rw [if_neg (fun h => h hb), decide_eq_false (fun h => h hb)]
  (refine Js (Jr (Qb rfl (Xl (vs := [I kind, I idx]) H rfl rfl) ?_)); clear H; intro c3 w3 hc3 H)
  (refine Ja (Jn (Js (Jr (Jm (J (Qo (vs := [I kind, I idx]) isAgg182 sizeOf182 rfl (H.get .here) rfl (by simp)) (Jz rfl call124 rfl (Vp (hM.Ql H kYs) h hnm) H ?_)))))); intro w10 H)
  (refine Jm (Jx rfl rfl (Jx rfl rfl (Qb rfl (Qp (vs := [I 0, I 0, I 0]) H zeroValue217 rfl) ?_))); clear H; intro c5 w14 hc5 H)
  (refine Qd rfl (Qg (vs := [I nm, I at_, I n]) H sizeOf217 rfl rfl (by simp [Value.oneCell']) .here (by simp)) ?_; clear H; intro w15 H; replace H : Hp w [(c5, blk [I nm, I at_, I n] 217), (c3, blk [I kind, I idx] 182)] w15 := H)
  refine Ja (Jn (Js ?_))
  (refine Xi (fun w2 => w2.heap[c5]? = some (blk [I nm, I at_, I n] 217) ∧ w2.heap[c3]? = some (blk [I kind, I idx] 182)) (fun _ => false) (by kernel_rfl) H ?_; clear H; intro w19 H)
  (refine Am 0 rfl ⟨H.get .here, H.get (.there .here)⟩ (Az 1 rfl rfl ⟨H.get .here, H.get (.there .here)⟩ (fun _ hC => Qo (vs := [I kind, I idx]) isAgg182 sizeOf182 rfl hC.2 rfl (by simp)) (Az 2 rfl rfl ⟨H.get .here, H.get (.there .here)⟩ (fun _ hC => Qa (off' := 2) underlying217 rfl sizeOf3 (by decide) rfl rfl) (Az 3 rfl rfl ⟨H.get .here, H.get (.there .here)⟩ (fun _ hC => Qe (v := I n) isAgg3 rfl hC.1 rfl) (Am 5 rfl ⟨H.get .here, H.get (.there .here)⟩ (Ao 4 (Xd rfl (.inl rfl) (Vf H underlying36 sizeOf5 typeInfo5 zeroValue5 rfl rfl rfl (by omega) (by omega) (by omega) (by simp only [Tryz.t5]; omega)) (fun _ _ _ H _ => ⟨H.get (.there .here), H.get (.there (.there .here))⟩) ?_)))))); clear H; intro b17 w26 hb17 H)
  (refine Ao 6 (Qv rfl (.inl rfl) (Qw rfl call86 rfl) (Ui (hM.Ql H kYs) h hb true) (by rintro _ w2 ⟨_, H1⟩ _; have H := H.seq0 H1; exact ⟨H.get (.there .here), H.get (.there (.there .here))⟩) ?_); rintro _ w28 ⟨rfl, H1⟩; replace H := H.seq0 H1; clear H1)
  refine Aa 7 rfl ⟨H.get (.there .here), H.get (.there (.there .here))⟩ (Ad (Je ?_))
  exact ⟨_, rfl, rfl, hM.same0 (H.none kYs)⟩
 ·rw [if_pos hb, decide_eq_true hb]
  (refine Js (Jr (Qb rfl (Xl (vs := [I kind, I idx]) H rfl rfl) ?_)); clear H; intro c3 w3 hc3 H)
  (refine Ja (Jn (Js (Jr (Jm (J (Qo (vs := [I kind, I idx]) isAgg182 sizeOf182 rfl (H.get .here) rfl (by simp)) (Jz rfl call124 rfl (Vp (hM.Ql H kYs) h hnm) H ?_)))))); intro w10 H)
  (refine Jm (Jx rfl rfl (Jx rfl rfl (Qb rfl (Qp (vs := [I 0, I 0, I 0]) H zeroValue217 rfl) ?_))); clear H; intro c5 w14 hc5 H)
  (refine Qd rfl (Qg (vs := [I nm, I at_, I n]) H sizeOf217 rfl rfl (by simp [Value.oneCell']) .here (by simp)) ?_; clear H; intro w15 H; replace H : Hp w [(c5, blk [I nm, I at_, I n] 217), (c3, blk [I kind, I idx] 182)] w15 := H)
  refine Ja (Jn (Js ?_))
  (refine Xi (fun w2 => w2.heap[c5]? = some (blk [I nm, I at_, I n] 217) ∧ w2.heap[c3]? = some (blk [I kind, I idx] 182)) (fun _ => false) (by kernel_rfl) H ?_; clear H; intro w19 H)
  (refine Am 0 rfl ⟨H.get .here, H.get (.there .here)⟩ (Az 1 rfl rfl ⟨H.get .here, H.get (.there .here)⟩ (fun _ hC => Qo (vs := [I kind, I idx]) isAgg182 sizeOf182 rfl hC.2 rfl (by simp)) (Az 2 rfl rfl ⟨H.get .here, H.get (.there .here)⟩ (fun _ hC => Qa (off' := 2) underlying217 rfl sizeOf3 (by decide) rfl rfl) (Az 3 rfl rfl ⟨H.get .here, H.get (.there .here)⟩ (fun _ hC => Qe (v := I n) isAgg3 rfl hC.1 rfl) (Am 5 rfl ⟨H.get .here, H.get (.there .here)⟩ (Ao 4 (Xd rfl (.inl rfl) (Vf H underlying36 sizeOf5 typeInfo5 zeroValue5 rfl rfl rfl (by omega) (by omega) (by omega) (by simp only [Tryz.t5]; omega)) (fun _ _ _ H _ => ⟨H.get (.there .here), H.get (.there (.there .here))⟩) ?_)))))); clear H; intro b17 w26 hb17 H)
  (refine Ao 6 (Qv rfl (.inl rfl) (Qw rfl call86 rfl) (Uh (ys := List.replicate n 0) (hM.Ql H kYs) h hb (RdS.blk (off := 0) (H.get .here) (by rw [hn, List.drop_zero, List.map_replicate, List.take_of_length_le (by simp)]; rfl) (by simp) (Nat.le_refl _)) (by simp)) (by rintro _ w2 ⟨_, _, H1⟩ _; have H := H.Bx hbk kYs H1; exact ⟨H.get (.there (.there .here)), H.get (.there (.there (.there .here)))⟩) ?_); rintro _ w28 ⟨rfl, _, H1⟩; replace H := H.Bx hbk kYs H1; clear H1)
  refine Aa 7 rfl ⟨H.get (.there (.there .here)), H.get (.there (.there (.there .here)))⟩ (Ad (Je ?_))
  exact ⟨_, rfl, rfl, Hp.cut (L := [_]) (M := [_, _, _]) H kYs⟩
theorem FreeProc_gen (hM : CmI w c C) {i : Nat} (hi : i < 8) :
  Ret Tryz.prog 189 #[ptr c 0, I i] w fun v w' => v = .bool (decide (((1 : Int), (i : Int)) ∉ C.bad)) ∧ Hp w (C.Xh (if ((1 : Int), (i : Int)) ∉ C.bad then (C.put 0 (24 * i) (List.replicate 24 0)).κ.xs else C.κ.xs)).mB w' := by
 refine Qi (args := [_, _]) func189 rfl ntmps189 results189 (by simp) ?_
 have H := Hp.refl w
 (refine Js (Jr (Ja (Jn (Js (Jr (Jm (Jm (Jz rfl call92 rfl (C_proc _ _) H ?_)))))))); intro w9 H)
 (refine Jy rfl call231 rfl (blank_gen (kind := 1) (idx := i) (j := 0) (at_ := 24 * i) (n := 24) (hM.Ql H kYs) (.inl ⟨rfl, hi, rfl, rfl, rfl⟩)) ?_; rintro _ w10 ⟨rfl, H1⟩; replace H := H.Bx hM.hK.hb kYs H1; clear H1)
 refine Ja (Jn (Je ?_))
 exact ⟨_, rfl, rfl, H⟩
theorem FreeFile_gen (hM : CmI w c C) {i : Nat} (hi : i < 12) :
  Ret Tryz.prog 257 #[ptr c 0, I i] w fun v w' => v = .bool (decide (((2 : Int), (i : Int)) ∉ C.bad)) ∧ Hp w (C.Xh (if ((2 : Int), (i : Int)) ∉ C.bad then (C.put 0 (192 + 8 * i) (List.replicate 8 0)).κ.xs else C.κ.xs)).mB w' := by
 refine Qi (args := [_, _]) func257 rfl ntmps257 results257 (by simp) ?_
 have H := Hp.refl w
 (refine Js (Jr (Ja (Jn (Js (Jr (Jm (Jm (Jz rfl call89 rfl (C_file _ _) H ?_)))))))); intro w9 H)
 (refine Jy rfl call231 rfl (blank_gen (kind := 2) (idx := i) (j := 0) (at_ := 192 + 8 * i) (n := 8) (hM.Ql H kYs) (.inr (.inl ⟨rfl, hi, rfl, rfl, rfl⟩))) ?_; rintro _ w10 ⟨rfl, H1⟩; replace H := H.Bx hM.hK.hb kYs H1; clear H1)
 refine Ja (Jn (Je ?_))
 exact ⟨_, rfl, rfl, H⟩
theorem FreePipe_gen (hM : CmI w c C) {i : Nat} (hi : i < 4) :
  Ret Tryz.prog 258 #[ptr c 0, I i] w fun v w' => v = .bool (decide (((3 : Int), (i : Int)) ∉ C.bad)) ∧ Hp w (C.Xh (if ((3 : Int), (i : Int)) ∉ C.bad then (C.put 0 (288 + 40 * i) (List.replicate 40 0)).κ.xs else C.κ.xs)).mB w' := by
 refine Qi (args := [_, _]) func258 rfl ntmps258 results258 (by simp) ?_
 have H := Hp.refl w
 (refine Js (Jr (Ja (Jn (Js (Jr (Jm (Jm (Jz rfl call90 rfl (C_pipe _ _) H ?_)))))))); intro w9 H)
 (refine Jy rfl call231 rfl (blank_gen (kind := 3) (idx := i) (j := 0) (at_ := 288 + 40 * i) (n := 40) (hM.Ql H kYs) (.inr (.inr (.inl ⟨rfl, hi, rfl, rfl, rfl⟩)))) ?_; rintro _ w10 ⟨rfl, H1⟩; replace H := H.Bx hM.hK.hb kYs H1; clear H1)
 refine Ja (Jn (Je ?_))
 exact ⟨_, rfl, rfl, H⟩
end
end Go.Proofs.YtlpmfldijgdcoaaGreatDoor.Cm
namespace Go.Proofs.YtlpmfldijgdcoaaGreatDoor.Cm
open Go Go.Proofs Fx Kn Tryz
theorem put_get {xs ys : List UInt8} {p i : Nat} (h : p + ys.length ≤ xs.length) : (Mem.put xs ys p)[i]? = if p ≤ i ∧ i < p + ys.length then ys[i - p]? else xs[i]? := by
 unfold Mem.put
 by_cases h1 : i < p
 ·rw [if_neg (by omega), List.append_assoc, List.getElem?_append_left (by rw [List.length_take]; omega), List.getElem?_take, if_pos h1]
 ·by_cases h2 : i < p + ys.length
  ·rw [if_pos ⟨by omega, h2⟩, List.append_assoc, List.getElem?_append_right (by rw [List.length_take]; omega), List.length_take, Nat.min_eq_left (by omega), List.getElem?_append_left (by omega)]
  ·rw [if_neg (by omega), List.getElem?_append_right (by rw [List.length_append, List.length_take]; omega), List.getElem?_drop, List.length_append, List.length_take, Nat.min_eq_left (by omega)]
   congr 1; omega
theorem win_get {xs : List UInt8} {a n i : Nat} : (win xs a n)[i]? = if i < n then xs[a + i]? else none := by
 unfold win; rw [List.getElem?_take, List.getElem?_drop]
theorem win_put_same {xs ys : List UInt8} {p n : Nat} (h : p + ys.length ≤ xs.length) (hn : ys.length = n) : win (Mem.put xs ys p) p n = ys := by
 subst hn
 apply List.ext_getElem?
 intro i
 rw [win_get]
 split
 ·rw [put_get h, if_pos (by omega), Nat.add_sub_cancel_left]
 ·rw [List.getElem?_eq_none (by omega)]
theorem win_put_other {xs ys : List UInt8} {p q n : Nat} (h : p + ys.length ≤ xs.length) (hd : q + n ≤ p ∨ p + ys.length ≤ q) : win (Mem.put xs ys p) q n = win xs q n := by
 apply List.ext_getElem?
 intro i
 rw [win_get, win_get]
 split
 ·rw [put_get h, if_neg (by omega)]
 ·rfl
/-- windows that do not meet -/
def Wj (C : Cs) : Prop := ∀ (j j' : Nat) (x y : Nat × Nat), j ≠ j' → C.wins[j]? = some x → C.wins[j']? = some y → x.1 + x.2 ≤ y.1 ∨ y.1 + y.2 ≤ x.1
/-- what is found of a record -/
def bD (C : Cs) (kind idx : Nat) : Int :=
 if kind = 1 then (C.pD idx).2 else if kind = 2 then (C.fD idx).2 else if kind = 3 then (C.qD idx).2 else if kind = 4 then C.tD.2 else C.gD.2
theorem Lk_iff (C : Cs) (hl : 1 ≤ C.nms.length) : Lk C ↔ ∀ kind idx j at_ n, Rc C.nms.length kind idx j at_ n → ((kind : Int), (idx : Int)) ∉ C.bad → bD C kind idx ≠ 2 := by
 constructor
 ·intro h kind idx j at_ n hr hb
  unfold bD
  rcases hr with ⟨rfl, h1, _⟩ | ⟨rfl, h1, _⟩ | ⟨rfl, h1, _⟩ | ⟨rfl, h0, h1, _⟩ | ⟨rfl, rfl, _⟩ | ⟨rfl, rfl, _⟩
  ·exact h.p idx h1 hb
  ·exact h.f idx h1 hb
  ·exact h.q idx (by omega) hb
  ·exact h.q idx h1 hb
  ·exact h.t hb
  ·exact h.g hb
 ·intro h
  refine ⟨fun i hi hb => h 1 i 0 _ _ (.inl ⟨rfl, hi, rfl, rfl, rfl⟩) hb, fun i hi hb => h 2 i 0 _ _ (.inr (.inl ⟨rfl, hi, rfl, rfl, rfl⟩)) hb, fun i hi hb => ?_,
   fun hb => h 4 0 0 _ _ (.inr (.inr (.inr (.inr (.inl ⟨rfl, rfl, rfl, rfl, rfl⟩))))) hb, fun hb => h 5 0 0 _ _ (.inr (.inr (.inr (.inr (.inr ⟨rfl, rfl, rfl, rfl, rfl⟩))))) hb⟩
  by_cases h4 : i < 4
  ·exact h 3 i 0 _ _ (.inr (.inr (.inl ⟨rfl, h4, rfl, rfl, rfl⟩))) hb
  ·exact h 3 i _ _ _ (.inr (.inr (.inr (.inl ⟨rfl, by omega, hi, rfl, rfl, rfl⟩)))) hb
section
variable {w : World} {c : Nat} {C : Cs} {kind idx j at_ n kind' idx' j' at' n' : Nat} {ys : List UInt8}
theorem fit2 (h : Rc C.nms.length kind idx j at_ n) (hM : CmI w c C) : ∃ x, C.wins[j]? = some x ∧ (C.wins.getD j (0, 0)).1 = x.1 ∧ at_ + n ≤ x.2 ∧ x.1 + x.2 ≤ C.κ.xs.length := by
 obtain ⟨nm, x, h1, h2, h3, h4, h5⟩ := h.fit hM
 refine ⟨x, h2, by rw [List.getD_eq_getElem?_getD, h2]; rfl, h3, ?_⟩
 rw [hM.hK.hx]; exact (hM.hw _ _ _ h1 h2).hin
theorem rc_same (hM : CmI w c C) (h : Rc C.nms.length kind idx j at_ n) (hy : ys.length = n) : (C.put j at_ ys).rc j at_ n = ys := by
 obtain ⟨x, h1, h2, h3, h4⟩ := fit2 h hM
 unfold Cs.put Cs.Xh Cs.rc
 simp only [h2]
 exact win_put_same (by omega) hy
theorem rc_other (hM : CmI w c C) (hW : Wj C) (h : Rc C.nms.length kind idx j at_ n) (h' : Rc C.nms.length kind' idx' j' at' n') (hne : ¬ (kind = kind' ∧ idx = idx')) (hy : ys.length = n) :
  (C.put j at_ ys).rc j' at' n' = C.rc j' at' n' := by
 obtain ⟨x, h1, h2, h3, h4⟩ := fit2 h hM
 obtain ⟨y, g1, g2, g3, g4⟩ := fit2 h' hM
 unfold Cs.put Cs.Xh Cs.rc
 simp only [h2, g2]
 refine win_put_other (by omega) ?_
 by_cases hj : j = j'
 ·subst hj
  rw [h1] at g1
  cases g1
  unfold Rc at h h'
  omega
 ·have := hW j j' x y hj h1 g1
  omega
theorem bD_other (hM : CmI w c C) (hW : Wj C) (h : Rc C.nms.length kind idx j at_ n) (h' : Rc C.nms.length kind' idx' j' at' n') (hne : ¬ (kind = kind' ∧ idx = idx')) (hy : ys.length = n) :
  bD (C.put j at_ ys) kind' idx' = bD C kind' idx' := by
 have key := rc_other hM hW h h' hne hy
 unfold bD
 rcases h' with ⟨rfl, h1, rfl, rfl, rfl⟩ | ⟨rfl, h1, rfl, rfl, rfl⟩ | ⟨rfl, h1, rfl, rfl, rfl⟩ | ⟨rfl, h0, h1, rfl, rfl, rfl⟩ | ⟨rfl, rfl, rfl, rfl, rfl⟩ | ⟨rfl, rfl, rfl, rfl, rfl⟩
 ·show ((C.put j at_ ys).pD idx').2 = (C.pD idx').2
  simp only [Cs.pD, key]
 ·show ((C.put j at_ ys).fD idx').2 = (C.fD idx').2
  simp only [Cs.fD, key]
 ·show ((C.put j at_ ys).qD idx').2 = (C.qD idx').2
  simp only [Cs.qD, if_pos h1, key]
 ·show ((C.put j at_ ys).qD idx').2 = (C.qD idx').2
  simp only [Cs.qD, if_neg (show ¬ idx' < 4 by omega), key]
 ·show (C.put j at_ ys).tD.2 = C.tD.2
  simp only [Cs.tD, key]
 ·show (C.put j at_ ys).gD.2 = C.gD.2
  simp only [Cs.gD, key]
theorem lk_put (hM : CmI w c C) (hW : Wj C) (hL : Lk C) (h : Rc C.nms.length kind idx j at_ n) (hy : ys.length = n) (hb : bD (C.put j at_ ys) kind idx ≠ 2) : Lk (C.put j at_ ys) := by
 have hl : 1 ≤ C.nms.length := by rw [hM.hl]; exact hM.hl0.1
 refine (Lk_iff (C.put j at_ ys) hl).2 fun kind' idx' j' at' n' h' hnb => ?_
 by_cases he : kind = kind' ∧ idx = idx'
 ·obtain ⟨rfl, rfl⟩ := he; exact hb
 ·rw [bD_other hM hW h h' he hy]
  exact (Lk_iff _ hl).1 hL kind' idx' j' at' n' h' hnb
end
end Go.Proofs.YtlpmfldijgdcoaaGreatDoor.Cm
namespace Go.Proofs.YtlpmfldijgdcoaaGreatDoor.Cm
open Go Go.Proofs Fx Kn Tryz
section
variable {w w' w0 w1 w2 : World} {c : Nat} {C : Cs}
/-- commons of which all that is bad is known, whose windows do not meet -/
structure Gd (w : World) (c : Nat) (C : Cs) : Prop where
 hM : CmI w c C
 hL : Lk C
 hW : Wj C
/-- bytes that may be -/
def Gp (C : Cs) (xs : List UInt8) : Prop := Lk (C.Xh xs) ∧ xs.length = C.κ.N
theorem Gd.Ql (h : Gd w c C) {L : List (Nat × Obj)} (H : Hp w L w') (hn : ∀ p ∈ L, w.heap.size ≤ p.1) : Gd w' c C := ⟨h.hM.Ql H hn, h.hL, h.hW⟩
theorem Gd.keepO (h : Gd w c C) {L : List (Nat × Obj)} (H : Hp w L w') (hn : Out (5 :: cT) w L) : Gd w' c C := ⟨h.hM.keep0 H hn, h.hL, h.hW⟩
theorem Gd.atO (h : Gd w c C) {xs : List UInt8} {L : List (Nat × Obj)} (H : Hp w L w') (hb : w'.heap[C.κ.mb]? = some (blk (xs.map U) 5)) (hn : Out cT w L) (hp : Gp C xs) : Gd w' c (C.Xh xs) :=
 ⟨h.hM.keepK H hn (h.hM.hK.keep H (hn.sub (fun x hx => .tail _ (.tail _ (.tail _ hx)))) hb hp.2) rfl (fun _ _ h => ⟨h.ex, h.hin, h.he⟩), hp.1, h.hW⟩
theorem Gd.at (h : Gd w c C) {xs : List UInt8} {L : List (Nat × Obj)} (H : Hp w ((C.κ.mb, blk (xs.map U) 5) :: L) w') (hn : ∀ p ∈ L, w.heap.size ≤ p.1) (hp : Gp C xs) : Gd w' c (C.Xh xs) :=
 h.atO H (H.get .here) (Out.cons h.hM.hK.hb (by simp [cT, kT, elT]) (Out.ofN hn)) hp
theorem Gd.gp (h : Gd w c C) : Gp C C.κ.xs := ⟨h.hL, h.hM.hK.hx⟩
theorem Gd.seq0 (h : Gd w0 c C) {xs : List UInt8} {L : List (Nat × Obj)} (H : Hp w0 L w1) (hn : ∀ p ∈ L, w0.heap.size ≤ p.1) (H1 : Hp w1 [(C.κ.mb, blk (xs.map U) 5)] w2) : Hp w0 ((C.κ.mb, blk (xs.map U) 5) :: L) w2 := H.Bx h.hM.hK.hb hn H1
theorem seq1 {b : Nat} {o o' : Obj} {L : List (Nat × Obj)} (H : Hp w0 ((b, o) :: L) w1) (H1 : Hp w1 [(b, o')] w2) : Hp w0 ((b, o') :: L) w2 := H.seq H1 (Yh .here Yi)
/-- what is set, and freed -/
def Ds (C : Cs) (i : Nat) (p : Slot.Pi) : List UInt8 := if ((1 : Int), (i : Int)) ∉ C.bad ∧ Slot.okP p then (C.put 0 (24 * i) (Slot.Xm p)).κ.xs else C.κ.xs
def upPb (C : Cs) (i : Nat) (p : Slot.Pi) : Bool := decide (((1 : Int), (i : Int)) ∉ C.bad ∧ Slot.okP p)
def frPX (C : Cs) (i : Nat) : List UInt8 := if ((1 : Int), (i : Int)) ∉ C.bad then (C.put 0 (24 * i) (List.replicate 24 0)).κ.xs else C.κ.xs
def upFX (C : Cs) (i : Nat) (p : File.Fl) : List UInt8 := if ((2 : Int), (i : Int)) ∉ C.bad ∧ File.Yz p then (C.put 0 (192 + 8 * i) (File.Yj p)).κ.xs else C.κ.xs
def upFb (C : Cs) (i : Nat) (p : File.Fl) : Bool := decide (((2 : Int), (i : Int)) ∉ C.bad ∧ File.Yz p)
def Uy (C : Cs) (i : Nat) : List UInt8 := if ((2 : Int), (i : Int)) ∉ C.bad then (C.put 0 (192 + 8 * i) (List.replicate 8 0)).κ.xs else C.κ.xs
def qJ (i : Nat) : Nat := if i < 4 then 0 else i - 3
def qA (i : Nat) : Nat := if i < 4 then 288 + 40 * i else 0
def upQb (C : Cs) (i : Nat) (p : Ring.Pi) : Bool := decide (i < 3 + C.nms.length ∧ ((3 : Int), (i : Int)) ∉ C.bad ∧ Ring.okP p)
def upQX (C : Cs) (i : Nat) (p : Ring.Pi) : List UInt8 := if upQb C i p = true then (C.put (qJ i) (qA i) (Ring.Xm p)).κ.xs else C.κ.xs
def frQX (C : Cs) (i : Nat) : List UInt8 := if ((3 : Int), (i : Int)) ∉ C.bad then (C.put 0 (288 + 40 * i) (List.replicate 40 0)).κ.xs else C.κ.xs
def upTX (C : Cs) (p : Ring.Pi) : List UInt8 := if ((4 : Int), ((0 : Nat) : Int)) ∉ C.bad ∧ Ring.okP p then (C.put 0 448 (Ring.Xm p)).κ.xs else C.κ.xs
def upTb (C : Cs) (p : Ring.Pi) : Bool := decide (((4 : Int), ((0 : Nat) : Int)) ∉ C.bad ∧ Ring.okP p)
theorem fb_len (f : File.Fl) : (File.Yj f).length = 8 := rfl
theorem rcP {n i : Nat} (hi : i < 8) : Rc n 1 i 0 (24 * i) 24 := .inl ⟨rfl, hi, rfl, rfl, rfl⟩
theorem rcF {n i : Nat} (hi : i < 12) : Rc n 2 i 0 (192 + 8 * i) 8 := .inr (.inl ⟨rfl, hi, rfl, rfl, rfl⟩)
theorem rcQ {n i : Nat} (hi : i < 3 + n) : Rc n 3 i (qJ i) (qA i) 40 := by
 unfold qJ qA
 by_cases h : i < 4
 ·rw [if_pos h, if_pos h]; exact .inr (.inr (.inl ⟨rfl, h, rfl, rfl, rfl⟩))
 ·rw [if_neg h, if_neg h]; exact .inr (.inr (.inr (.inl ⟨rfl, by omega, hi, rfl, rfl, rfl⟩)))
theorem rcT {n : Nat} : Rc n 4 0 0 448 40 := .inr (.inr (.inr (.inr (.inl ⟨rfl, rfl, rfl, rfl, rfl⟩))))
theorem gp_put (h : Gd w c C) {kind idx j at_ n : Nat} {ys : List UInt8} (hr : Rc C.nms.length kind idx j at_ n) (hy : ys.length = n) (hb : bD (C.put j at_ ys) kind idx ≠ 2) : Gp C (C.put j at_ ys).κ.xs := by
 obtain ⟨x, h1, h2, h3, h4⟩ := fit2 hr h.hM
 exact ⟨lk_put h.hM h.hW h.hL hr hy hb, by show (Mem.put C.κ.xs ys ((C.wins.getD j (0, 0)).1 + at_)).length = _; rw [Ns (by omega), h.hM.hK.hx]⟩
theorem pD_put (h : Gd w c C) {i : Nat} (hi : i < 8) {ys : List UInt8} (hy : ys.length = 24) : (C.put 0 (24 * i) ys).pD i = Slot.Xy ys := by
 unfold Cs.pD; rw [rc_same h.hM (rcP hi) hy]
theorem fD_put (h : Gd w c C) {i : Nat} (hi : i < 12) {ys : List UInt8} (hy : ys.length = 8) : (C.put 0 (192 + 8 * i) ys).fD i = File.Xy ys := by
 unfold Cs.fD; rw [rc_same h.hM (rcF hi) hy]
theorem qD_put (h : Gd w c C) {i : Nat} (hi : i < 3 + C.nms.length) {ys : List UInt8} (hy : ys.length = 40) : (C.put (qJ i) (qA i) ys).qD i = Ring.Xy ys := by
 have := rc_same h.hM (rcQ hi) hy
 unfold Cs.qD
 unfold qJ qA at this ⊢
 by_cases h4 : i < 4
 ·rw [if_pos h4, if_pos h4] at this ⊢; rw [if_pos h4, this]
 ·rw [if_neg h4, if_neg h4] at this ⊢; rw [if_neg h4, this]
theorem tD_put (h : Gd w c C) {ys : List UInt8} (hy : ys.length = 40) : (C.put 0 448 ys).tD = Ring.Xy ys := by
 unfold Cs.tD; rw [rc_same h.hM rcT hy]
theorem zP : Slot.Xy (List.replicate 24 0) = (Slot.Xn, 0) := Slot.Uk (by simp) (fun x hx => (List.mem_replicate.1 hx).2)
theorem zF : File.Xy (List.replicate 8 0) = (File.Yt, 0) := File.Uk (by simp) (fun x hx => (List.mem_replicate.1 hx).2)
theorem zQ : Ring.Xy (List.replicate 40 0) = (Ring.Xn, 0) := Ring.Uk (by simp) (fun x hx => (List.mem_replicate.1 hx).2)
theorem gp_upP (h : Gd w c C) {i : Nat} (hi : i < 8) (p : Slot.Pi) : Gp C (Ds C i p) := by
 unfold Ds
 split
 ·rename_i hh
  exact gp_put h (rcP hi) (Slot.Yu p) (by unfold bD; rw [if_pos rfl, pD_put h hi (Slot.Yu p), Slot.Ud hh.2]; exact (by decide : (1 : Int) ≠ 2))
 ·exact h.gp
theorem gp_frP (h : Gd w c C) {i : Nat} (hi : i < 8) : Gp C (frPX C i) := by
 unfold frPX
 split
 ·exact gp_put h (rcP hi) (by simp) (by unfold bD; rw [if_pos rfl, pD_put h hi (by simp), zP]; decide)
 ·exact h.gp
theorem gp_upF (h : Gd w c C) {i : Nat} (hi : i < 12) (p : File.Fl) : Gp C (upFX C i p) := by
 unfold upFX
 split
 ·rename_i hh
  exact gp_put h (rcF hi) (fb_len p) (by unfold bD; rw [if_neg (by decide), if_pos rfl, fD_put h hi (fb_len p), File.Ud hh.2]; exact (by decide : (1 : Int) ≠ 2))
 ·exact h.gp
theorem gp_frF (h : Gd w c C) {i : Nat} (hi : i < 12) : Gp C (Uy C i) := by
 unfold Uy
 split
 ·exact gp_put h (rcF hi) (by simp) (by unfold bD; rw [if_neg (by decide), if_pos rfl, fD_put h hi (by simp), zF]; decide)
 ·exact h.gp
theorem gp_upQ (h : Gd w c C) {i : Nat} (p : Ring.Pi) : Gp C (upQX C i p) := by
 unfold upQX
 split
 ·rename_i hh
  have hh := of_decide_eq_true hh
  exact gp_put h (rcQ hh.1) (Ring.Yu p) (by unfold bD; rw [if_neg (by decide), if_neg (by decide), if_pos rfl, qD_put h hh.1 (Ring.Yu p), Ring.Ud hh.2.2]; exact (by decide : (1 : Int) ≠ 2))
 ·exact h.gp
theorem gp_frQ (h : Gd w c C) {i : Nat} (hi : i < 4) : Gp C (frQX C i) := by
 unfold frQX
 split
 ·have hl9 : 1 ≤ C.nms.length := (by rw [h.hM.hl]; exact h.hM.hl0.1)
  have hq := rcQ (n := C.nms.length) (i := i) (by omega)
  have hd := qD_put h (i := i) (by omega) (ys := List.replicate 40 0) (by simp)
  unfold qJ qA at hq hd
  rw [if_pos hi, if_pos hi] at hq hd
  exact gp_put h hq (by simp) (by unfold bD; rw [if_neg (by decide), if_neg (by decide), if_pos rfl, hd, zQ]; decide)
 ·exact h.gp
theorem gp_upT (h : Gd w c C) (p : Ring.Pi) : Gp C (upTX C p) := by
 unfold upTX
 split
 ·rename_i hh
  exact gp_put h rcT (Ring.Yu p) (by unfold bD; rw [if_neg (by decide), if_neg (by decide), if_neg (by decide), if_pos rfl, tD_put h (Ring.Yu p), Ring.Ud hh.2]; exact (by decide : (1 : Int) ≠ 2))
 ·exact h.gp
theorem Dz (h : Gd w c C) {i : Nat} (hi : i < 8) (p : Slot.Pi) :
  Ret Tryz.prog 58 #[ptr c 0, I i, Slot.vP p] w fun v w' => v = .bool (upPb C i p) ∧ Gp C (Ds C i p) ∧ Hp w [(C.κ.mb, blk ((Ds C i p).map U) 5)] w' :=
 (SetProc_gen h.hM (rcP hi) p (Slot.Yu p)).mono fun v w' q => ⟨q.1, gp_upP h hi p, q.2⟩
theorem FreeProc_G (h : Gd w c C) {i : Nat} (hi : i < 8) :
  Ret Tryz.prog 189 #[ptr c 0, I i] w fun v w' => v = .bool (decide (((1 : Int), (i : Int)) ∉ C.bad)) ∧ Gp C (frPX C i) ∧ Hp w [(C.κ.mb, blk ((frPX C i).map U) 5)] w' :=
 (FreeProc_gen h.hM hi).mono fun v w' q => ⟨q.1, gp_frP h hi, q.2⟩
theorem SetFile_G (h : Gd w c C) {i : Nat} (hi : i < 12) (p : File.Fl) :
  Ret Tryz.prog 56 #[ptr c 0, I i, File.vF p] w fun v w' => v = .bool (upFb C i p) ∧ Gp C (upFX C i p) ∧ Hp w [(C.κ.mb, blk ((upFX C i p).map U) 5)] w' :=
 (SetFile_gen h.hM (rcF hi) p (fb_len p)).mono fun v w' q => ⟨q.1, gp_upF h hi p, q.2⟩
theorem FreeFile_G (h : Gd w c C) {i : Nat} (hi : i < 12) :
  Ret Tryz.prog 257 #[ptr c 0, I i] w fun v w' => v = .bool (decide (((2 : Int), (i : Int)) ∉ C.bad)) ∧ Gp C (Uy C i) ∧ Hp w [(C.κ.mb, blk ((Uy C i).map U) 5)] w' :=
 (FreeFile_gen h.hM hi).mono fun v w' q => ⟨q.1, gp_frF h hi, q.2⟩
theorem SetPipe_G (h : Gd w c C) {i : Nat} (hi : i ≤ 1000) (p : Ring.Pi) :
  Ret Tryz.prog 57 #[ptr c 0, I i, Ring.vP p] w fun v w' => v = .bool (upQb C i p) ∧ Gp C (upQX C i p) ∧ Hp w [(C.κ.mb, blk ((upQX C i p).map U) 5)] w' := by
 by_cases h9 : i < 3 + C.nms.length
 ·refine (SetPipe_gen h.hM (rcQ h9) p (Ring.Yu p)).mono fun v w' q => ⟨?_, gp_upQ h p, ?_⟩
  ·rw [q.1]; unfold upQb; congr 1; exact decide_eq_decide.2 ⟨fun g => ⟨h9, g⟩, fun g => g.2⟩
  ·have q2 := q.2
   have e : upQX C i p = (if ((3 : Int), (i : Int)) ∉ C.bad ∧ Ring.okP p then (C.put (qJ i) (qA i) (Ring.Xm p)).κ.xs else C.κ.xs) := by
    unfold upQX upQb
    by_cases hg : ((3 : Int), (i : Int)) ∉ C.bad ∧ Ring.okP p
    ·rw [if_pos hg, if_pos (decide_eq_true ⟨h9, hg⟩)]
    ·rw [if_neg hg, if_neg (fun g => hg (of_decide_eq_true g).2)]
   rw [e]; exact q2
 ·refine (SetPipe_out h.hM (by omega) hi p).mono fun v w' q => ?_
  have e : upQb C i p = false := decide_eq_false (fun g => h9 g.1)
  have e2 : upQX C i p = C.κ.xs := by unfold upQX; rw [e]; rfl
  exact ⟨by rw [e]; exact q.1, gp_upQ h p, by rw [e2]; exact h.hM.same0 q.2⟩
theorem FreePipe_G (h : Gd w c C) {i : Nat} (hi : i < 4) :
  Ret Tryz.prog 258 #[ptr c 0, I i] w fun v w' => v = .bool (decide (((3 : Int), (i : Int)) ∉ C.bad)) ∧ Gp C (frQX C i) ∧ Hp w [(C.κ.mb, blk ((frQX C i).map U) 5)] w' :=
 (FreePipe_gen h.hM hi).mono fun v w' q => ⟨q.1, gp_frQ h hi, q.2⟩
theorem SetTerm_G (h : Gd w c C) (p : Ring.Pi) :
  Ret Tryz.prog 54 #[ptr c 0, Ring.vP p] w fun v w' => v = .bool (upTb C p) ∧ Gp C (upTX C p) ∧ Hp w [(C.κ.mb, blk ((upTX C p).map U) 5)] w' :=
 (SetTerm_gen h.hM rcT p (Ring.Yu p)).mono fun v w' q => ⟨q.1, gp_upT h p, q.2⟩
end
end Go.Proofs.YtlpmfldijgdcoaaGreatDoor.Cm
namespace Go.Proofs.YtlpmfldijgdcoaaGreatDoor.Ho
open Go Go.Proofs Fx Kn Cm Sect Tryz
theorem Kq.out {w : World} {sp : Nat} {S : Sx} {qs T : List Nat} {Q : List (Nat × Obj)} (hq : Sq w sp S qs) (h : Kq w.heap.size sp qs Q) (h1 : 170 ∉ T) (h2 : 3 ∉ T) : Out T w Q := by
 intro p hp
 rcases h p hp with h3 | h3 | h3
 ·obtain ⟨o, ho, e⟩ := hq.sect; exact .inr ⟨o, by rw [h3]; exact ho, by rw [e]; exact h1⟩
 ·obtain ⟨o, ho, e⟩ := hq.int h3; exact .inr ⟨o, ho, by rw [e]; exact h2⟩
 ·exact .inl h3
theorem SqP.of {w w' : World} {sp : Nat} {S S' : Sx} {qs : List Nat} {X : List (Nat × Obj)} {qv : Value} {Mq : List (Nat × Obj)} (hS : S'.q = S.q) (h1 : w.heap[sp]? = some (blk (sxC S qv) 170))
  (h2 : Zv 0 3 qv (S.q.map I) Mq) (h3 : ∀ p ∈ Mq, w.heap[p.1]? = some p.2) (h4 : qs = Mq.map (·.1)) (H : Hp w (X ++ [(sp, blk (sxC S' qv) 170)]) w') (hX : ∀ p ∈ X, p.1 ∉ qs) : SqP w sp S' qs X w' := by
 subst h4
 rcases ownQ_one h2 with rfl | ⟨qb, ys, rfl⟩
 ·exact ⟨[(sp, blk (sxC S' qv) 170)], [], fun p hp => .inl (by rw [List.mem_singleton.1 hp]), ⟨qv, [], .head _, by rw [hS]; exact h2, List.nil_subset _, rfl⟩, (fun b hb => nomatch hb), H⟩
 ·have hq := h3 (qb, blk ys 3) (.head _)
  have hqs : qb ≠ sp := Vg hq h1 (by simp)
  simp only at hq
  have hn : qb ∉ (X ++ [(sp, blk (sxC S' qv) 170)]).map (·.1) := by
   intro hm
   rw [List.map_append, List.mem_append] at hm
   rcases hm with hm | hm
   ·obtain ⟨p, hp, e⟩ := List.mem_map.1 hm; exact hX p hp (by rw [e]; exact .head _)
   ·exact hqs (List.mem_singleton.1 hm)
  have H2 : Hp w (X ++ ([(sp, blk (sxC S' qv) 170)] ++ [(qb, blk ys 3)])) w' := by
   rw [← List.append_assoc]; exact (H.focus (H.block hq hn) hn).perm (List.perm_append_comm (l₁ := [(qb, blk ys 3)]))
  refine ⟨[(sp, blk (sxC S' qv) 170), (qb, blk ys 3)], [qb], fun p hp => ?_, ⟨qv, [(qb, blk ys 3)], .head _, by rw [hS]; exact h2, fun p hp => .tail _ hp, rfl⟩, fun b hb => .inl hb, H2⟩
  rcases List.mem_cons.1 hp with rfl | hp
  ·exact .inl rfl
  ·rw [List.mem_singleton.1 hp]; exact .inr (.inl (.head _))
theorem SqP.same {w w' : World} {sp : Nat} {S : Sx} {qs : List Nat} {X : List (Nat × Obj)} (hq : Sq w sp S qs) (H : Hp w X w') (hX : ∀ p ∈ X, p.1 ≠ sp ∧ p.1 ∉ qs) : SqP w sp S qs X w' := by
 obtain ⟨qv, Mq, h1, h2, h3, h4⟩ := hq
 have hn : sp ∉ X.map (·.1) := fun hm => by obtain ⟨p, hp, e⟩ := List.mem_map.1 hm; exact (hX p hp).1 e
 exact SqP.of rfl h1 h2 h3 h4 ((H.focus (H.block h1 hn) hn).perm (List.perm_append_comm (l₁ := [(sp, blk (sxC S qv) 170)]))) (fun p hp => (hX p hp).2)
theorem rm_len (xs : List Int) (x : Int) : (rm xs x).length ≤ xs.length := by
 rcases rm_cases xs x with ⟨_, _, h⟩ | ⟨A, B, h1, _, h2, _⟩
 ·rw [h]; exact Nat.le_refl _
 ·rw [h2, h1]; simp
theorem Bk.quit {s : Sx} {T who : Int} {k : Nat} (h : Bk s T k) : Bk (Bf s who) T k := by
 obtain ⟨a, b, c, d, e, f, g, i, j, l, m⟩ := h
 have hq := rm_len s.q who
 unfold Bf quitB Mc
 split <;> split <;> exact ⟨a, b, c, d, by first | exact e | exact g, by first | exact f | exact i, g, i, j, l, Nat.le_trans hq m⟩
section
variable {w : World} {κ : KS} {h e n sp c : Nat} {S : Sx} {qs : List Nat} {sl : Int} {ph st op a b : Int} {da : Option Addr} {dl dc : Nat}
/-- what a host has -/
abbrev hC (κ : KS) (e : Nat) (sl : Int) (n c : Nat) (ph st op a b : Int) (D : Value) : List Value := [ptr κ.k 0, I e, I sl, I n, ptr c 0, I ph, I st, I op, I a, I b, D]
theorem Nd (hh : w.heap[h]? = some (blk (hC κ e sl n c ph st op a b (.slice da dl dc)) 139)) (hq : Sq w sp S qs) : h ≠ sp ∧ h ∉ qs := by
 refine ⟨fun e => ?_, fun hm => ?_⟩
 ·obtain ⟨o, ho, e2⟩ := hq.sect; rw [← e, hh] at ho; cases ho; simp [elT] at e2
 ·obtain ⟨o, ho, e2⟩ := hq.int hm; rw [hh] at ho; cases ho; simp [elT] at e2
theorem leaveQ (hh : w.heap[h]? = some (blk (hC κ e sl n c ph st op a b (.slice da dl dc)) 139)) (hs : Ks w κ e n sp) (hq : Sq w sp S qs) (ph2 : Int) :
  Ret Tryz.prog 96 #[ptr h 0, I ph2] w fun v w' => v = .tuple #[] ∧ SqP w sp (Yy S e st) qs [(h, blk (hC κ e sl n c ph2 st op a b (.slice da dl dc)) 139)] w' := by
 have hx := Nd hh hq
 obtain ⟨qv, Mq, h1, h2, h3, h4⟩ := hq
 exact (By hh hs h1 ph2).mono fun v w' ⟨ev, H⟩ => ⟨ev, SqP.of (by unfold Yy; split <;> rfl) h1 h2 h3 h4 H (fun p hp => by rw [List.mem_singleton.1 hp]; exact hx.2)⟩
theorem wantQ (hh : w.heap[h]? = some (blk (hC κ e sl n c ph st op a b (.slice da dl dc)) 139)) (hs : Ks w κ e n sp) (hq : Sq w sp S qs) {T : Int} (hB : Bd S T) (hT : T ≤ 1000000) (hn : 0 ≤ κ.now ∧ κ.now ≤ T) :
  Ret Tryz.prog 97 #[ptr h 0] w fun v w' => v = .tuple #[] ∧ ∃ ph2 st2, (ph2 = ph ∨ ph2 = 2) ∧ SqP w sp (enter S e κ.now).1 qs [(h, blk (hC κ e sl n c ph2 st2 op a b (.slice da dl dc)) 139)] w' := by
 refine Qi (args := [_]) func97 rfl ntmps97 results97 (by simp) ?_
 have H := Hp.refl w
 have hx := Nd hh hq
 have hd : ∀ {w1 : World} {L : List (Nat × Obj)}, Hp w L w1 → (∀ p ∈ L, w.heap.size ≤ p.1) → Ret Tryz.prog 36 #[ptr κ.k 0, I e, .agg #[I 8, I 0, I 0, I n, I 0, I 0, nilS]] w1 fun v w' => v = .agg #[I 0, I (enter S e κ.now).2.1, nilS] ∧ ∃ Q qs', Kq w.heap.size sp qs Q ∧ SqL sp (enter S e κ.now).1 qs' Q ∧ (∀ b ∈ qs', b ∈ qs ∨ w.heap.size ≤ b) ∧ Hp w (Q ++ L) w' := by
  intro w1 L H1 hL
  exact (doEnterQ (hs.Ql H1 hL) (hq.Ql H1 hL) hB hT hn).mono fun v w' ⟨ev, h9⟩ => ⟨ev, SqP.own (X := []) hq H1 hL (fun _ h => nomatch h) h9⟩
 have hout : ∀ {w1 : World} {Q L : List (Nat × Obj)}, Kq w.heap.size sp qs Q → (∀ p ∈ L, w.heap.size ≤ p.1) → Hp w (Q ++ L) w1 → w1.heap[h]? = some (blk (hC κ e sl n c ph st op a b (.slice da dl dc)) 139) := by
  intro w1 Q L hk hL H1
  exact H1.Xw (T := [139]) hh (by simp [elT]) ((Kq.out hq hk (by simp) (by simp)).app (Out.ofN hL))
 have hnot : ∀ {Q L : List (Nat × Obj)}, Kq w.heap.size sp qs Q → (∀ p ∈ L, w.heap.size ≤ p.1) → h ∉ (Q ++ L).map (·.1) := by
  intro Q L hk hL hm
  have hlt := Qr hh
  obtain ⟨p, hp, e2⟩ := List.mem_map.1 hm
  rcases List.mem_append.1 hp with hp | hp
  ·rcases hk p hp with h1 | h1 | h1
   ·exact hx.1 (by omega)
   ·exact hx.2 (by rw [← e2]; exact h1)
   ·omega
  ·have := hL p hp; omega
 refine Js ?_
 (refine Xi (fun w2 => w2.heap[h]? = some (blk (hC κ e sl n c ph st op a b (.slice da dl dc)) 139)) (fun _ => false) (by kernel_rfl) H ?_; clear H; intro w2 H)
 refine Am 0 rfl (H.Qc hh kYs) (Az 1 rfl rfl (H.Qc hh kYs) (fun _ hC => Qf rfl) (Az 2 rfl rfl (H.Qc hh kYs) (fun _ hC => Qa (off' := 0) underlying139 rfl sizeOf71 (by decide) rfl rfl) (Az 3 rfl rfl (H.Qc hh kYs) (fun _ hC => Qe (v := ptr κ.k 0) isAgg71 rfl hC rfl) (Am 4 rfl (H.Qc hh kYs) (Az 5 rfl rfl (H.Qc hh kYs) (fun _ hC => Qf rfl) (Az 6 rfl rfl (H.Qc hh kYs) (fun _ hC => Qa (off' := 1) underlying139 rfl sizeOf3 (by decide) rfl rfl) (Az 7 rfl rfl (H.Qc hh kYs) (fun _ hC => Qe (v := I e) isAgg3 rfl hC rfl) (Am 8 rfl (H.Qc hh kYs) (Az 9 rfl rfl (H.Qc hh kYs) (fun _ hC => Qf rfl) (Az 10 rfl rfl (H.Qc hh kYs) (fun _ hC => Qa (off' := 3) underlying139 rfl sizeOf3 (by decide) rfl rfl) (Az 11 rfl rfl (H.Qc hh kYs) (fun _ hC => Qe (v := I n) isAgg3 rfl hC rfl) (Az 12 rfl rfl (H.Qc hh kYs) (fun _ hC => Qm (places := [(0, 1), (1, 1), (2, 1), (3, 1), (4, 1), (5, 1), (6, 1)]) (vs := [I 8, I 0, I 0, I n, I 0, I 0, nilS]) underlying44 typeInfo44 rfl rfl (by kernel_rfl) rfl rfl rfl) (Zf (i := 13) (j := 14) (by kernel_rfl) ?_ ?_)))))))))))))
 ·(refine Qv rfl (.inl rfl) (Qw rfl call36 rfl) (hd H kYs) (fun _ _ ⟨_, _, _, k1, _, _, H1⟩ _ => hout k1 kYs H1) ?_; rintro _ w17 ⟨rfl, Q, qs', k1, k2, k3, H1⟩; clear H; have H := H1; clear H1)
  (refine Ao 14 (Xd rfl (.inl rfl) (Qp (vs := [I 0, I 0, nilS]) H zeroValue96 rfl) (fun b2 w2 hb2 H _ => hout k1 (L := [(b2, _)]) (Qu hb2 Xu) (H.perm (by rw [List.append_nil]; exact (List.perm_append_comm (l₁ := [_]))))) ?_); clear H; intro c2 w19 hc2 H; replace H : Hp w (Q ++ [(c2, blk [I 0, I 0, nilS] 96)]) w19 := H.perm (by rw [List.append_nil]; exact (List.perm_append_comm (l₁ := [_]))))
  (refine Ao 15 (Xb rfl (.inl rfl) (Qg (vs := [I 0, I (enter S e κ.now).2.1, nilS]) H sizeOf96 rfl rfl (by simp [Value.oneCell']) (.app _ .here) (by simp)) (fun _ H _ => hout k1 kYs H) ?_); clear H; intro w21 H; replace H : Hp w (Q ++ [(c2, blk [I 0, I (enter S e κ.now).2.1, nilS] 96)]) w21 := H)
  refine Ad (Js (Jr (Jf 1 underlying96 rfl sizeOf3 rfl rfl (J (Qe (v := I (enter S e κ.now).2.1) isAgg3 rfl (H.get (.app _ .here)) rfl) (J (R_gt rfl rfl) (Jn (Xo rfl (fun h29 => ?_) (fun h29 => ?_))))))))
  ·(have hh2 := H.focus (hout k1 kYs H) (hnot k1 kYs); clear H; have H := hh2; clear hh2; refine Xi (fun w2 => w2.heap[c2]? = some (blk [I 0, I (enter S e κ.now).2.1, nilS] 96)) (fun _ => false) (by kernel_rfl) H ?_; clear H; intro w30 H)
   (refine Am 0 rfl (H.get (.there (.app _ .here))) (Am 1 rfl (H.get (.there (.app _ .here))) (Az 2 rfl rfl (H.get (.there (.app _ .here))) (fun _ hC => Qa (off' := 1) underlying96 rfl sizeOf3 (by decide) rfl rfl) (Az 3 rfl rfl (H.get (.there (.app _ .here))) (fun _ hC => Qe (v := I (enter S e κ.now).2.1) isAgg3 rfl hC rfl) (Az 4 rfl rfl (H.get (.there (.app _ .here))) (fun _ hC => Qf rfl) (Az 5 rfl rfl (H.get (.there (.app _ .here))) (fun _ hC => Qa (off' := 5) underlying139 rfl sizeOf3 (by decide) rfl rfl) (Ao 6 (Xb rfl (.inl rfl) (Qz (v := I 2) H sizeOf3 rfl rfl rfl .here (by simp)) (fun _ H _ => H.get (.there (.app _ .here))) ?_))))))); clear H; intro w38 H; replace H : Hp w ((h, blk (hC κ e sl n c 2 st op a b (.slice da dl dc)) 139) :: (Q ++ [(c2, blk [I 0, I (enter S e κ.now).2.1, nilS] 96)])) w38 := H)
   (refine Az 7 rfl rfl (H.get (.there (.app _ .here))) (fun _ hC => Qf rfl) (Az 8 rfl rfl (H.get (.there (.app _ .here))) (fun _ hC => Qa (off' := 6) underlying139 rfl sizeOf3 (by decide) rfl rfl) (Ao 9 (Xb rfl (.inl rfl) (Qz (v := I (enter S e κ.now).2.1) H sizeOf3 rfl rfl rfl .here (by simp)) (fun _ H _ => H.get (.there (.app _ .here))) ?_))); clear H; intro w42 H; replace H : Hp w ((h, blk (hC κ e sl n c 2 (enter S e κ.now).2.1 op a b (.slice da dl dc)) 139) :: (Q ++ [(c2, blk [I 0, I (enter S e κ.now).2.1, nilS] 96)])) w42 := H)
   refine Ad ?_
   exact ⟨_, rfl, rfl, _, _, .inr rfl, Q, qs', k1, k2, k3, Hp.cut (L := (h, _) :: Q) (M := [_]) H kYs⟩
  ·refine Jk ?_
   exact ⟨_, rfl, rfl, ph, st, .inl rfl, Q, qs', k1, k2, k3, Hp.cut (L := (h, _) :: Q) (M := [_]) (H.focus (hout k1 kYs H) (hnot k1 kYs)) kYs⟩
 ·(refine Xd rfl (.inl rfl) (Qp (vs := [I 0, I 0, nilS]) H zeroValue96 rfl) (fun _ _ _ H _ => H.Qc hh kYs) ?_; clear H; intro c2 w47 hc2 H)
  (refine Ao 13 (Qv rfl (.inl rfl) (Qw rfl call36 rfl) (hd H kYs) (fun _ _ ⟨_, _, _, k1, _, _, H1⟩ _ => hout k1 kYs H1) ?_); rintro _ w49 ⟨rfl, Q, qs', k1, k2, k3, H1⟩; clear H; have H := H1; clear H1)
  (refine Ao 15 (Xb rfl (.inl rfl) (Qg (vs := [I 0, I (enter S e κ.now).2.1, nilS]) H sizeOf96 rfl rfl (by simp [Value.oneCell']) (.app _ .here) (by simp)) (fun _ H _ => hout k1 kYs H) ?_); clear H; intro w51 H; replace H : Hp w (Q ++ [(c2, blk [I 0, I (enter S e κ.now).2.1, nilS] 96)]) w51 := H)
  refine Ad (Js (Jr (Jf 1 underlying96 rfl sizeOf3 rfl rfl (J (Qe (v := I (enter S e κ.now).2.1) isAgg3 rfl (H.get (.app _ .here)) rfl) (J (R_gt rfl rfl) (Jn (Xo rfl (fun h59 => ?_) (fun h59 => ?_))))))))
  ·(have hh2 := H.focus (hout k1 kYs H) (hnot k1 kYs); clear H; have H := hh2; clear hh2; refine Xi (fun w2 => w2.heap[c2]? = some (blk [I 0, I (enter S e κ.now).2.1, nilS] 96)) (fun _ => false) (by kernel_rfl) H ?_; clear H; intro w60 H)
   (refine Am 0 rfl (H.get (.there (.app _ .here))) (Am 1 rfl (H.get (.there (.app _ .here))) (Az 2 rfl rfl (H.get (.there (.app _ .here))) (fun _ hC => Qa (off' := 1) underlying96 rfl sizeOf3 (by decide) rfl rfl) (Az 3 rfl rfl (H.get (.there (.app _ .here))) (fun _ hC => Qe (v := I (enter S e κ.now).2.1) isAgg3 rfl hC rfl) (Az 4 rfl rfl (H.get (.there (.app _ .here))) (fun _ hC => Qf rfl) (Az 5 rfl rfl (H.get (.there (.app _ .here))) (fun _ hC => Qa (off' := 5) underlying139 rfl sizeOf3 (by decide) rfl rfl) (Ao 6 (Xb rfl (.inl rfl) (Qz (v := I 2) H sizeOf3 rfl rfl rfl .here (by simp)) (fun _ H _ => H.get (.there (.app _ .here))) ?_))))))); clear H; intro w68 H; replace H : Hp w ((h, blk (hC κ e sl n c 2 st op a b (.slice da dl dc)) 139) :: (Q ++ [(c2, blk [I 0, I (enter S e κ.now).2.1, nilS] 96)])) w68 := H)
   (refine Az 7 rfl rfl (H.get (.there (.app _ .here))) (fun _ hC => Qf rfl) (Az 8 rfl rfl (H.get (.there (.app _ .here))) (fun _ hC => Qa (off' := 6) underlying139 rfl sizeOf3 (by decide) rfl rfl) (Ao 9 (Xb rfl (.inl rfl) (Qz (v := I (enter S e κ.now).2.1) H sizeOf3 rfl rfl rfl .here (by simp)) (fun _ H _ => H.get (.there (.app _ .here))) ?_))); clear H; intro w72 H; replace H : Hp w ((h, blk (hC κ e sl n c 2 (enter S e κ.now).2.1 op a b (.slice da dl dc)) 139) :: (Q ++ [(c2, blk [I 0, I (enter S e κ.now).2.1, nilS] 96)])) w72 := H)
   refine Ad ?_
   exact ⟨_, rfl, rfl, _, _, .inr rfl, Q, qs', k1, k2, k3, Hp.cut (L := (h, _) :: Q) (M := [_]) H kYs⟩
  ·refine Jk ?_
   exact ⟨_, rfl, rfl, ph, st, .inl rfl, Q, qs', k1, k2, k3, Hp.cut (L := (h, _) :: Q) (M := [_]) (H.focus (hout k1 kYs H) (hnot k1 kYs)) kYs⟩
theorem idleQ (hh : w.heap[h]? = some (blk (hC κ e sl n c ph st op a b (.slice da dl dc)) 139)) (hs : Ks w κ e n sp) (hq : Sq w sp S qs) (hl : ∀ b ∈ qs, b + 1 < w.heap.size) (hb : S.q.length ≤ 1000000) :
  Ret Tryz.prog 95 #[ptr h 0] w fun v w' => v = .tuple #[] ∧ ∃ S', (S' = S ∨ S' = Bf S e) ∧ SqP w sp S' qs [(h, blk (hC κ e sl n c 0 st op a b (.slice da dl dc)) 139)] w' := by
 refine Qi (args := [_]) func95 rfl ntmps95 results95 (by simp) ?_
 have H := Hp.refl w
 have hx := Nd hh hq
 have hout : ∀ {w1 : World} {Q : List (Nat × Obj)}, Kq w.heap.size sp qs Q → Hp w Q w1 → w1.heap[h]? = some (blk (hC κ e sl n c ph st op a b (.slice da dl dc)) 139) := by
  intro w1 Q hk H1
  exact H1.Xw (T := [139]) hh (by simp [elT]) (Kq.out hq hk (by simp) (by simp))
 have hnot : ∀ {Q : List (Nat × Obj)}, Kq w.heap.size sp qs Q → h ∉ Q.map (·.1) := by
  intro Q hk hm
  have hlt := Qr hh
  obtain ⟨p, hp, e2⟩ := List.mem_map.1 hm
  rcases hk p hp with h1 | h1 | h1
  ·exact hx.1 (by omega)
  ·exact hx.2 (by rw [← e2]; exact h1)
  ·omega
 refine Js (Js (Jr (Jm (Ji rfl (Jf 5 underlying139 rfl sizeOf3 rfl rfl (J (Qe (v := I ph) isAgg3 rfl (H.Qc hh kYs) rfl) (J (Yk rfl rfl) (Jm ?_))))))))
 apply Xz 6 7 13 [(8, 13)] H
 case hc => rfl
 case h1 =>
  intro h10
  refine Jt rfl rfl (Jm (Jt rfl rfl (Ji rfl (Jt rfl rfl (Jf 5 underlying139 rfl sizeOf3 rfl rfl (Jt rfl rfl (J (Qe (v := I ph) isAgg3 rfl (H.Qc hh kYs) rfl) (Jt rfl rfl (J (Yk rfl rfl) (Jp rfl (Jn ?_)))))))))))
  exact ⟨kS, rfl, H⟩
 case h0 =>
  intro h10
  refine Jg rfl rfl (Jg rfl rfl (Jg rfl rfl (Jg rfl rfl (Jg rfl rfl (Jq rfl (Jn ?_))))))
  exact ⟨kS, rfl, H⟩
 case h2 =>
  (clear H; intro E10 w10 H)
  refine Jn (Xo rfl (fun h33 => ?_) (fun h33 => ?_))
  ·(refine Xi (fun w2 => w2.heap[h]? = some (blk (hC κ e sl n c ph st op a b (.slice da dl dc)) 139)) (fun _ => false) (by kernel_rfl) H ?_; clear H; intro w34 H)
   (refine Am 0 rfl (H.Qc hh kYs) (Az 1 rfl rfl (H.Qc hh kYs) (fun _ hC => Qf rfl) (Az 2 rfl rfl (H.Qc hh kYs) (fun _ hC => Qa (off' := 0) underlying139 rfl sizeOf71 (by decide) rfl rfl) (Az 3 rfl rfl (H.Qc hh kYs) (fun _ hC => Qe (v := ptr κ.k 0) isAgg71 rfl hC rfl) (Am 4 rfl (H.Qc hh kYs) (Az 5 rfl rfl (H.Qc hh kYs) (fun _ hC => Qf rfl) (Az 6 rfl rfl (H.Qc hh kYs) (fun _ hC => Qa (off' := 3) underlying139 rfl sizeOf3 (by decide) rfl rfl) (Az 7 rfl rfl (H.Qc hh kYs) (fun _ hC => Qe (v := I n) isAgg3 rfl hC rfl) (Am 9 rfl (H.Qc hh kYs) (Az 10 rfl rfl (H.Qc hh kYs) (fun _ hC => Qf rfl) (Az 11 rfl rfl (H.Qc hh kYs) (fun _ hC => Qa (off' := 1) underlying139 rfl sizeOf3 (by decide) rfl rfl) (Az 12 rfl rfl (H.Qc hh kYs) (fun _ hC => Qe (v := I e) isAgg3 rfl hC rfl) (Ao 8 (Qv rfl (.inl rfl) (Qw rfl call59 rfl) (Sect_ret (hs.Ql H kYs)) (fun _ _ hR _ => (H.seq0 hR.2).Qc hh kYs) ?_))))))))))))); rintro _ w48 ⟨rfl, H1⟩; replace H := H.seq0 H1; clear H1)
   (refine Ao 13 (Qv rfl (.inl rfl) (Qw rfl call131 rfl) (Quit_Q (hq.Ql H kYs) (fun b hb => Nat.lt_of_lt_of_le (hl b hb) H.size) (e : Int) hb) (fun _ _ ⟨_, _, k1, _, _, H1⟩ _ => (H1.Xw (T := [139]) (H.Qc hh kYs) (by simp [elT]) (Kq.out (hq.Ql H kYs) k1 (by simp) (by simp)))) ?_); rintro _ w50 ⟨Q, qs', k1, k2, k3, H1⟩; have h9 : SqP _ sp (Bf S e) qs [] _ := ⟨Q, qs', k1, k2, k3, H1⟩; have h8 := SqP.own (X := []) hq H kYs (fun _ h => nomatch h) h9; clear H h9 k1 k2 k3 H1 Q qs'; obtain ⟨Q, qs', k1, k2, k3, H⟩ := h8; rw [List.append_nil, List.nil_append] at H)
   refine Ad (Jr (Jm (Ji rfl (Jf 5 underlying139 rfl sizeOf3 rfl rfl ?_))))
   (have hh2 := H.focus (hout k1 H) (hnot k1); clear H; have H := hh2; clear hh2; refine Qd rfl (Qz (v := I 0) H sizeOf3 rfl rfl rfl .here (by simp)) ?_; clear H; intro w56 H; replace H : Hp w ((h, blk (hC κ e sl n c 0 st op a b (.slice da dl dc)) 139) :: Q) w56 := H)
   refine Jn ?_
   exact ⟨_, rfl, rfl, _, .inr rfl, Q, qs', k1, k2, k3, H⟩
  ·refine Jk (Jr (Jm (Ji rfl (Jf 5 underlying139 rfl sizeOf3 rfl rfl ?_))))
   (replace H := H.foc hh kYs; refine Qd rfl (Qz (v := I 0) H sizeOf3 rfl rfl rfl .here (by simp)) ?_; clear H; intro w64 H; replace H : Hp w [(h, blk (hC κ e sl n c 0 st op a b (.slice da dl dc)) 139)] w64 := H)
   refine Jn ?_
   exact ⟨_, rfl, rfl, S, .inl rfl, SqP.same hq H (fun p hp => by rw [List.mem_singleton.1 hp]; exact hx)⟩
end
end Go.Proofs.YtlpmfldijgdcoaaGreatDoor.Ho
namespace Go.Proofs.YtlpmfldijgdcoaaGreatDoor.Pr
open Go Go.Proofs Fx Kn Cm Tryz
/-- what a call tells -/
def rtC (n e : Int) (b : Value) (bl : Bool) : List Value := [I n, I e, b, .bool bl]
abbrev rt (n e : Int) : Value := .agg (rtC n e nilS false).toArray
theorem Dh (e : Int) (w : World) : Ret Tryz.prog 185 #[I e] w fun v w' => v = rt 0 e ∧ Hp w [] w' := by
 refine Qy (args := [_]) func185 rfl ntmps185 results185 (by simp) ?_
 have H := Hp.refl w
 (refine Js (Jr (Qb rfl (Qp (vs := rtC 0 0 nilS false) H zeroValue227 rfl) ?_)); clear H; intro c2 w3 hc2 H)
 (refine Jn (Js (Jr (Jm (J (Qm (places := [(0, 1), (1, 1), (2, 1), (3, 1)]) (vs := rtC 0 e nilS false) underlying227 typeInfo227 rfl rfl (by kernel_rfl) rfl rfl rfl) (Qd rfl (Qg (vs := rtC 0 e nilS false) H sizeOf227 rfl rfl (by simp [rtC, Value.oneCell']) .here (by simp [rtC])) ?_))))); clear H; intro w9 H; replace H : Hp w [(c2, blk (rtC 0 e nilS false) 227)] w9 := H)
 refine Jn (Je ?_)
 exact ⟨_, ⟨_, rfl, ldA isAgg227 sizeOf227 (H.get .here) rfl (by simp [rtC])⟩, rfl, H.none kYs⟩
/-- a return of a Set or Free -/
def dn (ok : Bool) (n : Int) : Int × Int := if ok then (n, 0) else (0, 105)
theorem Up (ok : Bool) (n : Int) (w : World) : Ret Tryz.prog 188 #[.bool ok, I n] w fun v w' => v = rt (dn ok n).1 (dn ok n).2 ∧ Hp w [] w' := by
 refine Qy (args := [_, _]) func188 rfl ntmps188 results188 (by simp) ?_
 have H := Hp.refl w
 cases ok
 ·(refine Js (Jr (Qb rfl (Qp (vs := rtC 0 0 nilS false) H zeroValue227 rfl) ?_)); clear H; intro c4 w3 hc4 H)
  (refine Jn (Js (Js (Jr (Jm (J (Xx rfl) (Jn (Jd rfl (Js (Jr (Jz rfl call185 rfl (Dh 105 _) H ?_)))))))))); intro w14 H)
  (refine Qd rfl (Qg (vs := rtC 0 105 nilS false) H sizeOf227 rfl rfl (by simp [rtC, Value.oneCell']) .here (by simp [rtC])) ?_; clear H; intro w15 H; replace H : Hp w [(c4, blk (rtC 0 105 nilS false) 227)] w15 := H)
  refine Jn (Je ?_)
  exact ⟨_, ⟨_, rfl, ldA isAgg227 sizeOf227 (H.get .here) rfl (by simp [rtC])⟩, rfl, H.none kYs⟩
 ·(refine Js (Jr (Qb rfl (Qp (vs := rtC 0 0 nilS false) H zeroValue227 rfl) ?_)); clear H; intro c4 w3 hc4 H)
  (refine Jn (Js (Js (Jr (Jm (J (Xj rfl) (Jn (Jc rfl (Jk (Js (Jr (Jm (J (Qm (places := [(0, 1), (1, 1), (2, 1), (3, 1)]) (vs := rtC n 0 nilS false) underlying227 typeInfo227 rfl rfl (by kernel_rfl) rfl rfl rfl) (Qd rfl (Qg (vs := rtC n 0 nilS false) H sizeOf227 rfl rfl (by simp [rtC, Value.oneCell']) .here (by simp [rtC])) ?_))))))))))))); clear H; intro w17 H; replace H : Hp w [(c4, blk (rtC n 0 nilS false) 227)] w17 := H)
  refine Jn (Je ?_)
  exact ⟨_, ⟨_, rfl, ldA isAgg227 sizeOf227 (H.get .here) rfl (by simp [rtC])⟩, rfl, H.none kYs⟩
section
variable {w : World} {c : Nat} {C : Cs}
/-- who one is -/
def self (C : Cs) (i : Nat) : Slot.Pi × Int := if (C.pR i).2 = 1 ∧ (C.pR i).1.s = 1 then ((C.pR i).1, 0) else (Slot.Xn, 105)
theorem Self_L (hM : CmI w c C) (hL : Lk C) {i : Nat} (hi : i < 8) :
  Ret Tryz.prog 184 #[ptr c 0, I i] w fun v w' => v = .tuple #[Slot.vP (self C i).1, I (self C i).2] ∧ Hp w [] w' := by
 refine Qy (args := [_, _]) func184 rfl ntmps184 results184 (by simp) ?_
 have H := Hp.refl w
 have hP : ∀ {w1 : World}, CmI w1 c C → Ret Tryz.prog 64 #[ptr c 0, I i] w1 fun v w' => v = .tuple #[Slot.vP (C.pR i).1, I (C.pR i).2] ∧ Hp w1 [] w' := fun h => Mj h hL hi
 unfold self
 generalize C.pR i = r at *
 obtain ⟨p, z⟩ := r
 simp only at hP ⊢
 by_cases hz : z = 1 ∧ p.s = 1
 ·rw [if_pos hz]
  obtain ⟨rfl, h1⟩ := hz
  (refine Js (Jr (Qb rfl (Slot.Qt H) ?_)); clear H; intro c4 w3 hc4 H)
  (refine Ja (Jn (Js (Jr (Jm (Jz rfl call63 rfl (Look_L (hM.Ql H kYs) hL) H ?_))))); intro w9 H)
  (refine Jn (Js (Jr (Jm (Jm (Jz rfl call64 rfl (hP (hM.Ql H kYs)) H ?_))))); intro w15 H)
  (refine Jm (Jx rfl rfl (Jx rfl rfl (Qb rfl (Slot.Qt H) ?_))); clear H; intro c6 w19 hc6 H)
  (refine Qd rfl (Slot.Qn H rfl rfl .here) ?_; clear H; intro w20 H)
  (refine Ja (Jn (Js (Js (Jr (Jm (J (Yl rfl rfl (by omega)) (Jm (Jt rfl rfl (Jf 0 underlying58 rfl sizeOf3 rfl rfl (Jt rfl rfl (J (Qe (v := I 1) isAgg3 rfl (H.get .here) (by rw [← h1]; rfl)) (Jt rfl rfl (J (Yl rfl rfl (by omega)) (Jp rfl (Jn (Jc rfl (Jk (Js (Jr (J (Slot.Xa rfl (H.get .here)) (Qd rfl (Slot.Qn H rfl rfl (.there .here)) ?_))))))))))))))))))))); clear H; intro w42 H)
  refine Ja (Jn (Je ?_))
  exact ⟨_, ⟨_, _, rfl, Slot.ldP (H.get (.there .here)), rfl⟩, rfl, H.none kYs⟩
 ·rw [if_neg hz]
  (refine Js (Jr (Qb rfl (Slot.Qt H) ?_)); clear H; intro c4 w3 hc4 H)
  (refine Ja (Jn (Js (Jr (Jm (Jz rfl call63 rfl (Look_L (hM.Ql H kYs) hL) H ?_))))); intro w9 H)
  (refine Jn (Js (Jr (Jm (Jm (Jz rfl call64 rfl (hP (hM.Ql H kYs)) H ?_))))); intro w15 H)
  (refine Jm (Jx rfl rfl (Jx rfl rfl (Qb rfl (Slot.Qt H) ?_))); clear H; intro c6 w19 hc6 H)
  (refine Qd rfl (Slot.Qn H rfl rfl .here) ?_; clear H; intro w20 H)
  refine Ja (Jn (Js (Js (Jr (Jm (J (Zu rfl rfl) (Jm ?_)))))))
  apply Xz 4 18 22 [(19, 22)] H
  case hc => rfl
  case h1 =>
   intro h29
   refine Jt rfl rfl (Jf 0 underlying58 rfl sizeOf3 rfl rfl (Jt rfl rfl (J (Qe (v := I p.s) isAgg3 rfl (H.get .here) rfl) (Jt rfl rfl (J (Zu rfl rfl) (Jp rfl (Jn ?_)))))))
   exact ⟨kS, rfl, H⟩
  case h0 =>
   intro h29
   refine Jg rfl rfl (Jg rfl rfl (Jg rfl rfl (Jq rfl (Jn ?_))))
   exact ⟨kS, rfl, H⟩
  case h2 =>
   (clear H; intro E29 w29 H)
   refine Jn (Xo rfl (fun h46 => ?_) (fun h46 => ?_))
   ·(refine Js (Jr (J (Slot.Uw) (Qd rfl (Slot.Qn H rfl rfl (.there .here)) ?_))); clear H; intro w50 H)
    refine Ja (Jn (Je ?_))
    exact ⟨_, ⟨_, _, rfl, Slot.ldP (H.get (.there .here)), rfl⟩, rfl, H.none kYs⟩
   ·refine Jk (Js (Jr ?_))
    exact (hz ⟨by omega, by omega⟩).elim
/-- the least free slot -/
def Uc (C : Cs) : Nat → Int
 | 0 => -1
 | k + 1 => if (C.pR (8 - (k + 1))).2 = 0 then ((8 - (k + 1) : Nat) : Int) else Uc C k
theorem free_L (hM : CmI w c C) (hL : Lk C) :
  Ret Tryz.prog 210 #[ptr c 0] w fun v w' => v = I (Uc C 8) ∧ Hp w [] w' := by
 refine Qi (args := [_]) func210 rfl ntmps210 results210 (by simp) ?_
 have H := Hp.refl w
 have key : ∀ i, i < 8 → Uc C (8 - i) = if (C.pR i).2 = 0 then (i : Int) else Uc C (8 - (i + 1)) := by
  intro i hi
  obtain ⟨k, hk⟩ : ∃ k, 8 - i = k + 1 := ⟨7 - i, by omega⟩
  rw [hk, Uc, show 8 - (k + 1) = i by omega, show 8 - (i + 1) = k by omega]
 refine Js (Jr (Ja (Jn (Js (Js (Jr (Jm (Jn (Jb ?_)))))))))
 refine Yg [(2, 18)] (fun (i : Nat) E w' => i ≤ 8 ∧ E 6 = I i ∧ Uc C 8 = Uc C (8 - i) ∧ Hp w [] w') (fun i => 8 - i) 0 ?e0 ?r0
 ·exact ⟨by omega, rfl, rfl, H⟩
 ·(clear H; rintro i E w1 ⟨hi, h6, hf, H⟩; refine Ur h6 ?_)
  refine Js (Jr (J (Vb rfl rfl) (Jn (Js (Xo rfl (fun h18 => ?_) (fun h18 => ?_))))))
  ·refine Jk (Js (Jb (Js (Jr (Jm (Ja (Jn (Js (Jr (Jm (Jm ?_)))))))))))
   (have hk := key i (by omega); refine Vl rfl (Qw rfl call64 rfl) (Mj (i := i) (hM.same H) hL (by omega)) ?_; rintro _ w31 ⟨rfl, H1⟩; replace H := H.seq0 H1; clear H1; generalize C.pR i = r at *; obtain ⟨p, z⟩ := r; simp only at hk ⊢)
   (refine Jm (Jx rfl rfl (Jx rfl rfl (Qb rfl (Slot.Qt H) ?_))); clear H; intro c4 w35 hc4 H)
   (refine Qd rfl (Slot.Qn H rfl rfl .here) ?_; clear H; intro w36 H)
   refine Ja (Jn (Js (Jr (Jm (J (Yk rfl rfl) (Jn (Xo rfl (fun h44 => ?_) (fun h44 => ?_))))))))
   ·refine Js (Jr (Jm (Ja (Jn (Je ?_)))))
    exact ⟨_, rfl, (by rw [hf, hk, if_pos (by assumption)]; rfl), H.none kYs⟩
   ·refine Jk (Jr (J (Xg rfl rfl (Xc (by omega))) (Jm (Jn ?_))))
    exact ⟨kS, i + 1, by omega, by omega, rfl, (by rw [hf, hk, if_neg (by assumption)]), H.none kYs⟩
  ·refine Xr ?_
   refine (if_pos rfl).mpr ?_
   refine Js ?_
   ((obtain rfl : i = 8 := (by omega))) <;> refine Qk ?_
   refine Ja (Jn (Je ?_))
   exact ⟨_, rfl, (by rw [hf]; rfl), H.none kYs⟩
theorem rows_sing {α : Type} (f : α → List Value) (a : α) : rows f [a] = f a := by simp [rows]
/-- a slot that is there -/
def slC (x : Nat × Slot.Pi) : List Value := I x.1 :: Slot.piC x.2
theorem Vd (x : Nat × Slot.Pi) : (slC x).length = 17 := by simp [slC, Slot.Ya]
theorem slC_one (x : Nat × Slot.Pi) : ∀ u ∈ slC x, u.oneCell' = true := by
 intro u hu
 rcases List.mem_cons.1 hu with rfl | hu
 ·rfl
 ·exact Slot.piC_one _ u hu
abbrev slV (x : Nat × Slot.Pi) : Value := .agg (slC x).toArray
/-- the first k slots of which something is true -/
def Yb (C : Cs) (P : Nat × Slot.Pi → Bool) : Nat → List (Nat × Slot.Pi)
 | 0 => []
 | k + 1 => if (C.pR k).2 = 1 ∧ P (k, (C.pR k).1) = true then Yb C P k ++ [(k, (C.pR k).1)] else Yb C P k
theorem Ni (C : Cs) (P : Nat × Slot.Pi → Bool) : ∀ k, (Yb C P k).length ≤ k
 | 0 => by simp [Yb]
 | k + 1 => by
  have := Ni C P k
  unfold Yb
  split
  ·rw [List.length_append, List.length_singleton]; omega
  ·omega
theorem lives_ret (x : Nat × Slot.Pi) (w : World) : Ret Tryz.prog 214 #[slV x] w fun v w' => v = .bool (decide (x.2.s ≠ 2)) ∧ Hp w [] w' := by
 refine Qi (args := [_]) func214 rfl ntmps214 results214 (by simp) ?_
 have H := Hp.refl w
 (refine Js (Jr (Qb rfl (Xl (vs := slC x) H rfl rfl) ?_)); clear H; intro c1 w3 hc1 H)
 refine Ja (Jn (Js (Jr (Jf 1 underlying316 rfl sizeOf58 rfl rfl (Jf 1 underlying58 rfl sizeOf3 rfl rfl (J (Qe (v := I x.2.s) isAgg3 rfl (H.get .here) rfl) (J (Zu rfl rfl) (Ja (Jn (Je ?_))))))))))
 exact ⟨_, rfl, rfl, H.none kYs⟩
section
variable {E : Env} {w0 : World} {L : List (Nat × Obj)} {d : Option Nat} {ty : TypeId} {pos : String} {after : Array Edge} {x y : Operand} {b : Nat} {sx sy : Nat × Slot.Pi} {e : TypeId} {f : Obj → List (Nat × Obj)}
theorem R_loadS {sx : Nat × Slot.Pi} (hx : ev E x = ptr b 0) (hb : w.heap[b]? = some (blk (slC sx) e)) : (execOp (ev E) (mk d (.load 316 x) ty pos after)).run Tryz.prog w = .ok (.value (slV sx)) w :=
 Qo isAgg316 sizeOf316 hx hb (by rw [List.drop_zero, List.take_of_length_le (by rw [Vd]; decide)]) (by rw [Vd]; decide)
theorem E_storeS {x' : Nat × Slot.Pi} {y' : Nat × Slot.Pi} {xo yo : Operand} (H : Hp w0 L w) (hx : ev E xo = ptr b 0) (hy : ev E yo = slV x') (hL : At L b (blk (slC y') e) f) :
  ∃ w', Hp w0 (f (blk (slC x') e)) w' ∧ (execOp (ev E) (mk d (.store 316 xo yo) ty pos after)).run Tryz.prog w = .ok .skip w' := by
 have h := Qg (d := d) (ty := ty) (pos := pos) (after := after) (vs := slC x') H (fun w => by rw [Vd]; exact sizeOf316 w) hx hy (slC_one x') hL (by rw [Vd, Vd]; decide)
 rw [List.take_zero, List.nil_append, Vd, List.drop_of_length_le (by rw [Vd]; decide), List.append_nil] at h
 exact h
theorem R_buildS {i : Nat} {p : Slot.Pi} {xo yo : Operand} (hx : ev E xo = I i) (hy : ev E yo = Slot.vP p) : (execOp (ev E) (mk d (.build 316 #[(0, xo), (1, yo)]) ty pos after)).run Tryz.prog w = .ok (.value (slV (i, p))) w := by
 obtain ⟨s, pp, g, e, a, b, c, d, f, hf⟩ := p
 match f, hf with
 | [f0, f1, f2, f3, f4, f5, f6, f7], hf =>
  exact Qm (places := [(0, 1), (1, 16)]) (ps := [(0, I i), (1, Slot.vP ⟨s, pp, g, e, a, b, c, d, [f0, f1, f2, f3, f4, f5, f6, f7], hf⟩)]) (vs := slC (i, ⟨s, pp, g, e, a, b, c, d, [f0, f1, f2, f3, f4, f5, f6, f7], hf⟩)) underlying316 typeInfo316 rfl rfl (by kernel_rfl) (by simp [hx, hy]) rfl rfl
end
def Vu (n : Int) : Nat × Slot.Pi → Bool := fun x => decide (x.2.p = n + 1)
theorem waitC_ret {b : Nat} {n : Int} (hb : w.heap[b]? = some (blk [I n] 3)) (hn : -100 ≤ n ∧ n ≤ 100) (x : Nat × Slot.Pi) :
  Ret Tryz.prog 213 #[slV x, ptr b 0] w fun v w' => v = .bool (Vu n x) ∧ Hp w [] w' := by
 refine Qi (args := [_, _]) func213 rfl ntmps213 results213 (by simp) ?_
 have H := Hp.refl w
 (refine Js (Jr (Qb rfl (Xl (vs := slC x) H rfl rfl) ?_)); clear H; intro c2 w3 hc2 H)
 refine Ja (Jn (Js (Jr (Jf 1 underlying316 rfl sizeOf58 rfl rfl (Jf 2 underlying58 rfl sizeOf3 rfl rfl (J (Qe (v := I x.2.p) isAgg3 rfl (H.get .here) rfl) (J (Qe (v := I n) isAgg3 rfl (H.Qc hb kYs) rfl) (J (Xg (r := n + 1) rfl rfl (by rw [Xc (by omega)])) (J (Yk rfl rfl) (Ja (Jn (Je ?_))))))))))))
 exact ⟨_, rfl, rfl, H.none kYs⟩
theorem wait_slots (hM : CmI w c C) (hL : Lk C) {b : Nat} {n : Int} (hb : w.heap[b]? = some (blk [I n] 3)) (hn : -100 ≤ n ∧ n ≤ 100) :
  Ret Tryz.prog 212 #[ptr c 0, .func (.func 213) #[] #[ptr b 0]] w fun v w' => ∃ M, Yo w.heap.size 316 17 v (Yb C (Vu n) 8).length (rows slC (Yb C (Vu n) 8)) M ∧ Hp w M w' := by
 refine Qi (args := [_, _]) func212 rfl ntmps212 results212 (by simp) ?_
 have H := Hp.refl w
 have hstep : ∀ i, Yb C (Vu n) (i + 1) = if (C.pR i).2 = 1 ∧ Vu n (i, (C.pR i).1) = true then Yb C (Vu n) i ++ [(i, (C.pR i).1)] else Yb C (Vu n) i := fun i => rfl
 refine Js (Jr (Ja (Jn (Js (Jr (Ja (Jn (Js (Js (Jr (Jm (Jn (Jb ?_)))))))))))))
 refine Yg [(5, 33)] (fun (i : Nat) E w' => i ≤ 8 ∧ E 10 = I i ∧ ∃ v M, E 5 = v ∧ Yo w.heap.size 316 17 v (Yb C (Vu n) i).length (rows slC (Yb C (Vu n) i)) M ∧ Hp w M w') (fun i => 8 - i) 0 ?e0 ?r0
 ·exact ⟨by omega, rfl, nilS, [], rfl, Yo.nil _ _ _, H⟩
 ·(clear H; rintro i E w1 ⟨hi, h10, v, M, h5, hO, H⟩; obtain ⟨va, vc, rfl⟩ := hO.form; refine W_kn2 h10 h5 ?_; have hM9 := hO.keys; have hle := Ni C (Vu n) i)
  refine Js (Jr (J (Vb rfl rfl) (Jn (Js (Xo rfl (fun h22 => ?_) (fun h22 => ?_))))))
  ·refine Jk (Js (Jb (Js (Jr (Jm (Ja (Jn (Js (Jr (Jm (Jm ?_)))))))))))
   (have hk := hstep i; refine Vl rfl (Qw rfl call64 rfl) (Mj (i := i) (hM.Ql H kYs) hL (by omega)) ?_; rintro _ w35 ⟨rfl, H1⟩; replace H := H.seq0 H1; clear H1; generalize C.pR i = r at *; obtain ⟨p, z⟩ := r; simp only at hk ⊢)
   (refine Jm (Jx rfl rfl (Jx rfl rfl (Qb rfl (Slot.Qt H) ?_))); clear H; intro c7 w39 hc7 H)
   (refine Qd rfl (Slot.Qn H rfl rfl .here) ?_; clear H; intro w40 H)
   (refine Ja (Jn (Js (Jr (Jm (J (Slot.Xa rfl (H.get .here)) (J (R_buildS rfl rfl) (Qb rfl (Qp (vs := slC (0, Slot.Xn)) H zeroValue316 rfl) ?_))))))); clear H; intro c9 w48 hc9 H)
   (refine Qd rfl (E_storeS (x' := (i, p)) H rfl rfl .here) ?_; clear H; intro w49 H)
   refine Jn (Js (Jr (Jm (J (Yk rfl rfl) (Jm ?_)))))
   apply Xs 4 24 28 [(25, 28)] H
   case hc => rfl
   case h1 =>
    intro h56
    (refine Jt rfl rfl (Jm (Jt rfl rfl (J (R_loadS rfl (H.get .here)) (Jt rfl rfl (Jz rfl call213 rfl (waitC_ret (H.Qc hb kYs) hn (i, p)) H ?_))))); intro w62 H)
    refine Jq rfl (Jn ?_)
    exact ⟨kS, rfl, H⟩
   case h0 =>
    intro h56
    refine Jg rfl rfl (Jg rfl rfl (Jg rfl rfl (Jp rfl (Jn ?_))))
    exact ⟨kS, rfl, H⟩
   case h2 =>
    (clear H; intro E56 w56 H)
    refine Jn (Xo rfl (fun h73 => ?_) (fun h73 => ?_))
    ·(refine Jr (Jm (J (R_loadS rfl (H.get .here)) (Qb rfl (Zt (vss := [slC (i, p)]) H underlying313 sizeOf316 zeroValue316 rfl rfl (by decide) rfl rfl (by simp [Vd])) ?_))); clear H; intro b31 w77 hb31 H)
     (refine Ve rfl (Yx (news := slC (i, p)) (m := 1) H (.there (.there (.there .last))) hO underlying313 typeInfo316 rfl rfl rfl rfl rfl rfl (Mn (m := 1) (sp := []) underlying313 (H.get .here) (by rw [Vd]) (slC_one _)) (by omega) (by simp only [Tryz.t316]; omega)) ?_; clear H hO; intro v5 N5 w78 hO H)
     refine Ja (Jn (Jr (J (Xg rfl rfl (Xc (by omega))) (Jm (Jn ?_)))))
     (have hif : z = 1 ∧ Vu n (i, p) = true := (by first | assumption | exact ⟨by assumption, by assumption⟩ | (unfold Vu; simp only [decide_eq_true_eq]; assumption)); rw [if_pos hif] at hk; exact ⟨kS, i + 1, by omega, by omega, rfl, _, N5, rfl, (by rw [hk, List.length_append, Ba, rows_sing, List.length_singleton]; exact hO), ((H.pop hb31).pop hc9).pop hc7⟩)
    ·refine Jk (Jr (J (Xg rfl rfl (Xc (by omega))) (Jm (Jn ?_))))
     (have hif : ¬ (z = 1 ∧ Vu n (i, p) = true) := (by first | assumption | (unfold Vu; simp only [decide_eq_true_eq]; assumption)); rw [if_neg hif] at hk; exact ⟨kS, i + 1, by omega, by omega, rfl, _, M, rfl, (by rw [hk]; exact hO), (H.pop hc9).pop hc7⟩)
  ·refine Xr ?_
   refine (if_pos rfl).mpr ?_
   refine Js ?_
   ((obtain rfl : i = 8 := (by omega))) <;> refine Qk ?_
   refine Jm (Ja (Jn (Je ?_)))
   exact ⟨_, rfl, M, hO, H⟩
def Vc (n : Int) : Nat × Slot.Pi → Bool := fun x => decide ((x.1 : Int) ≠ n ∧ x.2.p = n + 1)
theorem orphC_ret {b : Nat} {n : Int} (hb : w.heap[b]? = some (blk [I n] 3)) (hn : -100 ≤ n ∧ n ≤ 100) (x : Nat × Slot.Pi) :
  Ret Tryz.prog 230 #[slV x, ptr b 0] w fun v w' => v = .bool (Vc n x) ∧ Hp w [] w' := by
 refine Qi (args := [_, _]) func230 rfl ntmps230 results230 (by simp) ?_
 have H := Hp.refl w
 (refine Js (Jr (Qb rfl (Xl (vs := slC x) H rfl rfl) ?_)); clear H; intro c2 w3 hc2 H)
 refine Ja (Jn (Js (Jr (Jf 0 underlying316 rfl sizeOf3 rfl rfl (J (Qe (v := I x.1) isAgg3 rfl (H.get .here) rfl) (J (Qe (v := I n) isAgg3 rfl (H.Qc hb kYs) rfl) (J (Zu rfl rfl) (Jm ?_))))))))
 apply Xs 7 8 15 [(9, 15)] H
 case hc => rfl
 case h1 =>
  intro h13
  refine Jt rfl rfl (Jf 1 underlying316 rfl sizeOf58 rfl rfl (Jt rfl rfl (Jf 2 underlying58 rfl sizeOf3 rfl rfl (Jt rfl rfl (J (Qe (v := I x.2.p) isAgg3 rfl (H.get .here) rfl) (Jt rfl rfl (J (Qe (v := I n) isAgg3 rfl (H.Qc hb kYs) rfl) (Jt rfl rfl (J (Xg (r := n + 1) rfl rfl (by rw [Xc (by omega)])) (Jt rfl rfl (J (Yk rfl rfl) (Jq rfl (Jn ?_)))))))))))))
  exact ⟨kS, rfl, H⟩
 case h0 =>
  intro h13
  refine Jg rfl rfl (Jg rfl rfl (Jg rfl rfl (Jg rfl rfl (Jg rfl rfl (Jg rfl rfl (Jp rfl (Jn ?_)))))))
  exact ⟨kS, rfl, H⟩
 case h2 =>
  (clear H; intro E13 w13 H)
  refine Ja (Jn (Je ?_))
  exact ⟨_, rfl, rfl, H.none kYs⟩
theorem orph_slots (hM : CmI w c C) (hL : Lk C) {b : Nat} {n : Int} (hb : w.heap[b]? = some (blk [I n] 3)) (hn : -100 ≤ n ∧ n ≤ 100) :
  Ret Tryz.prog 212 #[ptr c 0, .func (.func 230) #[] #[ptr b 0]] w fun v w' => ∃ M, Yo w.heap.size 316 17 v (Yb C (Vc n) 8).length (rows slC (Yb C (Vc n) 8)) M ∧ Hp w M w' := by
 refine Qi (args := [_, _]) func212 rfl ntmps212 results212 (by simp) ?_
 have H := Hp.refl w
 have hstep : ∀ i, Yb C (Vc n) (i + 1) = if (C.pR i).2 = 1 ∧ Vc n (i, (C.pR i).1) = true then Yb C (Vc n) i ++ [(i, (C.pR i).1)] else Yb C (Vc n) i := fun i => rfl
 refine Js (Jr (Ja (Jn (Js (Jr (Ja (Jn (Js (Js (Jr (Jm (Jn (Jb ?_)))))))))))))
 refine Yg [(5, 33)] (fun (i : Nat) E w' => i ≤ 8 ∧ E 10 = I i ∧ ∃ v M, E 5 = v ∧ Yo w.heap.size 316 17 v (Yb C (Vc n) i).length (rows slC (Yb C (Vc n) i)) M ∧ Hp w M w') (fun i => 8 - i) 0 ?e0 ?r0
 ·exact ⟨by omega, rfl, nilS, [], rfl, Yo.nil _ _ _, H⟩
 ·(clear H; rintro i E w1 ⟨hi, h10, v, M, h5, hO, H⟩; obtain ⟨va, vc, rfl⟩ := hO.form; refine W_kn2 h10 h5 ?_; have hM9 := hO.keys; have hle := Ni C (Vc n) i)
  refine Js (Jr (J (Vb rfl rfl) (Jn (Js (Xo rfl (fun h22 => ?_) (fun h22 => ?_))))))
  ·refine Jk (Js (Jb (Js (Jr (Jm (Ja (Jn (Js (Jr (Jm (Jm ?_)))))))))))
   (have hk := hstep i; refine Vl rfl (Qw rfl call64 rfl) (Mj (i := i) (hM.Ql H kYs) hL (by omega)) ?_; rintro _ w35 ⟨rfl, H1⟩; replace H := H.seq0 H1; clear H1; generalize C.pR i = r at *; obtain ⟨p, z⟩ := r; simp only at hk ⊢)
   (refine Jm (Jx rfl rfl (Jx rfl rfl (Qb rfl (Slot.Qt H) ?_))); clear H; intro c7 w39 hc7 H)
   (refine Qd rfl (Slot.Qn H rfl rfl .here) ?_; clear H; intro w40 H)
   (refine Ja (Jn (Js (Jr (Jm (J (Slot.Xa rfl (H.get .here)) (J (R_buildS rfl rfl) (Qb rfl (Qp (vs := slC (0, Slot.Xn)) H zeroValue316 rfl) ?_))))))); clear H; intro c9 w48 hc9 H)
   (refine Qd rfl (E_storeS (x' := (i, p)) H rfl rfl .here) ?_; clear H; intro w49 H)
   refine Jn (Js (Jr (Jm (J (Yk rfl rfl) (Jm ?_)))))
   apply Xs 4 24 28 [(25, 28)] H
   case hc => rfl
   case h1 =>
    intro h56
    (refine Jt rfl rfl (Jm (Jt rfl rfl (J (R_loadS rfl (H.get .here)) (Jt rfl rfl (Jz rfl call230 rfl (orphC_ret (H.Qc hb kYs) hn (i, p)) H ?_))))); intro w62 H)
    refine Jq rfl (Jn ?_)
    exact ⟨kS, rfl, H⟩
   case h0 =>
    intro h56
    refine Jg rfl rfl (Jg rfl rfl (Jg rfl rfl (Jp rfl (Jn ?_))))
    exact ⟨kS, rfl, H⟩
   case h2 =>
    (clear H; intro E56 w56 H)
    refine Jn (Xo rfl (fun h73 => ?_) (fun h73 => ?_))
    ·(refine Jr (Jm (J (R_loadS rfl (H.get .here)) (Qb rfl (Zt (vss := [slC (i, p)]) H underlying313 sizeOf316 zeroValue316 rfl rfl (by decide) rfl rfl (by simp [Vd])) ?_))); clear H; intro b31 w77 hb31 H)
     (refine Ve rfl (Yx (news := slC (i, p)) (m := 1) H (.there (.there (.there .last))) hO underlying313 typeInfo316 rfl rfl rfl rfl rfl rfl (Mn (m := 1) (sp := []) underlying313 (H.get .here) (by rw [Vd]) (slC_one _)) (by omega) (by simp only [Tryz.t316]; omega)) ?_; clear H hO; intro v5 N5 w78 hO H)
     refine Ja (Jn (Jr (J (Xg rfl rfl (Xc (by omega))) (Jm (Jn ?_)))))
     (have hif : z = 1 ∧ Vc n (i, p) = true := (by first | assumption | exact ⟨by assumption, by assumption⟩ | (unfold Vc; simp only [decide_eq_true_eq]; assumption)); rw [if_pos hif] at hk; exact ⟨kS, i + 1, by omega, by omega, rfl, _, N5, rfl, (by rw [hk, List.length_append, Ba, rows_sing, List.length_singleton]; exact hO), ((H.pop hb31).pop hc9).pop hc7⟩)
    ·refine Jk (Jr (J (Xg rfl rfl (Xc (by omega))) (Jm (Jn ?_))))
     (have hif : ¬ (z = 1 ∧ Vc n (i, p) = true) := (by first | assumption | (unfold Vc; simp only [decide_eq_true_eq]; assumption)); rw [if_neg hif] at hk; exact ⟨kS, i + 1, by omega, by omega, rfl, _, M, rfl, (by rw [hk]; exact hO), (H.pop hc9).pop hc7⟩)
  ·refine Xr ?_
   refine (if_pos rfl).mpr ?_
   refine Js ?_
   ((obtain rfl : i = 8 := (by omega))) <;> refine Qk ?_
   refine Jm (Ja (Jn (Je ?_)))
   exact ⟨_, rfl, M, hO, H⟩
def targP (n : Int) : Nat × Slot.Pi → Bool := fun x => decide (x.2.s ≠ 2 ∧ x.2.g = n - 8)
def hasP (n : Int) : Nat × Slot.Pi → Bool := fun x => decide (x.2.s ≠ 2 ∧ x.2.g = n)
end
end Go.Proofs.YtlpmfldijgdcoaaGreatDoor.Pr
namespace Go.Proofs.YtlpmfldijgdcoaaGreatDoor.Pr
open Go Go.Proofs Fx Kn Cm Tryz
/-- how often a file is named -/
def cnt (l : List Int) (f : Nat) : Nat := l.count ((f : Int) + 1)
def Dr (l : List Int) : List Int := (List.range 12).map fun (j : Nat) => ((cnt l j : Nat) : Int)
theorem Dv (l : List Int) : (Dr l).length = 12 := by simp [Dr]
theorem Nl {l : List Int} {j : Nat} (hj : j < 12) : (Dr l)[j]? = some ((cnt l j : Nat) : Int) := by
 unfold Dr; rw [List.getElem?_map, List.getElem?_range hj]; rfl
theorem cnt_snoc (l : List Int) (d : Int) (j : Nat) : cnt (l ++ [d]) j = cnt l j + if d = (j : Int) + 1 then 1 else 0 := by
 unfold cnt
 rw [List.count_append]
 by_cases h : d = (j : Int) + 1
 ·rw [if_pos h, h, List.count_singleton_self]
 ·rw [if_neg h, List.count_eq_zero.2 (fun hm => h (List.mem_singleton.1 hm).symm)]
theorem moreL_zero (l : List Int) : Dr (l ++ [0]) = Dr l := by
 unfold Dr
 exact List.map_congr_left fun j _ => by rw [cnt_snoc, if_neg (by omega), Nat.add_zero]
theorem moreL_snoc (l : List Int) {k : Nat} (hk : k < 12) : Dr (l ++ [(k : Int) + 1]) = (Dr l).set k ((cnt l k + 1 : Nat) : Int) := by
 apply List.ext_getElem?
 intro j
 rw [List.getElem?_set]
 by_cases hj : j < 12
 ·rw [Nl hj, Nl hj, cnt_snoc, Dv]
  by_cases h : k = j
  ·subst h; rw [if_pos rfl, if_pos rfl, if_pos hk]
  ·rw [if_neg h, if_neg (by omega), Nat.add_zero]
 ·rw [List.getElem?_eq_none (by rw [Dv]; omega), List.getElem?_eq_none (l := Dr l) (by rw [Dv]; omega), if_neg (by omega)]
theorem cnt_le (l : List Int) (j : Nat) : cnt l j ≤ l.length := List.count_le_length
theorem fR_r (C : Cs) (i : Nat) : 0 ≤ (C.fR i).1.r ∧ (C.fR i).1.r ≤ 64 := by
 unfold Cs.fR
 split
 ·exact ⟨by decide, by decide⟩
 ·unfold Cs.fD File.Xy
  split
  ·exact ⟨by decide, by decide⟩
  ·split
   ·rename_i h; have := h.2.1; unfold File.Yz at this; exact ⟨show 0 ≤ (File.ofB _).r by omega, show (File.ofB _).r ≤ 64 by omega⟩
   ·exact ⟨by decide, by decide⟩
def chkS (C : Cs) (p : Slot.Pi) : List Int → Int
 | [] => 0
 | f :: l => if f = 0 then chkS C p l else if (C.fR (f - 1).toNat).2 ≠ 1 then 105 else if 64 < (C.fR (f - 1).toNat).1.r + cnt p.f (f - 1).toNat then 123 else chkS C p l
/-- a file with more that name it -/
def moreF (C : Cs) (p : Slot.Pi) (f : Nat) : File.Fl := { (C.fR f).1 with r := (C.fR f).1.r + cnt p.f f }
def addS (p : Slot.Pi) : Nat → Cs → List UInt8 × Int
 | 0, C => (C.κ.xs, 0)
 | k + 1, C => if cnt p.f (11 - k) = 0 then addS p k C else if upFb C (11 - k) (moreF C p (11 - k)) = true then addS p k (C.Xh (upFX C (11 - k) (moreF C p (11 - k)))) else (upFX C (11 - k) (moreF C p (11 - k)), 105)
def Vi (C : Cs) (p : Slot.Pi) : List UInt8 × Int := if chkS C p p.f ≠ 0 then (C.κ.xs, chkS C p p.f) else addS p 12 C
theorem addS_step {p : Slot.Pi} {C : Cs} {i : Nat} (hi : i < 12) : addS p (12 - i) C = if cnt p.f i = 0 then addS p (12 - (i + 1)) C else if upFb C i (moreF C p i) = true then addS p (12 - (i + 1)) (C.Xh (upFX C i (moreF C p i))) else (upFX C i (moreF C p i), 105) := by
 obtain ⟨k, hk⟩ : ∃ k, 12 - i = k + 1 := ⟨11 - i, by omega⟩
 have e1 : 12 - (i + 1) = k := by omega
 have e2 : 11 - k = i := by omega
 rw [hk, e1, addS, e2]
section
variable {w : World} {c : Nat} {C : Cs}
theorem share_ret (h : Gd w c C) (p : Slot.Pi) (hp : ∀ d ∈ p.f, 0 ≤ d ∧ d ≤ 12) :
  Ret Tryz.prog 211 #[ptr c 0, Slot.vP p] w fun v w' => v = I (Vi C p).2 ∧ Gp C (Vi C p).1 ∧ Hp w [(C.κ.mb, blk ((Vi C p).1.map U) 5)] w' := by
 refine Qi (args := [_, _]) func211 rfl ntmps211 results211 (by simp) ?_
 have H := Hp.refl w
 have hpf := p.hf
 have hbk := h.hM.hK.hb
 (refine Js (Jr (Qb rfl (Slot.Ys H rfl) ?_)); clear H; intro c3 w3 hc3 H)
 (refine Ja (Jn (Js (Jr (Qb rfl (Qp (vs := (Dr []).map I) H zeroValue348 rfl) ?_)))); clear H; intro c5 w8 hc5 H)
 refine Jn (Js (Js (Jr (Jf 8 underlying58 rfl sizeOf56 rfl rfl (J (Qo (vs := p.f.map fun x => I x) isAgg56 sizeOf56 rfl (H.get (.there .here)) (by show ((Slot.piC p).drop 8).take 8 = _; unfold Slot.piC; rw [List.drop_left' (by simp), List.take_of_length_le (by simp [hpf])]) (by rw [Slot.Ya]; decide)) (Jm (Jn (Jb ?_))))))))
 refine Yg [(7, 7), (18, 29)] (fun (i : Nat) E w' => i ≤ 8 ∧ E 18 = I i ∧ Hp w [(c5, blk ((Dr (p.f.take i)).map I) 348), (c3, blk (Slot.piC p) 58)] w') (fun i => 8 - i) 0 ?e0 ?r0
 ·exact ⟨by omega, rfl, H⟩
 ·(clear H; rintro i E w1 ⟨hi, h18, H⟩; refine Ur h18 ?_)
  refine Js (Jr (J (Vb rfl rfl) (Jn (Js (Xo rfl (fun h25 => ?_) (fun h25 => ?_))))))
  ·refine Jk (Js (Jb (Js ?_)))
   ((obtain ⟨d, hd⟩ : ∃ d, p.f[i]? = some d := ⟨_, List.getElem?_eq_getElem (by omega)⟩; have hd9 := hp d (List.mem_of_getElem? hd); have htk : p.f.take (i + 1) = p.f.take i ++ [d] := (by rw [List.take_succ_eq_append_getElem (by omega : i < p.f.length), (List.getElem?_eq_some_iff.1 hd).2]))) <;> refine Qk ?_
   refine J (R_index (i := (i : Int)) (v := I d) underlying56 isAgg3 sizeOf3 rfl rfl (by omega) (by omega) (by simp [hd])) (Ja (Jn (Js (Jr (Jm (J (R_gt rfl rfl) (Jn (Xo rfl (fun h39 => ?_) (fun h39 => ?_)))))))))
   ·((obtain ⟨m, rfl, hm⟩ : ∃ m : Nat, d = (m : Int) + 1 ∧ m < 12 := ⟨(d - 1).toNat, by omega, by omega⟩; have hct := cnt_le (p.f.take i) m; have hctl : (p.f.take i).length ≤ 8 := (by rw [List.length_take]; omega); have hml := Dv (p.f.take i); have hmg := Nl (l := p.f.take i) hm)) <;> refine Qk ?_
    (refine Jm (J (Vt (r := ((m : Nat) : Int)) rfl rfl (by rw [Xc (by omega)]; omega)) (J (Yq (off' := m) underlying348 sizeOf3 rfl rfl (by omega) (by omega) (by omega)) (J (Qe (v := I ((cnt (p.f.take i) m : Nat) : Int)) isAgg3 rfl (H.get .here) (by rw [List.getElem?_map, hmg]; rfl)) (J (Xg (r := ((cnt (p.f.take i) m + 1 : Nat) : Int)) rfl rfl (by rw [Xc (by omega)]; omega)) (J (Yq (off' := m) underlying348 sizeOf3 rfl rfl (by omega) (by omega) (by omega)) (Qd rfl (Qz (v := I ((cnt (p.f.take i) m + 1 : Nat) : Int)) H sizeOf3 rfl rfl rfl .here (by rw [List.length_map, hml]; exact hm)) ?_)))))); clear H; intro w47 H; rw [← List.map_set, ← moreL_snoc _ hm, ← htk] at H)
    refine Jn (Jr (J (Xg rfl rfl (Xc (by omega))) (Jm (Jn ?_))))
    exact ⟨kS, i + 1, by omega, by omega, rfl, H⟩
   ·refine Jk (Jr (J (Xg rfl rfl (Xc (by omega))) (Jm (Jn ?_))))
    exact ⟨kS, i + 1, by omega, by omega, rfl, (by rw [htk, (by omega : d = 0), moreL_zero]; exact H)⟩
  ·refine Xr ?_
   refine (if_pos rfl).mpr ?_
   refine Js (Js ?_)
   ((obtain rfl : i = 8 := (by omega); rw [List.take_of_length_le (by omega)] at H)) <;> refine Qk ?_
   refine Jf 8 underlying58 rfl sizeOf56 rfl rfl (J (Qo (vs := p.f.map fun x => I x) isAgg56 sizeOf56 rfl (H.get (.there .here)) (by show ((Slot.piC p).drop 8).take 8 = _; unfold Slot.piC; rw [List.drop_left' (by simp), List.take_of_length_le (by simp [hpf])]) (by rw [Slot.Ya]; decide)) (Jm (Jn (Jb ?_))))
   refine Yg [(4, 4), (9, 11), (32, 56)] (fun (i : Nat) E w' => i ≤ 8 ∧ E 32 = I i ∧ chkS C p (p.f.drop i) = chkS C p p.f ∧ Hp w [(c5, blk ((Dr p.f).map I) 348), (c3, blk (Slot.piC p) 58)] w') (fun i => 8 - i) 0 ?e2 ?r2
   ·exact ⟨by omega, rfl, rfl, H⟩
   ·(clear H; rintro i E w1 ⟨hi, h32, hck, H⟩; refine Ur h32 ?_)
    refine Js (Jr (J (Vb rfl rfl) (Jn (Js (Xo rfl (fun h77 => ?_) (fun h77 => ?_))))))
    ·refine Jk (Js (Jb (Js ?_)))
     ((obtain ⟨d, hd⟩ : ∃ d, p.f[i]? = some d := ⟨_, List.getElem?_eq_getElem (by omega)⟩; have hd9 := hp d (List.mem_of_getElem? hd); have hdr : p.f.drop i = d :: p.f.drop (i + 1) := (by rw [List.drop_eq_getElem_cons (by omega : i < p.f.length), (List.getElem?_eq_some_iff.1 hd).2]); rw [hdr, chkS] at hck; clear hdr)) <;> refine Qk ?_
     refine J (R_index (i := (i : Int)) (v := I d) underlying56 isAgg3 sizeOf3 rfl rfl (by omega) (by omega) (by simp [hd])) (Ja (Jn (Js (Js (Jr (Jm (J (Yk rfl rfl) (Jn (Xo rfl (fun h92 => ?_) (fun h92 => ?_))))))))))
     ·refine Xr ?_
      refine (if_pos rfl).mpr ?_
      refine Jr (J (Xg rfl rfl (Xc (by omega))) (Jm (Jn ?_)))
      exact ⟨kS, i + 1, by omega, by omega, rfl, (by rw [← hck, if_pos (by assumption)]), H⟩
     ·refine Jk (Js ?_)
      ((rw [if_neg (by assumption)] at hck; obtain ⟨m, rfl, hm⟩ : ∃ m : Nat, d = (m : Int) + 1 ∧ m < 12 := ⟨(d - 1).toNat, by omega, by omega⟩; rw [show ((m : Int) + 1 - 1).toNat = m from (by omega)] at hck; have hct := cnt_le p.f m; have hmg := Nl (l := p.f) hm; have hfr := fR_r C m)) <;> refine Qk ?_
      (refine Jm (Jm (J (Vt (r := ((m : Nat) : Int)) rfl rfl (by rw [Xc (by omega)]; omega)) (Jz rfl call101 rfl (File_L (i := m) (h.hM.Ql H kYs) h.hL hm) H ?_))); intro w106 H)
      (refine Jm (Jx rfl rfl (Jx rfl rfl (Qb rfl (File.Us H) ?_))); clear H; intro c10 w110 hc10 H)
      (refine Qd rfl (File.Bu H rfl rfl .here) ?_; clear H; intro w111 H)
      refine Ja (Jn (Jb (Js (Jr (Jm (J (Zu rfl rfl) (Ja (Jn (Xo rfl (fun h121 => ?_) (fun h121 => ?_))))))))))
      ·refine Js (Jr (Ja (Jn (Je ?_))))
       (rw [if_pos (by omega)] at hck; have hsh : Vi C p = (C.κ.xs, 105) := (by unfold Vi; rw [← hck]; exact if_pos (by decide)); rw [hsh]; exact ⟨_, rfl, rfl, h.gp, h.hM.same0 (H.none kYs)⟩)
      ·refine Js ?_
       (refine Zc (fun _ => false) (by kernel_rfl) H ?_; clear H; intro w129 H)
       refine Az 0 rfl rfl H (fun _ hC => Qa (off' := 2) underlying135 rfl sizeOf3 (by decide) rfl rfl) (Az 1 rfl rfl H (fun _ hC => Qe (v := I (C.fR m).1.r) isAgg3 rfl (hC.get .here) rfl) (Am 2 rfl H (Az 3 rfl rfl H (fun _ hC => Vt (r := ((m : Nat) : Int)) rfl rfl (by rw [Xc (by omega)]; omega)) (Az 4 rfl rfl H (fun _ hC => Yq (off' := m) underlying348 sizeOf3 rfl rfl (by omega) (by omega) (by omega)) (Az 5 rfl rfl H (fun _ hC => Qe (v := I ((cnt p.f m : Nat) : Int)) isAgg3 rfl (hC.get (.there .here)) (by rw [List.getElem?_map, hmg]; rfl)) (Az 6 rfl rfl H (fun _ hC => Xg (r := (C.fR m).1.r + ((cnt p.f m : Nat) : Int)) rfl rfl (Xc (by omega))) (Az 7 rfl rfl H (fun _ hC => R_gt rfl rfl) (Aa 8 rfl H (Ad (Xo rfl (fun h140 => ?_) (fun h140 => ?_)))))))))))
       ·refine Js (Jr (Ja (Jn (Je ?_))))
        (rw [if_neg (by omega), if_pos (by omega)] at hck; have hsh : Vi C p = (C.κ.xs, 123) := (by unfold Vi; rw [← hck]; exact if_pos (by decide)); rw [hsh]; exact ⟨_, rfl, rfl, h.gp, h.hM.same0 (H.none kYs)⟩)
       ·refine Jk (Jr (J (Xg rfl rfl (Xc (by omega))) (Jm (Jn ?_))))
        (rw [if_neg (by omega), if_neg (by omega)] at hck; exact ⟨kS, i + 1, by omega, by omega, rfl, hck, H.pop hc10⟩)
    ·refine Xr ?_
     refine (if_pos rfl).mpr ?_
     refine Js (Js ?_)
     ((obtain rfl : i = 8 := (by omega); rw [List.drop_of_length_le (by omega), chkS] at hck; have hsh : Vi C p = addS p 12 C := (by unfold Vi; rw [← hck]; exact if_neg (by decide)); rw [hsh]; clear hsh hck; replace H := H.foc hbk kYs)) <;> refine Qk ?_
     refine J (Qo (vs := (Dr p.f).map I) isAgg348 sizeOf348 rfl (H.get (.there .here)) (by rw [List.drop_zero, List.take_of_length_le (by rw [List.length_map, Dv]; decide)]) (by rw [List.length_map, Dv]; decide)) (Jm (Jn (Jb ?_)))
     refine Yg [(4, 4), (12, 15), (58, 80)] (fun (i : Nat) E w' => i ≤ 12 ∧ E 58 = I i ∧ ∃ xs, Gp C xs ∧ addS p (12 - i) (C.Xh xs) = addS p 12 C ∧ Hp w [(C.κ.mb, blk (xs.map U) 5), (c5, blk ((Dr p.f).map I) 348), (c3, blk (Slot.piC p) 58)] w') (fun i => 12 - i) 0 ?e5 ?r5
     ·exact ⟨by omega, rfl, C.κ.xs, h.gp, rfl, H⟩
     ·(clear H; rintro i E w1 ⟨hi, h58, xs, hgp, had, H⟩; refine Ur h58 ?_)
      refine Js (Jr (J (Vb rfl rfl) (Jn (Js (Xo rfl (fun h169 => ?_) (fun h169 => ?_))))))
      ·refine Jk (Js (Jb (Js ?_)))
       ((rw [addS_step (by omega)] at had; have hmg := Nl (l := p.f) (show i < 12 by omega); have hct := cnt_le p.f i; have hfr := fR_r (C.Xh xs) i)) <;> refine Qk ?_
       refine Jm (J (R_index (i := (i : Int)) (v := I ((cnt p.f i : Nat) : Int)) underlying348 isAgg3 sizeOf3 rfl rfl (by omega) (by omega) (by simp [hmg])) (Ja (Ja (Jn (Js (Js (Jr (Jm (J (Yk rfl rfl) (Jn (Xo rfl (fun h186 => ?_) (fun h186 => ?_))))))))))))
       ·refine Xr ?_
        refine (if_pos rfl).mpr ?_
        refine Jr (J (Xg rfl rfl (Xc (by omega))) (Jm (Jn ?_)))
        exact ⟨kS, i + 1, by omega, by omega, rfl, xs, hgp, (by rw [← had, if_pos (by omega)]), H⟩
       ·(refine Jk (Js (Jr (Jm (Jm (Jz rfl call101 rfl (File_L (i := i) (h.at H kYs hgp).hM hgp.1 (by omega)) H ?_))))); intro w199 H; rw [if_neg (by omega)] at had)
        (refine Jm (Jx rfl rfl (Jx rfl rfl (Qb rfl (File.Us H) ?_))); clear H; intro c14 w203 hc14 H; replace H := H.swap2)
        (refine Qd rfl (File.Bu H rfl rfl (.there .here)) ?_; clear H; intro w204 H)
        (refine Ja (Jn (Js (Jr (Jf 2 underlying135 rfl sizeOf3 rfl rfl (J (Qe (v := I ((C.Xh xs).fR i).1.r) isAgg3 rfl (H.get (.there .here)) rfl) (Jm (J (Xg (r := ((C.Xh xs).fR i).1.r + ((cnt p.f i : Nat) : Int)) rfl rfl (Xc (by omega))) (Jf 2 underlying135 rfl sizeOf3 rfl rfl (Qd rfl (Qz (v := I (((C.Xh xs).fR i).1.r + ((cnt p.f i : Nat) : Int))) H sizeOf3 rfl rfl rfl (.there .here) (by rw [File.fl_len]; decide)) ?_))))))))); clear H; intro w214 H; replace H : Hp w [(C.κ.mb, blk (xs.map U) 5), (c14, blk (File.flC (moreF (C.Xh xs) p i)) 135), (c5, blk ((Dr p.f).map I) 348), (c3, blk (Slot.piC p) 58)] w214 := H)
        (refine Jn (Js (Jr (Jm (Jm (J (File.Df rfl (H.get (.there .here))) (Jy rfl call56 rfl (SetFile_G (h.at H kYs hgp) (i := i) (by omega) (moreF (C.Xh xs) p i)) ?_)))))); rintro _ w221 ⟨rfl, hgp2, H1⟩; replace H := seq1 H H1; clear H1; generalize hb : upFb (C.Xh xs) i (moreF (C.Xh xs) p i) = bb at *; cases bb)
        ·refine J (Xx rfl) (Jn (Jd rfl (Js (Jr (Ja (Jn (Je ?_)))))))
         (rw [if_neg (by decide)] at had; rw [← had]; exact ⟨_, rfl, rfl, hgp2, Hp.cut (L := [_]) (M := [_, _, _]) H kYs⟩)
        ·refine J (Xj rfl) (Jn (Jc rfl (Jk (Jr (J (Xg rfl rfl (Xc (by omega))) (Jm (Jn ?_)))))))
         exact ⟨kS, i + 1, by omega, by omega, rfl, _, hgp2, (by rw [← had, if_pos rfl]; rfl), (H.swap2).pop hc14⟩
      ·refine Xr ?_
       refine (if_pos rfl).mpr ?_
       refine Js ?_
       ((obtain rfl : i = 12 := (by omega))) <;> refine Qk ?_
       refine Ja (Jn (Je ?_))
       (rw [← had]; exact ⟨_, rfl, rfl, hgp, Hp.cut (L := [_]) (M := [_, _]) H kYs⟩)
end
end Go.Proofs.YtlpmfldijgdcoaaGreatDoor.Pr
namespace Go.Proofs.YtlpmfldijgdcoaaGreatDoor.Pr
open Go Go.Proofs Fx Kn Cm Tryz
theorem sd_ok {xs : List UInt8} (h : (Slot.Xy xs).2 = 1) : Slot.okP (Slot.Xy xs).1 := by
 unfold Slot.Xy at h ⊢
 split
 ·rename_i h1; rw [if_pos h1] at h; cases h
 ·rename_i h1; rw [if_neg h1] at h
  split
  ·rename_i h2; exact h2.2.1
  ·rename_i h2; rw [if_neg h2] at h; cases h
theorem fd_ok {xs : List UInt8} (h : (File.Xy xs).2 = 1) : File.Yz (File.Xy xs).1 := by
 unfold File.Xy at h ⊢
 split
 ·rename_i h1; rw [if_pos h1] at h; cases h
 ·rename_i h1; rw [if_neg h1] at h
  split
  ·rename_i h2; exact h2.2.1
  ·rename_i h2; rw [if_neg h2] at h; cases h
theorem qd_ok {xs : List UInt8} (h : (Ring.Xy xs).2 = 1) : Ring.okP (Ring.Xy xs).1 := by
 unfold Ring.Xy at h ⊢
 split
 ·rename_i h1; rw [if_pos h1] at h; cases h
 ·rename_i h1; rw [if_neg h1] at h
  split
  ·rename_i h2; exact h2.2.1
  ·rename_i h2; rw [if_neg h2] at h; cases h
theorem pR_ok {C : Cs} {i : Nat} (h : (C.pR i).2 = 1) : Slot.okP (C.pR i).1 := by
 unfold Cs.pR at h ⊢
 split
 ·rename_i hb; rw [if_pos hb] at h; cases h
 ·rename_i hb; rw [if_neg hb] at h; exact sd_ok h
theorem fR_ok {C : Cs} {i : Nat} (h : (C.fR i).2 = 1) : File.Yz (C.fR i).1 := by
 unfold Cs.fR at h ⊢
 split
 ·rename_i hb; rw [if_pos hb] at h; cases h
 ·rename_i hb; rw [if_neg hb] at h; exact fd_ok h
theorem qR_ok {C : Cs} {i : Nat} (h : (C.qR i).2 = 1) : Ring.okP (C.qR i).1 := by
 unfold Cs.qR at h ⊢
 split
 ·rename_i hb; rw [if_pos hb] at h; cases h
 ·rename_i hb; rw [if_neg hb] at h; exact qd_ok h
theorem self_ok {C : Cs} {i : Nat} (h : (self C i).2 = 0) : (C.pR i).2 = 1 ∧ (C.pR i).1.s = 1 ∧ (self C i).1 = (C.pR i).1 ∧ Slot.okP (self C i).1 := by
 unfold self at h ⊢
 by_cases h1 : (C.pR i).2 = 1 ∧ (C.pR i).1.s = 1
 ·rw [if_pos h1]; exact ⟨h1.1, h1.2, rfl, pR_ok h1.1⟩
 ·rw [if_neg h1] at h; cases h
theorem freeI_lt (C : Cs) : ∀ k, -1 ≤ Uc C k ∧ Uc C k < 8
 | 0 => ⟨by rw [Uc]; decide, by rw [Uc]; decide⟩
 | k + 1 => by rw [Uc]; split; exact ⟨by omega, by omega⟩; exact freeI_lt C k
def Mh (p : Slot.Pi) (i : Nat) : Slot.Pi := { p with p := (i : Int) + 1, a := 0#64 }
def Um (C : Cs) (i : Nat) : List UInt8 × Int × Int :=
 if (self C i).2 ≠ 0 then (C.κ.xs, 0, (self C i).2) else
 if Uc C 8 < 0 then (C.κ.xs, 0, 111) else
 if (Vi C (self C i).1).2 ≠ 0 then ((Vi C (self C i).1).1, 0, (Vi C (self C i).1).2) else
 (Ds (C.Xh (Vi C (self C i).1).1) (Uc C 8).toNat (Mh (self C i).1 i), dn (upPb (C.Xh (Vi C (self C i).1).1) (Uc C 8).toNat (Mh (self C i).1 i)) (Uc C 8))
section
variable {w : World} {c : Nat} {C : Cs}
theorem Fork_ret (h : Gd w c C) {i : Nat} (hi : i < 8) :
  Ret Tryz.prog 172 #[ptr c 0, I i] w fun v w' => v = rt (Um C i).2.1 (Um C i).2.2 ∧ Gp C (Um C i).1 ∧ Hp w [(C.κ.mb, blk ((Um C i).1.map U) 5)] w' := by
 refine Qy (args := [_, _]) func172 rfl ntmps172 results172 (by simp) ?_
 have H := Hp.refl w
 have hbk := h.hM.hK.hb
 (refine Js (Jr (Qb rfl (Qp (vs := rtC 0 0 nilS false) H zeroValue227 rfl) ?_)); clear H; intro c4 w3 hc4 H)
 (refine Jn (Js (Jr (Jm (Jm (Jz rfl call184 rfl (Self_L (h.Ql H kYs).hM h.hL hi) H ?_))))); intro w9 H)
 (refine Jm (Jx rfl rfl (Jx rfl rfl (Qb rfl (Slot.Qt H) ?_))); clear H; intro c5 w13 hc5 H)
 (refine Qd rfl (Slot.Qn H rfl rfl .here) ?_; clear H; intro w14 H)
 refine Ja (Jn (Js (Js (Jr (Jm (J (Zu rfl rfl) (Jn (Xo rfl (fun h23 => ?_) (fun h23 => ?_)))))))))
 ·(refine Js (Jr (Jm (Jz rfl call185 rfl (Dh _ _) H ?_))); intro w27 H)
  (refine Qd rfl (Qg (vs := [(.int _ _), (.int _ _), (.slice _ _ _), (.bool _)]) H sizeOf227 rfl rfl (by simp [Value.oneCell']) (.there .here) (Nat.le_of_ble_eq_true rfl)) ?_; clear H; intro w28 H)
  refine Jn (Je ?_)
  (have e : Um C i = (C.κ.xs, 0, (self C i).2) := (by unfold Um; exact if_pos (by omega)); rw [e]; exact ⟨_, ⟨_, rfl, ldA isAgg227 sizeOf227 (H.get (.there .here)) rfl (by simp [rtC])⟩, rfl, h.gp, h.hM.same0 (H.none kYs)⟩)
 ·refine Jk (Js ?_)
  ((have hs := self_ok (C := C) (i := i) (by omega); have hs0 : ¬ (self C i).2 ≠ 0 := (by omega))) <;> refine Qk ?_
  (refine Jm (Jz rfl call210 rfl (free_L (h.Ql H kYs).hM h.hL) H ?_); intro w36 H; have hfr9 := freeI_lt C 8; generalize hfr : Uc C 8 = fr at *)
  refine Ja (Jn (Js (Js (Jr (Jm (J (Vb rfl rfl) (Jn (Xo rfl (fun h45 => ?_) (fun h45 => ?_)))))))))
  ·(refine Js (Jr (Jz rfl call185 rfl (Dh _ _) H ?_)); intro w48 H)
   (refine Qd rfl (Qg (vs := [(.int _ _), (.int _ _), (.slice _ _ _), (.bool _)]) H sizeOf227 rfl rfl (by simp [Value.oneCell']) (.there .here) (Nat.le_of_ble_eq_true rfl)) ?_; clear H; intro w49 H)
   refine Jn (Je ?_)
   (have e : Um C i = (C.κ.xs, 0, 111) := (by unfold Um; rw [if_neg hs0, hfr]; exact if_pos (by omega)); rw [e]; exact ⟨_, ⟨_, rfl, ldA isAgg227 sizeOf227 (H.get (.there .here)) rfl (by simp [rtC])⟩, rfl, h.gp, h.hM.same0 (H.none kYs)⟩)
  ·refine Jk (Js (Js ?_))
   ((obtain ⟨t, rfl, ht⟩ : ∃ t : Nat, fr = t ∧ t < 8 := ⟨fr.toNat, by omega, by omega⟩)) <;> refine Qk ?_
   (refine Jm (J (Slot.Xa rfl (H.get .here)) (Jy rfl call211 rfl (share_ret (h.Ql H kYs) _ hs.2.2.2.2.2.1) ?_)); rintro _ w59 ⟨rfl, hgp, H1⟩; replace H := h.seq0 H kYs H1; clear H1)
   refine Ja (Jn (Js (Jr (Jm (J (Zu rfl rfl) (Jn (Xo rfl (fun h67 => ?_) (fun h67 => ?_))))))))
   ·(refine Js (Jr (Jm (Jz rfl call185 rfl (Dh _ _) H ?_))); intro w71 H)
    (refine Qd rfl (Qg (vs := [(.int _ _), (.int _ _), (.slice _ _ _), (.bool _)]) H sizeOf227 rfl rfl (by simp [Value.oneCell']) (.there (.there .here)) (Nat.le_of_ble_eq_true rfl)) ?_; clear H; intro w72 H)
    refine Jn (Je ?_)
    (have e : Um C i = ((Vi C (self C i).1).1, 0, (Vi C (self C i).1).2) := (by unfold Um; rw [if_neg hs0, hfr, if_neg (by omega)]; exact if_pos (by omega)); rw [e]; exact ⟨_, ⟨_, rfl, ldA isAgg227 sizeOf227 (H.get (.there (.there .here))) rfl (by simp [rtC])⟩, rfl, hgp, Hp.cut (L := [_]) (M := [_, _]) H kYs⟩)
   ·(refine Jk (Js (Jr (Jm (J (Xg (r := (i : Int) + 1) rfl rfl (Xc (by omega))) (Jf 1 underlying58 rfl sizeOf3 rfl rfl (Qd rfl (Qz (v := I ((i : Int) + 1)) H sizeOf3 rfl rfl rfl (.there .here) (by rw [Slot.Ya]; decide)) ?_)))))); clear H; intro w82 H; replace H : Hp w [(C.κ.mb, blk ((Vi C (self C i).1).1.map U) 5), (c5, blk (Slot.piC { (self C i).1 with p := (i : Int) + 1 }) 58), (c4, blk (rtC 0 0 nilS false) 227)] w82 := H)
    (refine Jf 4 underlying58 rfl sizeOf3 rfl rfl (Qd rfl (Qz (v := I 0) H sizeOf3 rfl rfl rfl (.there .here) (by rw [Slot.Ya]; decide)) ?_); clear H; intro w84 H; replace H : Hp w [(C.κ.mb, blk ((Vi C (self C i).1).1.map U) 5), (c5, blk (Slot.piC (Mh (self C i).1 i)) 58), (c4, blk (rtC 0 0 nilS false) 227)] w84 := H)
    (refine Jn (Js (Jr (Jm (Jm (J (Slot.Xa rfl (H.get (.there .here))) (Jy rfl call58 rfl (Dz (h.at H kYs hgp) ht (Mh (self C i).1 i)) ?_)))))); rintro _ w91 ⟨rfl, hgp2, H1⟩; replace H := seq1 H H1; clear H1)
    (refine Jm (Jz rfl call188 rfl (Up _ _ _) H ?_); intro w93 H)
    (refine Qd rfl (Qg (vs := [(.int _ _), (.int _ _), (.slice _ _ _), (.bool _)]) H sizeOf227 rfl rfl (by simp [Value.oneCell']) (.there (.there .here)) (Nat.le_of_ble_eq_true rfl)) ?_; clear H; intro w94 H)
    refine Jn (Je ?_)
    (have e : Um C i = (Ds (C.Xh (Vi C (self C i).1).1) t (Mh (self C i).1 i), dn (upPb (C.Xh (Vi C (self C i).1).1) t (Mh (self C i).1 i)) t) := (by unfold Um; rw [if_neg hs0, hfr, if_neg (by omega), if_neg (by omega), Int.toNat_natCast]); rw [e]; exact ⟨_, ⟨_, rfl, ldA isAgg227 sizeOf227 (H.get (.there (.there .here))) rfl (by simp [rtC])⟩, rfl, hgp2, Hp.cut (L := [_]) (M := [_, _]) H kYs⟩)
def Mk (f : File.Fl) (q : Ring.Pi) : Ring.Pi := if f.k = 1 then { q with r := max (q.r - 1) 0 } else { q with w := max (q.w - 1) 0 }
def less (f : File.Fl) : File.Fl := { f with r := f.r - 1 }
def closePX (C : Cs) (f : File.Fl) : List UInt8 × Int :=
 if f.k = 3 then (C.κ.xs, 0) else
 if (C.qR f.p.toNat).2 ≠ 1 then (C.κ.xs, 105) else
 if (Mk f (C.qR f.p.toNat).1).r + (Mk f (C.qR f.p.toNat).1).w = 0 ∧ f.p < 4 then (frQX C f.p.toNat, (dn (decide (((3 : Int), ((f.p.toNat : Nat) : Int)) ∉ C.bad)) 0).2)
 else (upQX C f.p.toNat (Mk f (C.qR f.p.toNat).1), (dn (upQb C f.p.toNat (Mk f (C.qR f.p.toNat).1)) 0).2)
def Dc (C : Cs) (f : Nat) : List UInt8 × Int :=
 if (C.fR f).2 ≠ 1 then (C.κ.xs, 105) else
 if 0 < (C.fR f).1.r - 1 then (upFX C f (less (C.fR f).1), (dn (upFb C f (less (C.fR f).1)) 0).2) else
 if ((2 : Int), (f : Int)) ∈ C.bad then (Uy C f, 105) else closePX (C.Xh (Uy C f)) (less (C.fR f).1)
theorem CloseFile_ret (h : Gd w c C) {f : Nat} (hf : f < 12) :
  Ret Tryz.prog 229 #[ptr c 0, I f] w fun v w' => v = I (Dc C f).2 ∧ Gp C (Dc C f).1 ∧ Hp w [(C.κ.mb, blk ((Dc C f).1.map U) 5)] w' := by
 refine Qi (args := [_, _]) func229 rfl ntmps229 results229 (by simp) ?_
 have H := Hp.refl w
 have hbk := h.hM.hK.hb
 (refine Js (Jr (Ja (Jn (Js (Jr (Jm (Jz rfl call63 rfl (Look_L (h.Ql H kYs).hM h.hL) H ?_))))))); intro w8 H)
 (refine Jn (Js (Jr (Jm (Jm (Jz rfl call101 rfl (File_L (i := f) (h.Ql H kYs).hM h.hL hf) H ?_))))); intro w14 H)
 (refine Jm (Jx rfl rfl (Jx rfl rfl (Qb rfl (File.Us H) ?_))); clear H; intro c5 w18 hc5 H)
 (refine Qd rfl (File.Bu H rfl rfl .here) ?_; clear H; intro w19 H)
 refine Ja (Jn (Js (Js (Jr (Jm (J (Zu rfl rfl) (Jn (Xo rfl (fun h28 => ?_) (fun h28 => ?_)))))))))
 ·refine Js (Jr (Ja (Jn (Je ?_))))
  (have e : Dc C f = (C.κ.xs, 105) := (by unfold Dc; exact if_pos (by omega)); rw [e]; exact ⟨_, rfl, rfl, h.gp, h.hM.same0 (H.none kYs)⟩)
 ·refine Jk (Js (Js ?_))
  ((have hg1 : ¬ (C.fR f).2 ≠ 1 := (by omega); have hok := fR_ok (C := C) (i := f) (by omega); have hok2 := hok; unfold File.Yz at hok2; have eF : Dc C f = if 0 < (C.fR f).1.r - 1 then (upFX C f (less (C.fR f).1), (dn (upFb C f (less (C.fR f).1)) 0).2) else if ((2 : Int), (f : Int)) ∈ C.bad then (Uy C f, 105) else closePX (C.Xh (Uy C f)) (less (C.fR f).1) := (by unfold Dc; exact if_neg hg1); generalize C.fR f = r at *; obtain ⟨⟨fk, fp, fr, fg⟩, z⟩ := r; simp only at *; obtain ⟨m, rfl⟩ : ∃ m : Nat, fp = m := ⟨fp.toNat, by omega⟩; clear hok)) <;> refine Qk ?_
  (refine Jf 2 underlying135 rfl sizeOf3 rfl rfl (J (Qe (v := I fr) isAgg3 rfl (H.get .here) rfl) (J (Vt (r := fr - 1) rfl rfl (Xc (by omega))) (Jf 2 underlying135 rfl sizeOf3 rfl rfl (Qd rfl (Qz (v := I (fr - 1)) H sizeOf3 rfl rfl rfl .here (by rw [File.fl_len]; decide)) ?_)))); clear H; intro w43 H; replace H : Hp w [(c5, blk (File.flC (less ⟨fk, m, fr, fg⟩)) 135)] w43 := H)
  refine Jn (Js (Jr (Jf 2 underlying135 rfl sizeOf3 rfl rfl (J (Qe (v := I (fr - 1)) isAgg3 rfl (H.get .here) rfl) (J (R_gt rfl rfl) (Jn (Xo rfl (fun h51 => ?_) (fun h51 => ?_))))))))
  ·(refine Js (Jr (Jm (Jm (J (File.Df rfl (H.get .here)) (Jy rfl call56 rfl (SetFile_G (h.Ql H kYs) hf (less ⟨fk, m, fr, fg⟩)) ?_))))); rintro _ w57 ⟨rfl, hgp, H1⟩; replace H := h.seq0 H kYs H1; clear H1)
   (refine Jz rfl call188 rfl (Up _ _ _) H ?_; intro w58 H)
   refine J (R_field underlying227 rfl isAgg33 rfl rfl) (Ja (Jn (Je ?_)))
   (rw [eF, if_pos (by omega)]; exact ⟨_, rfl, rfl, hgp, Hp.cut (L := [_]) (M := [_]) H kYs⟩)
  ·refine Jk (Js (Js ?_))
   ((rw [if_neg (by omega)] at eF)) <;> refine Qk ?_
   (refine Jm (Jm (Jy rfl call257 rfl (FreeFile_G (h.Ql H kYs) hf) ?_)); rintro _ w70 ⟨rfl, hgp, H1⟩; replace H := h.seq0 H kYs H1; clear H1; generalize hbb : decide (((2 : Int), (f : Int)) ∉ C.bad) = bb at *; cases bb)
   ·refine J (Xx rfl) (Jn (Jd rfl (Js (Jr (Ja (Jn (Je ?_)))))))
    (rw [eF, if_pos (Decidable.not_not.1 (of_decide_eq_false hbb))]; exact ⟨_, rfl, rfl, hgp, Hp.cut (L := [_]) (M := [_]) H kYs⟩)
   ·refine J (Xj rfl) (Jn (Jc rfl (Jk (Js (Js ?_)))))
    ((rw [if_neg (of_decide_eq_true hbb)] at eF; clear hbb)) <;> refine Qk ?_
    refine Jf 0 underlying135 rfl sizeOf3 rfl rfl (J (Qe (v := I fk) isAgg3 rfl (H.get (.there .here)) rfl) (J (Yk rfl rfl) (Jn (Xo rfl (fun h91 => ?_) (fun h91 => ?_)))))
    ·refine Js (Jr (Ja (Jn (Je ?_))))
     (rw [eF, show closePX (C.Xh (Uy C f)) (less ⟨fk, m, fr, fg⟩) = (Uy C f, 0) from if_pos (by assumption)]; exact ⟨_, rfl, rfl, hgp, Hp.cut (L := [_]) (M := [_]) H kYs⟩)
    ·refine Jk (Js ?_)
     ((have eP : closePX (C.Xh (Uy C f)) (less ⟨fk, m, fr, fg⟩) = if ((C.Xh (Uy C f)).qR m).2 ≠ 1 then (Uy C f, 105) else if (Mk (less ⟨fk, m, fr, fg⟩) ((C.Xh (Uy C f)).qR m).1).r + (Mk (less ⟨fk, m, fr, fg⟩) ((C.Xh (Uy C f)).qR m).1).w = 0 ∧ (m : Int) < 4 then (frQX (C.Xh (Uy C f)) m, (dn (decide (((3 : Int), ((m : Nat) : Int)) ∉ C.bad)) 0).2) else (upQX (C.Xh (Uy C f)) m (Mk (less ⟨fk, m, fr, fg⟩) ((C.Xh (Uy C f)).qR m).1), (dn (upQb (C.Xh (Uy C f)) m (Mk (less ⟨fk, m, fr, fg⟩) ((C.Xh (Uy C f)).qR m).1)) 0).2) := (by unfold closePX; rw [if_neg (by assumption)]; rfl); rw [eP] at eF; clear eP)) <;> refine Qk ?_
     (refine Jm (Jf 1 underlying135 rfl sizeOf3 rfl rfl (J (Qe (v := I m) isAgg3 rfl (H.get (.there .here)) rfl) (Jz rfl call103 rfl (Pipe_L (i := m) (h.at H kYs hgp).hM hgp.1 (by omega)) H ?_))); intro w104 H; have hqo := @qR_ok (C.Xh (Uy C f)) m; generalize (C.Xh (Uy C f)).qR m = r2 at *; obtain ⟨q, z2⟩ := r2; simp only at *)
     (refine Jm (Jx rfl rfl (Jx rfl rfl (Qb rfl (Ring.Qt H) ?_))); clear H; intro c7 w108 hc7 H; replace H := H.swap2)
     (refine Qd rfl (Ring.Qn H rfl rfl (.there .here)) ?_; clear H; intro w109 H)
     refine Ja (Jn (Js (Js (Jr (Jm (J (Zu rfl rfl) (Jn (Xo rfl (fun h118 => ?_) (fun h118 => ?_)))))))))
     ·refine Js (Jr (Ja (Jn (Je ?_))))
      (rw [eF, if_pos (by omega)]; exact ⟨_, rfl, rfl, hgp, Hp.cut (L := [_]) (M := [_, _]) H kYs⟩)
     ·refine Jk (Js (Js ?_))
      ((have hqo9 := hqo (by omega); unfold Ring.okP at hqo9; clear hqo; rw [if_neg (by omega)] at eF)) <;> refine Qk ?_
      refine Jf 0 underlying135 rfl sizeOf3 rfl rfl (J (Qe (v := I fk) isAgg3 rfl (H.get (.there (.there .here))) rfl) (J (Yk rfl rfl) (Jn (Xo rfl (fun h133 => ?_) (fun h133 => ?_)))))
      ·refine Jr (Jf 2 underlying131 rfl sizeOf3 rfl rfl (Jl isAgg3 rfl (H.get (.there .here)) rfl (J (Vt rfl rfl (Xc (by omega))) (J (Mz rfl rfl rfl) (Ym rfl (Qa (off' := 2) underlying131 rfl sizeOf3 (by decide) rfl rfl) ?_)))))
       (refine Qd rfl (Qz (v := I (max (q.r - 1) 0)) H sizeOf3 rfl rfl rfl (.there .here) (by rw [Ring.Ya]; decide)) ?_; clear H; intro w140 H; have hQ2 : Mk (less ⟨fk, m, fr, fg⟩) q = { q with r := max (q.r - 1) 0 } := (by unfold Mk; exact if_pos (by assumption)); replace H : Hp w [(C.κ.mb, blk ((Uy C f).map U) 5), (c7, blk (Ring.piC { q with r := max (q.r - 1) 0 }) 131), (c5, blk (File.flC (less ⟨fk, m, fr, fg⟩)) 135)] w140 := H; rw [← hQ2] at H; have hQb : (0 ≤ (Mk (less ⟨fk, m, fr, fg⟩) q).r ∧ (Mk (less ⟨fk, m, fr, fg⟩) q).r ≤ 8) ∧ (0 ≤ (Mk (less ⟨fk, m, fr, fg⟩) q).w ∧ (Mk (less ⟨fk, m, fr, fg⟩) q).w ≤ 8) := (by rw [hQ2]; simp only; omega); clear hQ2; generalize Mk (less ⟨fk, m, fr, fg⟩) q = Q at *)
       refine Jn (Js (Js (Jr (Jf 2 underlying131 rfl sizeOf3 rfl rfl (J (Qe (v := I Q.r) isAgg3 rfl (H.get (.there .here)) rfl) (Jf 3 underlying131 rfl sizeOf3 rfl rfl (J (Qe (v := I Q.w) isAgg3 rfl (H.get (.there .here)) rfl) (J (Xg (r := Q.r + Q.w) rfl rfl (Xc (by omega))) (J (Yk rfl rfl) (Jm ?_))))))))))
       apply Xs 4 66 70 [(67, 70)] H
       case hc => rfl
       case h1 =>
        intro h152
        refine Jt rfl rfl (Jf 1 underlying135 rfl sizeOf3 rfl rfl (Jt rfl rfl (J (Qe (v := I m) isAgg3 rfl (H.get (.there (.there .here))) rfl) (Jt rfl rfl (J (Vb rfl rfl) (Jq rfl (Jn ?_)))))))
        exact ⟨kS, rfl, H⟩
       case h0 =>
        intro h152
        refine Jg rfl rfl (Jg rfl rfl (Jg rfl rfl (Jp rfl (Jn ?_))))
        exact ⟨kS, rfl, H⟩
       case h2 =>
        (clear H; intro E152 w152 H)
        refine Jn (Xo rfl (fun h169 => ?_) (fun h169 => ?_))
        ·(refine Js (Jr (Jm (Jf 1 underlying135 rfl sizeOf3 rfl rfl (J (Qe (v := I m) isAgg3 rfl (H.get (.there (.there .here))) rfl) (Jy rfl call258 rfl (FreePipe_G (h.at H kYs hgp) (i := m) (by omega)) ?_))))); rintro _ w175 ⟨rfl, hgp2, H1⟩; replace H := seq1 H H1; clear H1)
         (refine Jz rfl call188 rfl (Up _ _ _) H ?_; intro w176 H)
         refine J (R_field underlying227 rfl isAgg33 rfl rfl) (Ja (Jn (Je ?_)))
         (rw [eF, if_pos (by omega)]; exact ⟨_, rfl, rfl, hgp2, Hp.cut (L := [_]) (M := [_, _]) H kYs⟩)
        ·(refine Jk (Js (Jr (Jm (Jf 1 underlying135 rfl sizeOf3 rfl rfl (J (Qe (v := I m) isAgg3 rfl (H.get (.there (.there .here))) rfl) (J (Ring.Xa rfl (H.get (.there .here))) (Jy rfl call57 rfl (SetPipe_G (h.at H kYs hgp) (i := m) (by omega) Q) ?_))))))); rintro _ w189 ⟨rfl, hgp2, H1⟩; replace H := seq1 H H1; clear H1)
         (refine Jz rfl call188 rfl (Up _ _ _) H ?_; intro w190 H)
         refine J (R_field underlying227 rfl isAgg33 rfl rfl) (Ja (Jn (Je ?_)))
         (rw [eF, if_neg (by omega)]; exact ⟨_, rfl, rfl, hgp2, Hp.cut (L := [_]) (M := [_, _]) H kYs⟩)
      ·refine Jr (Jf 3 underlying131 rfl sizeOf3 rfl rfl (Jl isAgg3 rfl (H.get (.there .here)) rfl (J (Vt rfl rfl (Xc (by omega))) (J (Mz rfl rfl rfl) (Ym rfl (Qa (off' := 3) underlying131 rfl sizeOf3 (by decide) rfl rfl) ?_)))))
       (refine Qd rfl (Qz (v := I (max (q.w - 1) 0)) H sizeOf3 rfl rfl rfl (.there .here) (by rw [Ring.Ya]; decide)) ?_; clear H; intro w202 H; have hQ2 : Mk (less ⟨fk, m, fr, fg⟩) q = { q with w := max (q.w - 1) 0 } := (by unfold Mk; exact if_neg (by assumption)); replace H : Hp w [(C.κ.mb, blk ((Uy C f).map U) 5), (c7, blk (Ring.piC { q with w := max (q.w - 1) 0 }) 131), (c5, blk (File.flC (less ⟨fk, m, fr, fg⟩)) 135)] w202 := H; rw [← hQ2] at H; have hQb : (0 ≤ (Mk (less ⟨fk, m, fr, fg⟩) q).r ∧ (Mk (less ⟨fk, m, fr, fg⟩) q).r ≤ 8) ∧ (0 ≤ (Mk (less ⟨fk, m, fr, fg⟩) q).w ∧ (Mk (less ⟨fk, m, fr, fg⟩) q).w ≤ 8) := (by rw [hQ2]; simp only; omega); clear hQ2; generalize Mk (less ⟨fk, m, fr, fg⟩) q = Q at *)
       refine Jn (Js (Js (Jr (Jf 2 underlying131 rfl sizeOf3 rfl rfl (J (Qe (v := I Q.r) isAgg3 rfl (H.get (.there .here)) rfl) (Jf 3 underlying131 rfl sizeOf3 rfl rfl (J (Qe (v := I Q.w) isAgg3 rfl (H.get (.there .here)) rfl) (J (Xg (r := Q.r + Q.w) rfl rfl (Xc (by omega))) (J (Yk rfl rfl) (Jm ?_))))))))))
       apply Xs 4 66 70 [(67, 70)] H
       case hc => rfl
       case h1 =>
        intro h214
        refine Jt rfl rfl (Jf 1 underlying135 rfl sizeOf3 rfl rfl (Jt rfl rfl (J (Qe (v := I m) isAgg3 rfl (H.get (.there (.there .here))) rfl) (Jt rfl rfl (J (Vb rfl rfl) (Jq rfl (Jn ?_)))))))
        exact ⟨kS, rfl, H⟩
       case h0 =>
        intro h214
        refine Jg rfl rfl (Jg rfl rfl (Jg rfl rfl (Jp rfl (Jn ?_))))
        exact ⟨kS, rfl, H⟩
       case h2 =>
        (clear H; intro E214 w214 H)
        refine Jn (Xo rfl (fun h231 => ?_) (fun h231 => ?_))
        ·(refine Js (Jr (Jm (Jf 1 underlying135 rfl sizeOf3 rfl rfl (J (Qe (v := I m) isAgg3 rfl (H.get (.there (.there .here))) rfl) (Jy rfl call258 rfl (FreePipe_G (h.at H kYs hgp) (i := m) (by omega)) ?_))))); rintro _ w237 ⟨rfl, hgp2, H1⟩; replace H := seq1 H H1; clear H1)
         (refine Jz rfl call188 rfl (Up _ _ _) H ?_; intro w238 H)
         refine J (R_field underlying227 rfl isAgg33 rfl rfl) (Ja (Jn (Je ?_)))
         (rw [eF, if_pos (by omega)]; exact ⟨_, rfl, rfl, hgp2, Hp.cut (L := [_]) (M := [_, _]) H kYs⟩)
        ·(refine Jk (Js (Jr (Jm (Jf 1 underlying135 rfl sizeOf3 rfl rfl (J (Qe (v := I m) isAgg3 rfl (H.get (.there (.there .here))) rfl) (J (Ring.Xa rfl (H.get (.there .here))) (Jy rfl call57 rfl (SetPipe_G (h.at H kYs hgp) (i := m) (by omega) Q) ?_))))))); rintro _ w251 ⟨rfl, hgp2, H1⟩; replace H := seq1 H H1; clear H1)
         (refine Jz rfl call188 rfl (Up _ _ _) H ?_; intro w252 H)
         refine J (R_field underlying227 rfl isAgg33 rfl rfl) (Ja (Jn (Je ?_)))
         (rw [eF, if_neg (by omega)]; exact ⟨_, rfl, rfl, hgp2, Hp.cut (L := [_]) (M := [_, _]) H kYs⟩)
end
end Go.Proofs.YtlpmfldijgdcoaaGreatDoor.Pr
namespace Go.Proofs.YtlpmfldijgdcoaaGreatDoor.Pr
open Go Go.Proofs Fx Kn Cm Tryz
def Bm : List Int → Cs → List UInt8
 | [], C => C.κ.xs
 | f :: l, C => if 0 < f then Bm l (C.Xh (Dc C (f - 1).toNat).1) else Bm l C
def noF (p : Slot.Pi) : Slot.Pi := { p with f := List.replicate 8 0, hf := List.length_replicate }
def Vw (C : Cs) (i : Nat) : List UInt8 := if (C.pR i).2 ≠ 1 then C.κ.xs else Ds (C.Xh (Bm (C.pR i).1.f C)) i (noF (C.pR i).1)
def Ul : List (Nat × Slot.Pi) → Cs → List UInt8
 | [], C => C.κ.xs
 | (j, p) :: l, C => if p.s = 2 then Ul l (C.Xh (frPX C j)) else Ul l (C.Xh (Ds C j { p with p := 0 }))
def Mx (C : Cs) (i : Nat) : List UInt8 := Ul (Yb C (Vc i) 8) C
theorem piC_noF (p : Slot.Pi) : Slot.piC (noF p) = (Slot.piC p).take 8 ++ List.replicate 8 (I 0) ++ (Slot.piC p).drop (8 + (List.replicate 8 (I 0)).length) := by
 rw [List.drop_of_length_le (by rw [Slot.Ya]; decide), List.append_nil]
 unfold Slot.piC noF
 rw [List.take_left' (by rfl)]
 rfl
theorem Vn {C : Cs} {P : Nat × Slot.Pi → Bool} {x : Nat × Slot.Pi} : ∀ {k : Nat}, x ∈ Yb C P k → x.1 < k ∧ C.pR x.1 = (x.2, 1) ∧ P x = true
 | 0, h => nomatch h
 | k + 1, h => by
  unfold Yb at h
  split at h
  ·rename_i h1
   rcases List.mem_append.1 h with h | h
   ·obtain ⟨a, b⟩ := Vn h; exact ⟨by omega, b⟩
   ·rw [List.mem_singleton] at h; subst h; exact ⟨Nat.lt_succ_self _, Prod.ext rfl h1.1, h1.2⟩
  ·obtain ⟨a, b⟩ := Vn h; exact ⟨by omega, b⟩
section
variable {w : World} {c : Nat} {C : Cs}
theorem CloseAll_ret (h : Gd w c C) {i : Nat} (hi : i < 8) :
  Ret Tryz.prog 186 #[ptr c 0, I i] w fun v w' => v = .tuple #[] ∧ Gp C (Vw C i) ∧ Hp w [(C.κ.mb, blk ((Vw C i).map U) 5)] w' := by
 refine Qi (args := [_, _]) func186 rfl ntmps186 results186 (by simp) ?_
 have H := Hp.refl w
 have hbk := h.hM.hK.hb
 (refine Js (Jr (Jm (Jz rfl call63 rfl (Look_L (h.Ql H kYs).hM h.hL) H ?_))); intro w4 H)
 (refine Jn (Js (Jr (Jm (Jm (Jz rfl call64 rfl (Mj (i := i) (h.Ql H kYs).hM h.hL hi) H ?_))))); intro w10 H; have hok := @pR_ok C i; have e0 : Vw C i = if (C.pR i).2 ≠ 1 then C.κ.xs else Ds (C.Xh (Bm (C.pR i).1.f C)) i (noF (C.pR i).1) := rfl; generalize C.pR i = r at *; obtain ⟨p, z⟩ := r; simp only at *)
 (refine Jm (Jx rfl rfl (Jx rfl rfl (Qb rfl (Slot.Qt H) ?_))); clear H; intro c4 w14 hc4 H)
 (refine Qd rfl (Slot.Qn H rfl rfl .here) ?_; clear H; intro w15 H)
 refine Ja (Jn (Js (Js (Jr (Jm (J (Zu rfl rfl) (Jn (Xo rfl (fun h24 => ?_) (fun h24 => ?_)))))))))
 ·refine Je ?_
  (rw [e0, if_pos (by omega)]; exact ⟨_, rfl, rfl, h.gp, h.hM.same0 (H.none kYs)⟩)
 ·refine Jk (Js (Js ?_))
  ((rw [if_neg (by omega)] at e0; have hok9 := hok (by omega); have hpf := p.hf; have hp9 := hok9.2.2.1; clear hok hok9)) <;> refine Qk ?_
  (refine Jf 8 underlying58 rfl sizeOf56 rfl rfl (Ym rfl (Qo (vs := p.f.map fun x => I x) isAgg56 sizeOf56 rfl (H.get .here) (by show ((Slot.piC p).drop 8).take 8 = _; unfold Slot.piC; rw [List.drop_left' (by simp), List.take_of_length_le (by simp [hpf])]) (by rw [Slot.Ya]; decide)) ?_); replace H := H.foc hbk kYs)
  refine Jm (Jn (Jb ?_))
  refine Yg [(7, 7), (20, 29)] (fun (k : Nat) E w' => k ≤ 8 ∧ E 20 = I k ∧ ∃ xs, Gp C xs ∧ Bm (p.f.drop k) (C.Xh xs) = Bm p.f C ∧ Hp w [(C.κ.mb, blk (xs.map U) 5), (c4, blk (Slot.piC p) 58)] w') (fun k => 8 - k) 0 ?e0 ?r0
  ·exact ⟨by omega, rfl, C.κ.xs, h.gp, rfl, H⟩
  ·(clear H; rintro k E w1 ⟨hk, h20, xs, hgp, hcl, H⟩; refine Ur h20 ?_)
   refine Js (Jr (J (Vb rfl rfl) (Jn (Js (Xo rfl (fun h43 => ?_) (fun h43 => ?_))))))
   ·refine Jk (Js (Jb (Js ?_)))
    ((obtain ⟨d, hd⟩ : ∃ d, p.f[k]? = some d := ⟨_, List.getElem?_eq_getElem (by omega)⟩; have hd9 := hp9 d (List.mem_of_getElem? hd); have hdr : p.f.drop k = d :: p.f.drop (k + 1) := (by rw [List.drop_eq_getElem_cons (by omega : k < p.f.length), (List.getElem?_eq_some_iff.1 hd).2]); rw [hdr, Bm] at hcl; clear hdr)) <;> refine Qk ?_
    refine J (R_index (i := (k : Int)) (v := I d) underlying56 isAgg3 sizeOf3 rfl rfl (by omega) (by omega) (by simp [hd])) (Ja (Jn (Js (Jr (Jm (J (R_gt rfl rfl) (Jn (Xo rfl (fun h57 => ?_) (fun h57 => ?_)))))))))
    ·((obtain ⟨m, rfl, hm⟩ : ∃ m : Nat, d = (m : Int) + 1 ∧ m < 12 := ⟨(d - 1).toNat, by omega, by omega⟩; rw [show ((m : Int) + 1 - 1).toNat = m from (by omega), if_pos (by omega)] at hcl)) <;> refine Qk ?_
     (refine Jm (Jm (J (Vt (r := ((m : Nat) : Int)) rfl rfl (by rw [Xc (by omega)]; omega)) (Jy rfl call229 rfl (CloseFile_ret (h.at H kYs hgp) hm) ?_))); rintro _ w62 ⟨rfl, hgp2, H1⟩; replace H := seq1 H H1; clear H1)
     refine Jn (Jr (J (Xg rfl rfl (Xc (by omega))) (Jm (Jn ?_))))
     exact ⟨kS, k + 1, by omega, by omega, rfl, _, hgp2, hcl, H⟩
    ·refine Jk (Jr (J (Xg rfl rfl (Xc (by omega))) (Jm (Jn ?_))))
     (rw [if_neg (by omega)] at hcl; exact ⟨kS, k + 1, by omega, by omega, rfl, _, hgp, hcl, H⟩)
   ·refine Xr ?_
    refine (if_pos rfl).mpr ?_
    refine Js ?_
    ((obtain rfl : k = 8 := (by omega); rw [List.drop_of_length_le (by omega), Bm] at hcl; obtain rfl : xs = Bm p.f C := hcl)) <;> refine Qk ?_
    (refine J (Nb (ps := []) (vs := List.replicate 8 (I 0)) rfl (by kernel_rfl)) (Jf 8 underlying58 rfl sizeOf56 rfl rfl (Qd rfl (Qg (vs := List.replicate 8 (I 0)) H sizeOf56 rfl rfl (by intro v hv; rw [(List.mem_replicate.1 hv).2]; rfl) (.there .here) (by rw [Slot.Ya]; decide)) ?_)); clear H; intro w81 H; replace H : Hp w [(C.κ.mb, blk ((Bm p.f C).map U) 5), (c4, blk (Slot.piC (noF p)) 58)] w81 := (by rw [piC_noF]; exact H))
    (refine Jn (Jr (Jm (Jm (J (Slot.Xa rfl (H.get (.there .here))) (Jy rfl call58 rfl (Dz (h.at H kYs hgp) hi (noF p)) ?_))))); rintro _ w87 ⟨rfl, hgp2, H1⟩; replace H := seq1 H H1; clear H1)
    refine Jn ?_
    (rw [e0]; exact ⟨_, rfl, rfl, hgp2, Hp.cut (L := [_]) (M := [_]) H kYs⟩)
end
end Go.Proofs.YtlpmfldijgdcoaaGreatDoor.Pr
namespace Go.Proofs.YtlpmfldijgdcoaaGreatDoor.Pr
open Go Go.Proofs Fx Kn Cm Tryz
def alone (p : Slot.Pi) : Slot.Pi := { p with p := 0 }
def zombP (p : Slot.Pi) (code : Int) : Slot.Pi := { noF p with s := 2, e := (code.tmod 256 + 256).tmod 256, a := 0#64 }
def exit3 (C : Cs) (i : Nat) (code : Int) : List UInt8 × Int × Int :=
 if (C.pR i).2 ≠ 1 then (C.κ.xs, 0, 105) else
 if 0 < (C.pR i).1.p ∧ (C.pR ((C.pR i).1.p - 1).toNat).2 = 1 ∧ (C.pR ((C.pR i).1.p - 1).toNat).1.s ≠ 2 then
  (Ds C i (zombP (C.pR i).1 code), dn (upPb C i (zombP (C.pR i).1 code)) 0)
 else (frPX C i, dn (decide (((1 : Int), (i : Int)) ∉ C.bad)) 0)
def Bv (C : Cs) (i : Nat) (code : Int) : List UInt8 × Int × Int :=
 if (self C i).2 ≠ 0 then (C.κ.xs, 0, (self C i).2) else exit3 (C.Xh (Mx (C.Xh (Vw C i)) i)) i code
def Ml (C : Cs) (i : Nat) : List UInt8 × Int × Int × Bool :=
 if (self C i).2 ≠ 0 then (C.κ.xs, 0, (self C i).2, false) else
 match (Yb C (Vu i) 8).find? (fun x => decide (x.2.s = 2)) with
 | some x => (frPX C x.1, (dn (decide (((1 : Int), (x.1 : Int)) ∉ C.bad)) (256 * (x.1 : Int) + x.2.e)).1, (dn (decide (((1 : Int), (x.1 : Int)) ∉ C.bad)) (256 * (x.1 : Int) + x.2.e)).2, false)
 | none => if (Yb C (Vu i) 8).length = 0 then (C.κ.xs, 0, 110, false) else (C.κ.xs, 0, 0, true)
theorem lives_to (j : Nat) (p : Slot.Pi) (w : World) : Ret Tryz.prog 214 #[slV (j, p)] w fun v w' => v = .bool (decide (p.s ≠ 2)) ∧ Hp w [] w' := lives_ret (j, p) w
section
variable {w : World} {c : Nat} {C : Cs}
theorem orphan_ret (h : Gd w c C) {i : Nat} (hi : i < 8) :
  Ret Tryz.prog 187 #[ptr c 0, I i] w fun v w' => v = .tuple #[] ∧ Gp C (Mx C i) ∧ Hp w [(C.κ.mb, blk ((Mx C i).map U) 5)] w' := by
 refine Qi (args := [_, _]) func187 rfl ntmps187 results187 (by simp) ?_
 have H := Hp.refl w
 have hbk := h.hM.hK.hb
 have hle := Ni C (Vc i) 8
 (refine Js (Jr (Qb rfl (Xl (vs := [I i]) H rfl rfl) ?_)); clear H; intro c3 w3 hc3 H)
 (refine Jn (Js (Jr (Jm (J (R_fn1 rfl) (Jy rfl call212 rfl (orph_slots (h.Ql H kYs).hM h.hL (H.get .here) (n := i) (by omega)) ?_))))); rintro _ w9 ⟨M, hO, H1⟩; have h9 := H.Yn hO H1; clear H H1 hO; obtain ⟨hO, H⟩ := h9; obtain ⟨va, vc, rfl⟩ := hO.form; replace H := H.foc hbk kYs)
 refine J (Qh underlying313 rfl) (Jm (Jn (Jb ?_)))
 refine Yg [(5, 5), (10, 29)] (fun (k : Nat) E w' => k ≤ (Yb C (Vc i) 8).length ∧ E 10 = I k ∧ ∃ xs, Gp C xs ∧ Ul ((Yb C (Vc i) 8).drop k) (C.Xh xs) = Mx C i ∧ Hp w ((C.κ.mb, blk (xs.map U) 5) :: (M ++ [(c3, blk [I i] 3)])) w') (fun k => (Yb C (Vc i) 8).length - k) 0 ?e0 ?r0
 ·exact ⟨by omega, rfl, C.κ.xs, h.gp, rfl, H⟩
 ·(clear H; rintro k E w1 ⟨hk, h10, xs, hgp, hor, H⟩; refine Ur h10 ?_)
  refine Js (Jr (J (Vb rfl rfl) (Jn (Js (Xo rfl (fun h21 => ?_) (fun h21 => ?_))))))
  ·refine Jk (Js (Jb (Js ?_)))
   ((obtain ⟨⟨j, p⟩, hd⟩ : ∃ d, (Yb C (Vc i) 8)[k]? = some d := ⟨_, List.getElem?_eq_getElem (by omega)⟩; have hd9 := (Vn (List.mem_of_getElem? hd)).1; simp only at hd9; obtain ⟨b1, o1, hv1, hc1⟩ := (RdR.own Vd hO rfl (fun p hp => H.held p (by simp [hp]))).cell Vd hd; cases hv1; have hdr : (Yb C (Vc i) 8).drop k = (j, p) :: (Yb C (Vc i) 8).drop (k + 1) := (by rw [List.drop_eq_getElem_cons (by omega), (List.getElem?_eq_some_iff.1 hd).2]); rw [hdr, Ul] at hor; clear hdr)) <;> refine Qk ?_
   (refine J (Qj (off' := o1 + k * 17) underlying313 sizeOf316 rfl rfl (by omega) (by omega) (by omega)) (J (Vm (vs := slC (j, p)) isAgg316 sizeOf316 rfl (fun j v hj => hc1 j v hj) (Vd _)) (Qb rfl (Qp (vs := slC (0, Slot.Xn)) H zeroValue316 rfl) ?_)); clear H hc1; intro c5 w29 hc5 H; replace H := H.swap2)
   (refine Qd rfl (E_storeS (x' := (j, p)) H rfl rfl (.there .here)) ?_; clear H; intro w30 H)
   (refine Jn (Js (Js (Jr (J (R_loadS rfl (H.get (.there .here))) (Jz rfl call214 rfl (lives_to j p _) H ?_))))); intro w36 H)
   refine J (Zd rfl) (Jn (Xo rfl (fun h39 => ?_) (fun h39 => ?_)))
   ·(refine Js (Jr (Jm (Jf 0 underlying316 rfl sizeOf3 rfl rfl (J (Qe (v := I j) isAgg3 rfl (H.get (.there .here)) rfl) (Jy rfl call189 rfl (FreeProc_G (h.at H kYs hgp) hd9) ?_))))); rintro _ w45 ⟨rfl, hgp2, H1⟩; replace H := seq1 H H1; clear H1)
    refine Jn (Xr ?_)
    refine (if_pos rfl).mpr ?_
    refine Jr (J (Xg rfl rfl (Xc (by omega))) (Jm (Jn ?_)))
    (rw [if_pos (by omega)] at hor; exact ⟨kS, k + 1, by omega, by omega, rfl, _, hgp2, hor, (H.swap2).pop hc5⟩)
   ·(refine Jk (Js (Jr (Jf 1 underlying316 rfl sizeOf58 rfl rfl (Jf 2 underlying58 rfl sizeOf3 rfl rfl (Qd rfl (Qz (v := I 0) H sizeOf3 rfl rfl rfl (.there .here) (by rw [Vd]; decide)) ?_))))); clear H; intro w59 H; replace H : Hp w ((C.κ.mb, blk (xs.map U) 5) :: (c5, blk (slC (j, alone p)) 316) :: (M ++ [(c3, blk [I i] 3)])) w59 := H)
    (refine Jn (Jr (Jm (Jf 0 underlying316 rfl sizeOf3 rfl rfl (J (Qe (v := I j) isAgg3 rfl (H.get (.there .here)) rfl) (Jf 1 underlying316 rfl sizeOf58 rfl rfl (J (Qo (vs := Slot.piC (alone p)) isAgg58 sizeOf58 rfl (H.get (.there .here)) (by show (Slot.piC (alone p)).take 16 = _; exact List.take_of_length_le (by rw [Slot.Ya]; decide)) (by rw [Vd]; decide)) (Jy rfl call58 rfl (Dz (h.at H kYs hgp) hd9 (alone p)) ?_))))))); rintro _ w67 ⟨rfl, hgp2, H1⟩; replace H := seq1 H H1; clear H1)
    refine Jn (Jr (J (Xg rfl rfl (Xc (by omega))) (Jm (Jn ?_))))
    (rw [if_neg (by omega)] at hor; exact ⟨kS, k + 1, by omega, by omega, rfl, _, hgp2, hor, (H.swap2).pop hc5⟩)
  ·refine Xr ?_
   refine (if_pos rfl).mpr ?_
   (rw [List.drop_of_length_le (by omega), Ul] at hor; rw [← hor]; exact ⟨_, rfl, rfl, hgp, Hp.cut (L := [_]) (M := M ++ [_]) H kYs⟩)
end
end Go.Proofs.YtlpmfldijgdcoaaGreatDoor.Pr
namespace Go.Proofs.YtlpmfldijgdcoaaGreatDoor.Pr
open Go Go.Proofs Fx Kn Cm Tryz
def zomb0 (p : Slot.Pi) (code : Int) : Slot.Pi := { p with s := 2, e := (code.tmod 256 + 256).tmod 256, a := 0#64 }
section
variable {w : World} {c : Nat} {C : Cs}
theorem Exit_ret (h : Gd w c C) {i : Nat} (hi : i < 8) (code : Int) :
  Ret Tryz.prog 140 #[ptr c 0, I i, I code] w fun v w' => v = rt (Bv C i code).2.1 (Bv C i code).2.2 ∧ Gp C (Bv C i code).1 ∧ Hp w [(C.κ.mb, blk ((Bv C i code).1.map U) 5)] w' := by
 refine Qy (args := [_, _, _]) func140 rfl ntmps140 results140 (by simp) ?_
 have H := Hp.refl w
 have hbk := h.hM.hK.hb
 have ht1 : -256 < code.tmod 256 := Int.lt_tmod_of_pos code (by decide)
 have ht2 : code.tmod 256 < 256 := Int.tmod_lt_of_pos code (by decide)
 (refine Js (Jr (Qb rfl (Qp (vs := rtC 0 0 nilS false) H zeroValue227 rfl) ?_)); clear H; intro c6 w3 hc6 H)
 (refine Jn (Js (Js (Jr (Jm (Jm (Jz rfl call184 rfl (Self_L (h.Ql H kYs).hM h.hL hi) H ?_)))))); intro w10 H)
 (refine Jm (Jx rfl rfl (Jx rfl rfl (Qb rfl (Slot.Qt H) ?_))); clear H; intro c7 w14 hc7 H)
 (refine Qd rfl (Slot.Qn H rfl rfl .here) ?_; clear H; intro w15 H)
 refine Ja (Jn (Js (Jr (Jm (J (Zu rfl rfl) (Jn (Xo rfl (fun h23 => ?_) (fun h23 => ?_))))))))
 ·(refine Js (Jr (Jm (Jz rfl call185 rfl (Dh _ _) H ?_))); intro w27 H)
  (refine Qd rfl (Qg (vs := [(.int _ _), (.int _ _), (.slice _ _ _), (.bool _)]) H sizeOf227 rfl rfl (by simp [Value.oneCell']) (.there .here) (Nat.le_of_ble_eq_true rfl)) ?_; clear H; intro w28 H)
  refine Jn (Je ?_)
  (have e : Bv C i code = (C.κ.xs, 0, (self C i).2) := (by unfold Bv; exact if_pos (by omega)); rw [e]; exact ⟨_, ⟨_, rfl, ldA isAgg227 sizeOf227 (H.get (.there .here)) rfl (by simp [rtC])⟩, rfl, h.gp, h.hM.same0 (H.none kYs)⟩)
 ·refine Jk (Js ?_)
  ((have eX : Bv C i code = exit3 (C.Xh (Mx (C.Xh (Vw C i)) i)) i code := (by unfold Bv; exact if_neg (by omega)))) <;> refine Qk ?_
  (refine Jm (Jm (Jy rfl call186 rfl (CloseAll_ret (h.Ql H kYs) hi) ?_)); rintro _ w37 ⟨rfl, hgp1, H1⟩; replace H := h.seq0 H kYs H1; clear H1)
  (refine Jn (Js (Jr (Jm (Jm (Jy rfl call187 rfl (orphan_ret (h.at H kYs hgp1) hi) ?_))))); rintro _ w43 ⟨rfl, hgp, H1⟩; replace H := seq1 H H1; clear H1; replace hgp : Gp C (Mx (C.Xh (Vw C i)) i) := hgp; generalize Mx (C.Xh (Vw C i)) i = xs3 at *; clear hgp1)
  (refine Jn (Js (Jr (Jm (Jm (Jz rfl call64 rfl (Mj (i := i) (h.at H kYs hgp).hM hgp.1 hi) H ?_))))); intro w49 H; have hok := @pR_ok (C.Xh xs3) i; have e3 : exit3 (C.Xh xs3) i code = if ((C.Xh xs3).pR i).2 ≠ 1 then (xs3, 0, 105) else if 0 < ((C.Xh xs3).pR i).1.p ∧ ((C.Xh xs3).pR (((C.Xh xs3).pR i).1.p - 1).toNat).2 = 1 ∧ ((C.Xh xs3).pR (((C.Xh xs3).pR i).1.p - 1).toNat).1.s ≠ 2 then (Ds (C.Xh xs3) i (zombP ((C.Xh xs3).pR i).1 code), dn (upPb (C.Xh xs3) i (zombP ((C.Xh xs3).pR i).1 code)) 0) else (frPX (C.Xh xs3) i, dn (decide (((1 : Int), (i : Int)) ∉ C.bad)) 0) := rfl; rw [e3] at eX; clear e3; generalize (C.Xh xs3).pR i = r at *; obtain ⟨p, z⟩ := r; simp only at *)
  (refine Jm (Jx rfl rfl (Jx rfl rfl (Qb rfl (Slot.Qt H) ?_))); clear H; intro c9 w53 hc9 H; replace H := H.swap2)
  (refine Qd rfl (Slot.Qn H rfl rfl (.there .here)) ?_; clear H; intro w54 H)
  refine Ja (Jn (Js (Js (Jr (Jm (J (Zu rfl rfl) (Jn (Xo rfl (fun h63 => ?_) (fun h63 => ?_)))))))))
  ·(refine Js (Jr (Jz rfl call185 rfl (Dh _ _) H ?_)); intro w66 H)
   (refine Qd rfl (Qg (vs := [(.int _ _), (.int _ _), (.slice _ _ _), (.bool _)]) H sizeOf227 rfl rfl (by simp [Value.oneCell']) (.there (.there (.there .here))) (Nat.le_of_ble_eq_true rfl)) ?_; clear H; intro w67 H)
   refine Jn (Je ?_)
   (rw [eX, if_pos (by omega)]; exact ⟨_, ⟨_, rfl, ldA isAgg227 sizeOf227 (H.get (.there (.there (.there .here)))) rfl (by simp [rtC])⟩, rfl, hgp, Hp.cut (L := [_]) (M := [_, _, _]) H kYs⟩)
  ·refine Jk (Js (Js ?_))
   ((rw [if_neg (by omega)] at eX; have hok9 := hok (by omega); have hpp := hok9.1.2.1; clear hok)) <;> refine Qk ?_
   refine Jf 1 underlying58 rfl sizeOf3 rfl rfl (J (Qe (v := I p.p) isAgg3 rfl (H.get (.there .here)) rfl) (J (R_gt rfl rfl) (Jn (Xo rfl (fun h79 => ?_) (fun h79 => ?_)))))
   ·refine Js ?_
    ((obtain ⟨m, hm⟩ : ∃ m : Nat, p.p = (m : Int) + 1 := ⟨(p.p - 1).toNat, by omega⟩; rw [show (p.p - 1).toNat = m from (by omega)] at eX; have h09 : 0 < p.p := (by omega))) <;> refine Qk ?_
    (refine Jm (Jf 1 underlying58 rfl sizeOf3 rfl rfl (J (Qe (v := I ((m : Int) + 1)) isAgg3 rfl (H.get (.there .here)) (by rw [← hm]; rfl)) (J (Vt (r := ((m : Nat) : Int)) rfl rfl (by rw [Xc (by omega)]; omega)) (Jz rfl call64 rfl (Mj (i := m) (h.at H kYs hgp).hM hgp.1 (by omega)) H ?_)))); intro w86 H; generalize (C.Xh xs3).pR m = r2 at *; obtain ⟨q, z2⟩ := r2; simp only at *)
    (refine Jm (Jx rfl rfl (Jx rfl rfl (Qb rfl (Slot.Qt H) ?_))); clear H; intro c11 w90 hc11 H; replace H := H.swap2)
    (refine Qd rfl (Slot.Qn H rfl rfl (.there .here)) ?_; clear H; intro w91 H)
    refine Ja (Jn (Js (Jr (Jm (J (Yk rfl rfl) (Jm ?_))))))
    apply Xs 4 51 55 [(52, 55)] H
    case hc => rfl
    case h1 =>
     intro h99
     refine Jt rfl rfl (Jf 0 underlying58 rfl sizeOf3 rfl rfl (Jt rfl rfl (J (Qe (v := I q.s) isAgg3 rfl (H.get (.there .here)) rfl) (Jt rfl rfl (J (Zu rfl rfl) (Jq rfl (Jn ?_)))))))
     exact ⟨kS, rfl, H⟩
    case h0 =>
     intro h99
     refine Jg rfl rfl (Jg rfl rfl (Jg rfl rfl (Jp rfl (Jn ?_))))
     exact ⟨kS, rfl, H⟩
    case h2 =>
     (clear H; intro E99 w99 H)
     refine Jn (Xo rfl (fun h116 => ?_) (fun h116 => ?_))
     ·(refine Js (Jr (Jm (J (R_rem (r := code.tmod 256) rfl rfl (by decide) rfl) (J (Xg (r := code.tmod 256 + 256) rfl rfl (Xc (by omega))) (J (R_rem (r := (code.tmod 256 + 256).tmod 256) rfl rfl (by decide) rfl) (J (Nb (ps := []) (vs := List.replicate 8 (I 0)) rfl (by kernel_rfl)) (Jf 0 underlying58 rfl sizeOf3 rfl rfl (Qd rfl (Qz (v := I (2)) H sizeOf3 rfl rfl rfl (.there (.there .here)) (by rw [Slot.Ya]; decide)) ?_)))))))); clear H; intro w125 H; replace H : Hp w [(C.κ.mb, blk (xs3.map U) 5), (c11, blk (Slot.piC q) 58), (c9, blk (Slot.piC { p with s := 2 }) 58), (c7, blk (Slot.piC (self C i).1) 58), (c6, blk (rtC 0 0 nilS false) 227)] w125 := H)
      (refine Jf 3 underlying58 rfl sizeOf3 rfl rfl (Qd rfl (Qz (v := I ((code.tmod 256 + 256).tmod 256)) H sizeOf3 rfl rfl rfl (.there (.there .here)) (by rw [Slot.Ya]; decide)) ?_); clear H; intro w127 H; replace H : Hp w [(C.κ.mb, blk (xs3.map U) 5), (c11, blk (Slot.piC q) 58), (c9, blk (Slot.piC { p with s := 2, e := (code.tmod 256 + 256).tmod 256 }) 58), (c7, blk (Slot.piC (self C i).1) 58), (c6, blk (rtC 0 0 nilS false) 227)] w127 := H)
      (refine Jf 4 underlying58 rfl sizeOf3 rfl rfl (Qd rfl (Qz (v := I (0)) H sizeOf3 rfl rfl rfl (.there (.there .here)) (by rw [Slot.Ya]; decide)) ?_); clear H; intro w129 H; replace H : Hp w [(C.κ.mb, blk (xs3.map U) 5), (c11, blk (Slot.piC q) 58), (c9, blk (Slot.piC (zomb0 p code)) 58), (c7, blk (Slot.piC (self C i).1) 58), (c6, blk (rtC 0 0 nilS false) 227)] w129 := H)
      (refine Jf 8 underlying58 rfl sizeOf56 rfl rfl (Qd rfl (Qg (vs := List.replicate 8 (I 0)) H sizeOf56 rfl rfl (by intro v hv; rw [(List.mem_replicate.1 hv).2]; rfl) (.there (.there .here)) (by rw [Slot.Ya]; decide)) ?_); clear H; intro w131 H; replace H : Hp w [(C.κ.mb, blk (xs3.map U) 5), (c11, blk (Slot.piC q) 58), (c9, blk (Slot.piC (zombP p code)) 58), (c7, blk (Slot.piC (self C i).1) 58), (c6, blk (rtC 0 0 nilS false) 227)] w131 := (by rw [show Slot.piC (zombP p code) = Slot.piC (noF (zomb0 p code)) from rfl, piC_noF]; exact H))
      (refine Jn (Js (Jr (Jm (Jm (J (Slot.Xa rfl (H.get (.there (.there .here)))) (Jy rfl call58 rfl (Dz (h.at H kYs hgp) hi (zombP p code)) ?_)))))); rintro _ w138 ⟨rfl, hgp2, H1⟩; replace H := seq1 H H1; clear H1)
      (refine Jz rfl call188 rfl (Up _ _ _) H ?_; intro w139 H)
      (refine Qd rfl (Qg (vs := [(.int _ _), (.int _ _), (.slice _ _ _), (.bool _)]) H sizeOf227 rfl rfl (by simp [Value.oneCell']) (.there (.there (.there (.there .here)))) (Nat.le_of_ble_eq_true rfl)) ?_; clear H; intro w140 H)
      refine Jn (Je ?_)
      (rw [eX, if_pos ⟨h09, by omega, by omega⟩]; exact ⟨_, ⟨_, rfl, ldA isAgg227 sizeOf227 (H.get (.there (.there (.there (.there .here))))) rfl (by simp [rtC])⟩, rfl, hgp2, Hp.cut (L := [_]) (M := [_, _, _, _]) H kYs⟩)
     ·(refine Jk (Js (Jr (Jm (Jm (Jy rfl call189 rfl (FreeProc_G (h.at H kYs hgp) hi) ?_))))); rintro _ w149 ⟨rfl, hgp2, H1⟩; replace H := seq1 H H1; clear H1)
      (refine Jz rfl call188 rfl (Up _ _ _) H ?_; intro w150 H)
      (refine Qd rfl (Qg (vs := [(.int _ _), (.int _ _), (.slice _ _ _), (.bool _)]) H sizeOf227 rfl rfl (by simp [Value.oneCell']) (.there (.there (.there (.there .here)))) (Nat.le_of_ble_eq_true rfl)) ?_; clear H; intro w151 H)
      refine Jn (Je ?_)
      (rw [eX, if_neg (by omega)]; exact ⟨_, ⟨_, rfl, ldA isAgg227 sizeOf227 (H.get (.there (.there (.there (.there .here))))) rfl (by simp [rtC])⟩, rfl, hgp2, Hp.cut (L := [_]) (M := [_, _, _, _]) H kYs⟩)
   ·(refine Jk (Js (Jr (Jm (Jm (Jy rfl call189 rfl (FreeProc_G (h.at H kYs hgp) hi) ?_))))); rintro _ w160 ⟨rfl, hgp2, H1⟩; replace H := seq1 H H1; clear H1)
    (refine Jz rfl call188 rfl (Up _ _ _) H ?_; intro w161 H)
    (refine Qd rfl (Qg (vs := [(.int _ _), (.int _ _), (.slice _ _ _), (.bool _)]) H sizeOf227 rfl rfl (by simp [Value.oneCell']) (.there (.there (.there .here))) (Nat.le_of_ble_eq_true rfl)) ?_; clear H; intro w162 H)
    refine Jn (Je ?_)
    (rw [eX, if_neg (by omega)]; exact ⟨_, ⟨_, rfl, ldA isAgg227 sizeOf227 (H.get (.there (.there (.there .here)))) rfl (by simp [rtC])⟩, rfl, hgp2, Hp.cut (L := [_]) (M := [_, _, _]) H kYs⟩)
end
end Go.Proofs.YtlpmfldijgdcoaaGreatDoor.Pr
namespace Go.Proofs.YtlpmfldijgdcoaaGreatDoor.Pr
open Go Go.Proofs Fx Kn Cm Tryz
section
variable {w : World} {c : Nat} {C : Cs}
/-- what a call that may wait tells -/
abbrev rtb (r : Int × Int × Bool) : Value := .agg (rtC r.1 r.2.1 nilS r.2.2).toArray
theorem Wait_ret (h : Gd w c C) {i : Nat} (hi : i < 8) :
  Ret Tryz.prog 173 #[ptr c 0, I i] w fun v w' => v = rtb (Ml C i).2 ∧ Gp C (Ml C i).1 ∧ Hp w [(C.κ.mb, blk ((Ml C i).1.map U) 5)] w' := by
 refine Qy (args := [_, _]) func173 rfl ntmps173 results173 (by simp) ?_
 have H := Hp.refl w
 have hbk := h.hM.hK.hb
 have hle := Ni C (Vu i) 8
 (refine Js (Jr (Qb rfl (Xl (vs := [I i]) H rfl rfl) ?_)); clear H; intro c3 w3 hc3 H)
 (refine Qb rfl (Qp (vs := rtC 0 0 nilS false) H zeroValue227 rfl) ?_; clear H; intro c4 w4 hc4 H)
 (refine Jn (Js (Js (Jr (Jm (J (Qe (v := I i) isAgg3 rfl (H.get (.there .here)) rfl) (Jz rfl call184 rfl (Self_L (h.Ql H kYs).hM h.hL hi) H ?_)))))); intro w11 H)
 (refine Jm (Jx rfl rfl (Jx rfl rfl (Qb rfl (Slot.Qt H) ?_))); clear H; intro c5 w15 hc5 H)
 (refine Qd rfl (Slot.Qn H rfl rfl .here) ?_; clear H; intro w16 H)
 refine Ja (Jn (Js (Jr (Jm (J (Zu rfl rfl) (Jn (Xo rfl (fun h24 => ?_) (fun h24 => ?_))))))))
 ·refine Js ?_
  ((have m3 : True := trivial)) <;> refine Qk ?_
  (refine Jm (Jz rfl call185 rfl (Dh _ _) H ?_); intro w28 H)
  (refine Qd rfl (Qg (vs := [(.int _ _), (.int _ _), (.slice _ _ _), (.bool _)]) H sizeOf227 rfl rfl (by simp [Value.oneCell']) (.there .here) (Nat.le_of_ble_eq_true rfl)) ?_; clear H; intro w29 H)
  refine Jn (Je ?_)
  (have _g := m3; have e : Ml C i = (C.κ.xs, 0, (self C i).2, false) := (by unfold Ml; exact if_pos (by omega)); rw [e]; exact ⟨_, ⟨_, rfl, ldA isAgg227 sizeOf227 (H.get (.there .here)) rfl (by simp [rtC])⟩, rfl, h.gp, h.hM.same0 (H.none kYs)⟩)
 ·refine Jk (Js ?_)
  ((have eX : Ml C i = match (Yb C (Vu i) 8).find? (fun x => decide (x.2.s = 2)) with | some x => (frPX C x.1, (dn (decide (((1 : Int), (x.1 : Int)) ∉ C.bad)) (256 * (x.1 : Int) + x.2.e)).1, (dn (decide (((1 : Int), (x.1 : Int)) ∉ C.bad)) (256 * (x.1 : Int) + x.2.e)).2, false) | none => if (Yb C (Vu i) 8).length = 0 then (C.κ.xs, 0, 110, false) else (C.κ.xs, 0, 0, true) := (by unfold Ml; exact if_neg (by omega)))) <;> refine Qk ?_
  (refine Jm (J (R_fn1 rfl) (Jy rfl call212 rfl (wait_slots (h.Ql H kYs).hM h.hL (H.get (.there (.there .here))) (n := i) (by omega)) ?_)); rintro _ w38 ⟨M, hO, H1⟩; have h38 := H.Yn hO H1; clear H H1 hO; obtain ⟨hO, H⟩ := h38; obtain ⟨va, vc, rfl⟩ := hO.form)
  refine Ja (Jn (Js (Js (Jr (Jm (J (Qh underlying313 rfl) (Jm (Jn (Jb ?_)))))))))
  refine Yg [(9, 9), (25, 44)] (fun (k : Nat) E w' => k ≤ (Yb C (Vu i) 8).length ∧ E 25 = I k ∧ ((Yb C (Vu i) 8).drop k).find? (fun x => decide (x.2.s = 2)) = (Yb C (Vu i) 8).find? (fun x => decide (x.2.s = 2)) ∧ Hp w (M ++ [(c5, blk (Slot.piC (self C i).1) 58), (c4, blk (rtC 0 0 nilS false) 227), (c3, blk [I i] 3)]) w') (fun k => (Yb C (Vu i) 8).length - k) 0 ?e0 ?r0
  ·exact ⟨by omega, rfl, rfl, H⟩
  ·(clear H; rintro k E w1 ⟨hk, h25, hfi, H⟩; refine Ur h25 ?_)
   refine Js (Jr (J (Vb rfl rfl) (Jn (Js (Xo rfl (fun h56 => ?_) (fun h56 => ?_))))))
   ·refine Jk (Js (Jb (Js ?_)))
    ((obtain ⟨⟨j, p⟩, hd⟩ : ∃ d, (Yb C (Vu i) 8)[k]? = some d := ⟨_, List.getElem?_eq_getElem (by omega)⟩; have hd9 := Vn (List.mem_of_getElem? hd); simp only at hd9; obtain ⟨b1, o1, hv1, hc1⟩ := (RdR.own Vd hO rfl (fun p hp => H.held p (by simp [hp]))).cell Vd hd; cases hv1; have hdr : (Yb C (Vu i) 8).drop k = (j, p) :: (Yb C (Vu i) 8).drop (k + 1) := (by rw [List.drop_eq_getElem_cons (by omega), (List.getElem?_eq_some_iff.1 hd).2]); rw [hdr, List.find?_cons] at hfi; clear hdr; simp only at hfi)) <;> refine Qk ?_
    (refine J (Qj (off' := o1 + k * 17) underlying313 sizeOf316 rfl rfl (by omega) (by omega) (by omega)) (J (Vm (vs := slC (j, p)) isAgg316 sizeOf316 rfl (fun j v hj => hc1 j v hj) (Vd _)) (Qb rfl (Qp (vs := slC (0, Slot.Xn)) H zeroValue316 rfl) ?_)); clear H hc1; intro c9 w64 hc9 H)
    (refine Qd rfl (E_storeS (x' := (j, p)) H rfl rfl .here) ?_; clear H; intro w65 H)
    (refine Jn (Js (Jr (J (R_loadS rfl (H.get .here)) (Jz rfl call214 rfl (lives_to j p _) H ?_)))); intro w70 H)
    refine J (Zd rfl) (Jn (Xo rfl (fun h73 => ?_) (fun h73 => ?_)))
    ·refine Js ?_
     (have hok : Slot.okP p := (by have := pR_ok (C := C) (i := j) (by rw [hd9.2.1]); rw [hd9.2.1] at this; exact this); have hpe := hok.1.2.2.2; have hj8 := hd9.1; refine Xi (fun w2 => w2.heap[c9]? = some (blk (slC (j, p)) 316)) (fun _ => false) (by kernel_rfl) H ?_; clear H; intro w75 H)
     (refine Am 0 rfl (H.get .here) (Az 1 rfl rfl (H.get .here) (fun _ hC => Qa (off' := 0) underlying316 rfl sizeOf3 (by decide) rfl rfl) (Az 2 rfl rfl (H.get .here) (fun _ hC => Qe (v := I j) isAgg3 rfl hC rfl) (Az 4 rfl rfl (H.get .here) (fun _ hC => Qa (off' := 0) underlying316 rfl sizeOf3 (by decide) rfl rfl) (Az 5 rfl rfl (H.get .here) (fun _ hC => Qe (v := I j) isAgg3 rfl hC rfl) (Az 6 rfl rfl (H.get .here) (fun _ hC => Bs (r := 256 * (j : Int)) rfl rfl (Xc (by omega))) (Az 7 rfl rfl (H.get .here) (fun _ hC => Qa (off' := 1) underlying316 rfl sizeOf58 (by decide) rfl rfl) (Az 8 rfl rfl (H.get .here) (fun _ hC => Qa (off' := 4) underlying58 rfl sizeOf3 (by decide) rfl rfl) (Az 9 rfl rfl (H.get .here) (fun _ hC => Qe (v := I p.e) isAgg3 rfl hC rfl) (Az 10 rfl rfl (H.get .here) (fun _ hC => Xg (r := 256 * (j : Int) + p.e) rfl rfl (Xc (by omega))) (Ao 3 (Qv rfl (.inl rfl) (Qw rfl call189 rfl) (FreeProc_G (h.Ql H kYs) hj8) (by rintro _ w2 ⟨_, _, H1⟩ _; exact (h.seq0 H kYs H1).get (.there .here)) ?_))))))))))); rintro _ w87 ⟨rfl, hgp2, H1⟩; replace H := h.seq0 H kYs H1; clear H1)
     (refine Ao 11 (Qv rfl (.inl rfl) (Qw rfl call188 rfl) (Up _ _ _) (fun _ _ hR _ => (H.seq0 hR.2).get (.there .here)) ?_); rintro _ w89 ⟨rfl, H1⟩; replace H := H.seq0 H1; clear H1)
     (refine Ao 12 (Xb rfl (.inl rfl) (Qg (vs := rtC _ _ nilS false) H sizeOf227 rfl rfl (by simp [rtC, Value.oneCell']) (.there (.there (.app _ (.there .here)))) (by simp [rtC])) (fun _ H _ => H.get (.there .here)) ?_); clear H; intro w91 H)
     refine Ad (Je ?_)
     (rw [decide_eq_true (by omega)] at hfi; rw [← hfi] at eX; rw [eX]; exact ⟨_, ⟨_, rfl, ldA isAgg227 sizeOf227 (H.get (.there (.there (.app _ (.there .here))))) rfl (by simp [rtC])⟩, rfl, hgp2, Hp.cut (L := [_]) (M := _ :: (M ++ [_, _, _])) H kYs⟩)
    ·refine Jk (Jr (J (Xg rfl rfl (Xc (by omega))) (Jm (Jn ?_))))
     (rw [decide_eq_false (by omega)] at hfi; exact ⟨kS, k + 1, by omega, by omega, rfl, hfi, H.pop hc9⟩)
   ·refine Xr ?_
    refine (if_pos rfl).mpr ?_
    refine Js (Js ?_)
    ((rw [List.drop_of_length_le (by omega), List.find?_nil] at hfi; rw [← hfi] at eX; simp only at eX)) <;> refine Qk ?_
    refine Jm (J (Qh underlying313 rfl) (J (Yk rfl rfl) (Jn (Xo rfl (fun h110 => ?_) (fun h110 => ?_)))))
    ·(refine Js (Jr (Jz rfl call185 rfl (Dh _ _) H ?_)); intro w113 H)
     (refine Qd rfl (Qg (vs := [(.int _ _), (.int _ _), (.slice _ _ _), (.bool _)]) H sizeOf227 rfl rfl (by simp [Value.oneCell']) (.app _ (.there .here)) (Nat.le_of_ble_eq_true rfl)) ?_; clear H; intro w114 H)
     refine Jn (Je ?_)
     (rw [eX, if_pos (by omega)]; exact ⟨_, ⟨_, rfl, ldA isAgg227 sizeOf227 (H.get (.app _ (.there .here))) rfl (by simp [rtC])⟩, rfl, h.gp, h.hM.same0 (H.none kYs)⟩)
    ·(refine Jk (Js (Jr (J (Qm (places := [(0, 1), (1, 1), (2, 1), (3, 1)]) (vs := rtC 0 0 nilS true) underlying227 typeInfo227 rfl rfl (by kernel_rfl) rfl rfl rfl) (Qd rfl (Qg (vs := [(.int _ _), (.int _ _), (.slice _ _ _), (.bool _)]) H sizeOf227 rfl rfl (by simp [Value.oneCell']) (.app _ (.there .here)) (Nat.le_of_ble_eq_true rfl)) ?_)))); clear H; intro w122 H)
     refine Jn (Je ?_)
     (rw [eX, if_neg (by omega)]; exact ⟨_, ⟨_, rfl, ldA isAgg227 sizeOf227 (H.get (.app _ (.there .here))) rfl (by simp [rtC])⟩, rfl, h.gp, h.hM.same0 (H.none kYs)⟩)
end
end Go.Proofs.YtlpmfldijgdcoaaGreatDoor.Pr
namespace Go.Proofs.YtlpmfldijgdcoaaGreatDoor.Ho
open Go Go.Proofs Fx Kn Cm Sect Tryz
abbrev sysC (op a b : Int) (D : Value) : List Value := [I op, I a, I b, D]
def FOp (op : Int) : Prop := op = 1 ∨ op = 2 ∨ op = 3 ∨ op = 4 ∨ op = 17
def ownX (C : Cs) (i : Nat) (op : Int) : Int × Int := if (Pr.self C i).2 ≠ 0 then (0, (Pr.self C i).2) else if op = 1 then ((i : Int), 0) else ((Pr.self C i).1.p - 1, 0)
def doX (C : Cs) (i : Nat) (op a : Int) : List UInt8 × Int × Int × Bool :=
 if op = 2 then ((Pr.Um C i).1, (Pr.Um C i).2.1, (Pr.Um C i).2.2, false) else
 if op = 3 then ((Pr.Bv C i a).1, (Pr.Bv C i a).2.1, (Pr.Bv C i a).2.2, false) else
 if op = 4 then Pr.Ml C i else (C.κ.xs, (ownX C i op).1, (ownX C i op).2, false)
/-- nothing is pending, and nothing is kept off -/
def Zs (p : Slot.Pi) : Prop := p.a = 0#64 ∧ p.b = 0#64
def endX (C : Cs) (i : Nat) : List UInt8 := if (C.pR i).2 = 1 ∧ (C.pR i).1.s = 1 then Ds C i (C.pR i).1 else C.κ.xs
theorem ctold_ret (e : Int) (w : World) : Ret Tryz.prog 177 #[I e] w fun v w' => v = Pr.rt 0 e ∧ Hp w [] w' := by
 refine Qy (args := [_]) func177 rfl ntmps177 results177 (by simp) ?_
 have H := Hp.refl w
 (refine Js (Jr (Qb rfl (Qp (vs := rtC 0 0 nilS false) H zeroValue227 rfl) ?_)); clear H; intro c2 w3 hc2 H)
 (refine Jn (Js (Jr (Jm (J (Qm (places := [(0, 1), (1, 1), (2, 1), (3, 1)]) (vs := rtC 0 e nilS false) underlying227 typeInfo227 rfl rfl (by kernel_rfl) rfl rfl rfl) (Qd rfl (Qg (vs := rtC 0 e nilS false) H sizeOf227 rfl rfl (by simp [rtC, Value.oneCell']) .here (by simp [rtC])) ?_))))); clear H; intro w9 H; replace H : Hp w [(c2, blk (rtC 0 e nilS false) 227)] w9 := H)
 refine Jn (Je ?_)
 exact ⟨_, ⟨_, rfl, ldA isAgg227 sizeOf227 (H.get .here) rfl (by simp [rtC])⟩, rfl, H.none kYs⟩
theorem filesF {op a b : Int} {da : Option Addr} {dl dc : Nat} (hop : FOp op) (cv : Value) (i : Int) (w : World) :
  Ret Tryz.prog 171 #[cv, I i, .agg (sysC op a b (.slice da dl dc)).toArray] w fun v w' => v = .tuple #[.agg (rtC 0 0 nilS false).toArray, .bool false] ∧ Hp w [] w' := by
 refine Qy (args := [_, _, _]) func171 rfl ntmps171 results171 (by simp) ?_
 have H := Hp.refl w
 unfold FOp at hop
 (refine Js (Jr (Qb rfl (Xl (vs := sysC op a b (.slice da dl dc)) H rfl rfl) ?_)); clear H; intro c5 w3 hc5 H)
 (refine Qb rfl (Qp (vs := rtC 0 0 nilS false) H zeroValue227 rfl) ?_; clear H; intro c6 w4 hc6 H)
 (refine Ja (Jn (Js (Js (Jr (Jf 0 underlying38 rfl sizeOf3 rfl rfl (Jl isAgg3 rfl (H.get (.there .here)) rfl (Jn (Jb (Js (Jr (J (Xf rfl rfl (by omega)) (Ja (Jn (Jc rfl (Js (Jr (J (Xf rfl rfl (by omega)) (Ja (Jn (Jc rfl (Js (Jr (J (Xf rfl rfl (by omega)) (Ja (Jn (Jc rfl (Js (Jr (J (Xf rfl rfl (by omega)) (Ja (Jn (Jc rfl (Js (Jr (J (Xf rfl rfl (by omega)) (Ja (Jn (Jc rfl (Js (Jr (J (Xf rfl rfl (by omega)) (Ja (Jn (Jc rfl (Js (Jr (J (Xf rfl rfl (by omega)) (Ja (Jn (Jc rfl (Js (Jr (J (Xf rfl rfl (by omega)) (Ja (Jn (Jc rfl (Jk (Js (Jr (J (Qm (places := [(0, 1), (1, 1), (2, 1), (3, 1)]) (vs := rtC 0 0 nilS false) underlying227 typeInfo227 rfl rfl (by kernel_rfl) rfl rfl rfl) (Qd rfl (Qg (vs := rtC 0 0 nilS false) H sizeOf227 rfl rfl (by simp [rtC, Value.oneCell']) .here (by simp [rtC])) ?_))))))))))))))))))))))))))))))))))))))))))))))))))))))))))))); clear H; intro w66 H; replace H : Hp w [(c6, blk (rtC 0 0 nilS false) 227), (c5, blk (sysC op a b (.slice da dl dc)) 38)] w66 := H)
 refine Ja (Jn (Je ?_))
 exact ⟨_, ⟨_, _, rfl, ldA isAgg227 sizeOf227 (H.get .here) rfl (by simp [rtC]), rfl⟩, rfl, H.none kYs⟩
section
variable {w : World} {c : Nat} {C : Cs}
theorem ownF (h : Gd w c C) {i : Nat} (hi : i < 8) {op a b : Int} {da : Option Addr} {dl dc : Nat} (hop : op = 1 ∨ op = 17) :
  Ret Tryz.prog 176 #[ptr c 0, I i, .agg (sysC op a b (.slice da dl dc)).toArray] w fun v w' => v = Pr.rt (ownX C i op).1 (ownX C i op).2 ∧ Hp w [] w' := by
 refine Qy (args := [_, _, _]) func176 rfl ntmps176 results176 (by simp) ?_
 have H := Hp.refl w
 have hso := @Pr.self_ok C i
 (refine Js (Jr (Qb rfl (Xl (vs := sysC op a b (.slice da dl dc)) H rfl rfl) ?_)); clear H; intro c5 w3 hc5 H)
 (refine Qb rfl (Qp (vs := rtC 0 0 nilS false) H zeroValue227 rfl) ?_; clear H; intro c6 w4 hc6 H)
 refine Jn (Js (Jr (Jm (Jm ?_))))
 (have e0 : ownX C i op = if (Pr.self C i).2 ≠ 0 then (0, (Pr.self C i).2) else if op = 1 then ((i : Int), 0) else ((Pr.self C i).1.p - 1, 0) := rfl; refine Vl rfl (Qw rfl call184 rfl) (Pr.Self_L (h.Ql H kYs).hM h.hL hi) ?_; rintro _ w10 ⟨rfl, H1⟩; replace H := H.seq0 H1; clear H1; generalize Pr.self C i = r at *; obtain ⟨p, z⟩ := r; simp only at *)
 (refine Jm (Jx rfl rfl (Jx rfl rfl (Qb rfl (Slot.Qt H) ?_))); clear H; intro c7 w14 hc7 H)
 (refine Qd rfl (Slot.Qn H rfl rfl .here) ?_; clear H; intro w15 H)
 refine Ja (Jn (Js (Jr (Ja (Jn (Js (Jb (Js (Jr (Jm (J (Zu rfl rfl) (Ja (Jn (Xo rfl (fun h30 => ?_) (fun h30 => ?_)))))))))))))))
 ·(refine Jk (Js (Jb (Js (Jr (Jm (J (Dq rfl rfl (by omega)) (Ja (Jn (Jd rfl (Js (Jr (Jm (Jz rfl call177 rfl (ctold_ret _ _) H ?_))))))))))))); intro w44 H)
  (refine Qd rfl (Qg (vs := [(.int _ _), (.int _ _), (.slice _ _ _), (.bool _)]) H sizeOf227 rfl rfl (by simp [Value.oneCell']) (.there .here) (Nat.le_of_ble_eq_true rfl)) ?_; clear H; intro w45 H)
  refine Jn (Je ?_)
  (rw [e0, if_pos (by omega)]; exact ⟨_, ⟨_, rfl, ldA isAgg227 sizeOf227 (H.get (.there .here)) rfl (by simp [rtC])⟩, rfl, H.none kYs⟩)
 ·refine Js (Jr (Jf 0 underlying38 rfl sizeOf3 rfl rfl (J (Qe (v := I op) isAgg3 rfl (H.get (.there (.there .here))) rfl) (J (Yk rfl rfl) (Ja (Jn (Xo rfl (fun h56 => ?_) (fun h56 => ?_))))))))
  ·(refine Js (Jr (Jm (J (Qm (places := [(0, 1), (1, 1), (2, 1), (3, 1)]) (vs := rtC i 0 nilS false) underlying227 typeInfo227 rfl rfl (by kernel_rfl) rfl rfl rfl) (Qd rfl (Qg (vs := [(.int _ _), (.int _ _), (.slice _ _ _), (.bool _)]) H sizeOf227 rfl rfl (by simp [Value.oneCell']) (.there .here) (Nat.le_of_ble_eq_true rfl)) ?_)))); clear H; intro w61 H)
   refine Jn (Je ?_)
   (rw [e0, if_neg (by omega), if_pos (by omega)]; exact ⟨_, ⟨_, rfl, ldA isAgg227 sizeOf227 (H.get (.there .here)) rfl (by simp [rtC])⟩, rfl, H.none kYs⟩)
  ·refine Js (Jr (Jf 0 underlying38 rfl sizeOf3 rfl rfl (J (Qe (v := I op) isAgg3 rfl (H.get (.there (.there .here))) rfl) (J (Yr rfl rfl (by omega)) (Ja (Jn (Jd rfl (Js ?_))))))))
   ((have hpp := (hso (by omega)).2.2.2.1.2.1)) <;> refine Qk ?_
   (refine Jf 1 underlying58 rfl sizeOf3 rfl rfl (J (Qe (v := I p.p) isAgg3 rfl (H.get .here) rfl) (J (Vt (r := p.p - 1) rfl rfl (Xc (by omega))) (J (Qm (places := [(0, 1), (1, 1), (2, 1), (3, 1)]) (vs := rtC (p.p - 1) 0 nilS false) underlying227 typeInfo227 rfl rfl (by kernel_rfl) rfl rfl rfl) (Qd rfl (Qg (vs := [(.int _ _), (.int _ _), (.slice _ _ _), (.bool _)]) H sizeOf227 rfl rfl (by simp [Value.oneCell']) (.there .here) (Nat.le_of_ble_eq_true rfl)) ?_)))); clear H; intro w79 H)
   refine Jn (Je ?_)
   (rw [e0, if_neg (by omega), if_neg (by omega)]; exact ⟨_, ⟨_, rfl, ldA isAgg227 sizeOf227 (H.get (.there .here)) rfl (by simp [rtC])⟩, rfl, H.none kYs⟩)
end
end Go.Proofs.YtlpmfldijgdcoaaGreatDoor.Ho

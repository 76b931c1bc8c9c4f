/- Bodies of the small functions of the scanners, written out for the table; printed by a program of this session. No condition. -/
import Derived.Test.YthkkgbmjjpcfaaaDoorProg
import Derived.Test.YthkkgbmjjpcfaaaDoorAb2
namespace Go.Proofs.YthkkgbmjjpcfaaaDoor
open Go.Ab
theorem Tryd.mixed : Tryd.prog.follows .mixedOrders = true := by kernel_rfl

section
variable (W : Nat → Prop) (Q : Post) (QP : PPost) (s : St) (h : AH)
noncomputable def F28.code : Code := Tryd.f28.body.getD .skip
def F28.g1 : Grps := [(none, [(0, false), (1, false), (2, false), (3, false), (4, false)]), (some (4, true), [(5, false), (6, false), (7, false), (8, false), (9, false)]), (none, [(10, false)])]
def F28.pl : Plans := [(1, ⟨F28.g1, false, [], []⟩)]
theorem F28.ok : okCode Tryd.prog F28.pl F28.code = true := by kernel_rfl
noncomputable abbrev F28.d (p : List Nat) : Code := Code.at F28.code p
abbrev F28.cw (W : Nat → Prop) (c : Code) (Q : Post) (QP : PPost) : KT := Go.Ab.aw Tryd.prog 21 W F28.pl c Q QP
def F28.t1 (Q : Post) (s : St) (h : AH) : Prop :=
  Q .ret ⟨puts s.tm [(20, (s.tm 1)), (6, (s.tm 1))], s.ds⟩ h
def F28.k1 (W : Nat → Prop) (Q : Post) (QP : PPost) (s : St) (h : AH) : Prop := F28.t1 Q s h
theorem F28.k1_a : F28.cw W (F28.d [1, 1, 0]) (thenQ (F28.cw W (F28.d [1, 1, 1]) (Q) QP) (Q)) QP s h = F28.t1 Q s h := by kernel_rfl
theorem F28.k1_ok : F28.cw W (F28.d [1, 1]) (Q) QP s h = F28.k1 W Q QP s h := nd_seq (a := (F28.d [1, 1, 0])) (b := (F28.d [1, 1, 1])) (by kernel_rfl) (fun _ _ => rfl) (F28.k1_a W Q QP s h)
def F28.t2 (Q : Post) (s : St) (h : AH) : Prop :=
  pBin Tryd.prog .add 3 true (s.tm 1) (.sc (.int .i64 1)) fun t1 =>
  Q .normal ⟨puts s.tm [(18, (s.tm 1)), (19, t1), (1, t1)], s.ds⟩ h
def F28.k2 (W : Nat → Prop) (Q : Post) (QP : PPost) (s : St) (h : AH) : Prop := F28.t2 Q s h
theorem F28.k2_a : F28.cw W (F28.d [1, 0, 0, 0, 1, 0]) (blockQ 1 (Q)) QP s h = F28.t2 Q s h := by kernel_rfl
theorem F28.k2_ok : F28.cw W (F28.d [1, 0, 0, 0, 1, 0]) (blockQ 1 (Q)) QP s h = F28.k2 W Q QP s h := (F28.k2_a W Q QP s h)
theorem F28.o1 : F28.cw W (F28.d [1, 0, 0, 0, 1]) (Q) QP s h = F28.k2 W Q QP s h := nd_block (a := (F28.d [1, 0, 0, 0, 1, 0])) (by kernel_rfl) (F28.k2_ok W Q QP s h)
def F28.t3 (Q : Post) (s : St) (h : AH) (C0 : KT) : Prop :=
  aIf (s.tm 17) (
  C0 s h) (
  Q (.exit 0) s h)
def F28.k3 (W : Nat → Prop) (Q : Post) (QP : PPost) (s : St) (h : AH) : Prop := F28.t3 Q s h (F28.k2 W Q QP)
theorem F28.k3_a (C0 : KT) : aIf (aev s (.tmp 17)) (F28.cw W (F28.d [1, 0, 0, 0, 0, 1, 0]) (thenQ (C0) (Q)) QP s h) (F28.cw W (F28.d [1, 0, 0, 0, 0, 1, 1]) (thenQ (C0) (Q)) QP s h) = F28.t3 Q s h C0 := by kernel_rfl
theorem F28.k3_ok : F28.cw W (F28.d [1, 0, 0, 0, 0, 1]) (thenQ (F28.k2 W Q QP) (Q)) QP s h = F28.k3 W Q QP s h := nd_cond (a := (F28.d [1, 0, 0, 0, 0, 1, 0])) (b := (F28.d [1, 0, 0, 0, 0, 1, 1])) (by kernel_rfl) rfl rfl (F28.k3_a W Q QP s h (F28.k2 W Q QP))
def F28.t4 (s : St) (h : AH) (C0 C1 : KT) : Prop :=
  pPick (s.tm 11) (s.tm 16) (.sc (.bool false)) fun t2 =>
  C1 ⟨puts s.tm [(17, t2)], s.ds⟩ h
def F28.k4 (W : Nat → Prop) (Q : Post) (QP : PPost) (s : St) (h : AH) : Prop := F28.t4 s h (F28.k2 W Q QP) (F28.k3 W Q QP)
theorem F28.k4_a (C0 C1 : KT) : evI Tryd.prog 21 (fun _ => W) nobody QP (regOps (F28.d [1, 0, 0, 0, 0, 0])) (isAt F28.g1 2) ((thenQ (C1) (thenQ (C0) (Q))) .normal) s h = F28.t4 s h C0 C1 := by kernel_rfl
theorem F28.k4_ok : evG Tryd.prog 21 (fun _ => W) nobody QP (regOps (F28.d [1, 0, 0, 0, 0, 0])) (F28.g1.drop 2) ((thenQ (F28.k3 W Q QP) (thenQ (F28.k2 W Q QP) (Q))) .normal) s h = F28.k4 W Q QP s h := nd_g (is := isAt F28.g1 2) (rest := F28.g1.drop 3) (by kernel_rfl) (fun _ _ => rfl) (F28.k4_a W Q QP s h (F28.k2 W Q QP) (F28.k3 W Q QP))
def F28.t5 (W : Nat → Prop) (QP : PPost) (s : St) (h : AH) (C0 : KT) : Prop :=
  aIg true (s.tm 11) (
  pIxS true (s.tm 0) (s.tm 1) fun t3 =>
  aGo Tryd.prog W (s.tm 2) [t3] h (fun t4 h5 =>
  C0 ⟨puts s.tm [(12, (s.tm 2)), (13, (s.tm 0)), (14, (s.tm 1)), (15, t3), (16, t4)], s.ds⟩ h5) (QP s.ds)) (
  C0 ⟨puts s.tm [(12, noA), (13, noA), (14, noA), (15, noA), (16, noA)], s.ds⟩ h)
def F28.k5 (W : Nat → Prop) (Q : Post) (QP : PPost) (s : St) (h : AH) : Prop := F28.t5 W QP s h (F28.k4 W Q QP)
theorem F28.k5_a (C0 : KT) : aIg true (s.tm 11) (evI Tryd.prog 21 (fun _ => W) nobody QP (regOps (F28.d [1, 0, 0, 0, 0, 0])) (isAt F28.g1 1) (C0) s h) ((C0) (skI 21 (regOps (F28.d [1, 0, 0, 0, 0, 0])) (isAt F28.g1 1) s) h) = F28.t5 W QP s h C0 := by kernel_rfl
theorem F28.k5_ok : evG Tryd.prog 21 (fun _ => W) nobody QP (regOps (F28.d [1, 0, 0, 0, 0, 0])) (F28.g1.drop 1) ((thenQ (F28.k3 W Q QP) (thenQ (F28.k2 W Q QP) (Q))) .normal) s h = F28.k5 W Q QP s h := nd_gw (j := 4) (is := isAt F28.g1 1) (rest := F28.g1.drop 2) (by kernel_rfl) (d := 11) (by kernel_rfl) (F28.k4_ok W Q QP) (F28.k5_a W QP s h (F28.k4 W Q QP))
def F28.t6 (s : St) (h : AH) (C0 : KT) : Prop :=
  (strArg (s.tm 0) = true) ∧ pLen (s.tm 0) fun t6 =>
  pBin Tryd.prog .lss 3 false (s.tm 1) t6 fun t7 =>
  C0 ⟨puts s.tm [(7, (s.tm 1)), (8, (s.tm 0)), (9, t6), (10, t7), (11, t7)], s.ds⟩ h
def F28.k6 (W : Nat → Prop) (Q : Post) (QP : PPost) (s : St) (h : AH) : Prop := F28.t6 s h (F28.k5 W Q QP)
theorem F28.k6_a (C0 : KT) : evI Tryd.prog 21 (fun _ => W) nobody QP (regOps (F28.d [1, 0, 0, 0, 0, 0])) (isAt F28.g1 0) (C0) s h = F28.t6 s h C0 := by kernel_rfl
theorem F28.k6_ok : evG Tryd.prog 21 (fun _ => W) nobody QP (regOps (F28.d [1, 0, 0, 0, 0, 0])) (F28.g1.drop 0) ((thenQ (F28.k3 W Q QP) (thenQ (F28.k2 W Q QP) (Q))) .normal) s h = F28.k6 W Q QP s h := nd_g (is := isAt F28.g1 0) (rest := F28.g1.drop 1) (by kernel_rfl) (F28.k5_ok W Q QP) (F28.k6_a W QP s h (F28.k5 W Q QP))
theorem F28.o2 : F28.cw W (F28.d [1, 0, 0, 0, 0, 0]) (thenQ (F28.k3 W Q QP) (thenQ (F28.k2 W Q QP) (Q))) QP s h = F28.k6 W Q QP s h := nd_groups (id := 1) (draw := false) (ops := (regOps (F28.d [1, 0, 0, 0, 0, 0]))) (gs := F28.g1.drop 0) (by kernel_rfl) (by kernel_rfl) (F28.k6_ok W Q QP s h)
theorem F28.o3 : F28.cw W (F28.d [1, 0, 0, 0, 0]) (thenQ (F28.k2 W Q QP) (Q)) QP s h = F28.k6 W Q QP s h := nd_seq (a := (F28.d [1, 0, 0, 0, 0, 0])) (b := (F28.d [1, 0, 0, 0, 0, 1])) (by kernel_rfl) (F28.k3_ok W Q QP) (F28.o2 W Q QP s h)
theorem F28.o4 : F28.cw W (F28.d [1, 0, 0, 0]) (Q) QP s h = F28.k6 W Q QP s h := nd_seq (a := (F28.d [1, 0, 0, 0, 0])) (b := (F28.d [1, 0, 0, 0, 1])) (by kernel_rfl) (F28.o1 W Q QP) (F28.o3 W Q QP s h)
noncomputable def F28.c1 : Code := (F28.d [1, 0, 0, 0])
theorem F28.l1 : aw Tryd.prog 21 W F28.pl F28.c1 Q QP s h = F28.k6 W Q QP s h := F28.o4 W Q QP s h
def F28.k7 (W : Nat → Prop) (Q : Post) (QP : PPost) (s : St) (h : AH) : Prop := aLoop (aw Tryd.prog 21 W F28.pl F28.c1) (blockQ 0 (thenQ (F28.k1 W Q QP) (Q))) QP s h
theorem F28.k7_ok : F28.cw W (F28.d [1, 0, 0]) (blockQ 0 (thenQ (F28.k1 W Q QP) (Q))) QP s h = F28.k7 W Q QP s h := nd_loop (a := F28.c1) (by kernel_rfl)
theorem F28.o5 : F28.cw W (F28.d [1, 0]) (thenQ (F28.k1 W Q QP) (Q)) QP s h = F28.k7 W Q QP s h := nd_block (a := (F28.d [1, 0, 0])) (by kernel_rfl) (F28.k7_ok W Q QP s h)
theorem F28.o6 : F28.cw W (F28.d [1]) (Q) QP s h = F28.k7 W Q QP s h := nd_seq (a := (F28.d [1, 0])) (b := (F28.d [1, 1])) (by kernel_rfl) (F28.k1_ok W Q QP) (F28.o5 W Q QP s h)
def F28.t8 (s : St) (h : AH) (C0 : KT) : Prop :=
  C0 ⟨puts s.tm [(6, (.sc (.int .i64 0)))], s.ds⟩ h
def F28.k8 (W : Nat → Prop) (Q : Post) (QP : PPost) (s : St) (h : AH) : Prop := F28.t8 s h (F28.k7 W Q QP)
theorem F28.k8_a (C0 : KT) : F28.cw W (F28.d [0]) (thenQ (C0) (Q)) QP s h = F28.t8 s h C0 := by kernel_rfl
theorem F28.k8_ok : F28.cw W (F28.d []) (Q) QP s h = F28.k8 W Q QP s h := nd_seq (a := (F28.d [0])) (b := (F28.d [1])) (by kernel_rfl) (F28.o6 W Q QP) (F28.k8_a W Q QP s h (F28.k7 W Q QP))
end
set_option maxRecDepth 100000 in
theorem F28.calls {x0 x1 x2 : AV} {h : AH} {M : Nat → Prop} {R : AE → AH → Prop} (hp : F28.k8 (fun id => M id ∨ h.next ≤ id) (bodyQ Tryd.prog [.tmp 6] R) (bodyP R) (s0 [x0, x1, x2]) h) : ACalls Tryd.prog 28 [x0, x1, x2] h M R :=
  acalls_of (c := F28.code) Tryd.mixed Tryd.func28 (by kernel_rfl) (Nat.le_of_ble_eq_true rfl) F28.ok (by rw [show Tryd.f28.ntmps = 21 from rfl, show Tryd.f28.results.toList = [.tmp 6] from rfl]; exact Eq.mpr (F28.k8_ok _ _ _ _ _) hp)
attribute [simp] F28.k1 F28.t1 F28.k2 F28.t2 F28.k3 F28.t3 F28.k4 F28.t4 F28.k5 F28.t5 F28.k6 F28.t6 F28.k7 F28.k8 F28.t8

section
variable (W : Nat → Prop) (Q : Post) (QP : PPost) (s : St) (h : AH)
noncomputable def F29.code : Code := Tryd.f29.body.getD .skip
def F29.pl : Plans := []
theorem F29.ok : okCode Tryd.prog F29.pl F29.code = true := by kernel_rfl
noncomputable abbrev F29.d (p : List Nat) : Code := Code.at F29.code p
abbrev F29.cw (W : Nat → Prop) (c : Code) (Q : Post) (QP : PPost) : KT := Go.Ab.aw Tryd.prog 5 W F29.pl c Q QP
def F29.t1 (Q : Post) (s : St) (h : AH) : Prop :=
  pBin Tryd.prog .neq 5 true (s.tm 0) (.sc (.int .u8 10)) fun t1 =>
  Q .ret ⟨puts s.tm [(3, (s.tm 0)), (4, t1), (2, t1)], s.ds⟩ h
def F29.k1 (W : Nat → Prop) (Q : Post) (QP : PPost) (s : St) (h : AH) : Prop := F29.t1 Q s h
theorem F29.k1_a : F29.cw W (F29.d [1, 0]) (thenQ (F29.cw W (F29.d [1, 1]) (Q) QP) (Q)) QP s h = F29.t1 Q s h := by kernel_rfl
theorem F29.k1_ok : F29.cw W (F29.d [1]) (Q) QP s h = F29.k1 W Q QP s h := nd_seq (a := (F29.d [1, 0])) (b := (F29.d [1, 1])) (by kernel_rfl) (fun _ _ => rfl) (F29.k1_a W Q QP s h)
def F29.t2 (s : St) (h : AH) (C0 : KT) : Prop :=
  C0 ⟨puts s.tm [(2, (.sc (.bool false)))], s.ds⟩ h
def F29.k2 (W : Nat → Prop) (Q : Post) (QP : PPost) (s : St) (h : AH) : Prop := F29.t2 s h (F29.k1 W Q QP)
theorem F29.k2_a (C0 : KT) : F29.cw W (F29.d [0]) (thenQ (C0) (Q)) QP s h = F29.t2 s h C0 := by kernel_rfl
theorem F29.k2_ok : F29.cw W (F29.d []) (Q) QP s h = F29.k2 W Q QP s h := nd_seq (a := (F29.d [0])) (b := (F29.d [1])) (by kernel_rfl) (F29.k1_ok W Q QP) (F29.k2_a W Q QP s h (F29.k1 W Q QP))
end
set_option maxRecDepth 100000 in
theorem F29.calls {x0 : AV} {h : AH} {M : Nat → Prop} {R : AE → AH → Prop} (hp : F29.k2 (fun id => M id ∨ h.next ≤ id) (bodyQ Tryd.prog [.tmp 2] R) (bodyP R) (s0 [x0]) h) : ACalls Tryd.prog 29 [x0] h M R :=
  acalls_of (c := F29.code) Tryd.mixed Tryd.func29 (by kernel_rfl) (Nat.le_of_ble_eq_true rfl) F29.ok (by rw [show Tryd.f29.ntmps = 5 from rfl, show Tryd.f29.results.toList = [.tmp 2] from rfl]; exact Eq.mpr (F29.k2_ok _ _ _ _ _) hp)
attribute [simp] F29.k1 F29.t1 F29.k2 F29.t2

section
variable (W : Nat → Prop) (Q : Post) (QP : PPost) (s : St) (h : AH)
noncomputable def F30.code : Code := Tryd.f30.body.getD .skip
def F30.g1 : Grps := [(none, [(0, false), (1, false), (2, false)]), (some (2, true), [(3, false), (4, false)]), (none, [(5, false), (6, false)]), (some (6, false), [(7, false), (8, false), (9, false)]), (some (9, true), [(10, false), (11, false)]), (some (6, false), [(12, false)]), (none, [(13, false), (14, false)]), (some (14, false), [(15, false), (16, false)]), (none, [(17, false), (18, false)])]
def F30.pl : Plans := [(1, ⟨F30.g1, false, [], []⟩)]
theorem F30.ok : okCode Tryd.prog F30.pl F30.code = true := by kernel_rfl
noncomputable abbrev F30.d (p : List Nat) : Code := Code.at F30.code p
abbrev F30.cw (W : Nat → Prop) (c : Code) (Q : Post) (QP : PPost) : KT := Go.Ab.aw Tryd.prog 21 W F30.pl c Q QP
def F30.t1 (Q : Post) (s : St) (h : AH) : Prop :=
  Q .ret s h
def F30.k1 (W : Nat → Prop) (Q : Post) (QP : PPost) (s : St) (h : AH) : Prop := F30.t1 Q s h
theorem F30.k1_a : F30.cw W (F30.d [1, 1]) (Q) QP s h = F30.t1 Q s h := by kernel_rfl
theorem F30.k1_ok : F30.cw W (F30.d [1, 1]) (Q) QP s h = F30.k1 W Q QP s h := (F30.k1_a W Q QP s h)
def F30.t2 (s : St) (h : AH) (C0 : KT) : Prop :=
  pPick (s.tm 17) (.sc (.bool true)) (s.tm 19) fun t1 =>
  C0 ⟨puts s.tm [(20, t1), (2, t1)], s.ds⟩ h
def F30.k2 (W : Nat → Prop) (Q : Post) (QP : PPost) (s : St) (h : AH) : Prop := F30.t2 s h (F30.k1 W Q QP)
theorem F30.k2_a (C0 : KT) : evI Tryd.prog 21 (fun _ => W) nobody QP (regOps (F30.d [1, 0])) (isAt F30.g1 8) ((thenQ (C0) (Q)) .normal) s h = F30.t2 s h C0 := by kernel_rfl
theorem F30.k2_ok : evG Tryd.prog 21 (fun _ => W) nobody QP (regOps (F30.d [1, 0])) (F30.g1.drop 8) ((thenQ (F30.k1 W Q QP) (Q)) .normal) s h = F30.k2 W Q QP s h := nd_g (is := isAt F30.g1 8) (rest := F30.g1.drop 9) (by kernel_rfl) (fun _ _ => rfl) (F30.k2_a W Q QP s h (F30.k1 W Q QP))
def F30.t3 (s : St) (h : AH) (C0 : KT) : Prop :=
  aIg false (s.tm 17) (
  pBin Tryd.prog .eql 5 true (s.tm 0) (.sc (.int .u8 95)) fun t2 =>
  C0 ⟨puts s.tm [(18, (s.tm 0)), (19, t2)], s.ds⟩ h) (
  C0 ⟨puts s.tm [(18, noA), (19, noA)], s.ds⟩ h)
def F30.k3 (W : Nat → Prop) (Q : Post) (QP : PPost) (s : St) (h : AH) : Prop := F30.t3 s h (F30.k2 W Q QP)
theorem F30.k3_a (C0 : KT) : aIg false (s.tm 17) (evI Tryd.prog 21 (fun _ => W) nobody QP (regOps (F30.d [1, 0])) (isAt F30.g1 7) (C0) s h) ((C0) (skI 21 (regOps (F30.d [1, 0])) (isAt F30.g1 7) s) h) = F30.t3 s h C0 := by kernel_rfl
theorem F30.k3_ok : evG Tryd.prog 21 (fun _ => W) nobody QP (regOps (F30.d [1, 0])) (F30.g1.drop 7) ((thenQ (F30.k1 W Q QP) (Q)) .normal) s h = F30.k3 W Q QP s h := nd_gw (j := 14) (is := isAt F30.g1 7) (rest := F30.g1.drop 8) (by kernel_rfl) (d := 17) (by kernel_rfl) (F30.k2_ok W Q QP) (F30.k3_a W QP s h (F30.k2 W Q QP))
def F30.t4 (s : St) (h : AH) (C0 : KT) : Prop :=
  pPick (s.tm 9) (.sc (.bool true)) (s.tm 15) fun t3 =>
  C0 ⟨puts s.tm [(16, t3), (17, t3)], s.ds⟩ h
def F30.k4 (W : Nat → Prop) (Q : Post) (QP : PPost) (s : St) (h : AH) : Prop := F30.t4 s h (F30.k3 W Q QP)
theorem F30.k4_a (C0 : KT) : evI Tryd.prog 21 (fun _ => W) nobody QP (regOps (F30.d [1, 0])) (isAt F30.g1 6) (C0) s h = F30.t4 s h C0 := by kernel_rfl
theorem F30.k4_ok : evG Tryd.prog 21 (fun _ => W) nobody QP (regOps (F30.d [1, 0])) (F30.g1.drop 6) ((thenQ (F30.k1 W Q QP) (Q)) .normal) s h = F30.k4 W Q QP s h := nd_g (is := isAt F30.g1 6) (rest := F30.g1.drop 7) (by kernel_rfl) (F30.k3_ok W Q QP) (F30.k4_a W QP s h (F30.k3 W Q QP))
def F30.t5 (s : St) (h : AH) (C0 : KT) : Prop :=
  aIg false (s.tm 9) (
  pPick (s.tm 12) (s.tm 14) (.sc (.bool false)) fun t4 =>
  C0 ⟨puts s.tm [(15, t4)], s.ds⟩ h) (
  C0 ⟨puts s.tm [(15, noA)], s.ds⟩ h)
def F30.k5 (W : Nat → Prop) (Q : Post) (QP : PPost) (s : St) (h : AH) : Prop := F30.t5 s h (F30.k4 W Q QP)
theorem F30.k5_a (C0 : KT) : aIg false (s.tm 9) (evI Tryd.prog 21 (fun _ => W) nobody QP (regOps (F30.d [1, 0])) (isAt F30.g1 5) (C0) s h) ((C0) (skI 21 (regOps (F30.d [1, 0])) (isAt F30.g1 5) s) h) = F30.t5 s h C0 := by kernel_rfl
theorem F30.k5_ok : evG Tryd.prog 21 (fun _ => W) nobody QP (regOps (F30.d [1, 0])) (F30.g1.drop 5) ((thenQ (F30.k1 W Q QP) (Q)) .normal) s h = F30.k5 W Q QP s h := nd_gw (j := 6) (is := isAt F30.g1 5) (rest := F30.g1.drop 6) (by kernel_rfl) (d := 9) (by kernel_rfl) (F30.k4_ok W Q QP) (F30.k5_a W QP s h (F30.k4 W Q QP))
def F30.t6 (s : St) (h : AH) (C0 : KT) : Prop :=
  aIg true (s.tm 12) (
  pBin Tryd.prog .leq 5 true (s.tm 0) (.sc (.int .u8 90)) fun t5 =>
  C0 ⟨puts s.tm [(13, (s.tm 0)), (14, t5)], s.ds⟩ h) (
  C0 ⟨puts s.tm [(13, noA), (14, noA)], s.ds⟩ h)
def F30.k6 (W : Nat → Prop) (Q : Post) (QP : PPost) (s : St) (h : AH) : Prop := F30.t6 s h (F30.k5 W Q QP)
theorem F30.k6_a (C0 : KT) : aIg true (s.tm 12) (evI Tryd.prog 21 (fun _ => W) nobody QP (regOps (F30.d [1, 0])) (isAt F30.g1 4) (C0) s h) ((C0) (skI 21 (regOps (F30.d [1, 0])) (isAt F30.g1 4) s) h) = F30.t6 s h C0 := by kernel_rfl
theorem F30.k6_ok : evG Tryd.prog 21 (fun _ => W) nobody QP (regOps (F30.d [1, 0])) (F30.g1.drop 4) ((thenQ (F30.k1 W Q QP) (Q)) .normal) s h = F30.k6 W Q QP s h := nd_gw (j := 9) (is := isAt F30.g1 4) (rest := F30.g1.drop 5) (by kernel_rfl) (d := 12) (by kernel_rfl) (F30.k5_ok W Q QP) (F30.k6_a W QP s h (F30.k5 W Q QP))
def F30.t7 (s : St) (h : AH) (C0 : KT) : Prop :=
  aIg false (s.tm 9) (
  pBin Tryd.prog .geq 5 true (s.tm 0) (.sc (.int .u8 65)) fun t6 =>
  C0 ⟨puts s.tm [(10, (s.tm 0)), (11, t6), (12, t6)], s.ds⟩ h) (
  C0 ⟨puts s.tm [(10, noA), (11, noA), (12, noA)], s.ds⟩ h)
def F30.k7 (W : Nat → Prop) (Q : Post) (QP : PPost) (s : St) (h : AH) : Prop := F30.t7 s h (F30.k6 W Q QP)
theorem F30.k7_a (C0 : KT) : aIg false (s.tm 9) (evI Tryd.prog 21 (fun _ => W) nobody QP (regOps (F30.d [1, 0])) (isAt F30.g1 3) (C0) s h) ((C0) (skI 21 (regOps (F30.d [1, 0])) (isAt F30.g1 3) s) h) = F30.t7 s h C0 := by kernel_rfl
theorem F30.k7_ok : evG Tryd.prog 21 (fun _ => W) nobody QP (regOps (F30.d [1, 0])) (F30.g1.drop 3) ((thenQ (F30.k1 W Q QP) (Q)) .normal) s h = F30.k7 W Q QP s h := nd_gw (j := 6) (is := isAt F30.g1 3) (rest := F30.g1.drop 4) (by kernel_rfl) (d := 9) (by kernel_rfl) (F30.k6_ok W Q QP) (F30.k7_a W QP s h (F30.k6 W Q QP))
def F30.t8 (s : St) (h : AH) (C0 : KT) : Prop :=
  pPick (s.tm 5) (s.tm 7) (.sc (.bool false)) fun t7 =>
  C0 ⟨puts s.tm [(8, t7), (9, t7)], s.ds⟩ h
def F30.k8 (W : Nat → Prop) (Q : Post) (QP : PPost) (s : St) (h : AH) : Prop := F30.t8 s h (F30.k7 W Q QP)
theorem F30.k8_a (C0 : KT) : evI Tryd.prog 21 (fun _ => W) nobody QP (regOps (F30.d [1, 0])) (isAt F30.g1 2) (C0) s h = F30.t8 s h C0 := by kernel_rfl
theorem F30.k8_ok : evG Tryd.prog 21 (fun _ => W) nobody QP (regOps (F30.d [1, 0])) (F30.g1.drop 2) ((thenQ (F30.k1 W Q QP) (Q)) .normal) s h = F30.k8 W Q QP s h := nd_g (is := isAt F30.g1 2) (rest := F30.g1.drop 3) (by kernel_rfl) (F30.k7_ok W Q QP) (F30.k8_a W QP s h (F30.k7 W Q QP))
def F30.t9 (s : St) (h : AH) (C0 : KT) : Prop :=
  aIg true (s.tm 5) (
  pBin Tryd.prog .leq 5 true (s.tm 0) (.sc (.int .u8 122)) fun t8 =>
  C0 ⟨puts s.tm [(6, (s.tm 0)), (7, t8)], s.ds⟩ h) (
  C0 ⟨puts s.tm [(6, noA), (7, noA)], s.ds⟩ h)
def F30.k9 (W : Nat → Prop) (Q : Post) (QP : PPost) (s : St) (h : AH) : Prop := F30.t9 s h (F30.k8 W Q QP)
theorem F30.k9_a (C0 : KT) : aIg true (s.tm 5) (evI Tryd.prog 21 (fun _ => W) nobody QP (regOps (F30.d [1, 0])) (isAt F30.g1 1) (C0) s h) ((C0) (skI 21 (regOps (F30.d [1, 0])) (isAt F30.g1 1) s) h) = F30.t9 s h C0 := by kernel_rfl
theorem F30.k9_ok : evG Tryd.prog 21 (fun _ => W) nobody QP (regOps (F30.d [1, 0])) (F30.g1.drop 1) ((thenQ (F30.k1 W Q QP) (Q)) .normal) s h = F30.k9 W Q QP s h := nd_gw (j := 2) (is := isAt F30.g1 1) (rest := F30.g1.drop 2) (by kernel_rfl) (d := 5) (by kernel_rfl) (F30.k8_ok W Q QP) (F30.k9_a W QP s h (F30.k8 W Q QP))
def F30.t10 (s : St) (h : AH) (C0 : KT) : Prop :=
  pBin Tryd.prog .geq 5 true (s.tm 0) (.sc (.int .u8 97)) fun t9 =>
  C0 ⟨puts s.tm [(3, (s.tm 0)), (4, t9), (5, t9)], s.ds⟩ h
def F30.k10 (W : Nat → Prop) (Q : Post) (QP : PPost) (s : St) (h : AH) : Prop := F30.t10 s h (F30.k9 W Q QP)
theorem F30.k10_a (C0 : KT) : evI Tryd.prog 21 (fun _ => W) nobody QP (regOps (F30.d [1, 0])) (isAt F30.g1 0) (C0) s h = F30.t10 s h C0 := by kernel_rfl
theorem F30.k10_ok : evG Tryd.prog 21 (fun _ => W) nobody QP (regOps (F30.d [1, 0])) (F30.g1.drop 0) ((thenQ (F30.k1 W Q QP) (Q)) .normal) s h = F30.k10 W Q QP s h := nd_g (is := isAt F30.g1 0) (rest := F30.g1.drop 1) (by kernel_rfl) (F30.k9_ok W Q QP) (F30.k10_a W QP s h (F30.k9 W Q QP))
theorem F30.o1 : F30.cw W (F30.d [1, 0]) (thenQ (F30.k1 W Q QP) (Q)) QP s h = F30.k10 W Q QP s h := nd_groups (id := 1) (draw := false) (ops := (regOps (F30.d [1, 0]))) (gs := F30.g1.drop 0) (by kernel_rfl) (by kernel_rfl) (F30.k10_ok W Q QP s h)
theorem F30.o2 : F30.cw W (F30.d [1]) (Q) QP s h = F30.k10 W Q QP s h := nd_seq (a := (F30.d [1, 0])) (b := (F30.d [1, 1])) (by kernel_rfl) (F30.k1_ok W Q QP) (F30.o1 W Q QP s h)
def F30.t11 (s : St) (h : AH) (C0 : KT) : Prop :=
  C0 ⟨puts s.tm [(2, (.sc (.bool false)))], s.ds⟩ h
def F30.k11 (W : Nat → Prop) (Q : Post) (QP : PPost) (s : St) (h : AH) : Prop := F30.t11 s h (F30.k10 W Q QP)
theorem F30.k11_a (C0 : KT) : F30.cw W (F30.d [0]) (thenQ (C0) (Q)) QP s h = F30.t11 s h C0 := by kernel_rfl
theorem F30.k11_ok : F30.cw W (F30.d []) (Q) QP s h = F30.k11 W Q QP s h := nd_seq (a := (F30.d [0])) (b := (F30.d [1])) (by kernel_rfl) (F30.o2 W Q QP) (F30.k11_a W Q QP s h (F30.k10 W Q QP))
end
set_option maxRecDepth 100000 in
theorem F30.calls {x0 : AV} {h : AH} {M : Nat → Prop} {R : AE → AH → Prop} (hp : F30.k11 (fun id => M id ∨ h.next ≤ id) (bodyQ Tryd.prog [.tmp 2] R) (bodyP R) (s0 [x0]) h) : ACalls Tryd.prog 30 [x0] h M R :=
  acalls_of (c := F30.code) Tryd.mixed Tryd.func30 (by kernel_rfl) (Nat.le_of_ble_eq_true rfl) F30.ok (by rw [show Tryd.f30.ntmps = 21 from rfl, show Tryd.f30.results.toList = [.tmp 2] from rfl]; exact Eq.mpr (F30.k11_ok _ _ _ _ _) hp)
attribute [simp] F30.k1 F30.t1 F30.k2 F30.t2 F30.k3 F30.t3 F30.k4 F30.t4 F30.k5 F30.t5 F30.k6 F30.t6 F30.k7 F30.t7 F30.k8 F30.t8 F30.k9 F30.t9 F30.k10 F30.t10 F30.k11 F30.t11

section
variable (W : Nat → Prop) (Q : Post) (QP : PPost) (s : St) (h : AH)
noncomputable def F31.code : Code := Tryd.f31.body.getD .skip
def F31.g1 : Grps := [(none, [(0, false), (1, false), (2, false)]), (some (2, false), [(3, false), (4, false)]), (none, [(5, false), (6, false)])]
def F31.pl : Plans := [(1, ⟨F31.g1, false, [], []⟩)]
theorem F31.ok : okCode Tryd.prog F31.pl F31.code = true := by kernel_rfl
noncomputable abbrev F31.d (p : List Nat) : Code := Code.at F31.code p
abbrev F31.cw (W : Nat → Prop) (c : Code) (Q : Post) (QP : PPost) : KT := Go.Ab.aw Tryd.prog 9 W F31.pl c Q QP
def F31.t1 (Q : Post) (s : St) (h : AH) : Prop :=
  Q .ret s h
def F31.k1 (W : Nat → Prop) (Q : Post) (QP : PPost) (s : St) (h : AH) : Prop := F31.t1 Q s h
theorem F31.k1_a : F31.cw W (F31.d [1, 1]) (Q) QP s h = F31.t1 Q s h := by kernel_rfl
theorem F31.k1_ok : F31.cw W (F31.d [1, 1]) (Q) QP s h = F31.k1 W Q QP s h := (F31.k1_a W Q QP s h)
def F31.t2 (s : St) (h : AH) (C0 : KT) : Prop :=
  pPick (s.tm 5) (.sc (.bool true)) (s.tm 7) fun t1 =>
  C0 ⟨puts s.tm [(8, t1), (2, t1)], s.ds⟩ h
def F31.k2 (W : Nat → Prop) (Q : Post) (QP : PPost) (s : St) (h : AH) : Prop := F31.t2 s h (F31.k1 W Q QP)
theorem F31.k2_a (C0 : KT) : evI Tryd.prog 9 (fun _ => W) nobody QP (regOps (F31.d [1, 0])) (isAt F31.g1 2) ((thenQ (C0) (Q)) .normal) s h = F31.t2 s h C0 := by kernel_rfl
theorem F31.k2_ok : evG Tryd.prog 9 (fun _ => W) nobody QP (regOps (F31.d [1, 0])) (F31.g1.drop 2) ((thenQ (F31.k1 W Q QP) (Q)) .normal) s h = F31.k2 W Q QP s h := nd_g (is := isAt F31.g1 2) (rest := F31.g1.drop 3) (by kernel_rfl) (fun _ _ => rfl) (F31.k2_a W Q QP s h (F31.k1 W Q QP))
def F31.t3 (W : Nat → Prop) (QP : PPost) (s : St) (h : AH) (C0 : KT) : Prop :=
  aIg false (s.tm 5) (
  aCall Tryd.prog W 32 [(s.tm 0)] h (fun t2 h3 =>
  C0 ⟨puts s.tm [(6, (s.tm 0)), (7, t2)], s.ds⟩ h3) (QP s.ds)) (
  C0 ⟨puts s.tm [(6, noA), (7, noA)], s.ds⟩ h)
def F31.k3 (W : Nat → Prop) (Q : Post) (QP : PPost) (s : St) (h : AH) : Prop := F31.t3 W QP s h (F31.k2 W Q QP)
theorem F31.k3_a (C0 : KT) : aIg false (s.tm 5) (evI Tryd.prog 9 (fun _ => W) nobody QP (regOps (F31.d [1, 0])) (isAt F31.g1 1) (C0) s h) ((C0) (skI 9 (regOps (F31.d [1, 0])) (isAt F31.g1 1) s) h) = F31.t3 W QP s h C0 := by kernel_rfl
theorem F31.k3_ok : evG Tryd.prog 9 (fun _ => W) nobody QP (regOps (F31.d [1, 0])) (F31.g1.drop 1) ((thenQ (F31.k1 W Q QP) (Q)) .normal) s h = F31.k3 W Q QP s h := nd_gw (j := 2) (is := isAt F31.g1 1) (rest := F31.g1.drop 2) (by kernel_rfl) (d := 5) (by kernel_rfl) (F31.k2_ok W Q QP) (F31.k3_a W QP s h (F31.k2 W Q QP))
def F31.t4 (W : Nat → Prop) (QP : PPost) (s : St) (h : AH) (C0 : KT) : Prop :=
  aCall Tryd.prog W 30 [(s.tm 0)] h (fun t4 h5 =>
  C0 ⟨puts s.tm [(3, (s.tm 0)), (4, t4), (5, t4)], s.ds⟩ h5) (QP s.ds)
def F31.k4 (W : Nat → Prop) (Q : Post) (QP : PPost) (s : St) (h : AH) : Prop := F31.t4 W QP s h (F31.k3 W Q QP)
theorem F31.k4_a (C0 : KT) : evI Tryd.prog 9 (fun _ => W) nobody QP (regOps (F31.d [1, 0])) (isAt F31.g1 0) (C0) s h = F31.t4 W QP s h C0 := by kernel_rfl
theorem F31.k4_ok : evG Tryd.prog 9 (fun _ => W) nobody QP (regOps (F31.d [1, 0])) (F31.g1.drop 0) ((thenQ (F31.k1 W Q QP) (Q)) .normal) s h = F31.k4 W Q QP s h := nd_g (is := isAt F31.g1 0) (rest := F31.g1.drop 1) (by kernel_rfl) (F31.k3_ok W Q QP) (F31.k4_a W QP s h (F31.k3 W Q QP))
theorem F31.o1 : F31.cw W (F31.d [1, 0]) (thenQ (F31.k1 W Q QP) (Q)) QP s h = F31.k4 W Q QP s h := nd_groups (id := 1) (draw := false) (ops := (regOps (F31.d [1, 0]))) (gs := F31.g1.drop 0) (by kernel_rfl) (by kernel_rfl) (F31.k4_ok W Q QP s h)
theorem F31.o2 : F31.cw W (F31.d [1]) (Q) QP s h = F31.k4 W Q QP s h := nd_seq (a := (F31.d [1, 0])) (b := (F31.d [1, 1])) (by kernel_rfl) (F31.k1_ok W Q QP) (F31.o1 W Q QP s h)
def F31.t5 (s : St) (h : AH) (C0 : KT) : Prop :=
  C0 ⟨puts s.tm [(2, (.sc (.bool false)))], s.ds⟩ h
def F31.k5 (W : Nat → Prop) (Q : Post) (QP : PPost) (s : St) (h : AH) : Prop := F31.t5 s h (F31.k4 W Q QP)
theorem F31.k5_a (C0 : KT) : F31.cw W (F31.d [0]) (thenQ (C0) (Q)) QP s h = F31.t5 s h C0 := by kernel_rfl
theorem F31.k5_ok : F31.cw W (F31.d []) (Q) QP s h = F31.k5 W Q QP s h := nd_seq (a := (F31.d [0])) (b := (F31.d [1])) (by kernel_rfl) (F31.o2 W Q QP) (F31.k5_a W Q QP s h (F31.k4 W Q QP))
end
set_option maxRecDepth 100000 in
theorem F31.calls {x0 : AV} {h : AH} {M : Nat → Prop} {R : AE → AH → Prop} (hp : F31.k5 (fun id => M id ∨ h.next ≤ id) (bodyQ Tryd.prog [.tmp 2] R) (bodyP R) (s0 [x0]) h) : ACalls Tryd.prog 31 [x0] h M R :=
  acalls_of (c := F31.code) Tryd.mixed Tryd.func31 (by kernel_rfl) (Nat.le_of_ble_eq_true rfl) F31.ok (by rw [show Tryd.f31.ntmps = 9 from rfl, show Tryd.f31.results.toList = [.tmp 2] from rfl]; exact Eq.mpr (F31.k5_ok _ _ _ _ _) hp)
attribute [simp] F31.k1 F31.t1 F31.k2 F31.t2 F31.k3 F31.t3 F31.k4 F31.t4 F31.k5 F31.t5

section
variable (W : Nat → Prop) (Q : Post) (QP : PPost) (s : St) (h : AH)
noncomputable def F32.code : Code := Tryd.f32.body.getD .skip
def F32.g1 : Grps := [(none, [(0, false), (1, false), (2, false)]), (some (2, true), [(3, false), (4, false)]), (none, [(5, false), (6, false)])]
def F32.pl : Plans := [(1, ⟨F32.g1, false, [], []⟩)]
theorem F32.ok : okCode Tryd.prog F32.pl F32.code = true := by kernel_rfl
noncomputable abbrev F32.d (p : List Nat) : Code := Code.at F32.code p
abbrev F32.cw (W : Nat → Prop) (c : Code) (Q : Post) (QP : PPost) : KT := Go.Ab.aw Tryd.prog 9 W F32.pl c Q QP
def F32.t1 (Q : Post) (s : St) (h : AH) : Prop :=
  Q .ret s h
def F32.k1 (W : Nat → Prop) (Q : Post) (QP : PPost) (s : St) (h : AH) : Prop := F32.t1 Q s h
theorem F32.k1_a : F32.cw W (F32.d [1, 1]) (Q) QP s h = F32.t1 Q s h := by kernel_rfl
theorem F32.k1_ok : F32.cw W (F32.d [1, 1]) (Q) QP s h = F32.k1 W Q QP s h := (F32.k1_a W Q QP s h)
def F32.t2 (s : St) (h : AH) (C0 : KT) : Prop :=
  pPick (s.tm 5) (s.tm 7) (.sc (.bool false)) fun t1 =>
  C0 ⟨puts s.tm [(8, t1), (2, t1)], s.ds⟩ h
def F32.k2 (W : Nat → Prop) (Q : Post) (QP : PPost) (s : St) (h : AH) : Prop := F32.t2 s h (F32.k1 W Q QP)
theorem F32.k2_a (C0 : KT) : evI Tryd.prog 9 (fun _ => W) nobody QP (regOps (F32.d [1, 0])) (isAt F32.g1 2) ((thenQ (C0) (Q)) .normal) s h = F32.t2 s h C0 := by kernel_rfl
theorem F32.k2_ok : evG Tryd.prog 9 (fun _ => W) nobody QP (regOps (F32.d [1, 0])) (F32.g1.drop 2) ((thenQ (F32.k1 W Q QP) (Q)) .normal) s h = F32.k2 W Q QP s h := nd_g (is := isAt F32.g1 2) (rest := F32.g1.drop 3) (by kernel_rfl) (fun _ _ => rfl) (F32.k2_a W Q QP s h (F32.k1 W Q QP))
def F32.t3 (s : St) (h : AH) (C0 : KT) : Prop :=
  aIg true (s.tm 5) (
  pBin Tryd.prog .leq 5 true (s.tm 0) (.sc (.int .u8 57)) fun t2 =>
  C0 ⟨puts s.tm [(6, (s.tm 0)), (7, t2)], s.ds⟩ h) (
  C0 ⟨puts s.tm [(6, noA), (7, noA)], s.ds⟩ h)
def F32.k3 (W : Nat → Prop) (Q : Post) (QP : PPost) (s : St) (h : AH) : Prop := F32.t3 s h (F32.k2 W Q QP)
theorem F32.k3_a (C0 : KT) : aIg true (s.tm 5) (evI Tryd.prog 9 (fun _ => W) nobody QP (regOps (F32.d [1, 0])) (isAt F32.g1 1) (C0) s h) ((C0) (skI 9 (regOps (F32.d [1, 0])) (isAt F32.g1 1) s) h) = F32.t3 s h C0 := by kernel_rfl
theorem F32.k3_ok : evG Tryd.prog 9 (fun _ => W) nobody QP (regOps (F32.d [1, 0])) (F32.g1.drop 1) ((thenQ (F32.k1 W Q QP) (Q)) .normal) s h = F32.k3 W Q QP s h := nd_gw (j := 2) (is := isAt F32.g1 1) (rest := F32.g1.drop 2) (by kernel_rfl) (d := 5) (by kernel_rfl) (F32.k2_ok W Q QP) (F32.k3_a W QP s h (F32.k2 W Q QP))
def F32.t4 (s : St) (h : AH) (C0 : KT) : Prop :=
  pBin Tryd.prog .geq 5 true (s.tm 0) (.sc (.int .u8 48)) fun t3 =>
  C0 ⟨puts s.tm [(3, (s.tm 0)), (4, t3), (5, t3)], s.ds⟩ h
def F32.k4 (W : Nat → Prop) (Q : Post) (QP : PPost) (s : St) (h : AH) : Prop := F32.t4 s h (F32.k3 W Q QP)
theorem F32.k4_a (C0 : KT) : evI Tryd.prog 9 (fun _ => W) nobody QP (regOps (F32.d [1, 0])) (isAt F32.g1 0) (C0) s h = F32.t4 s h C0 := by kernel_rfl
theorem F32.k4_ok : evG Tryd.prog 9 (fun _ => W) nobody QP (regOps (F32.d [1, 0])) (F32.g1.drop 0) ((thenQ (F32.k1 W Q QP) (Q)) .normal) s h = F32.k4 W Q QP s h := nd_g (is := isAt F32.g1 0) (rest := F32.g1.drop 1) (by kernel_rfl) (F32.k3_ok W Q QP) (F32.k4_a W QP s h (F32.k3 W Q QP))
theorem F32.o1 : F32.cw W (F32.d [1, 0]) (thenQ (F32.k1 W Q QP) (Q)) QP s h = F32.k4 W Q QP s h := nd_groups (id := 1) (draw := false) (ops := (regOps (F32.d [1, 0]))) (gs := F32.g1.drop 0) (by kernel_rfl) (by kernel_rfl) (F32.k4_ok W Q QP s h)
theorem F32.o2 : F32.cw W (F32.d [1]) (Q) QP s h = F32.k4 W Q QP s h := nd_seq (a := (F32.d [1, 0])) (b := (F32.d [1, 1])) (by kernel_rfl) (F32.k1_ok W Q QP) (F32.o1 W Q QP s h)
def F32.t5 (s : St) (h : AH) (C0 : KT) : Prop :=
  C0 ⟨puts s.tm [(2, (.sc (.bool false)))], s.ds⟩ h
def F32.k5 (W : Nat → Prop) (Q : Post) (QP : PPost) (s : St) (h : AH) : Prop := F32.t5 s h (F32.k4 W Q QP)
theorem F32.k5_a (C0 : KT) : F32.cw W (F32.d [0]) (thenQ (C0) (Q)) QP s h = F32.t5 s h C0 := by kernel_rfl
theorem F32.k5_ok : F32.cw W (F32.d []) (Q) QP s h = F32.k5 W Q QP s h := nd_seq (a := (F32.d [0])) (b := (F32.d [1])) (by kernel_rfl) (F32.o2 W Q QP) (F32.k5_a W Q QP s h (F32.k4 W Q QP))
end
set_option maxRecDepth 100000 in
theorem F32.calls {x0 : AV} {h : AH} {M : Nat → Prop} {R : AE → AH → Prop} (hp : F32.k5 (fun id => M id ∨ h.next ≤ id) (bodyQ Tryd.prog [.tmp 2] R) (bodyP R) (s0 [x0]) h) : ACalls Tryd.prog 32 [x0] h M R :=
  acalls_of (c := F32.code) Tryd.mixed Tryd.func32 (by kernel_rfl) (Nat.le_of_ble_eq_true rfl) F32.ok (by rw [show Tryd.f32.ntmps = 9 from rfl, show Tryd.f32.results.toList = [.tmp 2] from rfl]; exact Eq.mpr (F32.k5_ok _ _ _ _ _) hp)
attribute [simp] F32.k1 F32.t1 F32.k2 F32.t2 F32.k3 F32.t3 F32.k4 F32.t4 F32.k5 F32.t5

end Go.Proofs.YthkkgbmjjpcfaaaDoor

/- Bodies of the small functions of the writers, and those of the document's Show; printed by a program of this session. No condition. -/
import Derived.Test.YthkkgbmjjpcfaaaDoorGl
namespace Go.Proofs.YthkkgbmjjpcfaaaDoor
open Go.Ab
section
variable (W : Nat → Prop) (Q : Post) (QP : PPost) (s : St) (h : AH)
noncomputable def F41.code : Code := Tryd.f41.body.getD .skip
def F41.g1 : Grps := [(none, [(0, false), (1, false), (2, false)]), (some (2, true), [(3, false), (4, false), (5, false)]), (none, [(6, false), (7, false)])]
def F41.pl : Plans := [(1, ⟨F41.g1, false, [], []⟩)]
theorem F41.ok : okCode Tryd.prog F41.pl F41.code = true := by kernel_rfl
noncomputable abbrev F41.d (p : List Nat) : Code := Code.at F41.code p
abbrev F41.cw (W : Nat → Prop) (c : Code) (Q : Post) (QP : PPost) : KT := Go.Ab.aw Tryd.prog 10 W F41.pl c Q QP
def F41.t1 (Q : Post) (s : St) (h : AH) : Prop :=
  Q .ret s h
def F41.k1 (W : Nat → Prop) (Q : Post) (QP : PPost) (s : St) (h : AH) : Prop := F41.t1 Q s h
theorem F41.k1_a : F41.cw W (F41.d [1, 1]) (Q) QP s h = F41.t1 Q s h := by kernel_rfl
theorem F41.k1_ok : F41.cw W (F41.d [1, 1]) (Q) QP s h = F41.k1 W Q QP s h := (F41.k1_a W Q QP s h)
def F41.t2 (s : St) (h : AH) (C0 : KT) : Prop :=
  pPick (s.tm 5) (s.tm 8) (.sc (.bool false)) fun t1 =>
  C0 ⟨puts s.tm [(9, t1), (2, t1)], s.ds⟩ h
def F41.k2 (W : Nat → Prop) (Q : Post) (QP : PPost) (s : St) (h : AH) : Prop := F41.t2 s h (F41.k1 W Q QP)
theorem F41.k2_a (C0 : KT) : evI Tryd.prog 10 (fun _ => W) nobody QP (regOps (F41.d [1, 0])) (isAt F41.g1 2) ((thenQ (C0) (Q)) .normal) s h = F41.t2 s h C0 := by kernel_rfl
theorem F41.k2_ok : evG Tryd.prog 10 (fun _ => W) nobody QP (regOps (F41.d [1, 0])) (F41.g1.drop 2) ((thenQ (F41.k1 W Q QP) (Q)) .normal) s h = F41.k2 W Q QP s h := nd_g (is := isAt F41.g1 2) (rest := F41.g1.drop 3) (by kernel_rfl) (fun _ _ => rfl) (F41.k2_a W Q QP s h (F41.k1 W Q QP))
def F41.t3 (W : Nat → Prop) (QP : PPost) (s : St) (h : AH) (C0 : KT) : Prop :=
  aIg true (s.tm 5) (
  aCall Tryd.prog W 55 [(s.tm 0)] h (fun t2 h3 =>
  pUn .not t2 fun t4 =>
  C0 ⟨puts s.tm [(6, (s.tm 0)), (7, t2), (8, t4)], s.ds⟩ h3) (QP s.ds)) (
  C0 ⟨puts s.tm [(6, noA), (7, noA), (8, noA)], s.ds⟩ h)
def F41.k3 (W : Nat → Prop) (Q : Post) (QP : PPost) (s : St) (h : AH) : Prop := F41.t3 W QP s h (F41.k2 W Q QP)
theorem F41.k3_a (C0 : KT) : aIg true (s.tm 5) (evI Tryd.prog 10 (fun _ => W) nobody QP (regOps (F41.d [1, 0])) (isAt F41.g1 1) (C0) s h) ((C0) (skI 10 (regOps (F41.d [1, 0])) (isAt F41.g1 1) s) h) = F41.t3 W QP s h C0 := by kernel_rfl
theorem F41.k3_ok : evG Tryd.prog 10 (fun _ => W) nobody QP (regOps (F41.d [1, 0])) (F41.g1.drop 1) ((thenQ (F41.k1 W Q QP) (Q)) .normal) s h = F41.k3 W Q QP s h := nd_gw (j := 2) (is := isAt F41.g1 1) (rest := F41.g1.drop 2) (by kernel_rfl) (d := 5) (by kernel_rfl) (F41.k2_ok W Q QP) (F41.k3_a W QP s h (F41.k2 W Q QP))
def F41.t4 (W : Nat → Prop) (QP : PPost) (s : St) (h : AH) (C0 : KT) : Prop :=
  aCall Tryd.prog W 54 [(s.tm 0)] h (fun t5 h6 =>
  C0 ⟨puts s.tm [(3, (s.tm 0)), (4, t5), (5, t5)], s.ds⟩ h6) (QP s.ds)
def F41.k4 (W : Nat → Prop) (Q : Post) (QP : PPost) (s : St) (h : AH) : Prop := F41.t4 W QP s h (F41.k3 W Q QP)
theorem F41.k4_a (C0 : KT) : evI Tryd.prog 10 (fun _ => W) nobody QP (regOps (F41.d [1, 0])) (isAt F41.g1 0) (C0) s h = F41.t4 W QP s h C0 := by kernel_rfl
theorem F41.k4_ok : evG Tryd.prog 10 (fun _ => W) nobody QP (regOps (F41.d [1, 0])) (F41.g1.drop 0) ((thenQ (F41.k1 W Q QP) (Q)) .normal) s h = F41.k4 W Q QP s h := nd_g (is := isAt F41.g1 0) (rest := F41.g1.drop 1) (by kernel_rfl) (F41.k3_ok W Q QP) (F41.k4_a W QP s h (F41.k3 W Q QP))
theorem F41.o1 : F41.cw W (F41.d [1, 0]) (thenQ (F41.k1 W Q QP) (Q)) QP s h = F41.k4 W Q QP s h := nd_groups (id := 1) (draw := false) (ops := (regOps (F41.d [1, 0]))) (gs := F41.g1.drop 0) (by kernel_rfl) (by kernel_rfl) (F41.k4_ok W Q QP s h)
theorem F41.o2 : F41.cw W (F41.d [1]) (Q) QP s h = F41.k4 W Q QP s h := nd_seq (a := (F41.d [1, 0])) (b := (F41.d [1, 1])) (by kernel_rfl) (F41.k1_ok W Q QP) (F41.o1 W Q QP s h)
def F41.t5 (s : St) (h : AH) (C0 : KT) : Prop :=
  C0 ⟨puts s.tm [(2, (.sc (.bool false)))], s.ds⟩ h
def F41.k5 (W : Nat → Prop) (Q : Post) (QP : PPost) (s : St) (h : AH) : Prop := F41.t5 s h (F41.k4 W Q QP)
theorem F41.k5_a (C0 : KT) : F41.cw W (F41.d [0]) (thenQ (C0) (Q)) QP s h = F41.t5 s h C0 := by kernel_rfl
theorem F41.k5_ok : F41.cw W (F41.d []) (Q) QP s h = F41.k5 W Q QP s h := nd_seq (a := (F41.d [0])) (b := (F41.d [1])) (by kernel_rfl) (F41.o2 W Q QP) (F41.k5_a W Q QP s h (F41.k4 W Q QP))
end
set_option maxRecDepth 100000 in
theorem F41.calls {x0 : AV} {h : AH} {M : Nat → Prop} {R : AE → AH → Prop} (hp : F41.k5 (fun id => M id ∨ h.next ≤ id) (bodyQ Tryd.prog [.tmp 2] R) (bodyP R) (s0 [x0]) h) : ACalls Tryd.prog 41 [x0] h M R :=
  acalls_of (c := F41.code) Tryd.mixed Tryd.func41 (by kernel_rfl) (Nat.le_of_ble_eq_true rfl) F41.ok (by rw [show Tryd.f41.ntmps = 10 from rfl, show Tryd.f41.results.toList = [.tmp 2] from rfl]; exact Eq.mpr (F41.k5_ok _ _ _ _ _) hp)
attribute [simp] F41.k1 F41.t1 F41.k2 F41.t2 F41.k3 F41.t3 F41.k4 F41.t4 F41.k5 F41.t5

section
variable (W : Nat → Prop) (Q : Post) (QP : PPost) (s : St) (h : AH)
noncomputable def F54.code : Code := Tryd.f54.body.getD .skip
def F54.g1 : Grps := [(none, [(0, false), (1, false), (2, false), (3, false), (4, false), (5, false)]), (some (5, true), [(6, false), (7, false), (8, false), (9, false), (10, false)]), (none, [(11, false)])]
def F54.g2 : Grps := [(none, [(0, false), (1, false), (2, false)]), (some (2, false), [(3, false), (4, false), (5, false)]), (none, [(6, false)])]
def F54.pl : Plans := [(1, ⟨F54.g2, false, [], []⟩), (6, ⟨F54.g1, false, [], []⟩)]
theorem F54.ok : okCode Tryd.prog F54.pl F54.code = true := by kernel_rfl
noncomputable abbrev F54.d (p : List Nat) : Code := Code.at F54.code p
abbrev F54.cw (W : Nat → Prop) (c : Code) (Q : Post) (QP : PPost) : KT := Go.Ab.aw Tryd.prog 29 W F54.pl c Q QP
def F54.t1 (Q : Post) (s : St) (h : AH) : Prop :=
  Q .ret ⟨puts s.tm [(2, (.sc (.bool true)))], s.ds⟩ h
def F54.k1 (W : Nat → Prop) (Q : Post) (QP : PPost) (s : St) (h : AH) : Prop := F54.t1 Q s h
theorem F54.k1_a : F54.cw W (F54.d [1, 1, 1, 0]) (thenQ (F54.cw W (F54.d [1, 1, 1, 1]) (Q) QP) (Q)) QP s h = F54.t1 Q s h := by kernel_rfl
theorem F54.k1_ok : F54.cw W (F54.d [1, 1, 1]) (Q) QP s h = F54.k1 W Q QP s h := nd_seq (a := (F54.d [1, 1, 1, 0])) (b := (F54.d [1, 1, 1, 1])) (by kernel_rfl) (fun _ _ => rfl) (F54.k1_a W Q QP s h)
def F54.t2 (Q : Post) (s : St) (h : AH) : Prop :=
  pBin Tryd.prog .add 3 true (s.tm 3) (.sc (.int .i64 1)) fun t1 =>
  Q .normal ⟨puts s.tm [(15, (s.tm 3)), (16, t1), (3, t1)], s.ds⟩ h
def F54.k2 (W : Nat → Prop) (Q : Post) (QP : PPost) (s : St) (h : AH) : Prop := F54.t2 Q s h
theorem F54.k2_a : F54.cw W (F54.d [1, 1, 0, 1, 0, 0, 1, 1]) (Q) QP s h = F54.t2 Q s h := by kernel_rfl
theorem F54.k2_ok : F54.cw W (F54.d [1, 1, 0, 1, 0, 0, 1, 1]) (Q) QP s h = F54.k2 W Q QP s h := (F54.k2_a W Q QP s h)
def F54.t3 (Q : Post) (s : St) (h : AH) (C0 : KT) : Prop :=
  Q .ret ⟨puts s.tm [(2, (.sc (.bool false)))], s.ds⟩ h
def F54.k3 (W : Nat → Prop) (Q : Post) (QP : PPost) (s : St) (h : AH) : Prop := F54.t3 Q s h (F54.k2 W Q QP)
theorem F54.k3_a (C0 : KT) : F54.cw W (F54.d [1, 1, 0, 1, 0, 0, 1, 0, 0, 1, 0, 0]) (thenQ (F54.cw W (F54.d [1, 1, 0, 1, 0, 0, 1, 0, 0, 1, 0, 1]) (blockQ 1 (thenQ (C0) (Q))) QP) (blockQ 1 (thenQ (C0) (Q)))) QP s h = F54.t3 Q s h C0 := by kernel_rfl
theorem F54.k3_ok : F54.cw W (F54.d [1, 1, 0, 1, 0, 0, 1, 0, 0, 1, 0]) (blockQ 1 (thenQ (F54.k2 W Q QP) (Q))) QP s h = F54.k3 W Q QP s h := nd_seq (a := (F54.d [1, 1, 0, 1, 0, 0, 1, 0, 0, 1, 0, 0])) (b := (F54.d [1, 1, 0, 1, 0, 0, 1, 0, 0, 1, 0, 1])) (by kernel_rfl) (fun _ _ => rfl) (F54.k3_a W Q QP s h (F54.k2 W Q QP))
def F54.t4 (s : St) (h : AH) (C0 C1 : KT) : Prop :=
  aIf (s.tm 28) (
  C1 s h) (
  C0 s h)
def F54.k4 (W : Nat → Prop) (Q : Post) (QP : PPost) (s : St) (h : AH) : Prop := F54.t4 s h (F54.k2 W Q QP) (F54.k3 W Q QP)
theorem F54.k4_a (C0 C1 : KT) : aIf (aev s (.tmp 28)) (C1 s h) (F54.cw W (F54.d [1, 1, 0, 1, 0, 0, 1, 0, 0, 1, 1]) (blockQ 1 (thenQ (C0) (Q))) QP s h) = F54.t4 s h C0 C1 := by kernel_rfl
theorem F54.k4_ok : F54.cw W (F54.d [1, 1, 0, 1, 0, 0, 1, 0, 0, 1]) (blockQ 1 (thenQ (F54.k2 W Q QP) (Q))) QP s h = F54.k4 W Q QP s h := nd_cond (a := (F54.d [1, 1, 0, 1, 0, 0, 1, 0, 0, 1, 0])) (b := (F54.d [1, 1, 0, 1, 0, 0, 1, 0, 0, 1, 1])) (by kernel_rfl) (F54.k3_ok W Q QP s h) rfl (F54.k4_a W Q QP s h (F54.k2 W Q QP) (F54.k3 W Q QP))
def F54.t5 (s : St) (h : AH) (C0 C1 : KT) : Prop :=
  pPick (s.tm 22) (s.tm 27) (.sc (.bool false)) fun t2 =>
  C1 ⟨puts s.tm [(28, t2)], s.ds⟩ h
def F54.k5 (W : Nat → Prop) (Q : Post) (QP : PPost) (s : St) (h : AH) : Prop := F54.t5 s h (F54.k2 W Q QP) (F54.k4 W Q QP)
theorem F54.k5_a (C0 C1 : KT) : evI Tryd.prog 29 (fun _ => W) nobody QP (regOps (F54.d [1, 1, 0, 1, 0, 0, 1, 0, 0, 0])) (isAt F54.g1 2) ((thenQ (C1) (blockQ 1 (thenQ (C0) (Q)))) .normal) s h = F54.t5 s h C0 C1 := by kernel_rfl
theorem F54.k5_ok : evG Tryd.prog 29 (fun _ => W) nobody QP (regOps (F54.d [1, 1, 0, 1, 0, 0, 1, 0, 0, 0])) (F54.g1.drop 2) ((thenQ (F54.k4 W Q QP) (blockQ 1 (thenQ (F54.k2 W Q QP) (Q)))) .normal) s h = F54.k5 W Q QP s h := nd_g (is := isAt F54.g1 2) (rest := F54.g1.drop 3) (by kernel_rfl) (fun _ _ => rfl) (F54.k5_a W Q QP s h (F54.k2 W Q QP) (F54.k4 W Q QP))
def F54.t6 (W : Nat → Prop) (QP : PPost) (s : St) (h : AH) (C0 : KT) : Prop :=
  aIg true (s.tm 22) (
  pIxS true (s.tm 0) (s.tm 3) fun t3 =>
  aCall Tryd.prog W 63 [t3] h (fun t4 h5 =>
  pUn .not t4 fun t6 =>
  C0 ⟨puts s.tm [(23, (s.tm 0)), (24, (s.tm 3)), (25, t3), (26, t4), (27, t6)], s.ds⟩ h5) (QP s.ds)) (
  C0 ⟨puts s.tm [(23, noA), (24, noA), (25, noA), (26, noA), (27, noA)], s.ds⟩ h)
def F54.k6 (W : Nat → Prop) (Q : Post) (QP : PPost) (s : St) (h : AH) : Prop := F54.t6 W QP s h (F54.k5 W Q QP)
theorem F54.k6_a (C0 : KT) : aIg true (s.tm 22) (evI Tryd.prog 29 (fun _ => W) nobody QP (regOps (F54.d [1, 1, 0, 1, 0, 0, 1, 0, 0, 0])) (isAt F54.g1 1) (C0) s h) ((C0) (skI 29 (regOps (F54.d [1, 1, 0, 1, 0, 0, 1, 0, 0, 0])) (isAt F54.g1 1) s) h) = F54.t6 W QP s h C0 := by kernel_rfl
theorem F54.k6_ok : evG Tryd.prog 29 (fun _ => W) nobody QP (regOps (F54.d [1, 1, 0, 1, 0, 0, 1, 0, 0, 0])) (F54.g1.drop 1) ((thenQ (F54.k4 W Q QP) (blockQ 1 (thenQ (F54.k2 W Q QP) (Q)))) .normal) s h = F54.k6 W Q QP s h := nd_gw (j := 5) (is := isAt F54.g1 1) (rest := F54.g1.drop 2) (by kernel_rfl) (d := 22) (by kernel_rfl) (F54.k5_ok W Q QP) (F54.k6_a W QP s h (F54.k5 W Q QP))
def F54.t7 (W : Nat → Prop) (QP : PPost) (s : St) (h : AH) (C0 : KT) : Prop :=
  pIxS true (s.tm 0) (s.tm 3) fun t7 =>
  aCall Tryd.prog W 64 [t7] h (fun t8 h9 =>
  pUn .not t8 fun t10 =>
  C0 ⟨puts s.tm [(17, (s.tm 0)), (18, (s.tm 3)), (19, t7), (20, t8), (21, t10), (22, t10)], s.ds⟩ h9) (QP s.ds)
def F54.k7 (W : Nat → Prop) (Q : Post) (QP : PPost) (s : St) (h : AH) : Prop := F54.t7 W QP s h (F54.k6 W Q QP)
theorem F54.k7_a (C0 : KT) : evI Tryd.prog 29 (fun _ => W) nobody QP (regOps (F54.d [1, 1, 0, 1, 0, 0, 1, 0, 0, 0])) (isAt F54.g1 0) (C0) s h = F54.t7 W QP s h C0 := by kernel_rfl
theorem F54.k7_ok : evG Tryd.prog 29 (fun _ => W) nobody QP (regOps (F54.d [1, 1, 0, 1, 0, 0, 1, 0, 0, 0])) (F54.g1.drop 0) ((thenQ (F54.k4 W Q QP) (blockQ 1 (thenQ (F54.k2 W Q QP) (Q)))) .normal) s h = F54.k7 W Q QP s h := nd_g (is := isAt F54.g1 0) (rest := F54.g1.drop 1) (by kernel_rfl) (F54.k6_ok W Q QP) (F54.k7_a W QP s h (F54.k6 W Q QP))
theorem F54.o1 : F54.cw W (F54.d [1, 1, 0, 1, 0, 0, 1, 0, 0, 0]) (thenQ (F54.k4 W Q QP) (blockQ 1 (thenQ (F54.k2 W Q QP) (Q)))) QP s h = F54.k7 W Q QP s h := nd_groups (id := 6) (draw := false) (ops := (regOps (F54.d [1, 1, 0, 1, 0, 0, 1, 0, 0, 0]))) (gs := F54.g1.drop 0) (by kernel_rfl) (by kernel_rfl) (F54.k7_ok W Q QP s h)
theorem F54.o2 : F54.cw W (F54.d [1, 1, 0, 1, 0, 0, 1, 0, 0]) (blockQ 1 (thenQ (F54.k2 W Q QP) (Q))) QP s h = F54.k7 W Q QP s h := nd_seq (a := (F54.d [1, 1, 0, 1, 0, 0, 1, 0, 0, 0])) (b := (F54.d [1, 1, 0, 1, 0, 0, 1, 0, 0, 1])) (by kernel_rfl) (F54.k4_ok W Q QP) (F54.o1 W Q QP s h)
theorem F54.o3 : F54.cw W (F54.d [1, 1, 0, 1, 0, 0, 1, 0]) (thenQ (F54.k2 W Q QP) (Q)) QP s h = F54.k7 W Q QP s h := nd_block (a := (F54.d [1, 1, 0, 1, 0, 0, 1, 0, 0])) (by kernel_rfl) (F54.o2 W Q QP s h)
theorem F54.o4 : F54.cw W (F54.d [1, 1, 0, 1, 0, 0, 1]) (Q) QP s h = F54.k7 W Q QP s h := nd_seq (a := (F54.d [1, 1, 0, 1, 0, 0, 1, 0])) (b := (F54.d [1, 1, 0, 1, 0, 0, 1, 1])) (by kernel_rfl) (F54.k2_ok W Q QP) (F54.o3 W Q QP s h)
def F54.t8 (Q : Post) (s : St) (h : AH) (C0 : KT) : Prop :=
  aIf (s.tm 14) (
  C0 s h) (
  Q (.exit 0) s h)
def F54.k8 (W : Nat → Prop) (Q : Post) (QP : PPost) (s : St) (h : AH) : Prop := F54.t8 Q s h (F54.k7 W Q QP)
theorem F54.k8_a (C0 : KT) : aIf (aev s (.tmp 14)) (F54.cw W (F54.d [1, 1, 0, 1, 0, 0, 0, 1, 0]) (thenQ (C0) (Q)) QP s h) (F54.cw W (F54.d [1, 1, 0, 1, 0, 0, 0, 1, 1]) (thenQ (C0) (Q)) QP s h) = F54.t8 Q s h C0 := by kernel_rfl
theorem F54.k8_ok : F54.cw W (F54.d [1, 1, 0, 1, 0, 0, 0, 1]) (thenQ (F54.k7 W Q QP) (Q)) QP s h = F54.k8 W Q QP s h := nd_cond (a := (F54.d [1, 1, 0, 1, 0, 0, 0, 1, 0])) (b := (F54.d [1, 1, 0, 1, 0, 0, 0, 1, 1])) (by kernel_rfl) rfl rfl (F54.k8_a W Q QP s h (F54.k7 W Q QP))
def F54.t9 (s : St) (h : AH) (C0 C1 : KT) : Prop :=
  (strArg (s.tm 0) = true) ∧ pLen (s.tm 0) fun t11 =>
  pBin Tryd.prog .lss 3 false (s.tm 3) t11 fun t12 =>
  C1 ⟨puts s.tm [(11, (s.tm 3)), (12, (s.tm 0)), (13, t11), (14, t12)], s.ds⟩ h
def F54.k9 (W : Nat → Prop) (Q : Post) (QP : PPost) (s : St) (h : AH) : Prop := F54.t9 s h (F54.k7 W Q QP) (F54.k8 W Q QP)
theorem F54.k9_a (C0 C1 : KT) : F54.cw W (F54.d [1, 1, 0, 1, 0, 0, 0, 0]) (thenQ (C1) (thenQ (C0) (Q))) QP s h = F54.t9 s h C0 C1 := by kernel_rfl
theorem F54.k9_ok : F54.cw W (F54.d [1, 1, 0, 1, 0, 0, 0]) (thenQ (F54.k7 W Q QP) (Q)) QP s h = F54.k9 W Q QP s h := nd_seq (a := (F54.d [1, 1, 0, 1, 0, 0, 0, 0])) (b := (F54.d [1, 1, 0, 1, 0, 0, 0, 1])) (by kernel_rfl) (F54.k8_ok W Q QP) (F54.k9_a W Q QP s h (F54.k7 W Q QP) (F54.k8 W Q QP))
theorem F54.o5 : F54.cw W (F54.d [1, 1, 0, 1, 0, 0]) (Q) QP s h = F54.k9 W Q QP s h := nd_seq (a := (F54.d [1, 1, 0, 1, 0, 0, 0])) (b := (F54.d [1, 1, 0, 1, 0, 0, 1])) (by kernel_rfl) (F54.o4 W Q QP) (F54.k9_ok W Q QP s h)
noncomputable def F54.c1 : Code := (F54.d [1, 1, 0, 1, 0, 0])
theorem F54.l1 : aw Tryd.prog 29 W F54.pl F54.c1 Q QP s h = F54.k9 W Q QP s h := F54.o5 W Q QP s h
def F54.k10 (W : Nat → Prop) (Q : Post) (QP : PPost) (s : St) (h : AH) : Prop := aLoop (aw Tryd.prog 29 W F54.pl F54.c1) (blockQ 0 (thenQ (F54.k1 W Q QP) (Q))) QP s h
theorem F54.k10_ok : F54.cw W (F54.d [1, 1, 0, 1, 0]) (blockQ 0 (thenQ (F54.k1 W Q QP) (Q))) QP s h = F54.k10 W Q QP s h := nd_loop (a := F54.c1) (by kernel_rfl)
theorem F54.o6 : F54.cw W (F54.d [1, 1, 0, 1]) (thenQ (F54.k1 W Q QP) (Q)) QP s h = F54.k10 W Q QP s h := nd_block (a := (F54.d [1, 1, 0, 1, 0])) (by kernel_rfl) (F54.k10_ok W Q QP s h)
def F54.t11 (s : St) (h : AH) (C0 C1 : KT) : Prop :=
  C1 ⟨puts s.tm [(3, (.sc (.int .i64 0)))], s.ds⟩ h
def F54.k11 (W : Nat → Prop) (Q : Post) (QP : PPost) (s : St) (h : AH) : Prop := F54.t11 s h (F54.k1 W Q QP) (F54.k10 W Q QP)
theorem F54.k11_a (C0 C1 : KT) : F54.cw W (F54.d [1, 1, 0, 0]) (thenQ (C1) (thenQ (C0) (Q))) QP s h = F54.t11 s h C0 C1 := by kernel_rfl
theorem F54.k11_ok : F54.cw W (F54.d [1, 1, 0]) (thenQ (F54.k1 W Q QP) (Q)) QP s h = F54.k11 W Q QP s h := nd_seq (a := (F54.d [1, 1, 0, 0])) (b := (F54.d [1, 1, 0, 1])) (by kernel_rfl) (F54.o6 W Q QP) (F54.k11_a W Q QP s h (F54.k1 W Q QP) (F54.k10 W Q QP))
theorem F54.o7 : F54.cw W (F54.d [1, 1]) (Q) QP s h = F54.k11 W Q QP s h := nd_seq (a := (F54.d [1, 1, 0])) (b := (F54.d [1, 1, 1])) (by kernel_rfl) (F54.k1_ok W Q QP) (F54.k11_ok W Q QP s h)
def F54.t12 (Q : Post) (s : St) (h : AH) (C0 : KT) : Prop :=
  Q .ret ⟨puts s.tm [(2, (.sc (.bool false)))], s.ds⟩ h
def F54.k12 (W : Nat → Prop) (Q : Post) (QP : PPost) (s : St) (h : AH) : Prop := F54.t12 Q s h (F54.k11 W Q QP)
theorem F54.k12_a (C0 : KT) : F54.cw W (F54.d [1, 0, 1, 0, 0]) (thenQ (F54.cw W (F54.d [1, 0, 1, 0, 1]) (thenQ (C0) (Q)) QP) (thenQ (C0) (Q))) QP s h = F54.t12 Q s h C0 := by kernel_rfl
theorem F54.k12_ok : F54.cw W (F54.d [1, 0, 1, 0]) (thenQ (F54.k11 W Q QP) (Q)) QP s h = F54.k12 W Q QP s h := nd_seq (a := (F54.d [1, 0, 1, 0, 0])) (b := (F54.d [1, 0, 1, 0, 1])) (by kernel_rfl) (fun _ _ => rfl) (F54.k12_a W Q QP s h (F54.k11 W Q QP))
def F54.t13 (s : St) (h : AH) (C0 C1 : KT) : Prop :=
  aIf (s.tm 10) (
  C1 s h) (
  C0 s h)
def F54.k13 (W : Nat → Prop) (Q : Post) (QP : PPost) (s : St) (h : AH) : Prop := F54.t13 s h (F54.k11 W Q QP) (F54.k12 W Q QP)
theorem F54.k13_a (C0 C1 : KT) : aIf (aev s (.tmp 10)) (C1 s h) (F54.cw W (F54.d [1, 0, 1, 1]) (thenQ (C0) (Q)) QP s h) = F54.t13 s h C0 C1 := by kernel_rfl
theorem F54.k13_ok : F54.cw W (F54.d [1, 0, 1]) (thenQ (F54.k11 W Q QP) (Q)) QP s h = F54.k13 W Q QP s h := nd_cond (a := (F54.d [1, 0, 1, 0])) (b := (F54.d [1, 0, 1, 1])) (by kernel_rfl) (F54.k12_ok W Q QP s h) rfl (F54.k13_a W Q QP s h (F54.k11 W Q QP) (F54.k12 W Q QP))
def F54.t14 (s : St) (h : AH) (C0 C1 : KT) : Prop :=
  pPick (s.tm 6) (.sc (.bool true)) (s.tm 9) fun t13 =>
  C1 ⟨puts s.tm [(10, t13)], s.ds⟩ h
def F54.k14 (W : Nat → Prop) (Q : Post) (QP : PPost) (s : St) (h : AH) : Prop := F54.t14 s h (F54.k11 W Q QP) (F54.k13 W Q QP)
theorem F54.k14_a (C0 C1 : KT) : evI Tryd.prog 29 (fun _ => W) nobody QP (regOps (F54.d [1, 0, 0])) (isAt F54.g2 2) ((thenQ (C1) (thenQ (C0) (Q))) .normal) s h = F54.t14 s h C0 C1 := by kernel_rfl
theorem F54.k14_ok : evG Tryd.prog 29 (fun _ => W) nobody QP (regOps (F54.d [1, 0, 0])) (F54.g2.drop 2) ((thenQ (F54.k13 W Q QP) (thenQ (F54.k11 W Q QP) (Q))) .normal) s h = F54.k14 W Q QP s h := nd_g (is := isAt F54.g2 2) (rest := F54.g2.drop 3) (by kernel_rfl) (fun _ _ => rfl) (F54.k14_a W Q QP s h (F54.k11 W Q QP) (F54.k13 W Q QP))
def F54.t15 (W : Nat → Prop) (QP : PPost) (s : St) (h : AH) (C0 : KT) : Prop :=
  aIg false (s.tm 6) (
  pIxS true (s.tm 0) (.sc (.int .i64 0)) fun t14 =>
  aCall Tryd.prog W 63 [t14] h (fun t15 h16 =>
  C0 ⟨puts s.tm [(7, (s.tm 0)), (8, t14), (9, t15)], s.ds⟩ h16) (QP s.ds)) (
  C0 ⟨puts s.tm [(7, noA), (8, noA), (9, noA)], s.ds⟩ h)
def F54.k15 (W : Nat → Prop) (Q : Post) (QP : PPost) (s : St) (h : AH) : Prop := F54.t15 W QP s h (F54.k14 W Q QP)
theorem F54.k15_a (C0 : KT) : aIg false (s.tm 6) (evI Tryd.prog 29 (fun _ => W) nobody QP (regOps (F54.d [1, 0, 0])) (isAt F54.g2 1) (C0) s h) ((C0) (skI 29 (regOps (F54.d [1, 0, 0])) (isAt F54.g2 1) s) h) = F54.t15 W QP s h C0 := by kernel_rfl
theorem F54.k15_ok : evG Tryd.prog 29 (fun _ => W) nobody QP (regOps (F54.d [1, 0, 0])) (F54.g2.drop 1) ((thenQ (F54.k13 W Q QP) (thenQ (F54.k11 W Q QP) (Q))) .normal) s h = F54.k15 W Q QP s h := nd_gw (j := 2) (is := isAt F54.g2 1) (rest := F54.g2.drop 2) (by kernel_rfl) (d := 6) (by kernel_rfl) (F54.k14_ok W Q QP) (F54.k15_a W QP s h (F54.k14 W Q QP))
def F54.t16 (s : St) (h : AH) (C0 : KT) : Prop :=
  pBin Tryd.prog .eql 9 true (s.tm 0) (.sc (.string ⟨#[]⟩)) fun t17 =>
  C0 ⟨puts s.tm [(4, (s.tm 0)), (5, t17), (6, t17)], s.ds⟩ h
def F54.k16 (W : Nat → Prop) (Q : Post) (QP : PPost) (s : St) (h : AH) : Prop := F54.t16 s h (F54.k15 W Q QP)
theorem F54.k16_a (C0 : KT) : evI Tryd.prog 29 (fun _ => W) nobody QP (regOps (F54.d [1, 0, 0])) (isAt F54.g2 0) (C0) s h = F54.t16 s h C0 := by kernel_rfl
theorem F54.k16_ok : evG Tryd.prog 29 (fun _ => W) nobody QP (regOps (F54.d [1, 0, 0])) (F54.g2.drop 0) ((thenQ (F54.k13 W Q QP) (thenQ (F54.k11 W Q QP) (Q))) .normal) s h = F54.k16 W Q QP s h := nd_g (is := isAt F54.g2 0) (rest := F54.g2.drop 1) (by kernel_rfl) (F54.k15_ok W Q QP) (F54.k16_a W QP s h (F54.k15 W Q QP))
theorem F54.o8 : F54.cw W (F54.d [1, 0, 0]) (thenQ (F54.k13 W Q QP) (thenQ (F54.k11 W Q QP) (Q))) QP s h = F54.k16 W Q QP s h := nd_groups (id := 1) (draw := false) (ops := (regOps (F54.d [1, 0, 0]))) (gs := F54.g2.drop 0) (by kernel_rfl) (by kernel_rfl) (F54.k16_ok W Q QP s h)
theorem F54.o9 : F54.cw W (F54.d [1, 0]) (thenQ (F54.k11 W Q QP) (Q)) QP s h = F54.k16 W Q QP s h := nd_seq (a := (F54.d [1, 0, 0])) (b := (F54.d [1, 0, 1])) (by kernel_rfl) (F54.k13_ok W Q QP) (F54.o8 W Q QP s h)
theorem F54.o10 : F54.cw W (F54.d [1]) (Q) QP s h = F54.k16 W Q QP s h := nd_seq (a := (F54.d [1, 0])) (b := (F54.d [1, 1])) (by kernel_rfl) (F54.o7 W Q QP) (F54.o9 W Q QP s h)
def F54.t17 (s : St) (h : AH) (C0 : KT) : Prop :=
  C0 ⟨puts s.tm [(2, (.sc (.bool false)))], s.ds⟩ h
def F54.k17 (W : Nat → Prop) (Q : Post) (QP : PPost) (s : St) (h : AH) : Prop := F54.t17 s h (F54.k16 W Q QP)
theorem F54.k17_a (C0 : KT) : F54.cw W (F54.d [0]) (thenQ (C0) (Q)) QP s h = F54.t17 s h C0 := by kernel_rfl
theorem F54.k17_ok : F54.cw W (F54.d []) (Q) QP s h = F54.k17 W Q QP s h := nd_seq (a := (F54.d [0])) (b := (F54.d [1])) (by kernel_rfl) (F54.o10 W Q QP) (F54.k17_a W Q QP s h (F54.k16 W Q QP))
end
set_option maxRecDepth 100000 in
theorem F54.calls {x0 : AV} {h : AH} {M : Nat → Prop} {R : AE → AH → Prop} (hp : F54.k17 (fun id => M id ∨ h.next ≤ id) (bodyQ Tryd.prog [.tmp 2] R) (bodyP R) (s0 [x0]) h) : ACalls Tryd.prog 54 [x0] h M R :=
  acalls_of (c := F54.code) Tryd.mixed Tryd.func54 (by kernel_rfl) (Nat.le_of_ble_eq_true rfl) F54.ok (by rw [show Tryd.f54.ntmps = 29 from rfl, show Tryd.f54.results.toList = [.tmp 2] from rfl]; exact Eq.mpr (F54.k17_ok _ _ _ _ _) hp)
attribute [simp] F54.k1 F54.t1 F54.k2 F54.t2 F54.k3 F54.t3 F54.k4 F54.t4 F54.k5 F54.t5 F54.k6 F54.t6 F54.k7 F54.t7 F54.k8 F54.t8 F54.k9 F54.t9 F54.k10 F54.k11 F54.t11 F54.k12 F54.t12 F54.k13 F54.t13 F54.k14 F54.t14 F54.k15 F54.t15 F54.k16 F54.t16 F54.k17 F54.t17

section
variable (W : Nat → Prop) (Q : Post) (QP : PPost) (s : St) (h : AH)
noncomputable def F55.code : Code := Tryd.f55.body.getD .skip
def F55.pl : Plans := []
theorem F55.ok : okCode Tryd.prog F55.pl F55.code = true := by kernel_rfl
noncomputable abbrev F55.d (p : List Nat) : Code := Code.at F55.code p
abbrev F55.cw (W : Nat → Prop) (c : Code) (Q : Post) (QP : PPost) : KT := Go.Ab.aw Tryd.prog 12 W F55.pl c Q QP
def F55.t1 (Q : Post) (s : St) (h : AH) : Prop :=
  Q .ret ⟨puts s.tm [(2, (.sc (.bool false)))], s.ds⟩ h
def F55.k1 (W : Nat → Prop) (Q : Post) (QP : PPost) (s : St) (h : AH) : Prop := F55.t1 Q s h
theorem F55.k1_a : F55.cw W (F55.d [1, 1, 0]) (thenQ (F55.cw W (F55.d [1, 1, 1]) (Q) QP) (Q)) QP s h = F55.t1 Q s h := by kernel_rfl
theorem F55.k1_ok : F55.cw W (F55.d [1, 1]) (Q) QP s h = F55.k1 W Q QP s h := nd_seq (a := (F55.d [1, 1, 0])) (b := (F55.d [1, 1, 1])) (by kernel_rfl) (fun _ _ => rfl) (F55.k1_a W Q QP s h)
def F55.t2 (Q : Post) (s : St) (h : AH) (C0 : KT) : Prop :=
  Q .ret ⟨puts s.tm [(2, (.sc (.bool true)))], s.ds⟩ h
def F55.k2 (W : Nat → Prop) (Q : Post) (QP : PPost) (s : St) (h : AH) : Prop := F55.t2 Q s h (F55.k1 W Q QP)
theorem F55.k2_a (C0 : KT) : F55.cw W (F55.d [1, 0, 1, 0, 1, 0, 0]) (thenQ (F55.cw W (F55.d [1, 0, 1, 0, 1, 0, 1]) (blockQ 0 (thenQ (C0) (Q))) QP) (blockQ 0 (thenQ (C0) (Q)))) QP s h = F55.t2 Q s h C0 := by kernel_rfl
theorem F55.k2_ok : F55.cw W (F55.d [1, 0, 1, 0, 1, 0]) (blockQ 0 (thenQ (F55.k1 W Q QP) (Q))) QP s h = F55.k2 W Q QP s h := nd_seq (a := (F55.d [1, 0, 1, 0, 1, 0, 0])) (b := (F55.d [1, 0, 1, 0, 1, 0, 1])) (by kernel_rfl) (fun _ _ => rfl) (F55.k2_a W Q QP s h (F55.k1 W Q QP))
def F55.t3 (s : St) (h : AH) (C0 C1 : KT) : Prop :=
  aIf (s.tm 4) (
  C1 s h) (
  C0 s h)
def F55.k3 (W : Nat → Prop) (Q : Post) (QP : PPost) (s : St) (h : AH) : Prop := F55.t3 s h (F55.k1 W Q QP) (F55.k2 W Q QP)
theorem F55.k3_a (C0 C1 : KT) : aIf (aev s (.tmp 4)) (C1 s h) (F55.cw W (F55.d [1, 0, 1, 0, 1, 1]) (blockQ 0 (thenQ (C0) (Q))) QP s h) = F55.t3 s h C0 C1 := by kernel_rfl
theorem F55.k3_ok : F55.cw W (F55.d [1, 0, 1, 0, 1]) (blockQ 0 (thenQ (F55.k1 W Q QP) (Q))) QP s h = F55.k3 W Q QP s h := nd_cond (a := (F55.d [1, 0, 1, 0, 1, 0])) (b := (F55.d [1, 0, 1, 0, 1, 1])) (by kernel_rfl) (F55.k2_ok W Q QP s h) rfl (F55.k3_a W Q QP s h (F55.k1 W Q QP) (F55.k2 W Q QP))
def F55.t4 (s : St) (h : AH) (C0 C1 : KT) : Prop :=
  aIf (s.tm 4) (
  C1 s h) (
  pBin Tryd.prog .eql 9 true (s.tm 3) (.sc (.string ⟨#[114, 101, 115, 101, 116]⟩)) fun t1 =>
  C1 ⟨puts s.tm [(11, t1), (4, t1)], s.ds⟩ h)
def F55.k4 (W : Nat → Prop) (Q : Post) (QP : PPost) (s : St) (h : AH) : Prop := F55.t4 s h (F55.k1 W Q QP) (F55.k3 W Q QP)
theorem F55.k4_a (C0 C1 : KT) : aIf (aev s (.tmp 4)) (F55.cw W (F55.d [1, 0, 1, 0, 0, 1, 1, 1, 1, 1, 1, 1, 1, 1, 1, 1, 0]) (thenQ (C1) (blockQ 0 (thenQ (C0) (Q)))) QP s h) (F55.cw W (F55.d [1, 0, 1, 0, 0, 1, 1, 1, 1, 1, 1, 1, 1, 1, 1, 1, 1]) (thenQ (C1) (blockQ 0 (thenQ (C0) (Q)))) QP s h) = F55.t4 s h C0 C1 := by kernel_rfl
theorem F55.k4_ok : F55.cw W (F55.d [1, 0, 1, 0, 0, 1, 1, 1, 1, 1, 1, 1, 1, 1, 1, 1]) (thenQ (F55.k3 W Q QP) (blockQ 0 (thenQ (F55.k1 W Q QP) (Q)))) QP s h = F55.k4 W Q QP s h := nd_cond (a := (F55.d [1, 0, 1, 0, 0, 1, 1, 1, 1, 1, 1, 1, 1, 1, 1, 1, 0])) (b := (F55.d [1, 0, 1, 0, 0, 1, 1, 1, 1, 1, 1, 1, 1, 1, 1, 1, 1])) (by kernel_rfl) rfl rfl (F55.k4_a W Q QP s h (F55.k1 W Q QP) (F55.k3 W Q QP))
def F55.t5 (s : St) (h : AH) (C0 C1 C2 : KT) : Prop :=
  pBin Tryd.prog .eql 9 true (s.tm 3) (.sc (.string ⟨#[109, 101, 97, 115, 117, 114, 101]⟩)) fun t2 =>
  C2 ⟨puts s.tm [(10, t2), (4, t2)], s.ds⟩ h
def F55.k5 (W : Nat → Prop) (Q : Post) (QP : PPost) (s : St) (h : AH) : Prop := F55.t5 s h (F55.k1 W Q QP) (F55.k3 W Q QP) (F55.k4 W Q QP)
theorem F55.k5_a (C0 C1 C2 : KT) : F55.cw W (F55.d [1, 0, 1, 0, 0, 1, 1, 1, 1, 1, 1, 1, 1, 1, 1, 0]) (thenQ (C2) (thenQ (C1) (blockQ 0 (thenQ (C0) (Q))))) QP s h = F55.t5 s h C0 C1 C2 := by kernel_rfl
theorem F55.k5_ok : F55.cw W (F55.d [1, 0, 1, 0, 0, 1, 1, 1, 1, 1, 1, 1, 1, 1, 1]) (thenQ (F55.k3 W Q QP) (blockQ 0 (thenQ (F55.k1 W Q QP) (Q)))) QP s h = F55.k5 W Q QP s h := nd_seq (a := (F55.d [1, 0, 1, 0, 0, 1, 1, 1, 1, 1, 1, 1, 1, 1, 1, 0])) (b := (F55.d [1, 0, 1, 0, 0, 1, 1, 1, 1, 1, 1, 1, 1, 1, 1, 1])) (by kernel_rfl) (F55.k4_ok W Q QP) (F55.k5_a W Q QP s h (F55.k1 W Q QP) (F55.k3 W Q QP) (F55.k4 W Q QP))
def F55.t6 (s : St) (h : AH) (C0 C1 C2 : KT) : Prop :=
  aIf (s.tm 4) (
  C1 s h) (
  C2 s h)
def F55.k6 (W : Nat → Prop) (Q : Post) (QP : PPost) (s : St) (h : AH) : Prop := F55.t6 s h (F55.k1 W Q QP) (F55.k3 W Q QP) (F55.k5 W Q QP)
theorem F55.k6_a (C0 C1 C2 : KT) : aIf (aev s (.tmp 4)) (F55.cw W (F55.d [1, 0, 1, 0, 0, 1, 1, 1, 1, 1, 1, 1, 1, 1, 0]) (thenQ (C1) (blockQ 0 (thenQ (C0) (Q)))) QP s h) (C2 s h) = F55.t6 s h C0 C1 C2 := by kernel_rfl
theorem F55.k6_ok : F55.cw W (F55.d [1, 0, 1, 0, 0, 1, 1, 1, 1, 1, 1, 1, 1, 1]) (thenQ (F55.k3 W Q QP) (blockQ 0 (thenQ (F55.k1 W Q QP) (Q)))) QP s h = F55.k6 W Q QP s h := nd_cond (a := (F55.d [1, 0, 1, 0, 0, 1, 1, 1, 1, 1, 1, 1, 1, 1, 0])) (b := (F55.d [1, 0, 1, 0, 0, 1, 1, 1, 1, 1, 1, 1, 1, 1, 1])) (by kernel_rfl) rfl (F55.k5_ok W Q QP s h) (F55.k6_a W Q QP s h (F55.k1 W Q QP) (F55.k3 W Q QP) (F55.k5 W Q QP))
def F55.t7 (s : St) (h : AH) (C0 C1 C2 : KT) : Prop :=
  pBin Tryd.prog .eql 9 true (s.tm 3) (.sc (.string ⟨#[105, 102]⟩)) fun t3 =>
  C2 ⟨puts s.tm [(9, t3), (4, t3)], s.ds⟩ h
def F55.k7 (W : Nat → Prop) (Q : Post) (QP : PPost) (s : St) (h : AH) : Prop := F55.t7 s h (F55.k1 W Q QP) (F55.k3 W Q QP) (F55.k6 W Q QP)
theorem F55.k7_a (C0 C1 C2 : KT) : F55.cw W (F55.d [1, 0, 1, 0, 0, 1, 1, 1, 1, 1, 1, 1, 1, 0]) (thenQ (C2) (thenQ (C1) (blockQ 0 (thenQ (C0) (Q))))) QP s h = F55.t7 s h C0 C1 C2 := by kernel_rfl
theorem F55.k7_ok : F55.cw W (F55.d [1, 0, 1, 0, 0, 1, 1, 1, 1, 1, 1, 1, 1]) (thenQ (F55.k3 W Q QP) (blockQ 0 (thenQ (F55.k1 W Q QP) (Q)))) QP s h = F55.k7 W Q QP s h := nd_seq (a := (F55.d [1, 0, 1, 0, 0, 1, 1, 1, 1, 1, 1, 1, 1, 0])) (b := (F55.d [1, 0, 1, 0, 0, 1, 1, 1, 1, 1, 1, 1, 1, 1])) (by kernel_rfl) (F55.k6_ok W Q QP) (F55.k7_a W Q QP s h (F55.k1 W Q QP) (F55.k3 W Q QP) (F55.k6 W Q QP))
def F55.t8 (s : St) (h : AH) (C0 C1 C2 : KT) : Prop :=
  aIf (s.tm 4) (
  C1 s h) (
  C2 s h)
def F55.k8 (W : Nat → Prop) (Q : Post) (QP : PPost) (s : St) (h : AH) : Prop := F55.t8 s h (F55.k1 W Q QP) (F55.k3 W Q QP) (F55.k7 W Q QP)
theorem F55.k8_a (C0 C1 C2 : KT) : aIf (aev s (.tmp 4)) (F55.cw W (F55.d [1, 0, 1, 0, 0, 1, 1, 1, 1, 1, 1, 1, 0]) (thenQ (C1) (blockQ 0 (thenQ (C0) (Q)))) QP s h) (C2 s h) = F55.t8 s h C0 C1 C2 := by kernel_rfl
theorem F55.k8_ok : F55.cw W (F55.d [1, 0, 1, 0, 0, 1, 1, 1, 1, 1, 1, 1]) (thenQ (F55.k3 W Q QP) (blockQ 0 (thenQ (F55.k1 W Q QP) (Q)))) QP s h = F55.k8 W Q QP s h := nd_cond (a := (F55.d [1, 0, 1, 0, 0, 1, 1, 1, 1, 1, 1, 1, 0])) (b := (F55.d [1, 0, 1, 0, 0, 1, 1, 1, 1, 1, 1, 1, 1])) (by kernel_rfl) rfl (F55.k7_ok W Q QP s h) (F55.k8_a W Q QP s h (F55.k1 W Q QP) (F55.k3 W Q QP) (F55.k7 W Q QP))
def F55.t9 (s : St) (h : AH) (C0 C1 C2 : KT) : Prop :=
  pBin Tryd.prog .eql 9 true (s.tm 3) (.sc (.string ⟨#[114, 101, 112, 101, 97, 116]⟩)) fun t4 =>
  C2 ⟨puts s.tm [(8, t4), (4, t4)], s.ds⟩ h
def F55.k9 (W : Nat → Prop) (Q : Post) (QP : PPost) (s : St) (h : AH) : Prop := F55.t9 s h (F55.k1 W Q QP) (F55.k3 W Q QP) (F55.k8 W Q QP)
theorem F55.k9_a (C0 C1 C2 : KT) : F55.cw W (F55.d [1, 0, 1, 0, 0, 1, 1, 1, 1, 1, 1, 0]) (thenQ (C2) (thenQ (C1) (blockQ 0 (thenQ (C0) (Q))))) QP s h = F55.t9 s h C0 C1 C2 := by kernel_rfl
theorem F55.k9_ok : F55.cw W (F55.d [1, 0, 1, 0, 0, 1, 1, 1, 1, 1, 1]) (thenQ (F55.k3 W Q QP) (blockQ 0 (thenQ (F55.k1 W Q QP) (Q)))) QP s h = F55.k9 W Q QP s h := nd_seq (a := (F55.d [1, 0, 1, 0, 0, 1, 1, 1, 1, 1, 1, 0])) (b := (F55.d [1, 0, 1, 0, 0, 1, 1, 1, 1, 1, 1, 1])) (by kernel_rfl) (F55.k8_ok W Q QP) (F55.k9_a W Q QP s h (F55.k1 W Q QP) (F55.k3 W Q QP) (F55.k8 W Q QP))
def F55.t10 (s : St) (h : AH) (C0 C1 C2 : KT) : Prop :=
  aIf (s.tm 4) (
  C1 s h) (
  C2 s h)
def F55.k10 (W : Nat → Prop) (Q : Post) (QP : PPost) (s : St) (h : AH) : Prop := F55.t10 s h (F55.k1 W Q QP) (F55.k3 W Q QP) (F55.k9 W Q QP)
theorem F55.k10_a (C0 C1 C2 : KT) : aIf (aev s (.tmp 4)) (F55.cw W (F55.d [1, 0, 1, 0, 0, 1, 1, 1, 1, 1, 0]) (thenQ (C1) (blockQ 0 (thenQ (C0) (Q)))) QP s h) (C2 s h) = F55.t10 s h C0 C1 C2 := by kernel_rfl
theorem F55.k10_ok : F55.cw W (F55.d [1, 0, 1, 0, 0, 1, 1, 1, 1, 1]) (thenQ (F55.k3 W Q QP) (blockQ 0 (thenQ (F55.k1 W Q QP) (Q)))) QP s h = F55.k10 W Q QP s h := nd_cond (a := (F55.d [1, 0, 1, 0, 0, 1, 1, 1, 1, 1, 0])) (b := (F55.d [1, 0, 1, 0, 0, 1, 1, 1, 1, 1, 1])) (by kernel_rfl) rfl (F55.k9_ok W Q QP s h) (F55.k10_a W Q QP s h (F55.k1 W Q QP) (F55.k3 W Q QP) (F55.k9 W Q QP))
def F55.t11 (s : St) (h : AH) (C0 C1 C2 : KT) : Prop :=
  pBin Tryd.prog .eql 9 true (s.tm 3) (.sc (.string ⟨#[103, 97, 116, 101]⟩)) fun t5 =>
  C1 ⟨puts s.tm [(7, t5), (4, t5)], s.ds⟩ h
def F55.k11 (W : Nat → Prop) (Q : Post) (QP : PPost) (s : St) (h : AH) : Prop := F55.t11 s h (F55.k1 W Q QP) (F55.k10 W Q QP) (F55.k3 W Q QP)
theorem F55.k11_a (C0 C1 C2 : KT) : F55.cw W (F55.d [1, 0, 1, 0, 0, 1, 1, 1, 1, 0]) (thenQ (C1) (thenQ (C2) (blockQ 0 (thenQ (C0) (Q))))) QP s h = F55.t11 s h C0 C1 C2 := by kernel_rfl
theorem F55.k11_ok : F55.cw W (F55.d [1, 0, 1, 0, 0, 1, 1, 1, 1]) (thenQ (F55.k3 W Q QP) (blockQ 0 (thenQ (F55.k1 W Q QP) (Q)))) QP s h = F55.k11 W Q QP s h := nd_seq (a := (F55.d [1, 0, 1, 0, 0, 1, 1, 1, 1, 0])) (b := (F55.d [1, 0, 1, 0, 0, 1, 1, 1, 1, 1])) (by kernel_rfl) (F55.k10_ok W Q QP) (F55.k11_a W Q QP s h (F55.k1 W Q QP) (F55.k10 W Q QP) (F55.k3 W Q QP))
def F55.t12 (s : St) (h : AH) (C0 C1 C2 : KT) : Prop :=
  aIf (s.tm 4) (
  C2 s h) (
  C1 s h)
def F55.k12 (W : Nat → Prop) (Q : Post) (QP : PPost) (s : St) (h : AH) : Prop := F55.t12 s h (F55.k1 W Q QP) (F55.k11 W Q QP) (F55.k3 W Q QP)
theorem F55.k12_a (C0 C1 C2 : KT) : aIf (aev s (.tmp 4)) (F55.cw W (F55.d [1, 0, 1, 0, 0, 1, 1, 1, 0]) (thenQ (C2) (blockQ 0 (thenQ (C0) (Q)))) QP s h) (C1 s h) = F55.t12 s h C0 C1 C2 := by kernel_rfl
theorem F55.k12_ok : F55.cw W (F55.d [1, 0, 1, 0, 0, 1, 1, 1]) (thenQ (F55.k3 W Q QP) (blockQ 0 (thenQ (F55.k1 W Q QP) (Q)))) QP s h = F55.k12 W Q QP s h := nd_cond (a := (F55.d [1, 0, 1, 0, 0, 1, 1, 1, 0])) (b := (F55.d [1, 0, 1, 0, 0, 1, 1, 1, 1])) (by kernel_rfl) rfl (F55.k11_ok W Q QP s h) (F55.k12_a W Q QP s h (F55.k1 W Q QP) (F55.k11 W Q QP) (F55.k3 W Q QP))
def F55.t13 (s : St) (h : AH) (C0 C1 C2 : KT) : Prop :=
  pBin Tryd.prog .eql 9 true (s.tm 3) (.sc (.string ⟨#[98, 105, 116, 115]⟩)) fun t6 =>
  C1 ⟨puts s.tm [(6, t6), (4, t6)], s.ds⟩ h
def F55.k13 (W : Nat → Prop) (Q : Post) (QP : PPost) (s : St) (h : AH) : Prop := F55.t13 s h (F55.k1 W Q QP) (F55.k12 W Q QP) (F55.k3 W Q QP)
theorem F55.k13_a (C0 C1 C2 : KT) : F55.cw W (F55.d [1, 0, 1, 0, 0, 1, 1, 0]) (thenQ (C1) (thenQ (C2) (blockQ 0 (thenQ (C0) (Q))))) QP s h = F55.t13 s h C0 C1 C2 := by kernel_rfl
theorem F55.k13_ok : F55.cw W (F55.d [1, 0, 1, 0, 0, 1, 1]) (thenQ (F55.k3 W Q QP) (blockQ 0 (thenQ (F55.k1 W Q QP) (Q)))) QP s h = F55.k13 W Q QP s h := nd_seq (a := (F55.d [1, 0, 1, 0, 0, 1, 1, 0])) (b := (F55.d [1, 0, 1, 0, 0, 1, 1, 1])) (by kernel_rfl) (F55.k12_ok W Q QP) (F55.k13_a W Q QP s h (F55.k1 W Q QP) (F55.k12 W Q QP) (F55.k3 W Q QP))
def F55.t14 (s : St) (h : AH) (C0 C1 C2 : KT) : Prop :=
  aIf (s.tm 4) (
  C2 s h) (
  C1 s h)
def F55.k14 (W : Nat → Prop) (Q : Post) (QP : PPost) (s : St) (h : AH) : Prop := F55.t14 s h (F55.k1 W Q QP) (F55.k13 W Q QP) (F55.k3 W Q QP)
theorem F55.k14_a (C0 C1 C2 : KT) : aIf (aev s (.tmp 4)) (F55.cw W (F55.d [1, 0, 1, 0, 0, 1, 0]) (thenQ (C2) (blockQ 0 (thenQ (C0) (Q)))) QP s h) (C1 s h) = F55.t14 s h C0 C1 C2 := by kernel_rfl
theorem F55.k14_ok : F55.cw W (F55.d [1, 0, 1, 0, 0, 1]) (thenQ (F55.k3 W Q QP) (blockQ 0 (thenQ (F55.k1 W Q QP) (Q)))) QP s h = F55.k14 W Q QP s h := nd_cond (a := (F55.d [1, 0, 1, 0, 0, 1, 0])) (b := (F55.d [1, 0, 1, 0, 0, 1, 1])) (by kernel_rfl) rfl (F55.k13_ok W Q QP s h) (F55.k14_a W Q QP s h (F55.k1 W Q QP) (F55.k13 W Q QP) (F55.k3 W Q QP))
def F55.t15 (s : St) (h : AH) (C0 C1 C2 : KT) : Prop :=
  pBin Tryd.prog .eql 9 true (s.tm 3) (.sc (.string ⟨#[113, 117, 98, 105, 116, 115]⟩)) fun t7 =>
  C1 ⟨puts s.tm [(5, t7), (4, t7)], s.ds⟩ h
def F55.k15 (W : Nat → Prop) (Q : Post) (QP : PPost) (s : St) (h : AH) : Prop := F55.t15 s h (F55.k1 W Q QP) (F55.k14 W Q QP) (F55.k3 W Q QP)
theorem F55.k15_a (C0 C1 C2 : KT) : F55.cw W (F55.d [1, 0, 1, 0, 0, 0]) (thenQ (C1) (thenQ (C2) (blockQ 0 (thenQ (C0) (Q))))) QP s h = F55.t15 s h C0 C1 C2 := by kernel_rfl
theorem F55.k15_ok : F55.cw W (F55.d [1, 0, 1, 0, 0]) (thenQ (F55.k3 W Q QP) (blockQ 0 (thenQ (F55.k1 W Q QP) (Q)))) QP s h = F55.k15 W Q QP s h := nd_seq (a := (F55.d [1, 0, 1, 0, 0, 0])) (b := (F55.d [1, 0, 1, 0, 0, 1])) (by kernel_rfl) (F55.k14_ok W Q QP) (F55.k15_a W Q QP s h (F55.k1 W Q QP) (F55.k14 W Q QP) (F55.k3 W Q QP))
theorem F55.o1 : F55.cw W (F55.d [1, 0, 1, 0]) (blockQ 0 (thenQ (F55.k1 W Q QP) (Q))) QP s h = F55.k15 W Q QP s h := nd_seq (a := (F55.d [1, 0, 1, 0, 0])) (b := (F55.d [1, 0, 1, 0, 1])) (by kernel_rfl) (F55.k3_ok W Q QP) (F55.k15_ok W Q QP s h)
theorem F55.o2 : F55.cw W (F55.d [1, 0, 1]) (thenQ (F55.k1 W Q QP) (Q)) QP s h = F55.k15 W Q QP s h := nd_block (a := (F55.d [1, 0, 1, 0])) (by kernel_rfl) (F55.o1 W Q QP s h)
def F55.t16 (s : St) (h : AH) (C0 C1 : KT) : Prop :=
  C1 ⟨puts s.tm [(3, (s.tm 0))], s.ds⟩ h
def F55.k16 (W : Nat → Prop) (Q : Post) (QP : PPost) (s : St) (h : AH) : Prop := F55.t16 s h (F55.k1 W Q QP) (F55.k15 W Q QP)
theorem F55.k16_a (C0 C1 : KT) : F55.cw W (F55.d [1, 0, 0]) (thenQ (C1) (thenQ (C0) (Q))) QP s h = F55.t16 s h C0 C1 := by kernel_rfl
theorem F55.k16_ok : F55.cw W (F55.d [1, 0]) (thenQ (F55.k1 W Q QP) (Q)) QP s h = F55.k16 W Q QP s h := nd_seq (a := (F55.d [1, 0, 0])) (b := (F55.d [1, 0, 1])) (by kernel_rfl) (F55.o2 W Q QP) (F55.k16_a W Q QP s h (F55.k1 W Q QP) (F55.k15 W Q QP))
theorem F55.o3 : F55.cw W (F55.d [1]) (Q) QP s h = F55.k16 W Q QP s h := nd_seq (a := (F55.d [1, 0])) (b := (F55.d [1, 1])) (by kernel_rfl) (F55.k1_ok W Q QP) (F55.k16_ok W Q QP s h)
def F55.t17 (s : St) (h : AH) (C0 : KT) : Prop :=
  C0 ⟨puts s.tm [(2, (.sc (.bool false)))], s.ds⟩ h
def F55.k17 (W : Nat → Prop) (Q : Post) (QP : PPost) (s : St) (h : AH) : Prop := F55.t17 s h (F55.k16 W Q QP)
theorem F55.k17_a (C0 : KT) : F55.cw W (F55.d [0]) (thenQ (C0) (Q)) QP s h = F55.t17 s h C0 := by kernel_rfl
theorem F55.k17_ok : F55.cw W (F55.d []) (Q) QP s h = F55.k17 W Q QP s h := nd_seq (a := (F55.d [0])) (b := (F55.d [1])) (by kernel_rfl) (F55.o3 W Q QP) (F55.k17_a W Q QP s h (F55.k16 W Q QP))
end
set_option maxRecDepth 100000 in
theorem F55.calls {x0 : AV} {h : AH} {M : Nat → Prop} {R : AE → AH → Prop} (hp : F55.k17 (fun id => M id ∨ h.next ≤ id) (bodyQ Tryd.prog [.tmp 2] R) (bodyP R) (s0 [x0]) h) : ACalls Tryd.prog 55 [x0] h M R :=
  acalls_of (c := F55.code) Tryd.mixed Tryd.func55 (by kernel_rfl) (Nat.le_of_ble_eq_true rfl) F55.ok (by rw [show Tryd.f55.ntmps = 12 from rfl, show Tryd.f55.results.toList = [.tmp 2] from rfl]; exact Eq.mpr (F55.k17_ok _ _ _ _ _) hp)
attribute [simp] F55.k1 F55.t1 F55.k2 F55.t2 F55.k3 F55.t3 F55.k4 F55.t4 F55.k5 F55.t5 F55.k6 F55.t6 F55.k7 F55.t7 F55.k8 F55.t8 F55.k9 F55.t9 F55.k10 F55.t10 F55.k11 F55.t11 F55.k12 F55.t12 F55.k13 F55.t13 F55.k14 F55.t14 F55.k15 F55.t15 F55.k16 F55.t16 F55.k17 F55.t17
end Go.Proofs.YthkkgbmjjpcfaaaDoor

namespace Go.Proofs.YthkkgbmjjpcfaaaDoor
open Go.Ab
section
variable (W : Nat → Prop) (Q : Post) (QP : PPost) (s : St) (h : AH)
noncomputable def F16.code : Code := Tryd.f16.body.getD .skip
def F16.pl : Plans := []
theorem F16.ok : okCode Tryd.prog F16.pl F16.code = true := by kernel_rfl
noncomputable abbrev F16.d (p : List Nat) : Code := Code.at F16.code p
abbrev F16.cw (W : Nat → Prop) (c : Code) (Q : Post) (QP : PPost) : KT := Go.Ab.aw Tryd.prog 8 W F16.pl c Q QP
def F16.t1 (Q : Post) (s : St) (h : AH) : Prop :=
  pNil (s.tm 0) fun t1 =>
  pFld (some 1) t1 fun t2 =>
  lLd (some false) (some 1) t2 h fun t3 _ =>
  (strArg t3 = false) ∧ pLen t3 fun t5 =>
  Q .ret ⟨puts s.tm [(3, (s.tm 0)), (4, t1), (5, t2), (6, t3), (7, t5), (2, t5)], s.ds⟩ h
def F16.k1 (W : Nat → Prop) (Q : Post) (QP : PPost) (s : St) (h : AH) : Prop := F16.t1 Q s h
theorem F16.k1_a : F16.cw W (F16.d [1, 0]) (thenQ (F16.cw W (F16.d [1, 1]) (Q) QP) (Q)) QP s h = F16.t1 Q s h := by kernel_rfl
theorem F16.k1_ok : F16.cw W (F16.d [1]) (Q) QP s h = F16.k1 W Q QP s h := nd_seq (a := (F16.d [1, 0])) (b := (F16.d [1, 1])) (by kernel_rfl) (fun _ _ => rfl) (F16.k1_a W Q QP s h)
def F16.t2 (s : St) (h : AH) (C0 : KT) : Prop :=
  C0 ⟨puts s.tm [(2, (.sc (.int .i64 0)))], s.ds⟩ h
def F16.k2 (W : Nat → Prop) (Q : Post) (QP : PPost) (s : St) (h : AH) : Prop := F16.t2 s h (F16.k1 W Q QP)
theorem F16.k2_a (C0 : KT) : F16.cw W (F16.d [0]) (thenQ (C0) (Q)) QP s h = F16.t2 s h C0 := by kernel_rfl
theorem F16.k2_ok : F16.cw W (F16.d []) (Q) QP s h = F16.k2 W Q QP s h := nd_seq (a := (F16.d [0])) (b := (F16.d [1])) (by kernel_rfl) (F16.k1_ok W Q QP) (F16.k2_a W Q QP s h (F16.k1 W Q QP))
end
set_option maxRecDepth 100000 in
theorem F16.calls {x0 : AV} {h : AH} {M : Nat → Prop} {R : AE → AH → Prop} (hp : F16.k2 (fun id => M id ∨ h.next ≤ id) (bodyQ Tryd.prog [.tmp 2] R) (bodyP R) (s0 [x0]) h) : ACalls Tryd.prog 16 [x0] h M R :=
  acalls_of (c := F16.code) Tryd.mixed Tryd.func16 (by kernel_rfl) (Nat.le_of_ble_eq_true rfl) F16.ok (by rw [show Tryd.f16.ntmps = 8 from rfl, show Tryd.f16.results.toList = [.tmp 2] from rfl]; exact Eq.mpr (F16.k2_ok _ _ _ _ _) hp)
attribute [simp] F16.k1 F16.t1 F16.k2 F16.t2

section
variable (W : Nat → Prop) (Q : Post) (QP : PPost) (s : St) (h : AH)
noncomputable def F23.code : Code := Tryd.f23.body.getD .skip
def F23.pl : Plans := []
theorem F23.ok : okCode Tryd.prog F23.pl F23.code = true := by kernel_rfl
noncomputable abbrev F23.d (p : List Nat) : Code := Code.at F23.code p
abbrev F23.cw (W : Nat → Prop) (c : Code) (Q : Post) (QP : PPost) : KT := Go.Ab.aw Tryd.prog 28 W F23.pl c Q QP
def F23.t1 (W : Nat → Prop) (Q : Post) (s : St) (h : AH) : Prop :=
  pBld (some ([.bool false, .bool false, .int .i64 0, .bool false], .inl [(0, 1), (1, 1), (2, 1), (3, 1)])) [] fun t1 =>
  eStore (some 4) (s.tm 2) t1 h W fun h2 =>
  Q .ret ⟨puts s.tm [(27, t1), (3, (.sc (.bool false)))], s.ds⟩ h2
def F23.k1 (W : Nat → Prop) (Q : Post) (QP : PPost) (s : St) (h : AH) : Prop := F23.t1 W Q s h
theorem F23.k1_a : F23.cw W (F23.d [1, 1, 0]) (thenQ (F23.cw W (F23.d [1, 1, 1]) (Q) QP) (Q)) QP s h = F23.t1 W Q s h := by kernel_rfl
theorem F23.k1_ok : F23.cw W (F23.d [1, 1]) (Q) QP s h = F23.k1 W Q QP s h := nd_seq (a := (F23.d [1, 1, 0])) (b := (F23.d [1, 1, 1])) (by kernel_rfl) (fun _ _ => rfl) (F23.k1_a W Q QP s h)
def F23.t2 (W : Nat → Prop) (Q : Post) (s : St) (h : AH) (C0 : KT) : Prop :=
  pBld (some ([.bool false, .bool false, .int .i64 0, .bool false], .inl [(0, 1), (1, 1), (2, 1), (3, 1)])) [(0, (.sc (.bool true))), (1, (.sc (.bool true)))] fun t3 =>
  eStore (some 4) (s.tm 2) t3 h W fun h4 =>
  Q .ret ⟨puts s.tm [(8, t3), (3, (.sc (.bool true)))], s.ds⟩ h4
def F23.k2 (W : Nat → Prop) (Q : Post) (QP : PPost) (s : St) (h : AH) : Prop := F23.t2 W Q s h (F23.k1 W Q QP)
theorem F23.k2_a (C0 : KT) : F23.cw W (F23.d [1, 0, 1, 0, 1, 0, 0]) (thenQ (F23.cw W (F23.d [1, 0, 1, 0, 1, 0, 1]) (blockQ 0 (thenQ (C0) (Q))) QP) (blockQ 0 (thenQ (C0) (Q)))) QP s h = F23.t2 W Q s h C0 := by kernel_rfl
theorem F23.k2_ok : F23.cw W (F23.d [1, 0, 1, 0, 1, 0]) (blockQ 0 (thenQ (F23.k1 W Q QP) (Q))) QP s h = F23.k2 W Q QP s h := nd_seq (a := (F23.d [1, 0, 1, 0, 1, 0, 0])) (b := (F23.d [1, 0, 1, 0, 1, 0, 1])) (by kernel_rfl) (fun _ _ => rfl) (F23.k2_a W Q QP s h (F23.k1 W Q QP))
def F23.t3 (W : Nat → Prop) (Q : Post) (s : St) (h : AH) (C0 : KT) : Prop :=
  pBld (some ([.bool false, .bool false, .int .i64 0, .bool false], .inl [(0, 1), (1, 1), (2, 1), (3, 1)])) [(0, (.sc (.bool true))), (2, (.sc (.int .i64 (-1)))), (3, (.sc (.bool true)))] fun t5 =>
  eStore (some 4) (s.tm 2) t5 h W fun h6 =>
  Q .ret ⟨puts s.tm [(11, t5), (3, (.sc (.bool true)))], s.ds⟩ h6
def F23.k3 (W : Nat → Prop) (Q : Post) (QP : PPost) (s : St) (h : AH) : Prop := F23.t3 W Q s h (F23.k1 W Q QP)
theorem F23.k3_a (C0 : KT) : F23.cw W (F23.d [1, 0, 1, 0, 1, 1, 1, 0, 0]) (thenQ (F23.cw W (F23.d [1, 0, 1, 0, 1, 1, 1, 0, 1]) (blockQ 0 (thenQ (C0) (Q))) QP) (blockQ 0 (thenQ (C0) (Q)))) QP s h = F23.t3 W Q s h C0 := by kernel_rfl
theorem F23.k3_ok : F23.cw W (F23.d [1, 0, 1, 0, 1, 1, 1, 0]) (blockQ 0 (thenQ (F23.k1 W Q QP) (Q))) QP s h = F23.k3 W Q QP s h := nd_seq (a := (F23.d [1, 0, 1, 0, 1, 1, 1, 0, 0])) (b := (F23.d [1, 0, 1, 0, 1, 1, 1, 0, 1])) (by kernel_rfl) (fun _ _ => rfl) (F23.k3_a W Q QP s h (F23.k1 W Q QP))
def F23.t4 (W : Nat → Prop) (Q : Post) (s : St) (h : AH) (C0 : KT) : Prop :=
  pBld (some ([.bool false, .bool false, .int .i64 0, .bool false], .inl [(0, 1), (1, 1), (2, 1), (3, 1)])) [(1, (.sc (.bool true))), (3, (.sc (.bool true)))] fun t7 =>
  eStore (some 4) (s.tm 2) t7 h W fun h8 =>
  Q .ret ⟨puts s.tm [(14, t7), (3, (.sc (.bool true)))], s.ds⟩ h8
def F23.k4 (W : Nat → Prop) (Q : Post) (QP : PPost) (s : St) (h : AH) : Prop := F23.t4 W Q s h (F23.k1 W Q QP)
theorem F23.k4_a (C0 : KT) : F23.cw W (F23.d [1, 0, 1, 0, 1, 1, 1, 1, 1, 0, 0]) (thenQ (F23.cw W (F23.d [1, 0, 1, 0, 1, 1, 1, 1, 1, 0, 1]) (blockQ 0 (thenQ (C0) (Q))) QP) (blockQ 0 (thenQ (C0) (Q)))) QP s h = F23.t4 W Q s h C0 := by kernel_rfl
theorem F23.k4_ok : F23.cw W (F23.d [1, 0, 1, 0, 1, 1, 1, 1, 1, 0]) (blockQ 0 (thenQ (F23.k1 W Q QP) (Q))) QP s h = F23.k4 W Q QP s h := nd_seq (a := (F23.d [1, 0, 1, 0, 1, 1, 1, 1, 1, 0, 0])) (b := (F23.d [1, 0, 1, 0, 1, 1, 1, 1, 1, 0, 1])) (by kernel_rfl) (fun _ _ => rfl) (F23.k4_a W Q QP s h (F23.k1 W Q QP))
def F23.t5 (W : Nat → Prop) (Q : Post) (s : St) (h : AH) (C0 : KT) : Prop :=
  pBld (some ([.bool false, .bool false, .int .i64 0, .bool false], .inl [(0, 1), (1, 1), (2, 1), (3, 1)])) [(0, (.sc (.bool true))), (1, (.sc (.bool true))), (3, (.sc (.bool true)))] fun t9 =>
  eStore (some 4) (s.tm 2) t9 h W fun h10 =>
  Q .ret ⟨puts s.tm [(17, t9), (3, (.sc (.bool true)))], s.ds⟩ h10
def F23.k5 (W : Nat → Prop) (Q : Post) (QP : PPost) (s : St) (h : AH) : Prop := F23.t5 W Q s h (F23.k1 W Q QP)
theorem F23.k5_a (C0 : KT) : F23.cw W (F23.d [1, 0, 1, 0, 1, 1, 1, 1, 1, 1, 1, 0, 0]) (thenQ (F23.cw W (F23.d [1, 0, 1, 0, 1, 1, 1, 1, 1, 1, 1, 0, 1]) (blockQ 0 (thenQ (C0) (Q))) QP) (blockQ 0 (thenQ (C0) (Q)))) QP s h = F23.t5 W Q s h C0 := by kernel_rfl
theorem F23.k5_ok : F23.cw W (F23.d [1, 0, 1, 0, 1, 1, 1, 1, 1, 1, 1, 0]) (blockQ 0 (thenQ (F23.k1 W Q QP) (Q))) QP s h = F23.k5 W Q QP s h := nd_seq (a := (F23.d [1, 0, 1, 0, 1, 1, 1, 1, 1, 1, 1, 0, 0])) (b := (F23.d [1, 0, 1, 0, 1, 1, 1, 1, 1, 1, 1, 0, 1])) (by kernel_rfl) (fun _ _ => rfl) (F23.k5_a W Q QP s h (F23.k1 W Q QP))
def F23.t6 (W : Nat → Prop) (Q : Post) (s : St) (h : AH) (C0 : KT) : Prop :=
  pBld (some ([.bool false, .bool false, .int .i64 0, .bool false], .inl [(0, 1), (1, 1), (2, 1), (3, 1)])) [(2, (.sc (.int .i64 2)))] fun t11 =>
  eStore (some 4) (s.tm 2) t11 h W fun h12 =>
  Q .ret ⟨puts s.tm [(20, t11), (3, (.sc (.bool true)))], s.ds⟩ h12
def F23.k6 (W : Nat → Prop) (Q : Post) (QP : PPost) (s : St) (h : AH) : Prop := F23.t6 W Q s h (F23.k1 W Q QP)
theorem F23.k6_a (C0 : KT) : F23.cw W (F23.d [1, 0, 1, 0, 1, 1, 1, 1, 1, 1, 1, 1, 1, 0, 0]) (thenQ (F23.cw W (F23.d [1, 0, 1, 0, 1, 1, 1, 1, 1, 1, 1, 1, 1, 0, 1]) (blockQ 0 (thenQ (C0) (Q))) QP) (blockQ 0 (thenQ (C0) (Q)))) QP s h = F23.t6 W Q s h C0 := by kernel_rfl
theorem F23.k6_ok : F23.cw W (F23.d [1, 0, 1, 0, 1, 1, 1, 1, 1, 1, 1, 1, 1, 0]) (blockQ 0 (thenQ (F23.k1 W Q QP) (Q))) QP s h = F23.k6 W Q QP s h := nd_seq (a := (F23.d [1, 0, 1, 0, 1, 1, 1, 1, 1, 1, 1, 1, 1, 0, 0])) (b := (F23.d [1, 0, 1, 0, 1, 1, 1, 1, 1, 1, 1, 1, 1, 0, 1])) (by kernel_rfl) (fun _ _ => rfl) (F23.k6_a W Q QP s h (F23.k1 W Q QP))
def F23.t7 (W : Nat → Prop) (Q : Post) (s : St) (h : AH) (C0 : KT) : Prop :=
  pBld (some ([.bool false, .bool false, .int .i64 0, .bool false], .inl [(0, 1), (1, 1), (2, 1), (3, 1)])) [(2, (.sc (.int .i64 1)))] fun t13 =>
  eStore (some 4) (s.tm 2) t13 h W fun h14 =>
  Q .ret ⟨puts s.tm [(23, t13), (3, (.sc (.bool true)))], s.ds⟩ h14
def F23.k7 (W : Nat → Prop) (Q : Post) (QP : PPost) (s : St) (h : AH) : Prop := F23.t7 W Q s h (F23.k1 W Q QP)
theorem F23.k7_a (C0 : KT) : F23.cw W (F23.d [1, 0, 1, 0, 1, 1, 1, 1, 1, 1, 1, 1, 1, 1, 1, 0, 0]) (thenQ (F23.cw W (F23.d [1, 0, 1, 0, 1, 1, 1, 1, 1, 1, 1, 1, 1, 1, 1, 0, 1]) (blockQ 0 (thenQ (C0) (Q))) QP) (blockQ 0 (thenQ (C0) (Q)))) QP s h = F23.t7 W Q s h C0 := by kernel_rfl
theorem F23.k7_ok : F23.cw W (F23.d [1, 0, 1, 0, 1, 1, 1, 1, 1, 1, 1, 1, 1, 1, 1, 0]) (blockQ 0 (thenQ (F23.k1 W Q QP) (Q))) QP s h = F23.k7 W Q QP s h := nd_seq (a := (F23.d [1, 0, 1, 0, 1, 1, 1, 1, 1, 1, 1, 1, 1, 1, 1, 0, 0])) (b := (F23.d [1, 0, 1, 0, 1, 1, 1, 1, 1, 1, 1, 1, 1, 1, 1, 0, 1])) (by kernel_rfl) (fun _ _ => rfl) (F23.k7_a W Q QP s h (F23.k1 W Q QP))
def F23.t8 (W : Nat → Prop) (Q : Post) (s : St) (h : AH) (C0 : KT) : Prop :=
  pBld (some ([.bool false, .bool false, .int .i64 0, .bool false], .inl [(0, 1), (1, 1), (2, 1), (3, 1)])) [(0, (.sc (.bool true))), (2, (.sc (.int .i64 (-1))))] fun t15 =>
  eStore (some 4) (s.tm 2) t15 h W fun h16 =>
  Q .ret ⟨puts s.tm [(26, t15), (3, (.sc (.bool true)))], s.ds⟩ h16
def F23.k8 (W : Nat → Prop) (Q : Post) (QP : PPost) (s : St) (h : AH) : Prop := F23.t8 W Q s h (F23.k1 W Q QP)
theorem F23.k8_a (C0 : KT) : F23.cw W (F23.d [1, 0, 1, 0, 1, 1, 1, 1, 1, 1, 1, 1, 1, 1, 1, 1, 1, 0, 0]) (thenQ (F23.cw W (F23.d [1, 0, 1, 0, 1, 1, 1, 1, 1, 1, 1, 1, 1, 1, 1, 1, 1, 0, 1]) (blockQ 0 (thenQ (C0) (Q))) QP) (blockQ 0 (thenQ (C0) (Q)))) QP s h = F23.t8 W Q s h C0 := by kernel_rfl
theorem F23.k8_ok : F23.cw W (F23.d [1, 0, 1, 0, 1, 1, 1, 1, 1, 1, 1, 1, 1, 1, 1, 1, 1, 0]) (blockQ 0 (thenQ (F23.k1 W Q QP) (Q))) QP s h = F23.k8 W Q QP s h := nd_seq (a := (F23.d [1, 0, 1, 0, 1, 1, 1, 1, 1, 1, 1, 1, 1, 1, 1, 1, 1, 0, 0])) (b := (F23.d [1, 0, 1, 0, 1, 1, 1, 1, 1, 1, 1, 1, 1, 1, 1, 1, 1, 0, 1])) (by kernel_rfl) (fun _ _ => rfl) (F23.k8_a W Q QP s h (F23.k1 W Q QP))
def F23.t9 (s : St) (h : AH) (C0 C1 : KT) : Prop :=
  aIf (s.tm 24) (
  C1 s h) (
  C0 s h)
def F23.k9 (W : Nat → Prop) (Q : Post) (QP : PPost) (s : St) (h : AH) : Prop := F23.t9 s h (F23.k1 W Q QP) (F23.k8 W Q QP)
theorem F23.k9_a (C0 C1 : KT) : aIf (aev s (.tmp 24)) (C1 s h) (F23.cw W (F23.d [1, 0, 1, 0, 1, 1, 1, 1, 1, 1, 1, 1, 1, 1, 1, 1, 1, 1]) (blockQ 0 (thenQ (C0) (Q))) QP s h) = F23.t9 s h C0 C1 := by kernel_rfl
theorem F23.k9_ok : F23.cw W (F23.d [1, 0, 1, 0, 1, 1, 1, 1, 1, 1, 1, 1, 1, 1, 1, 1, 1]) (blockQ 0 (thenQ (F23.k1 W Q QP) (Q))) QP s h = F23.k9 W Q QP s h := nd_cond (a := (F23.d [1, 0, 1, 0, 1, 1, 1, 1, 1, 1, 1, 1, 1, 1, 1, 1, 1, 0])) (b := (F23.d [1, 0, 1, 0, 1, 1, 1, 1, 1, 1, 1, 1, 1, 1, 1, 1, 1, 1])) (by kernel_rfl) (F23.k8_ok W Q QP s h) rfl (F23.k9_a W Q QP s h (F23.k1 W Q QP) (F23.k8 W Q QP))
def F23.t10 (s : St) (h : AH) (C0 C1 : KT) : Prop :=
  pBin Tryd.prog .eql 9 true (s.tm 4) (.sc (.string ⟨#[117, 115, 101]⟩)) fun t17 =>
  C1 ⟨puts s.tm [(25, t17), (24, t17)], s.ds⟩ h
def F23.k10 (W : Nat → Prop) (Q : Post) (QP : PPost) (s : St) (h : AH) : Prop := F23.t10 s h (F23.k1 W Q QP) (F23.k9 W Q QP)
theorem F23.k10_a (C0 C1 : KT) : F23.cw W (F23.d [1, 0, 1, 0, 1, 1, 1, 1, 1, 1, 1, 1, 1, 1, 1, 1, 0]) (thenQ (C1) (blockQ 0 (thenQ (C0) (Q)))) QP s h = F23.t10 s h C0 C1 := by kernel_rfl
theorem F23.k10_ok : F23.cw W (F23.d [1, 0, 1, 0, 1, 1, 1, 1, 1, 1, 1, 1, 1, 1, 1, 1]) (blockQ 0 (thenQ (F23.k1 W Q QP) (Q))) QP s h = F23.k10 W Q QP s h := nd_seq (a := (F23.d [1, 0, 1, 0, 1, 1, 1, 1, 1, 1, 1, 1, 1, 1, 1, 1, 0])) (b := (F23.d [1, 0, 1, 0, 1, 1, 1, 1, 1, 1, 1, 1, 1, 1, 1, 1, 1])) (by kernel_rfl) (F23.k9_ok W Q QP) (F23.k10_a W Q QP s h (F23.k1 W Q QP) (F23.k9 W Q QP))
def F23.t11 (s : St) (h : AH) (C0 C1 : KT) : Prop :=
  aIf (s.tm 21) (
  C1 s h) (
  C0 s h)
def F23.k11 (W : Nat → Prop) (Q : Post) (QP : PPost) (s : St) (h : AH) : Prop := F23.t11 s h (F23.k10 W Q QP) (F23.k7 W Q QP)
theorem F23.k11_a (C0 C1 : KT) : aIf (aev s (.tmp 21)) (C1 s h) (C0 s h) = F23.t11 s h C0 C1 := by kernel_rfl
theorem F23.k11_ok : F23.cw W (F23.d [1, 0, 1, 0, 1, 1, 1, 1, 1, 1, 1, 1, 1, 1, 1]) (blockQ 0 (thenQ (F23.k1 W Q QP) (Q))) QP s h = F23.k11 W Q QP s h := nd_cond (a := (F23.d [1, 0, 1, 0, 1, 1, 1, 1, 1, 1, 1, 1, 1, 1, 1, 0])) (b := (F23.d [1, 0, 1, 0, 1, 1, 1, 1, 1, 1, 1, 1, 1, 1, 1, 1])) (by kernel_rfl) (F23.k7_ok W Q QP s h) (F23.k10_ok W Q QP s h) (F23.k11_a s h (F23.k10 W Q QP) (F23.k7 W Q QP))
def F23.t12 (s : St) (h : AH) (C0 C1 : KT) : Prop :=
  pBin Tryd.prog .eql 9 true (s.tm 4) (.sc (.string ⟨#[114, 101, 115, 101, 116]⟩)) fun t18 =>
  C1 ⟨puts s.tm [(22, t18), (21, t18)], s.ds⟩ h
def F23.k12 (W : Nat → Prop) (Q : Post) (QP : PPost) (s : St) (h : AH) : Prop := F23.t12 s h (F23.k1 W Q QP) (F23.k11 W Q QP)
theorem F23.k12_a (C0 C1 : KT) : F23.cw W (F23.d [1, 0, 1, 0, 1, 1, 1, 1, 1, 1, 1, 1, 1, 1, 0]) (thenQ (C1) (blockQ 0 (thenQ (C0) (Q)))) QP s h = F23.t12 s h C0 C1 := by kernel_rfl
theorem F23.k12_ok : F23.cw W (F23.d [1, 0, 1, 0, 1, 1, 1, 1, 1, 1, 1, 1, 1, 1]) (blockQ 0 (thenQ (F23.k1 W Q QP) (Q))) QP s h = F23.k12 W Q QP s h := nd_seq (a := (F23.d [1, 0, 1, 0, 1, 1, 1, 1, 1, 1, 1, 1, 1, 1, 0])) (b := (F23.d [1, 0, 1, 0, 1, 1, 1, 1, 1, 1, 1, 1, 1, 1, 1])) (by kernel_rfl) (F23.k11_ok W Q QP) (F23.k12_a W Q QP s h (F23.k1 W Q QP) (F23.k11 W Q QP))
def F23.t13 (s : St) (h : AH) (C0 C1 : KT) : Prop :=
  aIf (s.tm 18) (
  C1 s h) (
  C0 s h)
def F23.k13 (W : Nat → Prop) (Q : Post) (QP : PPost) (s : St) (h : AH) : Prop := F23.t13 s h (F23.k12 W Q QP) (F23.k6 W Q QP)
theorem F23.k13_a (C0 C1 : KT) : aIf (aev s (.tmp 18)) (C1 s h) (C0 s h) = F23.t13 s h C0 C1 := by kernel_rfl
theorem F23.k13_ok : F23.cw W (F23.d [1, 0, 1, 0, 1, 1, 1, 1, 1, 1, 1, 1, 1]) (blockQ 0 (thenQ (F23.k1 W Q QP) (Q))) QP s h = F23.k13 W Q QP s h := nd_cond (a := (F23.d [1, 0, 1, 0, 1, 1, 1, 1, 1, 1, 1, 1, 1, 0])) (b := (F23.d [1, 0, 1, 0, 1, 1, 1, 1, 1, 1, 1, 1, 1, 1])) (by kernel_rfl) (F23.k6_ok W Q QP s h) (F23.k12_ok W Q QP s h) (F23.k13_a s h (F23.k12 W Q QP) (F23.k6 W Q QP))
def F23.t14 (s : St) (h : AH) (C0 C1 : KT) : Prop :=
  pBin Tryd.prog .eql 9 true (s.tm 4) (.sc (.string ⟨#[109, 101, 97, 115, 117, 114, 101]⟩)) fun t19 =>
  C1 ⟨puts s.tm [(19, t19), (18, t19)], s.ds⟩ h
def F23.k14 (W : Nat → Prop) (Q : Post) (QP : PPost) (s : St) (h : AH) : Prop := F23.t14 s h (F23.k1 W Q QP) (F23.k13 W Q QP)
theorem F23.k14_a (C0 C1 : KT) : F23.cw W (F23.d [1, 0, 1, 0, 1, 1, 1, 1, 1, 1, 1, 1, 0]) (thenQ (C1) (blockQ 0 (thenQ (C0) (Q)))) QP s h = F23.t14 s h C0 C1 := by kernel_rfl
theorem F23.k14_ok : F23.cw W (F23.d [1, 0, 1, 0, 1, 1, 1, 1, 1, 1, 1, 1]) (blockQ 0 (thenQ (F23.k1 W Q QP) (Q))) QP s h = F23.k14 W Q QP s h := nd_seq (a := (F23.d [1, 0, 1, 0, 1, 1, 1, 1, 1, 1, 1, 1, 0])) (b := (F23.d [1, 0, 1, 0, 1, 1, 1, 1, 1, 1, 1, 1, 1])) (by kernel_rfl) (F23.k13_ok W Q QP) (F23.k14_a W Q QP s h (F23.k1 W Q QP) (F23.k13 W Q QP))
def F23.t15 (s : St) (h : AH) (C0 C1 : KT) : Prop :=
  aIf (s.tm 15) (
  C1 s h) (
  C0 s h)
def F23.k15 (W : Nat → Prop) (Q : Post) (QP : PPost) (s : St) (h : AH) : Prop := F23.t15 s h (F23.k14 W Q QP) (F23.k5 W Q QP)
theorem F23.k15_a (C0 C1 : KT) : aIf (aev s (.tmp 15)) (C1 s h) (C0 s h) = F23.t15 s h C0 C1 := by kernel_rfl
theorem F23.k15_ok : F23.cw W (F23.d [1, 0, 1, 0, 1, 1, 1, 1, 1, 1, 1]) (blockQ 0 (thenQ (F23.k1 W Q QP) (Q))) QP s h = F23.k15 W Q QP s h := nd_cond (a := (F23.d [1, 0, 1, 0, 1, 1, 1, 1, 1, 1, 1, 0])) (b := (F23.d [1, 0, 1, 0, 1, 1, 1, 1, 1, 1, 1, 1])) (by kernel_rfl) (F23.k5_ok W Q QP s h) (F23.k14_ok W Q QP s h) (F23.k15_a s h (F23.k14 W Q QP) (F23.k5 W Q QP))
def F23.t16 (s : St) (h : AH) (C0 C1 : KT) : Prop :=
  pBin Tryd.prog .eql 9 true (s.tm 4) (.sc (.string ⟨#[105, 102]⟩)) fun t20 =>
  C1 ⟨puts s.tm [(16, t20), (15, t20)], s.ds⟩ h
def F23.k16 (W : Nat → Prop) (Q : Post) (QP : PPost) (s : St) (h : AH) : Prop := F23.t16 s h (F23.k1 W Q QP) (F23.k15 W Q QP)
theorem F23.k16_a (C0 C1 : KT) : F23.cw W (F23.d [1, 0, 1, 0, 1, 1, 1, 1, 1, 1, 0]) (thenQ (C1) (blockQ 0 (thenQ (C0) (Q)))) QP s h = F23.t16 s h C0 C1 := by kernel_rfl
theorem F23.k16_ok : F23.cw W (F23.d [1, 0, 1, 0, 1, 1, 1, 1, 1, 1]) (blockQ 0 (thenQ (F23.k1 W Q QP) (Q))) QP s h = F23.k16 W Q QP s h := nd_seq (a := (F23.d [1, 0, 1, 0, 1, 1, 1, 1, 1, 1, 0])) (b := (F23.d [1, 0, 1, 0, 1, 1, 1, 1, 1, 1, 1])) (by kernel_rfl) (F23.k15_ok W Q QP) (F23.k16_a W Q QP s h (F23.k1 W Q QP) (F23.k15 W Q QP))
def F23.t17 (s : St) (h : AH) (C0 C1 : KT) : Prop :=
  aIf (s.tm 12) (
  C1 s h) (
  C0 s h)
def F23.k17 (W : Nat → Prop) (Q : Post) (QP : PPost) (s : St) (h : AH) : Prop := F23.t17 s h (F23.k16 W Q QP) (F23.k4 W Q QP)
theorem F23.k17_a (C0 C1 : KT) : aIf (aev s (.tmp 12)) (C1 s h) (C0 s h) = F23.t17 s h C0 C1 := by kernel_rfl
theorem F23.k17_ok : F23.cw W (F23.d [1, 0, 1, 0, 1, 1, 1, 1, 1]) (blockQ 0 (thenQ (F23.k1 W Q QP) (Q))) QP s h = F23.k17 W Q QP s h := nd_cond (a := (F23.d [1, 0, 1, 0, 1, 1, 1, 1, 1, 0])) (b := (F23.d [1, 0, 1, 0, 1, 1, 1, 1, 1, 1])) (by kernel_rfl) (F23.k4_ok W Q QP s h) (F23.k16_ok W Q QP s h) (F23.k17_a s h (F23.k16 W Q QP) (F23.k4 W Q QP))
def F23.t18 (s : St) (h : AH) (C0 C1 : KT) : Prop :=
  pBin Tryd.prog .eql 9 true (s.tm 4) (.sc (.string ⟨#[114, 101, 112, 101, 97, 116]⟩)) fun t21 =>
  C1 ⟨puts s.tm [(13, t21), (12, t21)], s.ds⟩ h
def F23.k18 (W : Nat → Prop) (Q : Post) (QP : PPost) (s : St) (h : AH) : Prop := F23.t18 s h (F23.k1 W Q QP) (F23.k17 W Q QP)
theorem F23.k18_a (C0 C1 : KT) : F23.cw W (F23.d [1, 0, 1, 0, 1, 1, 1, 1, 0]) (thenQ (C1) (blockQ 0 (thenQ (C0) (Q)))) QP s h = F23.t18 s h C0 C1 := by kernel_rfl
theorem F23.k18_ok : F23.cw W (F23.d [1, 0, 1, 0, 1, 1, 1, 1]) (blockQ 0 (thenQ (F23.k1 W Q QP) (Q))) QP s h = F23.k18 W Q QP s h := nd_seq (a := (F23.d [1, 0, 1, 0, 1, 1, 1, 1, 0])) (b := (F23.d [1, 0, 1, 0, 1, 1, 1, 1, 1])) (by kernel_rfl) (F23.k17_ok W Q QP) (F23.k18_a W Q QP s h (F23.k1 W Q QP) (F23.k17 W Q QP))
def F23.t19 (s : St) (h : AH) (C0 C1 : KT) : Prop :=
  aIf (s.tm 9) (
  C1 s h) (
  C0 s h)
def F23.k19 (W : Nat → Prop) (Q : Post) (QP : PPost) (s : St) (h : AH) : Prop := F23.t19 s h (F23.k18 W Q QP) (F23.k3 W Q QP)
theorem F23.k19_a (C0 C1 : KT) : aIf (aev s (.tmp 9)) (C1 s h) (C0 s h) = F23.t19 s h C0 C1 := by kernel_rfl
theorem F23.k19_ok : F23.cw W (F23.d [1, 0, 1, 0, 1, 1, 1]) (blockQ 0 (thenQ (F23.k1 W Q QP) (Q))) QP s h = F23.k19 W Q QP s h := nd_cond (a := (F23.d [1, 0, 1, 0, 1, 1, 1, 0])) (b := (F23.d [1, 0, 1, 0, 1, 1, 1, 1])) (by kernel_rfl) (F23.k3_ok W Q QP s h) (F23.k18_ok W Q QP s h) (F23.k19_a s h (F23.k18 W Q QP) (F23.k3 W Q QP))
def F23.t20 (s : St) (h : AH) (C0 C1 : KT) : Prop :=
  pBin Tryd.prog .eql 9 true (s.tm 4) (.sc (.string ⟨#[103, 97, 116, 101]⟩)) fun t22 =>
  C1 ⟨puts s.tm [(10, t22), (9, t22)], s.ds⟩ h
def F23.k20 (W : Nat → Prop) (Q : Post) (QP : PPost) (s : St) (h : AH) : Prop := F23.t20 s h (F23.k1 W Q QP) (F23.k19 W Q QP)
theorem F23.k20_a (C0 C1 : KT) : F23.cw W (F23.d [1, 0, 1, 0, 1, 1, 0]) (thenQ (C1) (blockQ 0 (thenQ (C0) (Q)))) QP s h = F23.t20 s h C0 C1 := by kernel_rfl
theorem F23.k20_ok : F23.cw W (F23.d [1, 0, 1, 0, 1, 1]) (blockQ 0 (thenQ (F23.k1 W Q QP) (Q))) QP s h = F23.k20 W Q QP s h := nd_seq (a := (F23.d [1, 0, 1, 0, 1, 1, 0])) (b := (F23.d [1, 0, 1, 0, 1, 1, 1])) (by kernel_rfl) (F23.k19_ok W Q QP) (F23.k20_a W Q QP s h (F23.k1 W Q QP) (F23.k19 W Q QP))
def F23.t21 (s : St) (h : AH) (C0 C1 : KT) : Prop :=
  aIf (s.tm 5) (
  C0 s h) (
  C1 s h)
def F23.k21 (W : Nat → Prop) (Q : Post) (QP : PPost) (s : St) (h : AH) : Prop := F23.t21 s h (F23.k2 W Q QP) (F23.k20 W Q QP)
theorem F23.k21_a (C0 C1 : KT) : aIf (aev s (.tmp 5)) (C0 s h) (C1 s h) = F23.t21 s h C0 C1 := by kernel_rfl
theorem F23.k21_ok : F23.cw W (F23.d [1, 0, 1, 0, 1]) (blockQ 0 (thenQ (F23.k1 W Q QP) (Q))) QP s h = F23.k21 W Q QP s h := nd_cond (a := (F23.d [1, 0, 1, 0, 1, 0])) (b := (F23.d [1, 0, 1, 0, 1, 1])) (by kernel_rfl) (F23.k2_ok W Q QP s h) (F23.k20_ok W Q QP s h) (F23.k21_a s h (F23.k2 W Q QP) (F23.k20 W Q QP))
def F23.t22 (s : St) (h : AH) (C0 C1 : KT) : Prop :=
  aIf (s.tm 5) (
  C1 s h) (
  pBin Tryd.prog .eql 9 true (s.tm 4) (.sc (.string ⟨#[98, 105, 116, 115]⟩)) fun t23 =>
  C1 ⟨puts s.tm [(7, t23), (5, t23)], s.ds⟩ h)
def F23.k22 (W : Nat → Prop) (Q : Post) (QP : PPost) (s : St) (h : AH) : Prop := F23.t22 s h (F23.k1 W Q QP) (F23.k21 W Q QP)
theorem F23.k22_a (C0 C1 : KT) : aIf (aev s (.tmp 5)) (F23.cw W (F23.d [1, 0, 1, 0, 0, 1, 0]) (thenQ (C1) (blockQ 0 (thenQ (C0) (Q)))) QP s h) (F23.cw W (F23.d [1, 0, 1, 0, 0, 1, 1]) (thenQ (C1) (blockQ 0 (thenQ (C0) (Q)))) QP s h) = F23.t22 s h C0 C1 := by kernel_rfl
theorem F23.k22_ok : F23.cw W (F23.d [1, 0, 1, 0, 0, 1]) (thenQ (F23.k21 W Q QP) (blockQ 0 (thenQ (F23.k1 W Q QP) (Q)))) QP s h = F23.k22 W Q QP s h := nd_cond (a := (F23.d [1, 0, 1, 0, 0, 1, 0])) (b := (F23.d [1, 0, 1, 0, 0, 1, 1])) (by kernel_rfl) rfl rfl (F23.k22_a W Q QP s h (F23.k1 W Q QP) (F23.k21 W Q QP))
def F23.t23 (s : St) (h : AH) (C0 C1 C2 : KT) : Prop :=
  pBin Tryd.prog .eql 9 true (s.tm 4) (.sc (.string ⟨#[113, 117, 98, 105, 116, 115]⟩)) fun t24 =>
  C2 ⟨puts s.tm [(6, t24), (5, t24)], s.ds⟩ h
def F23.k23 (W : Nat → Prop) (Q : Post) (QP : PPost) (s : St) (h : AH) : Prop := F23.t23 s h (F23.k1 W Q QP) (F23.k21 W Q QP) (F23.k22 W Q QP)
theorem F23.k23_a (C0 C1 C2 : KT) : F23.cw W (F23.d [1, 0, 1, 0, 0, 0]) (thenQ (C2) (thenQ (C1) (blockQ 0 (thenQ (C0) (Q))))) QP s h = F23.t23 s h C0 C1 C2 := by kernel_rfl
theorem F23.k23_ok : F23.cw W (F23.d [1, 0, 1, 0, 0]) (thenQ (F23.k21 W Q QP) (blockQ 0 (thenQ (F23.k1 W Q QP) (Q)))) QP s h = F23.k23 W Q QP s h := nd_seq (a := (F23.d [1, 0, 1, 0, 0, 0])) (b := (F23.d [1, 0, 1, 0, 0, 1])) (by kernel_rfl) (F23.k22_ok W Q QP) (F23.k23_a W Q QP s h (F23.k1 W Q QP) (F23.k21 W Q QP) (F23.k22 W Q QP))
theorem F23.o1 : F23.cw W (F23.d [1, 0, 1, 0]) (blockQ 0 (thenQ (F23.k1 W Q QP) (Q))) QP s h = F23.k23 W Q QP s h := nd_seq (a := (F23.d [1, 0, 1, 0, 0])) (b := (F23.d [1, 0, 1, 0, 1])) (by kernel_rfl) (F23.k21_ok W Q QP) (F23.k23_ok W Q QP s h)
theorem F23.o2 : F23.cw W (F23.d [1, 0, 1]) (thenQ (F23.k1 W Q QP) (Q)) QP s h = F23.k23 W Q QP s h := nd_block (a := (F23.d [1, 0, 1, 0])) (by kernel_rfl) (F23.o1 W Q QP s h)
def F23.t24 (s : St) (h : AH) (C0 C1 : KT) : Prop :=
  C1 ⟨puts s.tm [(4, (s.tm 0))], s.ds⟩ h
def F23.k24 (W : Nat → Prop) (Q : Post) (QP : PPost) (s : St) (h : AH) : Prop := F23.t24 s h (F23.k1 W Q QP) (F23.k23 W Q QP)
theorem F23.k24_a (C0 C1 : KT) : F23.cw W (F23.d [1, 0, 0]) (thenQ (C1) (thenQ (C0) (Q))) QP s h = F23.t24 s h C0 C1 := by kernel_rfl
theorem F23.k24_ok : F23.cw W (F23.d [1, 0]) (thenQ (F23.k1 W Q QP) (Q)) QP s h = F23.k24 W Q QP s h := nd_seq (a := (F23.d [1, 0, 0])) (b := (F23.d [1, 0, 1])) (by kernel_rfl) (F23.o2 W Q QP) (F23.k24_a W Q QP s h (F23.k1 W Q QP) (F23.k23 W Q QP))
theorem F23.o3 : F23.cw W (F23.d [1]) (Q) QP s h = F23.k24 W Q QP s h := nd_seq (a := (F23.d [1, 0])) (b := (F23.d [1, 1])) (by kernel_rfl) (F23.k1_ok W Q QP) (F23.k24_ok W Q QP s h)
def F23.t25 (s : St) (h : AH) (C0 : KT) : Prop :=
  eAlloc (some [.bool false, .bool false, .int .i64 0, .bool false]) 4 67 h fun t25 h26 =>
  C0 ⟨puts s.tm [(2, t25), (3, (.sc (.bool false)))], s.ds⟩ h26
def F23.k25 (W : Nat → Prop) (Q : Post) (QP : PPost) (s : St) (h : AH) : Prop := F23.t25 s h (F23.k24 W Q QP)
theorem F23.k25_a (C0 : KT) : F23.cw W (F23.d [0]) (thenQ (C0) (Q)) QP s h = F23.t25 s h C0 := by kernel_rfl
theorem F23.k25_ok : F23.cw W (F23.d []) (Q) QP s h = F23.k25 W Q QP s h := nd_seq (a := (F23.d [0])) (b := (F23.d [1])) (by kernel_rfl) (F23.o3 W Q QP) (F23.k25_a W Q QP s h (F23.k24 W Q QP))
end
set_option maxRecDepth 100000 in
theorem F23.calls {x0 : AV} {h : AH} {M : Nat → Prop} {R : AE → AH → Prop} (hp : F23.k25 (fun id => M id ∨ h.next ≤ id) (bodyQ Tryd.prog [.cell 2 67, .tmp 3] R) (bodyP R) (s0 [x0]) h) : ACalls Tryd.prog 23 [x0] h M R :=
  acalls_of (c := F23.code) Tryd.mixed Tryd.func23 (by kernel_rfl) (Nat.le_of_ble_eq_true rfl) F23.ok (by rw [show Tryd.f23.ntmps = 28 from rfl, show Tryd.f23.results.toList = [.cell 2 67, .tmp 3] from rfl]; exact Eq.mpr (F23.k25_ok _ _ _ _ _) hp)
attribute [simp] F23.k1 F23.t1 F23.k2 F23.t2 F23.k3 F23.t3 F23.k4 F23.t4 F23.k5 F23.t5 F23.k6 F23.t6 F23.k7 F23.t7 F23.k8 F23.t8 F23.k9 F23.t9 F23.k10 F23.t10 F23.k11 F23.t11 F23.k12 F23.t12 F23.k13 F23.t13 F23.k14 F23.t14 F23.k15 F23.t15 F23.k16 F23.t16 F23.k17 F23.t17 F23.k18 F23.t18 F23.k19 F23.t19 F23.k20 F23.t20 F23.k21 F23.t21 F23.k22 F23.t22 F23.k23 F23.t23 F23.k24 F23.t24 F23.k25 F23.t25

section
variable (W : Nat → Prop) (Q : Post) (QP : PPost) (s : St) (h : AH)
noncomputable def F45.code : Code := Tryd.f45.body.getD .skip
def F45.g1 : Grps := [(none, [(0, false), (1, false), (2, false)]), (some (2, true), [(3, false), (4, false), (5, false)]), (none, [(6, false), (7, false)])]
def F45.pl : Plans := [(1, ⟨F45.g1, false, [], []⟩)]
theorem F45.ok : okCode Tryd.prog F45.pl F45.code = true := by kernel_rfl
noncomputable abbrev F45.d (p : List Nat) : Code := Code.at F45.code p
abbrev F45.cw (W : Nat → Prop) (c : Code) (Q : Post) (QP : PPost) : KT := Go.Ab.aw Tryd.prog 10 W F45.pl c Q QP
def F45.t1 (Q : Post) (s : St) (h : AH) : Prop :=
  Q .ret s h
def F45.k1 (W : Nat → Prop) (Q : Post) (QP : PPost) (s : St) (h : AH) : Prop := F45.t1 Q s h
theorem F45.k1_a : F45.cw W (F45.d [1, 1]) (Q) QP s h = F45.t1 Q s h := by kernel_rfl
theorem F45.k1_ok : F45.cw W (F45.d [1, 1]) (Q) QP s h = F45.k1 W Q QP s h := (F45.k1_a W Q QP s h)
def F45.t2 (s : St) (h : AH) (C0 : KT) : Prop :=
  pPick (s.tm 5) (s.tm 8) (.sc (.bool false)) fun t1 =>
  C0 ⟨puts s.tm [(9, t1), (2, t1)], s.ds⟩ h
def F45.k2 (W : Nat → Prop) (Q : Post) (QP : PPost) (s : St) (h : AH) : Prop := F45.t2 s h (F45.k1 W Q QP)
theorem F45.k2_a (C0 : KT) : evI Tryd.prog 10 (fun _ => W) nobody QP (regOps (F45.d [1, 0])) (isAt F45.g1 2) ((thenQ (C0) (Q)) .normal) s h = F45.t2 s h C0 := by kernel_rfl
theorem F45.k2_ok : evG Tryd.prog 10 (fun _ => W) nobody QP (regOps (F45.d [1, 0])) (F45.g1.drop 2) ((thenQ (F45.k1 W Q QP) (Q)) .normal) s h = F45.k2 W Q QP s h := nd_g (is := isAt F45.g1 2) (rest := F45.g1.drop 3) (by kernel_rfl) (fun _ _ => rfl) (F45.k2_a W Q QP s h (F45.k1 W Q QP))
def F45.t3 (W : Nat → Prop) (QP : PPost) (s : St) (h : AH) (C0 : KT) : Prop :=
  aIg true (s.tm 5) (
  aCall Tryd.prog W 53 [(s.tm 0)] h (fun t2 h3 =>
  pUn .not t2 fun t4 =>
  C0 ⟨puts s.tm [(6, (s.tm 0)), (7, t2), (8, t4)], s.ds⟩ h3) (QP s.ds)) (
  C0 ⟨puts s.tm [(6, noA), (7, noA), (8, noA)], s.ds⟩ h)
def F45.k3 (W : Nat → Prop) (Q : Post) (QP : PPost) (s : St) (h : AH) : Prop := F45.t3 W QP s h (F45.k2 W Q QP)
theorem F45.k3_a (C0 : KT) : aIg true (s.tm 5) (evI Tryd.prog 10 (fun _ => W) nobody QP (regOps (F45.d [1, 0])) (isAt F45.g1 1) (C0) s h) ((C0) (skI 10 (regOps (F45.d [1, 0])) (isAt F45.g1 1) s) h) = F45.t3 W QP s h C0 := by kernel_rfl
theorem F45.k3_ok : evG Tryd.prog 10 (fun _ => W) nobody QP (regOps (F45.d [1, 0])) (F45.g1.drop 1) ((thenQ (F45.k1 W Q QP) (Q)) .normal) s h = F45.k3 W Q QP s h := nd_gw (j := 2) (is := isAt F45.g1 1) (rest := F45.g1.drop 2) (by kernel_rfl) (d := 5) (by kernel_rfl) (F45.k2_ok W Q QP) (F45.k3_a W QP s h (F45.k2 W Q QP))
def F45.t4 (W : Nat → Prop) (QP : PPost) (s : St) (h : AH) (C0 : KT) : Prop :=
  aCall Tryd.prog W 56 [(s.tm 0)] h (fun t5 h6 =>
  C0 ⟨puts s.tm [(3, (s.tm 0)), (4, t5), (5, t5)], s.ds⟩ h6) (QP s.ds)
def F45.k4 (W : Nat → Prop) (Q : Post) (QP : PPost) (s : St) (h : AH) : Prop := F45.t4 W QP s h (F45.k3 W Q QP)
theorem F45.k4_a (C0 : KT) : evI Tryd.prog 10 (fun _ => W) nobody QP (regOps (F45.d [1, 0])) (isAt F45.g1 0) (C0) s h = F45.t4 W QP s h C0 := by kernel_rfl
theorem F45.k4_ok : evG Tryd.prog 10 (fun _ => W) nobody QP (regOps (F45.d [1, 0])) (F45.g1.drop 0) ((thenQ (F45.k1 W Q QP) (Q)) .normal) s h = F45.k4 W Q QP s h := nd_g (is := isAt F45.g1 0) (rest := F45.g1.drop 1) (by kernel_rfl) (F45.k3_ok W Q QP) (F45.k4_a W QP s h (F45.k3 W Q QP))
theorem F45.o1 : F45.cw W (F45.d [1, 0]) (thenQ (F45.k1 W Q QP) (Q)) QP s h = F45.k4 W Q QP s h := nd_groups (id := 1) (draw := false) (ops := (regOps (F45.d [1, 0]))) (gs := F45.g1.drop 0) (by kernel_rfl) (by kernel_rfl) (F45.k4_ok W Q QP s h)
theorem F45.o2 : F45.cw W (F45.d [1]) (Q) QP s h = F45.k4 W Q QP s h := nd_seq (a := (F45.d [1, 0])) (b := (F45.d [1, 1])) (by kernel_rfl) (F45.k1_ok W Q QP) (F45.o1 W Q QP s h)
def F45.t5 (s : St) (h : AH) (C0 : KT) : Prop :=
  C0 ⟨puts s.tm [(2, (.sc (.bool false)))], s.ds⟩ h
def F45.k5 (W : Nat → Prop) (Q : Post) (QP : PPost) (s : St) (h : AH) : Prop := F45.t5 s h (F45.k4 W Q QP)
theorem F45.k5_a (C0 : KT) : F45.cw W (F45.d [0]) (thenQ (C0) (Q)) QP s h = F45.t5 s h C0 := by kernel_rfl
theorem F45.k5_ok : F45.cw W (F45.d []) (Q) QP s h = F45.k5 W Q QP s h := nd_seq (a := (F45.d [0])) (b := (F45.d [1])) (by kernel_rfl) (F45.o2 W Q QP) (F45.k5_a W Q QP s h (F45.k4 W Q QP))
end
set_option maxRecDepth 100000 in
theorem F45.calls {x0 : AV} {h : AH} {M : Nat → Prop} {R : AE → AH → Prop} (hp : F45.k5 (fun id => M id ∨ h.next ≤ id) (bodyQ Tryd.prog [.tmp 2] R) (bodyP R) (s0 [x0]) h) : ACalls Tryd.prog 45 [x0] h M R :=
  acalls_of (c := F45.code) Tryd.mixed Tryd.func45 (by kernel_rfl) (Nat.le_of_ble_eq_true rfl) F45.ok (by rw [show Tryd.f45.ntmps = 10 from rfl, show Tryd.f45.results.toList = [.tmp 2] from rfl]; exact Eq.mpr (F45.k5_ok _ _ _ _ _) hp)
attribute [simp] F45.k1 F45.t1 F45.k2 F45.t2 F45.k3 F45.t3 F45.k4 F45.t4 F45.k5 F45.t5

section
variable (W : Nat → Prop) (Q : Post) (QP : PPost) (s : St) (h : AH)
noncomputable def F46.code : Code := Tryd.f46.body.getD .skip
def F46.g1 : Grps := [(none, [(0, false), (1, false), (2, false)]), (some (2, true), [(3, false), (4, false)]), (none, [(5, false), (6, false)])]
def F46.pl : Plans := [(1, ⟨F46.g1, false, [], []⟩)]
theorem F46.ok : okCode Tryd.prog F46.pl F46.code = true := by kernel_rfl
noncomputable abbrev F46.d (p : List Nat) : Code := Code.at F46.code p
abbrev F46.cw (W : Nat → Prop) (c : Code) (Q : Post) (QP : PPost) : KT := Go.Ab.aw Tryd.prog 9 W F46.pl c Q QP
def F46.t1 (Q : Post) (s : St) (h : AH) : Prop :=
  Q .ret s h
def F46.k1 (W : Nat → Prop) (Q : Post) (QP : PPost) (s : St) (h : AH) : Prop := F46.t1 Q s h
theorem F46.k1_a : F46.cw W (F46.d [1, 1]) (Q) QP s h = F46.t1 Q s h := by kernel_rfl
theorem F46.k1_ok : F46.cw W (F46.d [1, 1]) (Q) QP s h = F46.k1 W Q QP s h := (F46.k1_a W Q QP s h)
def F46.t2 (s : St) (h : AH) (C0 : KT) : Prop :=
  pPick (s.tm 5) (s.tm 7) (.sc (.bool false)) fun t1 =>
  C0 ⟨puts s.tm [(8, t1), (2, t1)], s.ds⟩ h
def F46.k2 (W : Nat → Prop) (Q : Post) (QP : PPost) (s : St) (h : AH) : Prop := F46.t2 s h (F46.k1 W Q QP)
theorem F46.k2_a (C0 : KT) : evI Tryd.prog 9 (fun _ => W) nobody QP (regOps (F46.d [1, 0])) (isAt F46.g1 2) ((thenQ (C0) (Q)) .normal) s h = F46.t2 s h C0 := by kernel_rfl
theorem F46.k2_ok : evG Tryd.prog 9 (fun _ => W) nobody QP (regOps (F46.d [1, 0])) (F46.g1.drop 2) ((thenQ (F46.k1 W Q QP) (Q)) .normal) s h = F46.k2 W Q QP s h := nd_g (is := isAt F46.g1 2) (rest := F46.g1.drop 3) (by kernel_rfl) (fun _ _ => rfl) (F46.k2_a W Q QP s h (F46.k1 W Q QP))
def F46.t3 (s : St) (h : AH) (C0 : KT) : Prop :=
  aIg true (s.tm 5) (
  pBin Tryd.prog .leq 3 true (s.tm 0) (.sc (.int .i64 9007199254740991)) fun t2 =>
  C0 ⟨puts s.tm [(6, (s.tm 0)), (7, t2)], s.ds⟩ h) (
  C0 ⟨puts s.tm [(6, noA), (7, noA)], s.ds⟩ h)
def F46.k3 (W : Nat → Prop) (Q : Post) (QP : PPost) (s : St) (h : AH) : Prop := F46.t3 s h (F46.k2 W Q QP)
theorem F46.k3_a (C0 : KT) : aIg true (s.tm 5) (evI Tryd.prog 9 (fun _ => W) nobody QP (regOps (F46.d [1, 0])) (isAt F46.g1 1) (C0) s h) ((C0) (skI 9 (regOps (F46.d [1, 0])) (isAt F46.g1 1) s) h) = F46.t3 s h C0 := by kernel_rfl
theorem F46.k3_ok : evG Tryd.prog 9 (fun _ => W) nobody QP (regOps (F46.d [1, 0])) (F46.g1.drop 1) ((thenQ (F46.k1 W Q QP) (Q)) .normal) s h = F46.k3 W Q QP s h := nd_gw (j := 2) (is := isAt F46.g1 1) (rest := F46.g1.drop 2) (by kernel_rfl) (d := 5) (by kernel_rfl) (F46.k2_ok W Q QP) (F46.k3_a W QP s h (F46.k2 W Q QP))
def F46.t4 (s : St) (h : AH) (C0 : KT) : Prop :=
  pBin Tryd.prog .geq 3 true (s.tm 0) (.sc (.int .i64 0)) fun t3 =>
  C0 ⟨puts s.tm [(3, (s.tm 0)), (4, t3), (5, t3)], s.ds⟩ h
def F46.k4 (W : Nat → Prop) (Q : Post) (QP : PPost) (s : St) (h : AH) : Prop := F46.t4 s h (F46.k3 W Q QP)
theorem F46.k4_a (C0 : KT) : evI Tryd.prog 9 (fun _ => W) nobody QP (regOps (F46.d [1, 0])) (isAt F46.g1 0) (C0) s h = F46.t4 s h C0 := by kernel_rfl
theorem F46.k4_ok : evG Tryd.prog 9 (fun _ => W) nobody QP (regOps (F46.d [1, 0])) (F46.g1.drop 0) ((thenQ (F46.k1 W Q QP) (Q)) .normal) s h = F46.k4 W Q QP s h := nd_g (is := isAt F46.g1 0) (rest := F46.g1.drop 1) (by kernel_rfl) (F46.k3_ok W Q QP) (F46.k4_a W QP s h (F46.k3 W Q QP))
theorem F46.o1 : F46.cw W (F46.d [1, 0]) (thenQ (F46.k1 W Q QP) (Q)) QP s h = F46.k4 W Q QP s h := nd_groups (id := 1) (draw := false) (ops := (regOps (F46.d [1, 0]))) (gs := F46.g1.drop 0) (by kernel_rfl) (by kernel_rfl) (F46.k4_ok W Q QP s h)
theorem F46.o2 : F46.cw W (F46.d [1]) (Q) QP s h = F46.k4 W Q QP s h := nd_seq (a := (F46.d [1, 0])) (b := (F46.d [1, 1])) (by kernel_rfl) (F46.k1_ok W Q QP) (F46.o1 W Q QP s h)
def F46.t5 (s : St) (h : AH) (C0 : KT) : Prop :=
  C0 ⟨puts s.tm [(2, (.sc (.bool false)))], s.ds⟩ h
def F46.k5 (W : Nat → Prop) (Q : Post) (QP : PPost) (s : St) (h : AH) : Prop := F46.t5 s h (F46.k4 W Q QP)
theorem F46.k5_a (C0 : KT) : F46.cw W (F46.d [0]) (thenQ (C0) (Q)) QP s h = F46.t5 s h C0 := by kernel_rfl
theorem F46.k5_ok : F46.cw W (F46.d []) (Q) QP s h = F46.k5 W Q QP s h := nd_seq (a := (F46.d [0])) (b := (F46.d [1])) (by kernel_rfl) (F46.o2 W Q QP) (F46.k5_a W Q QP s h (F46.k4 W Q QP))
end
set_option maxRecDepth 100000 in
theorem F46.calls {x0 : AV} {h : AH} {M : Nat → Prop} {R : AE → AH → Prop} (hp : F46.k5 (fun id => M id ∨ h.next ≤ id) (bodyQ Tryd.prog [.tmp 2] R) (bodyP R) (s0 [x0]) h) : ACalls Tryd.prog 46 [x0] h M R :=
  acalls_of (c := F46.code) Tryd.mixed Tryd.func46 (by kernel_rfl) (Nat.le_of_ble_eq_true rfl) F46.ok (by rw [show Tryd.f46.ntmps = 9 from rfl, show Tryd.f46.results.toList = [.tmp 2] from rfl]; exact Eq.mpr (F46.k5_ok _ _ _ _ _) hp)
attribute [simp] F46.k1 F46.t1 F46.k2 F46.t2 F46.k3 F46.t3 F46.k4 F46.t4 F46.k5 F46.t5

section
variable (W : Nat → Prop) (Q : Post) (QP : PPost) (s : St) (h : AH)
noncomputable def F50.code : Code := Tryd.f50.body.getD .skip
def F50.pl : Plans := []
theorem F50.ok : okCode Tryd.prog F50.pl F50.code = true := by kernel_rfl
noncomputable abbrev F50.d (p : List Nat) : Code := Code.at F50.code p
abbrev F50.cw (W : Nat → Prop) (c : Code) (Q : Post) (QP : PPost) : KT := Go.Ab.aw Tryd.prog 19 W F50.pl c Q QP
def F50.t1 (Q : Post) (s : St) (h : AH) : Prop :=
  (strArg (s.tm 1) = true) ∧ pLen (s.tm 1) fun t1 =>
  Q .ret ⟨puts s.tm [(17, (s.tm 1)), (18, t1), (4, t1), (5, (.sc (.nilIface)))], s.ds⟩ h
def F50.k1 (W : Nat → Prop) (Q : Post) (QP : PPost) (s : St) (h : AH) : Prop := F50.t1 Q s h
theorem F50.k1_a : F50.cw W (F50.d [1, 1, 1, 0]) (thenQ (F50.cw W (F50.d [1, 1, 1, 1]) (Q) QP) (Q)) QP s h = F50.t1 Q s h := by kernel_rfl
theorem F50.k1_ok : F50.cw W (F50.d [1, 1, 1]) (Q) QP s h = F50.k1 W Q QP s h := nd_seq (a := (F50.d [1, 1, 1, 0])) (b := (F50.d [1, 1, 1, 1])) (by kernel_rfl) (fun _ _ => rfl) (F50.k1_a W Q QP s h)
def F50.t2 (W : Nat → Prop) (s : St) (h : AH) (C0 : KT) : Prop :=
  pNil (s.tm 0) fun t2 =>
  pFld (some 1) t2 fun t3 =>
  lLd (some false) (some 1) t3 h fun t4 _ =>
  eAppS (some 5) t4 (s.tm 1) h W fun t6 h7 =>
  pNil (s.tm 0) fun t8 =>
  pFld (some 1) t8 fun t9 =>
  eStore (some 1) t9 t6 h7 W fun h10 =>
  C0 ⟨puts s.tm [(8, (s.tm 0)), (9, (s.tm 0)), (10, t2), (11, t3), (12, t4), (13, (s.tm 1)), (14, t6), (15, t8), (16, t9)], s.ds⟩ h10
def F50.k2 (W : Nat → Prop) (Q : Post) (QP : PPost) (s : St) (h : AH) : Prop := F50.t2 W s h (F50.k1 W Q QP)
theorem F50.k2_a (C0 : KT) : F50.cw W (F50.d [1, 1, 0]) (thenQ (C0) (Q)) QP s h = F50.t2 W s h C0 := by kernel_rfl
theorem F50.k2_ok : F50.cw W (F50.d [1, 1]) (Q) QP s h = F50.k2 W Q QP s h := nd_seq (a := (F50.d [1, 1, 0])) (b := (F50.d [1, 1, 1])) (by kernel_rfl) (F50.k1_ok W Q QP) (F50.k2_a W Q QP s h (F50.k1 W Q QP))
def F50.t3 (W : Nat → Prop) (QP : PPost) (s : St) (h : AH) (C0 : KT) : Prop :=
  aCall Tryd.prog W 61 [(s.tm 0)] h (fun t11 h12 =>
  C0 ⟨puts s.tm [(6, (s.tm 0)), (7, t11)], s.ds⟩ h12) (QP s.ds)
def F50.k3 (W : Nat → Prop) (Q : Post) (QP : PPost) (s : St) (h : AH) : Prop := F50.t3 W QP s h (F50.k2 W Q QP)
theorem F50.k3_a (C0 : KT) : F50.cw W (F50.d [1, 0]) (thenQ (C0) (Q)) QP s h = F50.t3 W QP s h C0 := by kernel_rfl
theorem F50.k3_ok : F50.cw W (F50.d [1]) (Q) QP s h = F50.k3 W Q QP s h := nd_seq (a := (F50.d [1, 0])) (b := (F50.d [1, 1])) (by kernel_rfl) (F50.k2_ok W Q QP) (F50.k3_a W Q QP s h (F50.k2 W Q QP))
def F50.t4 (s : St) (h : AH) (C0 : KT) : Prop :=
  C0 ⟨puts s.tm [(4, (.sc (.int .i64 0))), (5, (.sc (.nilIface)))], s.ds⟩ h
def F50.k4 (W : Nat → Prop) (Q : Post) (QP : PPost) (s : St) (h : AH) : Prop := F50.t4 s h (F50.k3 W Q QP)
theorem F50.k4_a (C0 : KT) : F50.cw W (F50.d [0]) (thenQ (C0) (Q)) QP s h = F50.t4 s h C0 := by kernel_rfl
theorem F50.k4_ok : F50.cw W (F50.d []) (Q) QP s h = F50.k4 W Q QP s h := nd_seq (a := (F50.d [0])) (b := (F50.d [1])) (by kernel_rfl) (F50.k3_ok W Q QP) (F50.k4_a W Q QP s h (F50.k3 W Q QP))
end
set_option maxRecDepth 100000 in
theorem F50.calls {x0 x1 : AV} {h : AH} {M : Nat → Prop} {R : AE → AH → Prop} (hp : F50.k4 (fun id => M id ∨ h.next ≤ id) (bodyQ Tryd.prog [.tmp 4, .tmp 5] R) (bodyP R) (s0 [x0, x1]) h) : ACalls Tryd.prog 50 [x0, x1] h M R :=
  acalls_of (c := F50.code) Tryd.mixed Tryd.func50 (by kernel_rfl) (Nat.le_of_ble_eq_true rfl) F50.ok (by rw [show Tryd.f50.ntmps = 19 from rfl, show Tryd.f50.results.toList = [.tmp 4, .tmp 5] from rfl]; exact Eq.mpr (F50.k4_ok _ _ _ _ _) hp)
attribute [simp] F50.k1 F50.t1 F50.k2 F50.t2 F50.k3 F50.t3 F50.k4 F50.t4

section
variable (W : Nat → Prop) (Q : Post) (QP : PPost) (s : St) (h : AH)
noncomputable def F56.code : Code := Tryd.f56.body.getD .skip
def F56.g1 : Grps := [(none, [(0, false), (1, false), (2, false)]), (some (2, true), [(3, false), (4, false), (5, false)]), (none, [(6, false), (7, false)]), (some (7, true), [(8, false), (9, false), (10, false), (11, false), (12, false)]), (none, [(13, false), (14, false)])]
def F56.pl : Plans := [(1, ⟨F56.g1, false, [], []⟩)]
theorem F56.ok : okCode Tryd.prog F56.pl F56.code = true := by kernel_rfl
noncomputable abbrev F56.d (p : List Nat) : Code := Code.at F56.code p
abbrev F56.cw (W : Nat → Prop) (c : Code) (Q : Post) (QP : PPost) : KT := Go.Ab.aw Tryd.prog 17 W F56.pl c Q QP
def F56.t1 (Q : Post) (s : St) (h : AH) : Prop :=
  Q .ret s h
def F56.k1 (W : Nat → Prop) (Q : Post) (QP : PPost) (s : St) (h : AH) : Prop := F56.t1 Q s h
theorem F56.k1_a : F56.cw W (F56.d [1, 1]) (Q) QP s h = F56.t1 Q s h := by kernel_rfl
theorem F56.k1_ok : F56.cw W (F56.d [1, 1]) (Q) QP s h = F56.k1 W Q QP s h := (F56.k1_a W Q QP s h)
def F56.t2 (s : St) (h : AH) (C0 : KT) : Prop :=
  pPick (s.tm 10) (s.tm 15) (.sc (.bool false)) fun t1 =>
  C0 ⟨puts s.tm [(16, t1), (2, t1)], s.ds⟩ h
def F56.k2 (W : Nat → Prop) (Q : Post) (QP : PPost) (s : St) (h : AH) : Prop := F56.t2 s h (F56.k1 W Q QP)
theorem F56.k2_a (C0 : KT) : evI Tryd.prog 17 (fun _ => W) nobody QP (regOps (F56.d [1, 0])) (isAt F56.g1 4) ((thenQ (C0) (Q)) .normal) s h = F56.t2 s h C0 := by kernel_rfl
theorem F56.k2_ok : evG Tryd.prog 17 (fun _ => W) nobody QP (regOps (F56.d [1, 0])) (F56.g1.drop 4) ((thenQ (F56.k1 W Q QP) (Q)) .normal) s h = F56.k2 W Q QP s h := nd_g (is := isAt F56.g1 4) (rest := F56.g1.drop 5) (by kernel_rfl) (fun _ _ => rfl) (F56.k2_a W Q QP s h (F56.k1 W Q QP))
def F56.t3 (W : Nat → Prop) (QP : PPost) (s : St) (h : AH) (C0 : KT) : Prop :=
  aIg true (s.tm 10) (
  aCall Tryd.prog W 28 [(s.tm 0), (.sc (.int .i64 0)), (.fn (.func 31) [] [])] h (fun t2 h3 =>
  (strArg (s.tm 0) = true) ∧ pLen (s.tm 0) fun t4 =>
  pBin Tryd.prog .eql 3 false t2 t4 fun t5 =>
  C0 ⟨puts s.tm [(11, (s.tm 0)), (12, t2), (13, (s.tm 0)), (14, t4), (15, t5)], s.ds⟩ h3) (QP s.ds)) (
  C0 ⟨puts s.tm [(11, noA), (12, noA), (13, noA), (14, noA), (15, noA)], s.ds⟩ h)
def F56.k3 (W : Nat → Prop) (Q : Post) (QP : PPost) (s : St) (h : AH) : Prop := F56.t3 W QP s h (F56.k2 W Q QP)
theorem F56.k3_a (C0 : KT) : aIg true (s.tm 10) (evI Tryd.prog 17 (fun _ => W) nobody QP (regOps (F56.d [1, 0])) (isAt F56.g1 3) (C0) s h) ((C0) (skI 17 (regOps (F56.d [1, 0])) (isAt F56.g1 3) s) h) = F56.t3 W QP s h C0 := by kernel_rfl
theorem F56.k3_ok : evG Tryd.prog 17 (fun _ => W) nobody QP (regOps (F56.d [1, 0])) (F56.g1.drop 3) ((thenQ (F56.k1 W Q QP) (Q)) .normal) s h = F56.k3 W Q QP s h := nd_gw (j := 7) (is := isAt F56.g1 3) (rest := F56.g1.drop 4) (by kernel_rfl) (d := 10) (by kernel_rfl) (F56.k2_ok W Q QP) (F56.k3_a W QP s h (F56.k2 W Q QP))
def F56.t4 (s : St) (h : AH) (C0 : KT) : Prop :=
  pPick (s.tm 5) (s.tm 8) (.sc (.bool false)) fun t6 =>
  C0 ⟨puts s.tm [(9, t6), (10, t6)], s.ds⟩ h
def F56.k4 (W : Nat → Prop) (Q : Post) (QP : PPost) (s : St) (h : AH) : Prop := F56.t4 s h (F56.k3 W Q QP)
theorem F56.k4_a (C0 : KT) : evI Tryd.prog 17 (fun _ => W) nobody QP (regOps (F56.d [1, 0])) (isAt F56.g1 2) (C0) s h = F56.t4 s h C0 := by kernel_rfl
theorem F56.k4_ok : evG Tryd.prog 17 (fun _ => W) nobody QP (regOps (F56.d [1, 0])) (F56.g1.drop 2) ((thenQ (F56.k1 W Q QP) (Q)) .normal) s h = F56.k4 W Q QP s h := nd_g (is := isAt F56.g1 2) (rest := F56.g1.drop 3) (by kernel_rfl) (F56.k3_ok W Q QP) (F56.k4_a W QP s h (F56.k3 W Q QP))
def F56.t5 (W : Nat → Prop) (QP : PPost) (s : St) (h : AH) (C0 : KT) : Prop :=
  aIg true (s.tm 5) (
  pIxS true (s.tm 0) (.sc (.int .i64 0)) fun t7 =>
  aCall Tryd.prog W 30 [t7] h (fun t8 h9 =>
  C0 ⟨puts s.tm [(6, (s.tm 0)), (7, t7), (8, t8)], s.ds⟩ h9) (QP s.ds)) (
  C0 ⟨puts s.tm [(6, noA), (7, noA), (8, noA)], s.ds⟩ h)
def F56.k5 (W : Nat → Prop) (Q : Post) (QP : PPost) (s : St) (h : AH) : Prop := F56.t5 W QP s h (F56.k4 W Q QP)
theorem F56.k5_a (C0 : KT) : aIg true (s.tm 5) (evI Tryd.prog 17 (fun _ => W) nobody QP (regOps (F56.d [1, 0])) (isAt F56.g1 1) (C0) s h) ((C0) (skI 17 (regOps (F56.d [1, 0])) (isAt F56.g1 1) s) h) = F56.t5 W QP s h C0 := by kernel_rfl
theorem F56.k5_ok : evG Tryd.prog 17 (fun _ => W) nobody QP (regOps (F56.d [1, 0])) (F56.g1.drop 1) ((thenQ (F56.k1 W Q QP) (Q)) .normal) s h = F56.k5 W Q QP s h := nd_gw (j := 2) (is := isAt F56.g1 1) (rest := F56.g1.drop 2) (by kernel_rfl) (d := 5) (by kernel_rfl) (F56.k4_ok W Q QP) (F56.k5_a W QP s h (F56.k4 W Q QP))
def F56.t6 (s : St) (h : AH) (C0 : KT) : Prop :=
  pBin Tryd.prog .neq 9 true (s.tm 0) (.sc (.string ⟨#[]⟩)) fun t10 =>
  C0 ⟨puts s.tm [(3, (s.tm 0)), (4, t10), (5, t10)], s.ds⟩ h
def F56.k6 (W : Nat → Prop) (Q : Post) (QP : PPost) (s : St) (h : AH) : Prop := F56.t6 s h (F56.k5 W Q QP)
theorem F56.k6_a (C0 : KT) : evI Tryd.prog 17 (fun _ => W) nobody QP (regOps (F56.d [1, 0])) (isAt F56.g1 0) (C0) s h = F56.t6 s h C0 := by kernel_rfl
theorem F56.k6_ok : evG Tryd.prog 17 (fun _ => W) nobody QP (regOps (F56.d [1, 0])) (F56.g1.drop 0) ((thenQ (F56.k1 W Q QP) (Q)) .normal) s h = F56.k6 W Q QP s h := nd_g (is := isAt F56.g1 0) (rest := F56.g1.drop 1) (by kernel_rfl) (F56.k5_ok W Q QP) (F56.k6_a W QP s h (F56.k5 W Q QP))
theorem F56.o1 : F56.cw W (F56.d [1, 0]) (thenQ (F56.k1 W Q QP) (Q)) QP s h = F56.k6 W Q QP s h := nd_groups (id := 1) (draw := false) (ops := (regOps (F56.d [1, 0]))) (gs := F56.g1.drop 0) (by kernel_rfl) (by kernel_rfl) (F56.k6_ok W Q QP s h)
theorem F56.o2 : F56.cw W (F56.d [1]) (Q) QP s h = F56.k6 W Q QP s h := nd_seq (a := (F56.d [1, 0])) (b := (F56.d [1, 1])) (by kernel_rfl) (F56.k1_ok W Q QP) (F56.o1 W Q QP s h)
def F56.t7 (s : St) (h : AH) (C0 : KT) : Prop :=
  C0 ⟨puts s.tm [(2, (.sc (.bool false)))], s.ds⟩ h
def F56.k7 (W : Nat → Prop) (Q : Post) (QP : PPost) (s : St) (h : AH) : Prop := F56.t7 s h (F56.k6 W Q QP)
theorem F56.k7_a (C0 : KT) : F56.cw W (F56.d [0]) (thenQ (C0) (Q)) QP s h = F56.t7 s h C0 := by kernel_rfl
theorem F56.k7_ok : F56.cw W (F56.d []) (Q) QP s h = F56.k7 W Q QP s h := nd_seq (a := (F56.d [0])) (b := (F56.d [1])) (by kernel_rfl) (F56.o2 W Q QP) (F56.k7_a W Q QP s h (F56.k6 W Q QP))
end
set_option maxRecDepth 100000 in
theorem F56.calls {x0 : AV} {h : AH} {M : Nat → Prop} {R : AE → AH → Prop} (hp : F56.k7 (fun id => M id ∨ h.next ≤ id) (bodyQ Tryd.prog [.tmp 2] R) (bodyP R) (s0 [x0]) h) : ACalls Tryd.prog 56 [x0] h M R :=
  acalls_of (c := F56.code) Tryd.mixed Tryd.func56 (by kernel_rfl) (Nat.le_of_ble_eq_true rfl) F56.ok (by rw [show Tryd.f56.ntmps = 17 from rfl, show Tryd.f56.results.toList = [.tmp 2] from rfl]; exact Eq.mpr (F56.k7_ok _ _ _ _ _) hp)
attribute [simp] F56.k1 F56.t1 F56.k2 F56.t2 F56.k3 F56.t3 F56.k4 F56.t4 F56.k5 F56.t5 F56.k6 F56.t6 F56.k7 F56.t7
end Go.Proofs.YthkkgbmjjpcfaaaDoor

namespace Go.Proofs.YthkkgbmjjpcfaaaDoor
open Go.Ab
section
variable (W : Nat → Prop) (QR QN : VK) (QE : Nat → VK) (QP : AV → AH → Prop) (s : St) (h : AH)
noncomputable def F8.code : Code := Tryd.f8.body.getD .skip
def F8.pl : Plans := []
theorem F8.ok : okCode Tryd.prog F8.pl F8.code = true := by kernel_rfl
noncomputable abbrev F8.d (p : List Nat) : Code := Code.at F8.code p
abbrev F8.cw (W : Nat → Prop) (c : Code) (q : Post) (QP : AV → AH → Prop) : KT := Go.Ab.aw Tryd.prog 18 W F8.pl c q (kP QP)
def F8.el0 (_ : Nat) (_ : Nat → AV) : List AV := []
def F8.q0 (QR QN : VK) (QE : Nat → VK) : Post := fun x s h => match x with | .normal => QN [s.tm 2, s.tm 3] h | .ret => QR [s.tm 2, s.tm 3] h | .exit j => QE j (F8.el0 j s.tm) h | .goto _ => False
def F8.n1 (_ : WK) (QR _ : VK) (_ : EK) (_ : PK) (x4 : AV) (h : AH) : Prop :=
QR [x4, (.sc (.int .i64 0))] h
def F8.f1 : KT := fun s h => F8.n1 W QR QN QE QP (s.tm 4) h
theorem F8.e1 : F8.cw W (F8.d [1, 1, 1, 1]) (F8.q0 QR QN QE) QP s h = F8.f1 W QR QN QE QP s h := nd_seq (a := (F8.d [1, 1, 1, 1, 0])) (b := (F8.d [1, 1, 1, 1, 1])) (by kernel_rfl) (fun _ _ => rfl) (by kernel_rfl)
def F8.n2 (_ : WK) (QR _ : VK) (_ : EK) (_ : PK) (h : AH) : Prop :=
QR [(.sc (.string ⟨#[]⟩)), (.sc (.int .i64 1))] h
def F8.f2 : KT := fun _ h => F8.n2 W QR QN QE QP h
theorem F8.e2 : F8.cw W (F8.d [1, 1, 1, 0, 1, 0]) (thenQ (F8.f1 W QR QN QE QP) (F8.q0 QR QN QE)) QP s h = F8.f2 W QR QN QE QP s h := nd_seq (a := (F8.d [1, 1, 1, 0, 1, 0, 0])) (b := (F8.d [1, 1, 1, 0, 1, 0, 1])) (by kernel_rfl) (fun _ _ => rfl) (by kernel_rfl)
def F8.n3 (W : WK) (QR QN : VK) (QE : EK) (QP : PK) (x4 x16 : AV) (h : AH) : Prop :=
aIf x16 (
F8.n2 W QR QN QE QP h) (
F8.n1 W QR QN QE QP x4 h)
def F8.f3 : KT := fun s h => F8.n3 W QR QN QE QP (s.tm 4) (s.tm 16) h
theorem F8.e3 : F8.cw W (F8.d [1, 1, 1, 0, 1]) (thenQ (F8.f1 W QR QN QE QP) (F8.q0 QR QN QE)) QP s h = F8.f3 W QR QN QE QP s h := nd_cond (o := (.tmp 16)) (a := (F8.d [1, 1, 1, 0, 1, 0])) (b := (F8.d [1, 1, 1, 0, 1, 1])) (by kernel_rfl) (F8.e2 W QR QN QE QP s h) rfl (by kernel_rfl)
def F8.n4 (W : WK) (QR QN : VK) (QE : EK) (QP : PK) (x4 : AV) (h : AH) : Prop :=
(strArg x4 = true) ∧ pLen x4 fun t1 =>
pBin Tryd.prog .gtr 3 true t1 (.sc (.int .i64 65536)) fun t2 =>
F8.n3 W QR QN QE QP x4 t2 h
def F8.f4 : KT := fun s h => F8.n4 W QR QN QE QP (s.tm 4) h
theorem F8.e4 : F8.cw W (F8.d [1, 1, 1, 0]) (thenQ (F8.f1 W QR QN QE QP) (F8.q0 QR QN QE)) QP s h = F8.f4 W QR QN QE QP s h := nd_seq (a := (F8.d [1, 1, 1, 0, 0])) (b := (F8.d [1, 1, 1, 0, 1])) (by kernel_rfl) (F8.e3 W QR QN QE QP) (by kernel_rfl)
theorem F8.o1 : F8.cw W (F8.d [1, 1, 1]) (F8.q0 QR QN QE) QP s h = F8.f4 W QR QN QE QP s h := nd_seq (a := (F8.d [1, 1, 1, 0])) (b := (F8.d [1, 1, 1, 1])) (by kernel_rfl) (F8.e1 W QR QN QE QP) (F8.e4 W QR QN QE QP s h)
def F8.n5 (W : WK) (QR QN : VK) (QE : EK) (QP : PK) (x0 : AV) (h : AH) : Prop :=
(strArg x0 = false) ∧ pLen x0 fun t3 =>
aCall Tryd.prog W 14 [x0, (.sc (.int .i64 0)), t3, (.sc (.string ⟨#[]⟩))] h (fun t4 h5 =>
F8.n4 W QR QN QE QP t4 h5) QP
def F8.f5 : KT := fun s h => F8.n5 W QR QN QE QP (s.tm 0) h
theorem F8.e5 : F8.cw W (F8.d [1, 1]) (F8.q0 QR QN QE) QP s h = F8.f5 W QR QN QE QP s h := nd_seq (a := (F8.d [1, 1, 0])) (b := (F8.d [1, 1, 1])) (by kernel_rfl) (F8.o1 W QR QN QE QP) (by kernel_rfl)
def F8.n6 (_ : WK) (QR _ : VK) (_ : EK) (_ : PK) (h : AH) : Prop :=
QR [(.sc (.string ⟨#[]⟩)), (.sc (.int .i64 100))] h
def F8.f6 : KT := fun _ h => F8.n6 W QR QN QE QP h
theorem F8.e6 : F8.cw W (F8.d [1, 0, 1, 0]) (thenQ (F8.f5 W QR QN QE QP) (F8.q0 QR QN QE)) QP s h = F8.f6 W QR QN QE QP s h := nd_seq (a := (F8.d [1, 0, 1, 0, 0])) (b := (F8.d [1, 0, 1, 0, 1])) (by kernel_rfl) (fun _ _ => rfl) (by kernel_rfl)
def F8.n7 (W : WK) (QR QN : VK) (QE : EK) (QP : PK) (x0 x9 : AV) (h : AH) : Prop :=
aIf x9 (
F8.n6 W QR QN QE QP h) (
F8.n5 W QR QN QE QP x0 h)
def F8.f7 : KT := fun s h => F8.n7 W QR QN QE QP (s.tm 0) (s.tm 9) h
theorem F8.e7 : F8.cw W (F8.d [1, 0, 1]) (thenQ (F8.f5 W QR QN QE QP) (F8.q0 QR QN QE)) QP s h = F8.f7 W QR QN QE QP s h := nd_cond (o := (.tmp 9)) (a := (F8.d [1, 0, 1, 0])) (b := (F8.d [1, 0, 1, 1])) (by kernel_rfl) (F8.e6 W QR QN QE QP s h) rfl (by kernel_rfl)
def F8.n8 (W : WK) (QR QN : VK) (QE : EK) (QP : PK) (x0 : AV) (h : AH) : Prop :=
(strArg x0 = false) ∧ pLen x0 fun t6 =>
aCall Tryd.prog W 13 [x0, (.sc (.int .i64 0)), t6, (.sc (.int .i64 0))] h (fun t7 h8 =>
pUn .not t7 fun t9 =>
F8.n7 W QR QN QE QP x0 t9 h8) QP
def F8.f8 : KT := fun s h => F8.n8 W QR QN QE QP (s.tm 0) h
theorem F8.e8 : F8.cw W (F8.d [1, 0]) (thenQ (F8.f5 W QR QN QE QP) (F8.q0 QR QN QE)) QP s h = F8.f8 W QR QN QE QP s h := nd_seq (a := (F8.d [1, 0, 0])) (b := (F8.d [1, 0, 1])) (by kernel_rfl) (F8.e7 W QR QN QE QP) (by kernel_rfl)
theorem F8.o2 : F8.cw W (F8.d [1]) (F8.q0 QR QN QE) QP s h = F8.f8 W QR QN QE QP s h := nd_seq (a := (F8.d [1, 0])) (b := (F8.d [1, 1])) (by kernel_rfl) (F8.e5 W QR QN QE QP) (F8.e8 W QR QN QE QP s h)
def F8.n9 (W : WK) (QR QN : VK) (QE : EK) (QP : PK) (x0 : AV) (h : AH) : Prop :=
F8.n8 W QR QN QE QP x0 h
def F8.f9 : KT := fun s h => F8.n9 W QR QN QE QP (s.tm 0) h
theorem F8.e9 : F8.cw W (F8.d []) (F8.q0 QR QN QE) QP s h = F8.f9 W QR QN QE QP s h := nd_seq (a := (F8.d [0])) (b := (F8.d [1])) (by kernel_rfl) (F8.o2 W QR QN QE QP) (by kernel_rfl)
end
set_option maxRecDepth 100000 in
theorem F8.callsN {x0 : AV} {h : AH} {M : Nat → Prop} {R : AE → AH → Prop} (hp : F8.n9 (fun id => M id ∨ h.next ≤ id) (retV Tryd.prog [.tmp 2, .tmp 3] R) (retV Tryd.prog [.tmp 2, .tmp 3] R) (fun _ _ _ => False) (fun v h => R (.pan v) h) x0 h) : ACalls Tryd.prog 8 [x0] h M R :=
  acalls_of (c := F8.code) Tryd.mixed Tryd.func8 (by kernel_rfl) (Nat.le_of_ble_eq_true rfl) F8.ok (by rw [show Tryd.f8.ntmps = 18 from rfl, show Tryd.f8.results.toList = [.tmp 2, .tmp 3] from rfl]; exact body_D (q := F8.q0 (retV Tryd.prog [.tmp 2, .tmp 3] R) (retV Tryd.prog [.tmp 2, .tmp 3] R) (fun _ _ _ => False)) (by kernel_rfl) (fun _ _ => rfl) (fun _ _ => rfl) (fun _ _ _ h => h) (fun _ _ _ h => h) rfl (Eq.mpr (F8.e9 (fun id => M id ∨ h.next ≤ id) (retV Tryd.prog [.tmp 2, .tmp 3] R) (retV Tryd.prog [.tmp 2, .tmp 3] R) (fun _ _ _ => False) (fun v h => R (.pan v) h) (s0 [x0]) h) hp))
attribute [simp] F8.n1 F8.n2 F8.n3 F8.n4 F8.n5 F8.n6 F8.n7 F8.n8 F8.n9

section
variable (W : Nat → Prop) (QR QN : VK) (QE : Nat → VK) (QP : AV → AH → Prop) (s : St) (h : AH)
noncomputable def F13.code : Code := Tryd.f13.body.getD .skip
def F13.g1 : Grps := [(none, [(0, false), (1, false), (2, false), (3, false)]), (some (3, false), [(4, false), (5, false), (6, false)]), (none, [(7, false), (8, false)]), (some (8, false), [(9, false), (10, false), (11, false)]), (none, [(12, false), (13, false)]), (some (13, true), [(14, false), (15, false), (16, false)]), (none, [(17, false)])]
def F13.g2 : Grps := [(none, [(0, false), (1, false), (2, false), (3, false)]), (some (3, false), [(4, false), (5, false), (6, false), (7, false), (8, false), (9, false), (10, false)]), (none, [(11, false), (12, false)]), (some (12, false), [(13, false), (14, false), (15, false), (16, false), (17, false), (18, false), (19, false), (20, false), (21, false), (22, false), (23, false), (24, false)]), (none, [(25, false)])]
def F13.g3 : Grps := [(none, [(0, false), (1, false), (2, false), (3, false)]), (some (3, true), [(4, false), (5, false)]), (none, [(6, false)])]
def F13.pl : Plans := [(1, ⟨F13.g3, false, [], []⟩), (7, ⟨F13.g2, false, [], []⟩), (9, ⟨F13.g1, false, [], []⟩)]
theorem F13.ok : okCode Tryd.prog F13.pl F13.code = true := by kernel_rfl
noncomputable abbrev F13.d (p : List Nat) : Code := Code.at F13.code p
abbrev F13.cw (W : Nat → Prop) (c : Code) (q : Post) (QP : AV → AH → Prop) : KT := Go.Ab.aw Tryd.prog 76 W F13.pl c q (kP QP)
def F13.el0 (_ : Nat) (_ : Nat → AV) : List AV := []
def F13.q0 (QR QN : VK) (QE : Nat → VK) : Post := fun x s h => match x with | .normal => QN [s.tm 8] h | .ret => QR [s.tm 8] h | .exit j => QE j (F13.el0 j s.tm) h | .goto _ => False
def F13.n1 (_ : WK) (QR _ : VK) (_ : EK) (_ : PK) (h : AH) : Prop :=
QR [(.sc (.bool true))] h
def F13.f1 : KT := fun _ h => F13.n1 W QR QN QE QP h
theorem F13.e1 : F13.cw W (F13.d [1, 1, 1]) (F13.q0 QR QN QE) QP s h = F13.f1 W QR QN QE QP s h := nd_seq (a := (F13.d [1, 1, 1, 0])) (b := (F13.d [1, 1, 1, 1])) (by kernel_rfl) (fun _ _ => rfl) (by kernel_rfl)
def F13.el1 (j : Nat) (_ : Nat → AV) : List AV := if j = 0 then [] else []
def F13.q1 (QR QN : VK) (QE : Nat → VK) : Post := fun x s h => match x with | .normal => QN [s.tm 0, s.tm 2, s.tm 3, s.tm 9] h | .ret => QR [s.tm 8] h | .exit j => QE j (F13.el1 j s.tm) h | .goto _ => False
def F13.n2 (_ : WK) (_ QN : VK) (_ : EK) (_ : PK) (x0 x2 x3 x9 : AV) (h : AH) : Prop :=
pBin Tryd.prog .add 3 true x9 (.sc (.int .i64 1)) fun t1 =>
QN [x0, x2, x3, t1] h
def F13.f2 : KT := fun s h => F13.n2 W QR QN QE QP (s.tm 0) (s.tm 2) (s.tm 3) (s.tm 9) h
theorem F13.e2 : F13.cw W (F13.d [1, 1, 0, 1, 0, 0, 1, 1]) (F13.q1 QR QN QE) QP s h = F13.f2 W QR QN QE QP s h := by kernel_rfl
def F13.n3 (W : WK) (QR QN : VK) (QE : EK) (QP : PK) (x0 x2 x3 x9 x10 : AV) (h : AH) : Prop :=
pFld (some 4) x10 fun t2 =>
lLd (some false) (some 1) t2 h fun t3 _ =>
pBin Tryd.prog .add 3 false x9 t3 fun t5 =>
F13.n2 W QR QN QE QP x0 x2 x3 t5 h
def F13.f3 : KT := fun s h => F13.n3 W QR QN QE QP (s.tm 0) (s.tm 2) (s.tm 3) (s.tm 9) (s.tm 10) h
theorem F13.e3 : F13.cw W (F13.d [1, 1, 0, 1, 0, 0, 1, 0, 0, 1, 1, 1]) (blockQ 1 (thenQ (F13.f2 W QR QN QE QP) (F13.q1 QR QN QE))) QP s h = F13.f3 W QR QN QE QP s h := by kernel_rfl
def F13.n4 (_ : WK) (QR _ : VK) (_ : EK) (_ : PK) (h : AH) : Prop :=
QR [(.sc (.bool false))] h
def F13.f4 : KT := fun _ h => F13.n4 W QR QN QE QP h
theorem F13.e4 : F13.cw W (F13.d [1, 1, 0, 1, 0, 0, 1, 0, 0, 1, 1, 0, 1, 0]) (thenQ (F13.f3 W QR QN QE QP) (blockQ 1 (thenQ (F13.f2 W QR QN QE QP) (F13.q1 QR QN QE)))) QP s h = F13.f4 W QR QN QE QP s h := nd_seq (a := (F13.d [1, 1, 0, 1, 0, 0, 1, 0, 0, 1, 1, 0, 1, 0, 0])) (b := (F13.d [1, 1, 0, 1, 0, 0, 1, 0, 0, 1, 1, 0, 1, 0, 1])) (by kernel_rfl) (fun _ _ => rfl) (by kernel_rfl)
def F13.n5 (W : WK) (QR QN : VK) (QE : EK) (QP : PK) (x0 x2 x3 x9 x10 x71 : AV) (h : AH) : Prop :=
aIf x71 (
F13.n4 W QR QN QE QP h) (
F13.n3 W QR QN QE QP x0 x2 x3 x9 x10 h)
def F13.f5 : KT := fun s h => F13.n5 W QR QN QE QP (s.tm 0) (s.tm 2) (s.tm 3) (s.tm 9) (s.tm 10) (s.tm 71) h
theorem F13.e5 : F13.cw W (F13.d [1, 1, 0, 1, 0, 0, 1, 0, 0, 1, 1, 0, 1]) (thenQ (F13.f3 W QR QN QE QP) (blockQ 1 (thenQ (F13.f2 W QR QN QE QP) (F13.q1 QR QN QE)))) QP s h = F13.f5 W QR QN QE QP s h := nd_cond (o := (.tmp 71)) (a := (F13.d [1, 1, 0, 1, 0, 0, 1, 0, 0, 1, 1, 0, 1, 0])) (b := (F13.d [1, 1, 0, 1, 0, 0, 1, 0, 0, 1, 1, 0, 1, 1])) (by kernel_rfl) (F13.e4 W QR QN QE QP s h) rfl (by kernel_rfl)
def F13.n6 (W : WK) (QR QN : VK) (QE : EK) (QP : PK) (x0 x2 x3 x9 x10 x67 x70 : AV) (h : AH) : Prop :=
pPick x67 x70 (.sc (.bool false)) fun t6 =>
F13.n5 W QR QN QE QP x0 x2 x3 x9 x10 t6 h
def F13.f6 : KT := fun s h => F13.n6 W QR QN QE QP (s.tm 0) (s.tm 2) (s.tm 3) (s.tm 9) (s.tm 10) (s.tm 67) (s.tm 70) h
theorem F13.e6 : evG Tryd.prog 76 (fun _ => W) nobody (kP QP) (regOps (F13.d [1, 1, 0, 1, 0, 0, 1, 0, 0, 1, 1, 0, 0])) (F13.g1.drop 6) ((thenQ (F13.f5 W QR QN QE QP) (thenQ (F13.f3 W QR QN QE QP) (blockQ 1 (thenQ (F13.f2 W QR QN QE QP) (F13.q1 QR QN QE))))) .normal) s h = F13.f6 W QR QN QE QP s h := nd_g (is := isAt F13.g1 6) (rest := F13.g1.drop 7) (by kernel_rfl) (fun _ _ => rfl) (by kernel_rfl)
def F13.n7 (W : WK) (QR QN : VK) (QE : EK) (QP : PK) (x0 x2 x3 x9 x10 x67 : AV) (h : AH) : Prop :=
aIg true x67 (
pBin Tryd.prog .add 3 true x3 (.sc (.int .i64 1)) fun t7 =>
pBin Tryd.prog .gtr 3 true t7 (.sc (.int .i64 32)) fun t8 =>
F13.n6 W QR QN QE QP x0 x2 x3 x9 x10 x67 t8 h) (
F13.n6 W QR QN QE QP x0 x2 x3 x9 x10 x67 noA h)
def F13.f7 : KT := fun s h => F13.n7 W QR QN QE QP (s.tm 0) (s.tm 2) (s.tm 3) (s.tm 9) (s.tm 10) (s.tm 67) h
theorem F13.e7 : evG Tryd.prog 76 (fun _ => W) nobody (kP QP) (regOps (F13.d [1, 1, 0, 1, 0, 0, 1, 0, 0, 1, 1, 0, 0])) (F13.g1.drop 5) ((thenQ (F13.f5 W QR QN QE QP) (thenQ (F13.f3 W QR QN QE QP) (blockQ 1 (thenQ (F13.f2 W QR QN QE QP) (F13.q1 QR QN QE))))) .normal) s h = F13.f7 W QR QN QE QP s h := nd_gw (want := true) (j := 13) (is := isAt F13.g1 5) (rest := F13.g1.drop 6) (by kernel_rfl) (d := 67) (by kernel_rfl) (F13.e6 W QR QN QE QP) (by kernel_rfl)
def F13.n8 (W : WK) (QR QN : VK) (QE : EK) (QP : PK) (x0 x2 x3 x9 x10 x62 x65 : AV) (h : AH) : Prop :=
pPick x62 (.sc (.bool true)) x65 fun t9 =>
F13.n7 W QR QN QE QP x0 x2 x3 x9 x10 t9 h
def F13.f8 : KT := fun s h => F13.n8 W QR QN QE QP (s.tm 0) (s.tm 2) (s.tm 3) (s.tm 9) (s.tm 10) (s.tm 62) (s.tm 65) h
theorem F13.e8 : evG Tryd.prog 76 (fun _ => W) nobody (kP QP) (regOps (F13.d [1, 1, 0, 1, 0, 0, 1, 0, 0, 1, 1, 0, 0])) (F13.g1.drop 4) ((thenQ (F13.f5 W QR QN QE QP) (thenQ (F13.f3 W QR QN QE QP) (blockQ 1 (thenQ (F13.f2 W QR QN QE QP) (F13.q1 QR QN QE))))) .normal) s h = F13.f8 W QR QN QE QP s h := nd_g (is := isAt F13.g1 4) (rest := F13.g1.drop 5) (by kernel_rfl) (F13.e7 W QR QN QE QP) (by kernel_rfl)
def F13.n9 (W : WK) (QR QN : VK) (QE : EK) (QP : PK) (x0 x2 x3 x9 x10 x62 : AV) (h : AH) : Prop :=
aIg false x62 (
pFld (some 0) x10 fun t10 =>
lLd (some false) (some 1) t10 h fun t11 _ =>
pBin Tryd.prog .eql 9 true t11 (.sc (.string ⟨#[105, 102]⟩)) fun t13 =>
F13.n8 W QR QN QE QP x0 x2 x3 x9 x10 x62 t13 h) (
F13.n8 W QR QN QE QP x0 x2 x3 x9 x10 x62 noA h)
def F13.f9 : KT := fun s h => F13.n9 W QR QN QE QP (s.tm 0) (s.tm 2) (s.tm 3) (s.tm 9) (s.tm 10) (s.tm 62) h
theorem F13.e9 : evG Tryd.prog 76 (fun _ => W) nobody (kP QP) (regOps (F13.d [1, 1, 0, 1, 0, 0, 1, 0, 0, 1, 1, 0, 0])) (F13.g1.drop 3) ((thenQ (F13.f5 W QR QN QE QP) (thenQ (F13.f3 W QR QN QE QP) (blockQ 1 (thenQ (F13.f2 W QR QN QE QP) (F13.q1 QR QN QE))))) .normal) s h = F13.f9 W QR QN QE QP s h := nd_gw (want := false) (j := 8) (is := isAt F13.g1 3) (rest := F13.g1.drop 4) (by kernel_rfl) (d := 62) (by kernel_rfl) (F13.e8 W QR QN QE QP) (by kernel_rfl)
def F13.n10 (W : WK) (QR QN : VK) (QE : EK) (QP : PK) (x0 x2 x3 x9 x10 x57 x60 : AV) (h : AH) : Prop :=
pPick x57 (.sc (.bool true)) x60 fun t14 =>
F13.n9 W QR QN QE QP x0 x2 x3 x9 x10 t14 h
def F13.f10 : KT := fun s h => F13.n10 W QR QN QE QP (s.tm 0) (s.tm 2) (s.tm 3) (s.tm 9) (s.tm 10) (s.tm 57) (s.tm 60) h
theorem F13.e10 : evG Tryd.prog 76 (fun _ => W) nobody (kP QP) (regOps (F13.d [1, 1, 0, 1, 0, 0, 1, 0, 0, 1, 1, 0, 0])) (F13.g1.drop 2) ((thenQ (F13.f5 W QR QN QE QP) (thenQ (F13.f3 W QR QN QE QP) (blockQ 1 (thenQ (F13.f2 W QR QN QE QP) (F13.q1 QR QN QE))))) .normal) s h = F13.f10 W QR QN QE QP s h := nd_g (is := isAt F13.g1 2) (rest := F13.g1.drop 3) (by kernel_rfl) (F13.e9 W QR QN QE QP) (by kernel_rfl)
def F13.n11 (W : WK) (QR QN : VK) (QE : EK) (QP : PK) (x0 x2 x3 x9 x10 x57 : AV) (h : AH) : Prop :=
aIg false x57 (
pFld (some 0) x10 fun t15 =>
lLd (some false) (some 1) t15 h fun t16 _ =>
pBin Tryd.prog .eql 9 true t16 (.sc (.string ⟨#[114, 101, 112, 101, 97, 116]⟩)) fun t18 =>
F13.n10 W QR QN QE QP x0 x2 x3 x9 x10 x57 t18 h) (
F13.n10 W QR QN QE QP x0 x2 x3 x9 x10 x57 noA h)
def F13.f11 : KT := fun s h => F13.n11 W QR QN QE QP (s.tm 0) (s.tm 2) (s.tm 3) (s.tm 9) (s.tm 10) (s.tm 57) h
theorem F13.e11 : evG Tryd.prog 76 (fun _ => W) nobody (kP QP) (regOps (F13.d [1, 1, 0, 1, 0, 0, 1, 0, 0, 1, 1, 0, 0])) (F13.g1.drop 1) ((thenQ (F13.f5 W QR QN QE QP) (thenQ (F13.f3 W QR QN QE QP) (blockQ 1 (thenQ (F13.f2 W QR QN QE QP) (F13.q1 QR QN QE))))) .normal) s h = F13.f11 W QR QN QE QP s h := nd_gw (want := false) (j := 3) (is := isAt F13.g1 1) (rest := F13.g1.drop 2) (by kernel_rfl) (d := 57) (by kernel_rfl) (F13.e10 W QR QN QE QP) (by kernel_rfl)
def F13.n12 (W : WK) (QR QN : VK) (QE : EK) (QP : PK) (x0 x2 x3 x9 x10 : AV) (h : AH) : Prop :=
pFld (some 0) x10 fun t19 =>
lLd (some false) (some 1) t19 h fun t20 _ =>
pBin Tryd.prog .eql 9 true t20 (.sc (.string ⟨#[103, 97, 116, 101]⟩)) fun t22 =>
F13.n11 W QR QN QE QP x0 x2 x3 x9 x10 t22 h
def F13.f12 : KT := fun s h => F13.n12 W QR QN QE QP (s.tm 0) (s.tm 2) (s.tm 3) (s.tm 9) (s.tm 10) h
theorem F13.e12 : evG Tryd.prog 76 (fun _ => W) nobody (kP QP) (regOps (F13.d [1, 1, 0, 1, 0, 0, 1, 0, 0, 1, 1, 0, 0])) (F13.g1.drop 0) ((thenQ (F13.f5 W QR QN QE QP) (thenQ (F13.f3 W QR QN QE QP) (blockQ 1 (thenQ (F13.f2 W QR QN QE QP) (F13.q1 QR QN QE))))) .normal) s h = F13.f12 W QR QN QE QP s h := nd_g (is := isAt F13.g1 0) (rest := F13.g1.drop 1) (by kernel_rfl) (F13.e11 W QR QN QE QP) (by kernel_rfl)
theorem F13.o1 : F13.cw W (F13.d [1, 1, 0, 1, 0, 0, 1, 0, 0, 1, 1, 0, 0]) (thenQ (F13.f5 W QR QN QE QP) (thenQ (F13.f3 W QR QN QE QP) (blockQ 1 (thenQ (F13.f2 W QR QN QE QP) (F13.q1 QR QN QE))))) QP s h = F13.f12 W QR QN QE QP s h := nd_groups (id := 9) (draw := false) (ops := (regOps (F13.d [1, 1, 0, 1, 0, 0, 1, 0, 0, 1, 1, 0, 0]))) (gs := F13.g1.drop 0) (by kernel_rfl) (by kernel_rfl) (F13.e12 W QR QN QE QP s h)
theorem F13.o2 : F13.cw W (F13.d [1, 1, 0, 1, 0, 0, 1, 0, 0, 1, 1, 0]) (thenQ (F13.f3 W QR QN QE QP) (blockQ 1 (thenQ (F13.f2 W QR QN QE QP) (F13.q1 QR QN QE)))) QP s h = F13.f12 W QR QN QE QP s h := nd_seq (a := (F13.d [1, 1, 0, 1, 0, 0, 1, 0, 0, 1, 1, 0, 0])) (b := (F13.d [1, 1, 0, 1, 0, 0, 1, 0, 0, 1, 1, 0, 1])) (by kernel_rfl) (F13.e5 W QR QN QE QP) (F13.o1 W QR QN QE QP s h)
theorem F13.o3 : F13.cw W (F13.d [1, 1, 0, 1, 0, 0, 1, 0, 0, 1, 1]) (blockQ 1 (thenQ (F13.f2 W QR QN QE QP) (F13.q1 QR QN QE))) QP s h = F13.f12 W QR QN QE QP s h := nd_seq (a := (F13.d [1, 1, 0, 1, 0, 0, 1, 0, 0, 1, 1, 0])) (b := (F13.d [1, 1, 0, 1, 0, 0, 1, 0, 0, 1, 1, 1])) (by kernel_rfl) (F13.e3 W QR QN QE QP) (F13.o2 W QR QN QE QP s h)
def F13.n13 (_ : WK) (QR _ : VK) (_ : EK) (_ : PK) (h : AH) : Prop :=
QR [(.sc (.bool false))] h
def F13.f13 : KT := fun _ h => F13.n13 W QR QN QE QP h
theorem F13.e13 : F13.cw W (F13.d [1, 1, 0, 1, 0, 0, 1, 0, 0, 1, 0, 1, 0]) (thenQ (F13.f12 W QR QN QE QP) (blockQ 1 (thenQ (F13.f2 W QR QN QE QP) (F13.q1 QR QN QE)))) QP s h = F13.f13 W QR QN QE QP s h := nd_seq (a := (F13.d [1, 1, 0, 1, 0, 0, 1, 0, 0, 1, 0, 1, 0, 0])) (b := (F13.d [1, 1, 0, 1, 0, 0, 1, 0, 0, 1, 0, 1, 0, 1])) (by kernel_rfl) (fun _ _ => rfl) (by kernel_rfl)
def F13.n14 (W : WK) (QR QN : VK) (QE : EK) (QP : PK) (x0 x2 x3 x9 x10 x53 : AV) (h : AH) : Prop :=
aIf x53 (
F13.n13 W QR QN QE QP h) (
F13.n12 W QR QN QE QP x0 x2 x3 x9 x10 h)
def F13.f14 : KT := fun s h => F13.n14 W QR QN QE QP (s.tm 0) (s.tm 2) (s.tm 3) (s.tm 9) (s.tm 10) (s.tm 53) h
theorem F13.e14 : F13.cw W (F13.d [1, 1, 0, 1, 0, 0, 1, 0, 0, 1, 0, 1]) (thenQ (F13.f12 W QR QN QE QP) (blockQ 1 (thenQ (F13.f2 W QR QN QE QP) (F13.q1 QR QN QE)))) QP s h = F13.f14 W QR QN QE QP s h := nd_cond (o := (.tmp 53)) (a := (F13.d [1, 1, 0, 1, 0, 0, 1, 0, 0, 1, 0, 1, 0])) (b := (F13.d [1, 1, 0, 1, 0, 0, 1, 0, 0, 1, 0, 1, 1])) (by kernel_rfl) (F13.e13 W QR QN QE QP s h) rfl (by kernel_rfl)
def F13.n15 (W : WK) (QR QN : VK) (QE : EK) (QP : PK) (x0 x2 x3 x9 x10 x40 x52 : AV) (h : AH) : Prop :=
pPick x40 (.sc (.bool true)) x52 fun t23 =>
F13.n14 W QR QN QE QP x0 x2 x3 x9 x10 t23 h
def F13.f15 : KT := fun s h => F13.n15 W QR QN QE QP (s.tm 0) (s.tm 2) (s.tm 3) (s.tm 9) (s.tm 10) (s.tm 40) (s.tm 52) h
theorem F13.e15 : evG Tryd.prog 76 (fun _ => W) nobody (kP QP) (regOps (F13.d [1, 1, 0, 1, 0, 0, 1, 0, 0, 1, 0, 0])) (F13.g2.drop 4) ((thenQ (F13.f14 W QR QN QE QP) (thenQ (F13.f12 W QR QN QE QP) (blockQ 1 (thenQ (F13.f2 W QR QN QE QP) (F13.q1 QR QN QE))))) .normal) s h = F13.f15 W QR QN QE QP s h := nd_g (is := isAt F13.g2 4) (rest := F13.g2.drop 5) (by kernel_rfl) (fun _ _ => rfl) (by kernel_rfl)
def F13.n16 (W : WK) (QR QN : VK) (QE : EK) (QP : PK) (x0 x2 x3 x9 x10 x40 : AV) (h : AH) : Prop :=
aIg false x40 (
pBin Tryd.prog .add 3 true x9 (.sc (.int .i64 1)) fun t24 =>
pBin Tryd.prog .add 3 true x9 (.sc (.int .i64 1)) fun t25 =>
pFld (some 4) x10 fun t26 =>
lLd (some false) (some 1) t26 h fun t27 _ =>
pBin Tryd.prog .add 3 false t25 t27 fun t29 =>
pBin Tryd.prog .add 3 true x3 (.sc (.int .i64 1)) fun t30 =>
aCall Tryd.prog W 13 [x0, t24, t29, t30] h (fun t31 h32 =>
pUn .not t31 fun t33 =>
F13.n15 W QR QN QE QP x0 x2 x3 x9 x10 x40 t33 h32) QP) (
F13.n15 W QR QN QE QP x0 x2 x3 x9 x10 x40 noA h)
def F13.f16 : KT := fun s h => F13.n16 W QR QN QE QP (s.tm 0) (s.tm 2) (s.tm 3) (s.tm 9) (s.tm 10) (s.tm 40) h
theorem F13.e16 : evG Tryd.prog 76 (fun _ => W) nobody (kP QP) (regOps (F13.d [1, 1, 0, 1, 0, 0, 1, 0, 0, 1, 0, 0])) (F13.g2.drop 3) ((thenQ (F13.f14 W QR QN QE QP) (thenQ (F13.f12 W QR QN QE QP) (blockQ 1 (thenQ (F13.f2 W QR QN QE QP) (F13.q1 QR QN QE))))) .normal) s h = F13.f16 W QR QN QE QP s h := nd_gw (want := false) (j := 12) (is := isAt F13.g2 3) (rest := F13.g2.drop 4) (by kernel_rfl) (d := 40) (by kernel_rfl) (F13.e15 W QR QN QE QP) (by kernel_rfl)
def F13.n17 (W : WK) (QR QN : VK) (QE : EK) (QP : PK) (x0 x2 x3 x9 x10 x31 x38 : AV) (h : AH) : Prop :=
pPick x31 (.sc (.bool true)) x38 fun t34 =>
F13.n16 W QR QN QE QP x0 x2 x3 x9 x10 t34 h
def F13.f17 : KT := fun s h => F13.n17 W QR QN QE QP (s.tm 0) (s.tm 2) (s.tm 3) (s.tm 9) (s.tm 10) (s.tm 31) (s.tm 38) h
theorem F13.e17 : evG Tryd.prog 76 (fun _ => W) nobody (kP QP) (regOps (F13.d [1, 1, 0, 1, 0, 0, 1, 0, 0, 1, 0, 0])) (F13.g2.drop 2) ((thenQ (F13.f14 W QR QN QE QP) (thenQ (F13.f12 W QR QN QE QP) (blockQ 1 (thenQ (F13.f2 W QR QN QE QP) (F13.q1 QR QN QE))))) .normal) s h = F13.f17 W QR QN QE QP s h := nd_g (is := isAt F13.g2 2) (rest := F13.g2.drop 3) (by kernel_rfl) (F13.e16 W QR QN QE QP) (by kernel_rfl)
def F13.n18 (W : WK) (QR QN : VK) (QE : EK) (QP : PK) (x0 x2 x3 x9 x10 x31 : AV) (h : AH) : Prop :=
aIg false x31 (
pFld (some 4) x10 fun t35 =>
lLd (some false) (some 1) t35 h fun t36 _ =>
pBin Tryd.prog .sub 3 false x2 x9 fun t38 =>
pBin Tryd.prog .sub 3 true t38 (.sc (.int .i64 1)) fun t39 =>
pBin Tryd.prog .gtr 3 false t36 t39 fun t40 =>
F13.n17 W QR QN QE QP x0 x2 x3 x9 x10 x31 t40 h) (
F13.n17 W QR QN QE QP x0 x2 x3 x9 x10 x31 noA h)
def F13.f18 : KT := fun s h => F13.n18 W QR QN QE QP (s.tm 0) (s.tm 2) (s.tm 3) (s.tm 9) (s.tm 10) (s.tm 31) h
theorem F13.e18 : evG Tryd.prog 76 (fun _ => W) nobody (kP QP) (regOps (F13.d [1, 1, 0, 1, 0, 0, 1, 0, 0, 1, 0, 0])) (F13.g2.drop 1) ((thenQ (F13.f14 W QR QN QE QP) (thenQ (F13.f12 W QR QN QE QP) (blockQ 1 (thenQ (F13.f2 W QR QN QE QP) (F13.q1 QR QN QE))))) .normal) s h = F13.f18 W QR QN QE QP s h := nd_gw (want := false) (j := 3) (is := isAt F13.g2 1) (rest := F13.g2.drop 2) (by kernel_rfl) (d := 31) (by kernel_rfl) (F13.e17 W QR QN QE QP) (by kernel_rfl)
def F13.n19 (W : WK) (QR QN : VK) (QE : EK) (QP : PK) (x0 x2 x3 x9 x10 : AV) (h : AH) : Prop :=
lLd (some true) (some 6) x10 h fun t41 _ =>
aCall Tryd.prog W 21 [t41] h (fun t43 h44 =>
pUn .not t43 fun t45 =>
F13.n18 W QR QN QE QP x0 x2 x3 x9 x10 t45 h44) QP
def F13.f19 : KT := fun s h => F13.n19 W QR QN QE QP (s.tm 0) (s.tm 2) (s.tm 3) (s.tm 9) (s.tm 10) h
theorem F13.e19 : evG Tryd.prog 76 (fun _ => W) nobody (kP QP) (regOps (F13.d [1, 1, 0, 1, 0, 0, 1, 0, 0, 1, 0, 0])) (F13.g2.drop 0) ((thenQ (F13.f14 W QR QN QE QP) (thenQ (F13.f12 W QR QN QE QP) (blockQ 1 (thenQ (F13.f2 W QR QN QE QP) (F13.q1 QR QN QE))))) .normal) s h = F13.f19 W QR QN QE QP s h := nd_g (is := isAt F13.g2 0) (rest := F13.g2.drop 1) (by kernel_rfl) (F13.e18 W QR QN QE QP) (by kernel_rfl)
theorem F13.o4 : F13.cw W (F13.d [1, 1, 0, 1, 0, 0, 1, 0, 0, 1, 0, 0]) (thenQ (F13.f14 W QR QN QE QP) (thenQ (F13.f12 W QR QN QE QP) (blockQ 1 (thenQ (F13.f2 W QR QN QE QP) (F13.q1 QR QN QE))))) QP s h = F13.f19 W QR QN QE QP s h := nd_groups (id := 7) (draw := false) (ops := (regOps (F13.d [1, 1, 0, 1, 0, 0, 1, 0, 0, 1, 0, 0]))) (gs := F13.g2.drop 0) (by kernel_rfl) (by kernel_rfl) (F13.e19 W QR QN QE QP s h)
theorem F13.o5 : F13.cw W (F13.d [1, 1, 0, 1, 0, 0, 1, 0, 0, 1, 0]) (thenQ (F13.f12 W QR QN QE QP) (blockQ 1 (thenQ (F13.f2 W QR QN QE QP) (F13.q1 QR QN QE)))) QP s h = F13.f19 W QR QN QE QP s h := nd_seq (a := (F13.d [1, 1, 0, 1, 0, 0, 1, 0, 0, 1, 0, 0])) (b := (F13.d [1, 1, 0, 1, 0, 0, 1, 0, 0, 1, 0, 1])) (by kernel_rfl) (F13.e14 W QR QN QE QP) (F13.o4 W QR QN QE QP s h)
theorem F13.o6 : F13.cw W (F13.d [1, 1, 0, 1, 0, 0, 1, 0, 0, 1]) (blockQ 1 (thenQ (F13.f2 W QR QN QE QP) (F13.q1 QR QN QE))) QP s h = F13.f19 W QR QN QE QP s h := nd_seq (a := (F13.d [1, 1, 0, 1, 0, 0, 1, 0, 0, 1, 0])) (b := (F13.d [1, 1, 0, 1, 0, 0, 1, 0, 0, 1, 1])) (by kernel_rfl) (F13.o3 W QR QN QE QP) (F13.o5 W QR QN QE QP s h)
def F13.n20 (W : WK) (QR QN : VK) (QE : EK) (QP : PK) (x0 x2 x3 x9 : AV) (h : AH) : Prop :=
pIxA (some (6, none)) x0 x9 fun t46 =>
lLd (some true) (some 6) t46 h fun t47 _ =>
eAlloc (some [.string ⟨#[]⟩, .string ⟨#[]⟩, .slice none 0 0, .int .i64 0, .int .i64 0, .int .i64 0]) 6 39 h fun t49 h50 =>
eStore (some 6) t49 t47 h50 W fun h51 =>
F13.n19 W QR QN QE QP x0 x2 x3 x9 t49 h51
def F13.f20 : KT := fun s h => F13.n20 W QR QN QE QP (s.tm 0) (s.tm 2) (s.tm 3) (s.tm 9) h
theorem F13.e20 : F13.cw W (F13.d [1, 1, 0, 1, 0, 0, 1, 0, 0]) (blockQ 1 (thenQ (F13.f2 W QR QN QE QP) (F13.q1 QR QN QE))) QP s h = F13.f20 W QR QN QE QP s h := nd_seq (a := (F13.d [1, 1, 0, 1, 0, 0, 1, 0, 0, 0])) (b := (F13.d [1, 1, 0, 1, 0, 0, 1, 0, 0, 1])) (by kernel_rfl) (F13.o6 W QR QN QE QP) (by kernel_rfl)
theorem F13.o7 : F13.cw W (F13.d [1, 1, 0, 1, 0, 0, 1, 0]) (thenQ (F13.f2 W QR QN QE QP) (F13.q1 QR QN QE)) QP s h = F13.f20 W QR QN QE QP s h := nd_block (a := (F13.d [1, 1, 0, 1, 0, 0, 1, 0, 0])) (by kernel_rfl) (F13.e20 W QR QN QE QP s h)
theorem F13.o8 : F13.cw W (F13.d [1, 1, 0, 1, 0, 0, 1]) (F13.q1 QR QN QE) QP s h = F13.f20 W QR QN QE QP s h := nd_seq (a := (F13.d [1, 1, 0, 1, 0, 0, 1, 0])) (b := (F13.d [1, 1, 0, 1, 0, 0, 1, 1])) (by kernel_rfl) (F13.e2 W QR QN QE QP) (F13.o7 W QR QN QE QP s h)
def F13.n21 (W : WK) (QR QN : VK) (QE : EK) (QP : PK) (x0 x2 x3 x9 x21 : AV) (h : AH) : Prop :=
aIf x21 (
F13.n20 W QR QN QE QP x0 x2 x3 x9 h) (
QE 0 [] h)
def F13.f21 : KT := fun s h => F13.n21 W QR QN QE QP (s.tm 0) (s.tm 2) (s.tm 3) (s.tm 9) (s.tm 21) h
theorem F13.e21 : F13.cw W (F13.d [1, 1, 0, 1, 0, 0, 0, 1]) (thenQ (F13.f20 W QR QN QE QP) (F13.q1 QR QN QE)) QP s h = F13.f21 W QR QN QE QP s h := nd_cond (o := (.tmp 21)) (a := (F13.d [1, 1, 0, 1, 0, 0, 0, 1, 0])) (b := (F13.d [1, 1, 0, 1, 0, 0, 0, 1, 1])) (by kernel_rfl) rfl rfl (by kernel_rfl)
def F13.n22 (W : WK) (QR QN : VK) (QE : EK) (QP : PK) (x0 x2 x3 x9 : AV) (h : AH) : Prop :=
pBin Tryd.prog .lss 3 false x9 x2 fun t52 =>
F13.n21 W QR QN QE QP x0 x2 x3 x9 t52 h
def F13.f22 : KT := fun s h => F13.n22 W QR QN QE QP (s.tm 0) (s.tm 2) (s.tm 3) (s.tm 9) h
theorem F13.e22 : F13.cw W (F13.d [1, 1, 0, 1, 0, 0, 0]) (thenQ (F13.f20 W QR QN QE QP) (F13.q1 QR QN QE)) QP s h = F13.f22 W QR QN QE QP s h := nd_seq (a := (F13.d [1, 1, 0, 1, 0, 0, 0, 0])) (b := (F13.d [1, 1, 0, 1, 0, 0, 0, 1])) (by kernel_rfl) (F13.e21 W QR QN QE QP) (by kernel_rfl)
theorem F13.o9 : F13.cw W (F13.d [1, 1, 0, 1, 0, 0]) (F13.q1 QR QN QE) QP s h = F13.f22 W QR QN QE QP s h := nd_seq (a := (F13.d [1, 1, 0, 1, 0, 0, 0])) (b := (F13.d [1, 1, 0, 1, 0, 0, 1])) (by kernel_rfl) (F13.o8 W QR QN QE QP) (F13.e22 W QR QN QE QP s h)
noncomputable def F13.c1 : Code := (F13.d [1, 1, 0, 1, 0, 0])
theorem F13.l1 : aw Tryd.prog 76 W F13.pl F13.c1 (F13.q1 QR QN QE) (kP QP) s h = F13.f22 W QR QN QE QP s h := F13.o9 W QR QN QE QP s h
def F13.g1_ (W : WK) (QR QN : VK) (QE : EK) (QP : PK) : VK → VK := fun QN' vs h => F13.n22 W QR QN' (fun (i : Nat) (vs : List AV) (h : AH) => if i = 0 then F13.n1 W QR QN QE QP h else QE i vs h) QP (vs.getD 0 noA) (vs.getD 1 noA) (vs.getD 2 noA) (vs.getD 3 noA) h
theorem F13.p1 {Kn : VK} {KQ : KT} (hK : ∀ s h, KQ s h = Kn [s.tm 0, s.tm 2, s.tm 3, s.tm 9] h) : thenQ KQ (blockQ 0 (thenQ (F13.f1 W QR QN QE QP) (F13.q0 QR QN QE))) = F13.q1 QR Kn (fun (i : Nat) (vs : List AV) (h : AH) => if i = 0 then F13.n1 W QR QN QE QP h else QE i vs h) := by
  funext x s h
  cases x with
  | normal => exact hK s h
  | ret => kernel_rfl
  | goto l => kernel_rfl
  | exit j =>
    by_cases h0 : j = 0
    · subst h0; kernel_rfl
    simp only [thenQ, blockQ, noGotoQ, if_neg h0, F13.q1, F13.el1, F13.q0, F13.el0]
def F13.n23 (W : WK) (QR QN : VK) (QE : EK) (QP : PK) (x0 x2 x3 x9 : AV) (h : AH) : Prop :=
vLoop (F13.g1_ W QR QN QE QP) [x0, x2, x3, x9] h
def F13.f23 : KT := fun s h => F13.n23 W QR QN QE QP (s.tm 0) (s.tm 2) (s.tm 3) (s.tm 9) h
theorem F13.e23 : F13.cw W (F13.d [1, 1, 0, 1, 0]) (blockQ 0 (thenQ (F13.f1 W QR QN QE QP) (F13.q0 QR QN QE))) QP s h = F13.f23 W QR QN QE QP s h := (nd_loop (a := F13.c1) (by kernel_rfl)).trans (vloopD (L := fun tm => [tm 0, tm 2, tm 3, tm 9]) (G := F13.g1_ W QR QN QE QP) (fun Kn KQ hK s h => (congrArg (fun q => aw Tryd.prog 76 W F13.pl F13.c1 q (kP QP) s h) (F13.p1 W QR QN QE QP hK)).trans (F13.l1 W QR Kn (fun (i : Nat) (vs : List AV) (h : AH) => if i = 0 then F13.n1 W QR QN QE QP h else QE i vs h) QP s h)) s h)
theorem F13.o10 : F13.cw W (F13.d [1, 1, 0, 1]) (thenQ (F13.f1 W QR QN QE QP) (F13.q0 QR QN QE)) QP s h = F13.f23 W QR QN QE QP s h := nd_block (a := (F13.d [1, 1, 0, 1, 0])) (by kernel_rfl) (F13.e23 W QR QN QE QP s h)
def F13.n24 (W : WK) (QR QN : VK) (QE : EK) (QP : PK) (x0 x1 x2 x3 : AV) (h : AH) : Prop :=
F13.n23 W QR QN QE QP x0 x2 x3 x1 h
def F13.f24 : KT := fun s h => F13.n24 W QR QN QE QP (s.tm 0) (s.tm 1) (s.tm 2) (s.tm 3) h
theorem F13.e24 : F13.cw W (F13.d [1, 1, 0]) (thenQ (F13.f1 W QR QN QE QP) (F13.q0 QR QN QE)) QP s h = F13.f24 W QR QN QE QP s h := nd_seq (a := (F13.d [1, 1, 0, 0])) (b := (F13.d [1, 1, 0, 1])) (by kernel_rfl) (F13.o10 W QR QN QE QP) (by kernel_rfl)
theorem F13.o11 : F13.cw W (F13.d [1, 1]) (F13.q0 QR QN QE) QP s h = F13.f24 W QR QN QE QP s h := nd_seq (a := (F13.d [1, 1, 0])) (b := (F13.d [1, 1, 1])) (by kernel_rfl) (F13.e1 W QR QN QE QP) (F13.e24 W QR QN QE QP s h)
def F13.n25 (_ : WK) (QR _ : VK) (_ : EK) (_ : PK) (h : AH) : Prop :=
QR [(.sc (.bool false))] h
def F13.f25 : KT := fun _ h => F13.n25 W QR QN QE QP h
theorem F13.e25 : F13.cw W (F13.d [1, 0, 1, 0]) (thenQ (F13.f24 W QR QN QE QP) (F13.q0 QR QN QE)) QP s h = F13.f25 W QR QN QE QP s h := nd_seq (a := (F13.d [1, 0, 1, 0, 0])) (b := (F13.d [1, 0, 1, 0, 1])) (by kernel_rfl) (fun _ _ => rfl) (by kernel_rfl)
def F13.n26 (W : WK) (QR QN : VK) (QE : EK) (QP : PK) (x0 x1 x2 x3 x17 : AV) (h : AH) : Prop :=
aIf x17 (
F13.n25 W QR QN QE QP h) (
F13.n24 W QR QN QE QP x0 x1 x2 x3 h)
def F13.f26 : KT := fun s h => F13.n26 W QR QN QE QP (s.tm 0) (s.tm 1) (s.tm 2) (s.tm 3) (s.tm 17) h
theorem F13.e26 : F13.cw W (F13.d [1, 0, 1]) (thenQ (F13.f24 W QR QN QE QP) (F13.q0 QR QN QE)) QP s h = F13.f26 W QR QN QE QP s h := nd_cond (o := (.tmp 17)) (a := (F13.d [1, 0, 1, 0])) (b := (F13.d [1, 0, 1, 1])) (by kernel_rfl) (F13.e25 W QR QN QE QP s h) rfl (by kernel_rfl)
def F13.n27 (W : WK) (QR QN : VK) (QE : EK) (QP : PK) (x0 x1 x2 x3 x14 x16 : AV) (h : AH) : Prop :=
pPick x14 x16 (.sc (.bool false)) fun t53 =>
F13.n26 W QR QN QE QP x0 x1 x2 x3 t53 h
def F13.f27 : KT := fun s h => F13.n27 W QR QN QE QP (s.tm 0) (s.tm 1) (s.tm 2) (s.tm 3) (s.tm 14) (s.tm 16) h
theorem F13.e27 : evG Tryd.prog 76 (fun _ => W) nobody (kP QP) (regOps (F13.d [1, 0, 0])) (F13.g3.drop 2) ((thenQ (F13.f26 W QR QN QE QP) (thenQ (F13.f24 W QR QN QE QP) (F13.q0 QR QN QE))) .normal) s h = F13.f27 W QR QN QE QP s h := nd_g (is := isAt F13.g3 2) (rest := F13.g3.drop 3) (by kernel_rfl) (fun _ _ => rfl) (by kernel_rfl)
def F13.n28 (W : WK) (QR QN : VK) (QE : EK) (QP : PK) (x0 x1 x2 x3 x14 : AV) (h : AH) : Prop :=
aIg true x14 (
pBin Tryd.prog .gtr 3 true x3 (.sc (.int .i64 32)) fun t54 =>
F13.n27 W QR QN QE QP x0 x1 x2 x3 x14 t54 h) (
F13.n27 W QR QN QE QP x0 x1 x2 x3 x14 noA h)
def F13.f28 : KT := fun s h => F13.n28 W QR QN QE QP (s.tm 0) (s.tm 1) (s.tm 2) (s.tm 3) (s.tm 14) h
theorem F13.e28 : evG Tryd.prog 76 (fun _ => W) nobody (kP QP) (regOps (F13.d [1, 0, 0])) (F13.g3.drop 1) ((thenQ (F13.f26 W QR QN QE QP) (thenQ (F13.f24 W QR QN QE QP) (F13.q0 QR QN QE))) .normal) s h = F13.f28 W QR QN QE QP s h := nd_gw (want := true) (j := 3) (is := isAt F13.g3 1) (rest := F13.g3.drop 2) (by kernel_rfl) (d := 14) (by kernel_rfl) (F13.e27 W QR QN QE QP) (by kernel_rfl)
def F13.n29 (W : WK) (QR QN : VK) (QE : EK) (QP : PK) (x0 x1 x2 x3 : AV) (h : AH) : Prop :=
pBin Tryd.prog .lss 3 false x1 x2 fun t55 =>
F13.n28 W QR QN QE QP x0 x1 x2 x3 t55 h
def F13.f29 : KT := fun s h => F13.n29 W QR QN QE QP (s.tm 0) (s.tm 1) (s.tm 2) (s.tm 3) h
theorem F13.e29 : evG Tryd.prog 76 (fun _ => W) nobody (kP QP) (regOps (F13.d [1, 0, 0])) (F13.g3.drop 0) ((thenQ (F13.f26 W QR QN QE QP) (thenQ (F13.f24 W QR QN QE QP) (F13.q0 QR QN QE))) .normal) s h = F13.f29 W QR QN QE QP s h := nd_g (is := isAt F13.g3 0) (rest := F13.g3.drop 1) (by kernel_rfl) (F13.e28 W QR QN QE QP) (by kernel_rfl)
theorem F13.o12 : F13.cw W (F13.d [1, 0, 0]) (thenQ (F13.f26 W QR QN QE QP) (thenQ (F13.f24 W QR QN QE QP) (F13.q0 QR QN QE))) QP s h = F13.f29 W QR QN QE QP s h := nd_groups (id := 1) (draw := false) (ops := (regOps (F13.d [1, 0, 0]))) (gs := F13.g3.drop 0) (by kernel_rfl) (by kernel_rfl) (F13.e29 W QR QN QE QP s h)
theorem F13.o13 : F13.cw W (F13.d [1, 0]) (thenQ (F13.f24 W QR QN QE QP) (F13.q0 QR QN QE)) QP s h = F13.f29 W QR QN QE QP s h := nd_seq (a := (F13.d [1, 0, 0])) (b := (F13.d [1, 0, 1])) (by kernel_rfl) (F13.e26 W QR QN QE QP) (F13.o12 W QR QN QE QP s h)
theorem F13.o14 : F13.cw W (F13.d [1]) (F13.q0 QR QN QE) QP s h = F13.f29 W QR QN QE QP s h := nd_seq (a := (F13.d [1, 0])) (b := (F13.d [1, 1])) (by kernel_rfl) (F13.o11 W QR QN QE QP) (F13.o13 W QR QN QE QP s h)
def F13.n30 (W : WK) (QR QN : VK) (QE : EK) (QP : PK) (x0 x1 x2 x3 : AV) (h : AH) : Prop :=
F13.n29 W QR QN QE QP x0 x1 x2 x3 h
def F13.f30 : KT := fun s h => F13.n30 W QR QN QE QP (s.tm 0) (s.tm 1) (s.tm 2) (s.tm 3) h
theorem F13.e30 : F13.cw W (F13.d []) (F13.q0 QR QN QE) QP s h = F13.f30 W QR QN QE QP s h := nd_seq (a := (F13.d [0])) (b := (F13.d [1])) (by kernel_rfl) (F13.o14 W QR QN QE QP) (by kernel_rfl)
end
set_option maxRecDepth 100000 in
theorem F13.callsN {x0 x1 x2 x3 : AV} {h : AH} {M : Nat → Prop} {R : AE → AH → Prop} (hp : F13.n30 (fun id => M id ∨ h.next ≤ id) (retV Tryd.prog [.tmp 8] R) (retV Tryd.prog [.tmp 8] R) (fun _ _ _ => False) (fun v h => R (.pan v) h) x0 x1 x2 x3 h) : ACalls Tryd.prog 13 [x0, x1, x2, x3] h M R :=
  acalls_of (c := F13.code) Tryd.mixed Tryd.func13 (by kernel_rfl) (Nat.le_of_ble_eq_true rfl) F13.ok (by rw [show Tryd.f13.ntmps = 76 from rfl, show Tryd.f13.results.toList = [.tmp 8] from rfl]; exact body_D (q := F13.q0 (retV Tryd.prog [.tmp 8] R) (retV Tryd.prog [.tmp 8] R) (fun _ _ _ => False)) (by kernel_rfl) (fun _ _ => rfl) (fun _ _ => rfl) (fun _ _ _ h => h) (fun _ _ _ h => h) rfl (Eq.mpr (F13.e30 (fun id => M id ∨ h.next ≤ id) (retV Tryd.prog [.tmp 8] R) (retV Tryd.prog [.tmp 8] R) (fun _ _ _ => False) (fun v h => R (.pan v) h) (s0 [x0, x1, x2, x3]) h) hp))
attribute [simp] F13.n1 F13.n2 F13.n3 F13.n4 F13.n5 F13.n6 F13.n7 F13.n8 F13.n9 F13.n10 F13.n11 F13.n12 F13.n13 F13.n14 F13.n15 F13.n16 F13.n17 F13.n18 F13.n19 F13.n20 F13.n21 F13.n22 F13.n24 F13.n25 F13.n26 F13.n27 F13.n28 F13.n29 F13.n30

section
variable (W : Nat → Prop) (QR QN : VK) (QE : Nat → VK) (QP : AV → AH → Prop) (s : St) (h : AH)
noncomputable def F14.code : Code := Tryd.f14.body.getD .skip
def F14.g1 : Grps := [(none, [(0, false), (1, false), (2, false), (3, false)]), (some (3, false), [(4, false), (5, false), (6, false)]), (none, [(7, false), (8, false)]), (some (8, false), [(9, false), (10, false), (11, false)]), (none, [(12, false)])]
def F14.pl : Plans := [(7, ⟨F14.g1, false, [], []⟩)]
theorem F14.ok : okCode Tryd.prog F14.pl F14.code = true := by kernel_rfl
noncomputable abbrev F14.d (p : List Nat) : Code := Code.at F14.code p
abbrev F14.cw (W : Nat → Prop) (c : Code) (q : Post) (QP : AV → AH → Prop) : KT := Go.Ab.aw Tryd.prog 65 W F14.pl c q (kP QP)
def F14.el0 (_ : Nat) (_ : Nat → AV) : List AV := []
def F14.q0 (QR QN : VK) (QE : Nat → VK) : Post := fun x s h => match x with | .normal => QN [s.tm 8] h | .ret => QR [s.tm 8] h | .exit j => QE j (F14.el0 j s.tm) h | .goto _ => False
def F14.n1 (_ : WK) (QR _ : VK) (_ : EK) (_ : PK) (x9 : AV) (h : AH) : Prop :=
QR [x9] h
def F14.f1 : KT := fun s h => F14.n1 W QR QN QE QP (s.tm 9) h
theorem F14.e1 : F14.cw W (F14.d [1, 1, 1]) (F14.q0 QR QN QE) QP s h = F14.f1 W QR QN QE QP s h := nd_seq (a := (F14.d [1, 1, 1, 0])) (b := (F14.d [1, 1, 1, 1])) (by kernel_rfl) (fun _ _ => rfl) (by kernel_rfl)
def F14.el1 (j : Nat) (tm : Nat → AV) : List AV := if j = 0 then [tm 9] else []
def F14.q1 (QR QN : VK) (QE : Nat → VK) : Post := fun x s h => match x with | .normal => QN [s.tm 0, s.tm 2, s.tm 3, s.tm 9, s.tm 10] h | .ret => QR [s.tm 8] h | .exit j => QE j (F14.el1 j s.tm) h | .goto _ => False
def F14.n2 (_ : WK) (_ QN : VK) (_ : EK) (_ : PK) (x0 x2 x3 x9 x10 : AV) (h : AH) : Prop :=
pBin Tryd.prog .add 3 true x10 (.sc (.int .i64 1)) fun t1 =>
QN [x0, x2, x3, x9, t1] h
def F14.f2 : KT := fun s h => F14.n2 W QR QN QE QP (s.tm 0) (s.tm 2) (s.tm 3) (s.tm 9) (s.tm 10) h
theorem F14.e2 : F14.cw W (F14.d [1, 1, 0, 1, 0, 0, 1, 1]) (F14.q1 QR QN QE) QP s h = F14.f2 W QR QN QE QP s h := by kernel_rfl
def F14.n3 (W : WK) (QR QN : VK) (QE : EK) (QP : PK) (x0 x2 x3 x9 x10 x11 : AV) (h : AH) : Prop :=
pFld (some 4) x11 fun t2 =>
lLd (some false) (some 1) t2 h fun t3 _ =>
pBin Tryd.prog .add 3 false x10 t3 fun t5 =>
F14.n2 W QR QN QE QP x0 x2 x3 x9 t5 h
def F14.f3 : KT := fun s h => F14.n3 W QR QN QE QP (s.tm 0) (s.tm 2) (s.tm 3) (s.tm 9) (s.tm 10) (s.tm 11) h
theorem F14.e3 : F14.cw W (F14.d [1, 1, 0, 1, 0, 0, 1, 0, 0, 1, 1, 1]) (blockQ 1 (thenQ (F14.f2 W QR QN QE QP) (F14.q1 QR QN QE))) QP s h = F14.f3 W QR QN QE QP s h := by kernel_rfl
def F14.n4 (W : WK) (QR QN : VK) (QE : EK) (QP : PK) (x0 x2 x3 x9 x10 x11 x40 : AV) (h : AH) : Prop :=
aIf x40 (
pBin Tryd.prog .add 9 true x9 (.sc (.string ⟨#[32, 123, 10]⟩)) fun t6 =>
pBin Tryd.prog .add 3 true x10 (.sc (.int .i64 1)) fun t7 =>
pBin Tryd.prog .add 3 true x10 (.sc (.int .i64 1)) fun t8 =>
pFld (some 4) x11 fun t9 =>
lLd (some false) (some 1) t9 h fun t10 _ =>
pBin Tryd.prog .add 3 false t8 t10 fun t12 =>
pBin Tryd.prog .add 9 true x3 (.sc (.string ⟨#[32, 32]⟩)) fun t13 =>
aCall Tryd.prog W 14 [x0, t7, t12, t13] h (fun t14 h15 =>
pBin Tryd.prog .add 9 false t6 t14 fun t16 =>
pBin Tryd.prog .add 9 false t16 x3 fun t17 =>
pBin Tryd.prog .add 9 true t17 (.sc (.string ⟨#[125, 10]⟩)) fun t18 =>
F14.n3 W QR QN QE QP x0 x2 x3 t18 x10 x11 h15) QP) (
pBin Tryd.prog .add 9 true x9 (.sc (.string ⟨#[59, 10]⟩)) fun t19 =>
F14.n3 W QR QN QE QP x0 x2 x3 t19 x10 x11 h)
def F14.f4 : KT := fun s h => F14.n4 W QR QN QE QP (s.tm 0) (s.tm 2) (s.tm 3) (s.tm 9) (s.tm 10) (s.tm 11) (s.tm 40) h
theorem F14.e4 : F14.cw W (F14.d [1, 1, 0, 1, 0, 0, 1, 0, 0, 1, 1, 0, 1]) (thenQ (F14.f3 W QR QN QE QP) (blockQ 1 (thenQ (F14.f2 W QR QN QE QP) (F14.q1 QR QN QE)))) QP s h = F14.f4 W QR QN QE QP s h := nd_cond (o := (.tmp 40)) (a := (F14.d [1, 1, 0, 1, 0, 0, 1, 0, 0, 1, 1, 0, 1, 0])) (b := (F14.d [1, 1, 0, 1, 0, 0, 1, 0, 0, 1, 1, 0, 1, 1])) (by kernel_rfl) rfl rfl (by kernel_rfl)
def F14.n5 (W : WK) (QR QN : VK) (QE : EK) (QP : PK) (x0 x2 x3 x9 x10 x11 x36 x39 : AV) (h : AH) : Prop :=
pPick x36 (.sc (.bool true)) x39 fun t20 =>
F14.n4 W QR QN QE QP x0 x2 x3 x9 x10 x11 t20 h
def F14.f5 : KT := fun s h => F14.n5 W QR QN QE QP (s.tm 0) (s.tm 2) (s.tm 3) (s.tm 9) (s.tm 10) (s.tm 11) (s.tm 36) (s.tm 39) h
theorem F14.e5 : evG Tryd.prog 65 (fun _ => W) nobody (kP QP) (regOps (F14.d [1, 1, 0, 1, 0, 0, 1, 0, 0, 1, 1, 0, 0])) (F14.g1.drop 4) ((thenQ (F14.f4 W QR QN QE QP) (thenQ (F14.f3 W QR QN QE QP) (blockQ 1 (thenQ (F14.f2 W QR QN QE QP) (F14.q1 QR QN QE))))) .normal) s h = F14.f5 W QR QN QE QP s h := nd_g (is := isAt F14.g1 4) (rest := F14.g1.drop 5) (by kernel_rfl) (fun _ _ => rfl) (by kernel_rfl)
def F14.n6 (W : WK) (QR QN : VK) (QE : EK) (QP : PK) (x0 x2 x3 x9 x10 x11 x36 : AV) (h : AH) : Prop :=
aIg false x36 (
pFld (some 0) x11 fun t21 =>
lLd (some false) (some 1) t21 h fun t22 _ =>
pBin Tryd.prog .eql 9 true t22 (.sc (.string ⟨#[105, 102]⟩)) fun t24 =>
F14.n5 W QR QN QE QP x0 x2 x3 x9 x10 x11 x36 t24 h) (
F14.n5 W QR QN QE QP x0 x2 x3 x9 x10 x11 x36 noA h)
def F14.f6 : KT := fun s h => F14.n6 W QR QN QE QP (s.tm 0) (s.tm 2) (s.tm 3) (s.tm 9) (s.tm 10) (s.tm 11) (s.tm 36) h
theorem F14.e6 : evG Tryd.prog 65 (fun _ => W) nobody (kP QP) (regOps (F14.d [1, 1, 0, 1, 0, 0, 1, 0, 0, 1, 1, 0, 0])) (F14.g1.drop 3) ((thenQ (F14.f4 W QR QN QE QP) (thenQ (F14.f3 W QR QN QE QP) (blockQ 1 (thenQ (F14.f2 W QR QN QE QP) (F14.q1 QR QN QE))))) .normal) s h = F14.f6 W QR QN QE QP s h := nd_gw (want := false) (j := 8) (is := isAt F14.g1 3) (rest := F14.g1.drop 4) (by kernel_rfl) (d := 36) (by kernel_rfl) (F14.e5 W QR QN QE QP) (by kernel_rfl)
def F14.n7 (W : WK) (QR QN : VK) (QE : EK) (QP : PK) (x0 x2 x3 x9 x10 x11 x31 x34 : AV) (h : AH) : Prop :=
pPick x31 (.sc (.bool true)) x34 fun t25 =>
F14.n6 W QR QN QE QP x0 x2 x3 x9 x10 x11 t25 h
def F14.f7 : KT := fun s h => F14.n7 W QR QN QE QP (s.tm 0) (s.tm 2) (s.tm 3) (s.tm 9) (s.tm 10) (s.tm 11) (s.tm 31) (s.tm 34) h
theorem F14.e7 : evG Tryd.prog 65 (fun _ => W) nobody (kP QP) (regOps (F14.d [1, 1, 0, 1, 0, 0, 1, 0, 0, 1, 1, 0, 0])) (F14.g1.drop 2) ((thenQ (F14.f4 W QR QN QE QP) (thenQ (F14.f3 W QR QN QE QP) (blockQ 1 (thenQ (F14.f2 W QR QN QE QP) (F14.q1 QR QN QE))))) .normal) s h = F14.f7 W QR QN QE QP s h := nd_g (is := isAt F14.g1 2) (rest := F14.g1.drop 3) (by kernel_rfl) (F14.e6 W QR QN QE QP) (by kernel_rfl)
def F14.n8 (W : WK) (QR QN : VK) (QE : EK) (QP : PK) (x0 x2 x3 x9 x10 x11 x31 : AV) (h : AH) : Prop :=
aIg false x31 (
pFld (some 0) x11 fun t26 =>
lLd (some false) (some 1) t26 h fun t27 _ =>
pBin Tryd.prog .eql 9 true t27 (.sc (.string ⟨#[114, 101, 112, 101, 97, 116]⟩)) fun t29 =>
F14.n7 W QR QN QE QP x0 x2 x3 x9 x10 x11 x31 t29 h) (
F14.n7 W QR QN QE QP x0 x2 x3 x9 x10 x11 x31 noA h)
def F14.f8 : KT := fun s h => F14.n8 W QR QN QE QP (s.tm 0) (s.tm 2) (s.tm 3) (s.tm 9) (s.tm 10) (s.tm 11) (s.tm 31) h
theorem F14.e8 : evG Tryd.prog 65 (fun _ => W) nobody (kP QP) (regOps (F14.d [1, 1, 0, 1, 0, 0, 1, 0, 0, 1, 1, 0, 0])) (F14.g1.drop 1) ((thenQ (F14.f4 W QR QN QE QP) (thenQ (F14.f3 W QR QN QE QP) (blockQ 1 (thenQ (F14.f2 W QR QN QE QP) (F14.q1 QR QN QE))))) .normal) s h = F14.f8 W QR QN QE QP s h := nd_gw (want := false) (j := 3) (is := isAt F14.g1 1) (rest := F14.g1.drop 2) (by kernel_rfl) (d := 31) (by kernel_rfl) (F14.e7 W QR QN QE QP) (by kernel_rfl)
def F14.n9 (W : WK) (QR QN : VK) (QE : EK) (QP : PK) (x0 x2 x3 x9 x10 x11 : AV) (h : AH) : Prop :=
pFld (some 0) x11 fun t30 =>
lLd (some false) (some 1) t30 h fun t31 _ =>
pBin Tryd.prog .eql 9 true t31 (.sc (.string ⟨#[103, 97, 116, 101]⟩)) fun t33 =>
F14.n8 W QR QN QE QP x0 x2 x3 x9 x10 x11 t33 h
def F14.f9 : KT := fun s h => F14.n9 W QR QN QE QP (s.tm 0) (s.tm 2) (s.tm 3) (s.tm 9) (s.tm 10) (s.tm 11) h
theorem F14.e9 : evG Tryd.prog 65 (fun _ => W) nobody (kP QP) (regOps (F14.d [1, 1, 0, 1, 0, 0, 1, 0, 0, 1, 1, 0, 0])) (F14.g1.drop 0) ((thenQ (F14.f4 W QR QN QE QP) (thenQ (F14.f3 W QR QN QE QP) (blockQ 1 (thenQ (F14.f2 W QR QN QE QP) (F14.q1 QR QN QE))))) .normal) s h = F14.f9 W QR QN QE QP s h := nd_g (is := isAt F14.g1 0) (rest := F14.g1.drop 1) (by kernel_rfl) (F14.e8 W QR QN QE QP) (by kernel_rfl)
theorem F14.o1 : F14.cw W (F14.d [1, 1, 0, 1, 0, 0, 1, 0, 0, 1, 1, 0, 0]) (thenQ (F14.f4 W QR QN QE QP) (thenQ (F14.f3 W QR QN QE QP) (blockQ 1 (thenQ (F14.f2 W QR QN QE QP) (F14.q1 QR QN QE))))) QP s h = F14.f9 W QR QN QE QP s h := nd_groups (id := 7) (draw := false) (ops := (regOps (F14.d [1, 1, 0, 1, 0, 0, 1, 0, 0, 1, 1, 0, 0]))) (gs := F14.g1.drop 0) (by kernel_rfl) (by kernel_rfl) (F14.e9 W QR QN QE QP s h)
theorem F14.o2 : F14.cw W (F14.d [1, 1, 0, 1, 0, 0, 1, 0, 0, 1, 1, 0]) (thenQ (F14.f3 W QR QN QE QP) (blockQ 1 (thenQ (F14.f2 W QR QN QE QP) (F14.q1 QR QN QE)))) QP s h = F14.f9 W QR QN QE QP s h := nd_seq (a := (F14.d [1, 1, 0, 1, 0, 0, 1, 0, 0, 1, 1, 0, 0])) (b := (F14.d [1, 1, 0, 1, 0, 0, 1, 0, 0, 1, 1, 0, 1])) (by kernel_rfl) (F14.e4 W QR QN QE QP) (F14.o1 W QR QN QE QP s h)
theorem F14.o3 : F14.cw W (F14.d [1, 1, 0, 1, 0, 0, 1, 0, 0, 1, 1]) (blockQ 1 (thenQ (F14.f2 W QR QN QE QP) (F14.q1 QR QN QE))) QP s h = F14.f9 W QR QN QE QP s h := nd_seq (a := (F14.d [1, 1, 0, 1, 0, 0, 1, 0, 0, 1, 1, 0])) (b := (F14.d [1, 1, 0, 1, 0, 0, 1, 0, 0, 1, 1, 1])) (by kernel_rfl) (F14.e3 W QR QN QE QP) (F14.o2 W QR QN QE QP s h)
def F14.n10 (W : WK) (QR QN : VK) (QE : EK) (QP : PK) (x0 x2 x3 x9 x10 x11 : AV) (h : AH) : Prop :=
pBin Tryd.prog .add 9 false x9 x3 fun t34 =>
lLd (some true) (some 6) x11 h fun t35 _ =>
aCall Tryd.prog W 22 [t35] h (fun t37 h38 =>
pBin Tryd.prog .add 9 false t34 t37 fun t39 =>
F14.n9 W QR QN QE QP x0 x2 x3 t39 x10 x11 h38) QP
def F14.f10 : KT := fun s h => F14.n10 W QR QN QE QP (s.tm 0) (s.tm 2) (s.tm 3) (s.tm 9) (s.tm 10) (s.tm 11) h
theorem F14.e10 : F14.cw W (F14.d [1, 1, 0, 1, 0, 0, 1, 0, 0, 1]) (blockQ 1 (thenQ (F14.f2 W QR QN QE QP) (F14.q1 QR QN QE))) QP s h = F14.f10 W QR QN QE QP s h := nd_seq (a := (F14.d [1, 1, 0, 1, 0, 0, 1, 0, 0, 1, 0])) (b := (F14.d [1, 1, 0, 1, 0, 0, 1, 0, 0, 1, 1])) (by kernel_rfl) (F14.o3 W QR QN QE QP) (by kernel_rfl)
def F14.n11 (W : WK) (QR QN : VK) (QE : EK) (QP : PK) (x0 x2 x3 x9 x10 : AV) (h : AH) : Prop :=
pIxA (some (6, none)) x0 x10 fun t40 =>
lLd (some true) (some 6) t40 h fun t41 _ =>
eAlloc (some [.string ⟨#[]⟩, .string ⟨#[]⟩, .slice none 0 0, .int .i64 0, .int .i64 0, .int .i64 0]) 6 39 h fun t43 h44 =>
eStore (some 6) t43 t41 h44 W fun h45 =>
F14.n10 W QR QN QE QP x0 x2 x3 x9 x10 t43 h45
def F14.f11 : KT := fun s h => F14.n11 W QR QN QE QP (s.tm 0) (s.tm 2) (s.tm 3) (s.tm 9) (s.tm 10) h
theorem F14.e11 : F14.cw W (F14.d [1, 1, 0, 1, 0, 0, 1, 0, 0]) (blockQ 1 (thenQ (F14.f2 W QR QN QE QP) (F14.q1 QR QN QE))) QP s h = F14.f11 W QR QN QE QP s h := nd_seq (a := (F14.d [1, 1, 0, 1, 0, 0, 1, 0, 0, 0])) (b := (F14.d [1, 1, 0, 1, 0, 0, 1, 0, 0, 1])) (by kernel_rfl) (F14.e10 W QR QN QE QP) (by kernel_rfl)
theorem F14.o4 : F14.cw W (F14.d [1, 1, 0, 1, 0, 0, 1, 0]) (thenQ (F14.f2 W QR QN QE QP) (F14.q1 QR QN QE)) QP s h = F14.f11 W QR QN QE QP s h := nd_block (a := (F14.d [1, 1, 0, 1, 0, 0, 1, 0, 0])) (by kernel_rfl) (F14.e11 W QR QN QE QP s h)
theorem F14.o5 : F14.cw W (F14.d [1, 1, 0, 1, 0, 0, 1]) (F14.q1 QR QN QE) QP s h = F14.f11 W QR QN QE QP s h := nd_seq (a := (F14.d [1, 1, 0, 1, 0, 0, 1, 0])) (b := (F14.d [1, 1, 0, 1, 0, 0, 1, 1])) (by kernel_rfl) (F14.e2 W QR QN QE QP) (F14.o4 W QR QN QE QP s h)
def F14.n12 (W : WK) (QR QN : VK) (QE : EK) (QP : PK) (x0 x2 x3 x9 x10 x15 : AV) (h : AH) : Prop :=
aIf x15 (
F14.n11 W QR QN QE QP x0 x2 x3 x9 x10 h) (
QE 0 [x9] h)
def F14.f12 : KT := fun s h => F14.n12 W QR QN QE QP (s.tm 0) (s.tm 2) (s.tm 3) (s.tm 9) (s.tm 10) (s.tm 15) h
theorem F14.e12 : F14.cw W (F14.d [1, 1, 0, 1, 0, 0, 0, 1]) (thenQ (F14.f11 W QR QN QE QP) (F14.q1 QR QN QE)) QP s h = F14.f12 W QR QN QE QP s h := nd_cond (o := (.tmp 15)) (a := (F14.d [1, 1, 0, 1, 0, 0, 0, 1, 0])) (b := (F14.d [1, 1, 0, 1, 0, 0, 0, 1, 1])) (by kernel_rfl) rfl rfl (by kernel_rfl)
def F14.n13 (W : WK) (QR QN : VK) (QE : EK) (QP : PK) (x0 x2 x3 x9 x10 : AV) (h : AH) : Prop :=
pBin Tryd.prog .lss 3 false x10 x2 fun t46 =>
F14.n12 W QR QN QE QP x0 x2 x3 x9 x10 t46 h
def F14.f13 : KT := fun s h => F14.n13 W QR QN QE QP (s.tm 0) (s.tm 2) (s.tm 3) (s.tm 9) (s.tm 10) h
theorem F14.e13 : F14.cw W (F14.d [1, 1, 0, 1, 0, 0, 0]) (thenQ (F14.f11 W QR QN QE QP) (F14.q1 QR QN QE)) QP s h = F14.f13 W QR QN QE QP s h := nd_seq (a := (F14.d [1, 1, 0, 1, 0, 0, 0, 0])) (b := (F14.d [1, 1, 0, 1, 0, 0, 0, 1])) (by kernel_rfl) (F14.e12 W QR QN QE QP) (by kernel_rfl)
theorem F14.o6 : F14.cw W (F14.d [1, 1, 0, 1, 0, 0]) (F14.q1 QR QN QE) QP s h = F14.f13 W QR QN QE QP s h := nd_seq (a := (F14.d [1, 1, 0, 1, 0, 0, 0])) (b := (F14.d [1, 1, 0, 1, 0, 0, 1])) (by kernel_rfl) (F14.o5 W QR QN QE QP) (F14.e13 W QR QN QE QP s h)
noncomputable def F14.c1 : Code := (F14.d [1, 1, 0, 1, 0, 0])
theorem F14.l1 : aw Tryd.prog 65 W F14.pl F14.c1 (F14.q1 QR QN QE) (kP QP) s h = F14.f13 W QR QN QE QP s h := F14.o6 W QR QN QE QP s h
def F14.g1_ (W : WK) (QR QN : VK) (QE : EK) (QP : PK) : VK → VK := fun QN' vs h => F14.n13 W QR QN' (fun (i : Nat) (vs : List AV) (h : AH) => if i = 0 then F14.n1 W QR QN QE QP (vs.getD 0 noA) h else QE i vs h) QP (vs.getD 0 noA) (vs.getD 1 noA) (vs.getD 2 noA) (vs.getD 3 noA) (vs.getD 4 noA) h
theorem F14.p1 {Kn : VK} {KQ : KT} (hK : ∀ s h, KQ s h = Kn [s.tm 0, s.tm 2, s.tm 3, s.tm 9, s.tm 10] h) : thenQ KQ (blockQ 0 (thenQ (F14.f1 W QR QN QE QP) (F14.q0 QR QN QE))) = F14.q1 QR Kn (fun (i : Nat) (vs : List AV) (h : AH) => if i = 0 then F14.n1 W QR QN QE QP (vs.getD 0 noA) h else QE i vs h) := by
  funext x s h
  cases x with
  | normal => exact hK s h
  | ret => kernel_rfl
  | goto l => kernel_rfl
  | exit j =>
    by_cases h0 : j = 0
    · subst h0; kernel_rfl
    simp only [thenQ, blockQ, noGotoQ, if_neg h0, F14.q1, F14.el1, F14.q0, F14.el0]
def F14.n14 (W : WK) (QR QN : VK) (QE : EK) (QP : PK) (x0 x2 x3 x9 x10 : AV) (h : AH) : Prop :=
vLoop (F14.g1_ W QR QN QE QP) [x0, x2, x3, x9, x10] h
def F14.f14 : KT := fun s h => F14.n14 W QR QN QE QP (s.tm 0) (s.tm 2) (s.tm 3) (s.tm 9) (s.tm 10) h
theorem F14.e14 : F14.cw W (F14.d [1, 1, 0, 1, 0]) (blockQ 0 (thenQ (F14.f1 W QR QN QE QP) (F14.q0 QR QN QE))) QP s h = F14.f14 W QR QN QE QP s h := (nd_loop (a := F14.c1) (by kernel_rfl)).trans (vloopD (L := fun tm => [tm 0, tm 2, tm 3, tm 9, tm 10]) (G := F14.g1_ W QR QN QE QP) (fun Kn KQ hK s h => (congrArg (fun q => aw Tryd.prog 65 W F14.pl F14.c1 q (kP QP) s h) (F14.p1 W QR QN QE QP hK)).trans (F14.l1 W QR Kn (fun (i : Nat) (vs : List AV) (h : AH) => if i = 0 then F14.n1 W QR QN QE QP (vs.getD 0 noA) h else QE i vs h) QP s h)) s h)
theorem F14.o7 : F14.cw W (F14.d [1, 1, 0, 1]) (thenQ (F14.f1 W QR QN QE QP) (F14.q0 QR QN QE)) QP s h = F14.f14 W QR QN QE QP s h := nd_block (a := (F14.d [1, 1, 0, 1, 0])) (by kernel_rfl) (F14.e14 W QR QN QE QP s h)
def F14.n15 (W : WK) (QR QN : VK) (QE : EK) (QP : PK) (x0 x1 x2 x3 x9 : AV) (h : AH) : Prop :=
F14.n14 W QR QN QE QP x0 x2 x3 x9 x1 h
def F14.f15 : KT := fun s h => F14.n15 W QR QN QE QP (s.tm 0) (s.tm 1) (s.tm 2) (s.tm 3) (s.tm 9) h
theorem F14.e15 : F14.cw W (F14.d [1, 1, 0]) (thenQ (F14.f1 W QR QN QE QP) (F14.q0 QR QN QE)) QP s h = F14.f15 W QR QN QE QP s h := nd_seq (a := (F14.d [1, 1, 0, 0])) (b := (F14.d [1, 1, 0, 1])) (by kernel_rfl) (F14.o7 W QR QN QE QP) (by kernel_rfl)
theorem F14.o8 : F14.cw W (F14.d [1, 1]) (F14.q0 QR QN QE) QP s h = F14.f15 W QR QN QE QP s h := nd_seq (a := (F14.d [1, 1, 0])) (b := (F14.d [1, 1, 1])) (by kernel_rfl) (F14.e1 W QR QN QE QP) (F14.e15 W QR QN QE QP s h)
def F14.n16 (W : WK) (QR QN : VK) (QE : EK) (QP : PK) (x0 x1 x2 x3 : AV) (h : AH) : Prop :=
F14.n15 W QR QN QE QP x0 x1 x2 x3 (.sc (.string ⟨#[]⟩)) h
def F14.f16 : KT := fun s h => F14.n16 W QR QN QE QP (s.tm 0) (s.tm 1) (s.tm 2) (s.tm 3) h
theorem F14.e16 : F14.cw W (F14.d [1]) (F14.q0 QR QN QE) QP s h = F14.f16 W QR QN QE QP s h := nd_seq (a := (F14.d [1, 0])) (b := (F14.d [1, 1])) (by kernel_rfl) (F14.o8 W QR QN QE QP) (by kernel_rfl)
def F14.n17 (W : WK) (QR QN : VK) (QE : EK) (QP : PK) (x0 x1 x2 x3 : AV) (h : AH) : Prop :=
F14.n16 W QR QN QE QP x0 x1 x2 x3 h
def F14.f17 : KT := fun s h => F14.n17 W QR QN QE QP (s.tm 0) (s.tm 1) (s.tm 2) (s.tm 3) h
theorem F14.e17 : F14.cw W (F14.d []) (F14.q0 QR QN QE) QP s h = F14.f17 W QR QN QE QP s h := nd_seq (a := (F14.d [0])) (b := (F14.d [1])) (by kernel_rfl) (F14.e16 W QR QN QE QP) (by kernel_rfl)
end
set_option maxRecDepth 100000 in
theorem F14.callsN {x0 x1 x2 x3 : AV} {h : AH} {M : Nat → Prop} {R : AE → AH → Prop} (hp : F14.n17 (fun id => M id ∨ h.next ≤ id) (retV Tryd.prog [.tmp 8] R) (retV Tryd.prog [.tmp 8] R) (fun _ _ _ => False) (fun v h => R (.pan v) h) x0 x1 x2 x3 h) : ACalls Tryd.prog 14 [x0, x1, x2, x3] h M R :=
  acalls_of (c := F14.code) Tryd.mixed Tryd.func14 (by kernel_rfl) (Nat.le_of_ble_eq_true rfl) F14.ok (by rw [show Tryd.f14.ntmps = 65 from rfl, show Tryd.f14.results.toList = [.tmp 8] from rfl]; exact body_D (q := F14.q0 (retV Tryd.prog [.tmp 8] R) (retV Tryd.prog [.tmp 8] R) (fun _ _ _ => False)) (by kernel_rfl) (fun _ _ => rfl) (fun _ _ => rfl) (fun _ _ _ h => h) (fun _ _ _ h => h) rfl (Eq.mpr (F14.e17 (fun id => M id ∨ h.next ≤ id) (retV Tryd.prog [.tmp 8] R) (retV Tryd.prog [.tmp 8] R) (fun _ _ _ => False) (fun v h => R (.pan v) h) (s0 [x0, x1, x2, x3]) h) hp))
attribute [simp] F14.n1 F14.n2 F14.n3 F14.n4 F14.n5 F14.n6 F14.n7 F14.n8 F14.n9 F14.n10 F14.n11 F14.n12 F14.n13 F14.n15 F14.n16 F14.n17

section
variable (W : Nat → Prop) (QR QN : VK) (QE : Nat → VK) (QP : AV → AH → Prop) (s : St) (h : AH)
noncomputable def F21.code : Code := Tryd.f21.body.getD .skip
def F21.g1 : Grps := [(none, [(0, false), (1, false), (2, false), (3, false)]), (some (3, false), [(4, false), (5, false), (6, false)]), (none, [(7, false), (8, false)]), (some (8, false), [(9, false), (10, false), (11, false)]), (some (11, true), [(12, false), (13, false), (14, false)]), (some (8, false), [(15, false)]), (none, [(16, false)])]
def F21.g2 : Grps := [(none, [(0, false), (1, false), (2, false), (3, false), (4, false), (5, false)]), (some (5, false), [(6, false), (7, false)]), (some (7, true), [(8, false), (9, false), (10, false), (11, false)]), (some (5, false), [(12, false)]), (none, [(13, false), (14, false)]), (some (14, false), [(15, false), (16, false), (17, false)]), (none, [(18, false), (19, false)]), (some (19, false), [(20, false), (21, false), (22, false)]), (some (22, true), [(23, false), (24, false), (25, false)]), (some (19, false), [(26, false)]), (none, [(27, false)])]
def F21.pl : Plans := [(19, ⟨F21.g2, false, [], []⟩), (21, ⟨F21.g1, false, [], []⟩)]
theorem F21.ok : okCode Tryd.prog F21.pl F21.code = true := by kernel_rfl
noncomputable abbrev F21.d (p : List Nat) : Code := Code.at F21.code p
abbrev F21.cw (W : Nat → Prop) (c : Code) (q : Post) (QP : AV → AH → Prop) : KT := Go.Ab.aw Tryd.prog 76 W F21.pl c q (kP QP)
def F21.el0 (_ : Nat) (_ : Nat → AV) : List AV := []
def F21.q0 (QR QN : VK) (QE : Nat → VK) : Post := fun x s h => match x with | .normal => QN [s.tm 2] h | .ret => QR [s.tm 2] h | .exit j => QE j (F21.el0 j s.tm) h | .goto _ => False
def F21.n1 (W : WK) (QR _ : VK) (_ : EK) (QP : PK) (x1 x6 : AV) (h : AH) : Prop :=
pFld (some 2) x1 fun t1 =>
lLd (some false) (some 1) t1 h fun t2 _ =>
pFld (some 0) x1 fun t4 =>
lLd (some false) (some 1) t4 h fun t5 _ =>
pBin Tryd.prog .neq 9 true t5 (.sc (.string ⟨#[103, 97, 116, 101]⟩)) fun t7 =>
aCall Tryd.prog W 42 [t2, x6, t7] h (fun t8 h9 =>
QR [t8] h9) QP
def F21.f1 : KT := fun s h => F21.n1 W QR QN QE QP (s.tm 1) (s.tm 6) h
theorem F21.e1 : F21.cw W (F21.d [1, 1, 1, 1, 1]) (F21.q0 QR QN QE) QP s h = F21.f1 W QR QN QE QP s h := nd_seq (a := (F21.d [1, 1, 1, 1, 1, 0])) (b := (F21.d [1, 1, 1, 1, 1, 1])) (by kernel_rfl) (fun _ _ => rfl) (by kernel_rfl)
def F21.n2 (_ : WK) (QR _ : VK) (_ : EK) (_ : PK) (h : AH) : Prop :=
QR [(.sc (.bool false))] h
def F21.f2 : KT := fun _ h => F21.n2 W QR QN QE QP h
theorem F21.e2 : F21.cw W (F21.d [1, 1, 1, 1, 0, 1, 0]) (thenQ (F21.f1 W QR QN QE QP) (F21.q0 QR QN QE)) QP s h = F21.f2 W QR QN QE QP s h := nd_seq (a := (F21.d [1, 1, 1, 1, 0, 1, 0, 0])) (b := (F21.d [1, 1, 1, 1, 0, 1, 0, 1])) (by kernel_rfl) (fun _ _ => rfl) (by kernel_rfl)
def F21.n3 (W : WK) (QR QN : VK) (QE : EK) (QP : PK) (x1 x6 x68 : AV) (h : AH) : Prop :=
aIf x68 (
F21.n2 W QR QN QE QP h) (
F21.n1 W QR QN QE QP x1 x6 h)
def F21.f3 : KT := fun s h => F21.n3 W QR QN QE QP (s.tm 1) (s.tm 6) (s.tm 68) h
theorem F21.e3 : F21.cw W (F21.d [1, 1, 1, 1, 0, 1]) (thenQ (F21.f1 W QR QN QE QP) (F21.q0 QR QN QE)) QP s h = F21.f3 W QR QN QE QP s h := nd_cond (o := (.tmp 68)) (a := (F21.d [1, 1, 1, 1, 0, 1, 0])) (b := (F21.d [1, 1, 1, 1, 0, 1, 1])) (by kernel_rfl) (F21.e2 W QR QN QE QP s h) rfl (by kernel_rfl)
def F21.n4 (W : WK) (QR QN : VK) (QE : EK) (QP : PK) (x1 x6 x60 x67 : AV) (h : AH) : Prop :=
pPick x60 (.sc (.bool true)) x67 fun t10 =>
F21.n3 W QR QN QE QP x1 x6 t10 h
def F21.f4 : KT := fun s h => F21.n4 W QR QN QE QP (s.tm 1) (s.tm 6) (s.tm 60) (s.tm 67) h
theorem F21.e4 : evG Tryd.prog 76 (fun _ => W) nobody (kP QP) (regOps (F21.d [1, 1, 1, 1, 0, 0])) (F21.g1.drop 6) ((thenQ (F21.f3 W QR QN QE QP) (thenQ (F21.f1 W QR QN QE QP) (F21.q0 QR QN QE))) .normal) s h = F21.f4 W QR QN QE QP s h := nd_g (is := isAt F21.g1 6) (rest := F21.g1.drop 7) (by kernel_rfl) (fun _ _ => rfl) (by kernel_rfl)
def F21.n5 (W : WK) (QR QN : VK) (QE : EK) (QP : PK) (x1 x6 x60 x63 x66 : AV) (h : AH) : Prop :=
aIg false x60 (
pPick x63 x66 (.sc (.bool false)) fun t11 =>
F21.n4 W QR QN QE QP x1 x6 x60 t11 h) (
F21.n4 W QR QN QE QP x1 x6 x60 noA h)
def F21.f5 : KT := fun s h => F21.n5 W QR QN QE QP (s.tm 1) (s.tm 6) (s.tm 60) (s.tm 63) (s.tm 66) h
theorem F21.e5 : evG Tryd.prog 76 (fun _ => W) nobody (kP QP) (regOps (F21.d [1, 1, 1, 1, 0, 0])) (F21.g1.drop 5) ((thenQ (F21.f3 W QR QN QE QP) (thenQ (F21.f1 W QR QN QE QP) (F21.q0 QR QN QE))) .normal) s h = F21.f5 W QR QN QE QP s h := nd_gw (want := false) (j := 8) (is := isAt F21.g1 5) (rest := F21.g1.drop 6) (by kernel_rfl) (d := 60) (by kernel_rfl) (F21.e4 W QR QN QE QP) (by kernel_rfl)
def F21.n6 (W : WK) (QR QN : VK) (QE : EK) (QP : PK) (x1 x6 x60 x63 : AV) (h : AH) : Prop :=
aIg true x63 (
pFld (some 3) x1 fun t12 =>
lLd (some false) (some 1) t12 h fun t13 _ =>
pBin Tryd.prog .neq 3 true t13 (.sc (.int .i64 0)) fun t15 =>
F21.n5 W QR QN QE QP x1 x6 x60 x63 t15 h) (
F21.n5 W QR QN QE QP x1 x6 x60 x63 noA h)
def F21.f6 : KT := fun s h => F21.n6 W QR QN QE QP (s.tm 1) (s.tm 6) (s.tm 60) (s.tm 63) h
theorem F21.e6 : evG Tryd.prog 76 (fun _ => W) nobody (kP QP) (regOps (F21.d [1, 1, 1, 1, 0, 0])) (F21.g1.drop 4) ((thenQ (F21.f3 W QR QN QE QP) (thenQ (F21.f1 W QR QN QE QP) (F21.q0 QR QN QE))) .normal) s h = F21.f6 W QR QN QE QP s h := nd_gw (want := true) (j := 11) (is := isAt F21.g1 4) (rest := F21.g1.drop 5) (by kernel_rfl) (d := 63) (by kernel_rfl) (F21.e5 W QR QN QE QP) (by kernel_rfl)
def F21.n7 (W : WK) (QR QN : VK) (QE : EK) (QP : PK) (x1 x4 x6 x60 : AV) (h : AH) : Prop :=
aIg false x60 (
pUn .not x4 fun t16 =>
F21.n6 W QR QN QE QP x1 x6 x60 t16 h) (
F21.n6 W QR QN QE QP x1 x6 x60 noA h)
def F21.f7 : KT := fun s h => F21.n7 W QR QN QE QP (s.tm 1) (s.tm 4) (s.tm 6) (s.tm 60) h
theorem F21.e7 : evG Tryd.prog 76 (fun _ => W) nobody (kP QP) (regOps (F21.d [1, 1, 1, 1, 0, 0])) (F21.g1.drop 3) ((thenQ (F21.f3 W QR QN QE QP) (thenQ (F21.f1 W QR QN QE QP) (F21.q0 QR QN QE))) .normal) s h = F21.f7 W QR QN QE QP s h := nd_gw (want := false) (j := 8) (is := isAt F21.g1 3) (rest := F21.g1.drop 4) (by kernel_rfl) (d := 60) (by kernel_rfl) (F21.e6 W QR QN QE QP) (by kernel_rfl)
def F21.n8 (W : WK) (QR QN : VK) (QE : EK) (QP : PK) (x1 x4 x6 x55 x58 : AV) (h : AH) : Prop :=
pPick x55 (.sc (.bool true)) x58 fun t17 =>
F21.n7 W QR QN QE QP x1 x4 x6 t17 h
def F21.f8 : KT := fun s h => F21.n8 W QR QN QE QP (s.tm 1) (s.tm 4) (s.tm 6) (s.tm 55) (s.tm 58) h
theorem F21.e8 : evG Tryd.prog 76 (fun _ => W) nobody (kP QP) (regOps (F21.d [1, 1, 1, 1, 0, 0])) (F21.g1.drop 2) ((thenQ (F21.f3 W QR QN QE QP) (thenQ (F21.f1 W QR QN QE QP) (F21.q0 QR QN QE))) .normal) s h = F21.f8 W QR QN QE QP s h := nd_g (is := isAt F21.g1 2) (rest := F21.g1.drop 3) (by kernel_rfl) (F21.e7 W QR QN QE QP) (by kernel_rfl)
def F21.n9 (W : WK) (QR QN : VK) (QE : EK) (QP : PK) (x1 x4 x6 x55 : AV) (h : AH) : Prop :=
aIg false x55 (
pFld (some 3) x1 fun t18 =>
lLd (some false) (some 1) t18 h fun t19 _ =>
pBin Tryd.prog .gtr 3 true t19 (.sc (.int .i64 9007199254740991)) fun t21 =>
F21.n8 W QR QN QE QP x1 x4 x6 x55 t21 h) (
F21.n8 W QR QN QE QP x1 x4 x6 x55 noA h)
def F21.f9 : KT := fun s h => F21.n9 W QR QN QE QP (s.tm 1) (s.tm 4) (s.tm 6) (s.tm 55) h
theorem F21.e9 : evG Tryd.prog 76 (fun _ => W) nobody (kP QP) (regOps (F21.d [1, 1, 1, 1, 0, 0])) (F21.g1.drop 1) ((thenQ (F21.f3 W QR QN QE QP) (thenQ (F21.f1 W QR QN QE QP) (F21.q0 QR QN QE))) .normal) s h = F21.f9 W QR QN QE QP s h := nd_gw (want := false) (j := 3) (is := isAt F21.g1 1) (rest := F21.g1.drop 2) (by kernel_rfl) (d := 55) (by kernel_rfl) (F21.e8 W QR QN QE QP) (by kernel_rfl)
def F21.n10 (W : WK) (QR QN : VK) (QE : EK) (QP : PK) (x1 x4 x6 : AV) (h : AH) : Prop :=
pFld (some 3) x1 fun t22 =>
lLd (some false) (some 1) t22 h fun t23 _ =>
pBin Tryd.prog .lss 3 true t23 (.sc (.int .i64 0)) fun t25 =>
F21.n9 W QR QN QE QP x1 x4 x6 t25 h
def F21.f10 : KT := fun s h => F21.n10 W QR QN QE QP (s.tm 1) (s.tm 4) (s.tm 6) h
theorem F21.e10 : evG Tryd.prog 76 (fun _ => W) nobody (kP QP) (regOps (F21.d [1, 1, 1, 1, 0, 0])) (F21.g1.drop 0) ((thenQ (F21.f3 W QR QN QE QP) (thenQ (F21.f1 W QR QN QE QP) (F21.q0 QR QN QE))) .normal) s h = F21.f10 W QR QN QE QP s h := nd_g (is := isAt F21.g1 0) (rest := F21.g1.drop 1) (by kernel_rfl) (F21.e9 W QR QN QE QP) (by kernel_rfl)
theorem F21.o1 : F21.cw W (F21.d [1, 1, 1, 1, 0, 0]) (thenQ (F21.f3 W QR QN QE QP) (thenQ (F21.f1 W QR QN QE QP) (F21.q0 QR QN QE))) QP s h = F21.f10 W QR QN QE QP s h := nd_groups (id := 21) (draw := false) (ops := (regOps (F21.d [1, 1, 1, 1, 0, 0]))) (gs := F21.g1.drop 0) (by kernel_rfl) (by kernel_rfl) (F21.e10 W QR QN QE QP s h)
theorem F21.o2 : F21.cw W (F21.d [1, 1, 1, 1, 0]) (thenQ (F21.f1 W QR QN QE QP) (F21.q0 QR QN QE)) QP s h = F21.f10 W QR QN QE QP s h := nd_seq (a := (F21.d [1, 1, 1, 1, 0, 0])) (b := (F21.d [1, 1, 1, 1, 0, 1])) (by kernel_rfl) (F21.e3 W QR QN QE QP) (F21.o1 W QR QN QE QP s h)
theorem F21.o3 : F21.cw W (F21.d [1, 1, 1, 1]) (F21.q0 QR QN QE) QP s h = F21.f10 W QR QN QE QP s h := nd_seq (a := (F21.d [1, 1, 1, 1, 0])) (b := (F21.d [1, 1, 1, 1, 1])) (by kernel_rfl) (F21.e1 W QR QN QE QP) (F21.o2 W QR QN QE QP s h)
def F21.n11 (_ : WK) (QR _ : VK) (_ : EK) (_ : PK) (h : AH) : Prop :=
QR [(.sc (.bool false))] h
def F21.f11 : KT := fun _ h => F21.n11 W QR QN QE QP h
theorem F21.e11 : F21.cw W (F21.d [1, 1, 1, 0, 1, 0]) (thenQ (F21.f10 W QR QN QE QP) (F21.q0 QR QN QE)) QP s h = F21.f11 W QR QN QE QP s h := nd_seq (a := (F21.d [1, 1, 1, 0, 1, 0, 0])) (b := (F21.d [1, 1, 1, 0, 1, 0, 1])) (by kernel_rfl) (fun _ _ => rfl) (by kernel_rfl)
def F21.n12 (W : WK) (QR QN : VK) (QE : EK) (QP : PK) (x1 x4 x6 x51 : AV) (h : AH) : Prop :=
aIf x51 (
F21.n11 W QR QN QE QP h) (
F21.n10 W QR QN QE QP x1 x4 x6 h)
def F21.f12 : KT := fun s h => F21.n12 W QR QN QE QP (s.tm 1) (s.tm 4) (s.tm 6) (s.tm 51) h
theorem F21.e12 : F21.cw W (F21.d [1, 1, 1, 0, 1]) (thenQ (F21.f10 W QR QN QE QP) (F21.q0 QR QN QE)) QP s h = F21.f12 W QR QN QE QP s h := nd_cond (o := (.tmp 51)) (a := (F21.d [1, 1, 1, 0, 1, 0])) (b := (F21.d [1, 1, 1, 0, 1, 1])) (by kernel_rfl) (F21.e11 W QR QN QE QP s h) rfl (by kernel_rfl)
def F21.n13 (W : WK) (QR QN : VK) (QE : EK) (QP : PK) (x1 x4 x6 x43 x50 : AV) (h : AH) : Prop :=
pPick x43 (.sc (.bool true)) x50 fun t26 =>
F21.n12 W QR QN QE QP x1 x4 x6 t26 h
def F21.f13 : KT := fun s h => F21.n13 W QR QN QE QP (s.tm 1) (s.tm 4) (s.tm 6) (s.tm 43) (s.tm 50) h
theorem F21.e13 : evG Tryd.prog 76 (fun _ => W) nobody (kP QP) (regOps (F21.d [1, 1, 1, 0, 0])) (F21.g2.drop 10) ((thenQ (F21.f12 W QR QN QE QP) (thenQ (F21.f10 W QR QN QE QP) (F21.q0 QR QN QE))) .normal) s h = F21.f13 W QR QN QE QP s h := nd_g (is := isAt F21.g2 10) (rest := F21.g2.drop 11) (by kernel_rfl) (fun _ _ => rfl) (by kernel_rfl)
def F21.n14 (W : WK) (QR QN : VK) (QE : EK) (QP : PK) (x1 x4 x6 x43 x46 x49 : AV) (h : AH) : Prop :=
aIg false x43 (
pPick x46 x49 (.sc (.bool false)) fun t27 =>
F21.n13 W QR QN QE QP x1 x4 x6 x43 t27 h) (
F21.n13 W QR QN QE QP x1 x4 x6 x43 noA h)
def F21.f14 : KT := fun s h => F21.n14 W QR QN QE QP (s.tm 1) (s.tm 4) (s.tm 6) (s.tm 43) (s.tm 46) (s.tm 49) h
theorem F21.e14 : evG Tryd.prog 76 (fun _ => W) nobody (kP QP) (regOps (F21.d [1, 1, 1, 0, 0])) (F21.g2.drop 9) ((thenQ (F21.f12 W QR QN QE QP) (thenQ (F21.f10 W QR QN QE QP) (F21.q0 QR QN QE))) .normal) s h = F21.f14 W QR QN QE QP s h := nd_gw (want := false) (j := 19) (is := isAt F21.g2 9) (rest := F21.g2.drop 10) (by kernel_rfl) (d := 43) (by kernel_rfl) (F21.e13 W QR QN QE QP) (by kernel_rfl)
def F21.n15 (W : WK) (QR QN : VK) (QE : EK) (QP : PK) (x1 x4 x6 x43 x46 : AV) (h : AH) : Prop :=
aIg true x46 (
pFld (some 4) x1 fun t28 =>
lLd (some false) (some 1) t28 h fun t29 _ =>
pBin Tryd.prog .neq 3 true t29 (.sc (.int .i64 0)) fun t31 =>
F21.n14 W QR QN QE QP x1 x4 x6 x43 x46 t31 h) (
F21.n14 W QR QN QE QP x1 x4 x6 x43 x46 noA h)
def F21.f15 : KT := fun s h => F21.n15 W QR QN QE QP (s.tm 1) (s.tm 4) (s.tm 6) (s.tm 43) (s.tm 46) h
theorem F21.e15 : evG Tryd.prog 76 (fun _ => W) nobody (kP QP) (regOps (F21.d [1, 1, 1, 0, 0])) (F21.g2.drop 8) ((thenQ (F21.f12 W QR QN QE QP) (thenQ (F21.f10 W QR QN QE QP) (F21.q0 QR QN QE))) .normal) s h = F21.f15 W QR QN QE QP s h := nd_gw (want := true) (j := 22) (is := isAt F21.g2 8) (rest := F21.g2.drop 9) (by kernel_rfl) (d := 46) (by kernel_rfl) (F21.e14 W QR QN QE QP) (by kernel_rfl)
def F21.n16 (W : WK) (QR QN : VK) (QE : EK) (QP : PK) (x1 x4 x5 x6 x43 : AV) (h : AH) : Prop :=
aIg false x43 (
pUn .not x5 fun t32 =>
F21.n15 W QR QN QE QP x1 x4 x6 x43 t32 h) (
F21.n15 W QR QN QE QP x1 x4 x6 x43 noA h)
def F21.f16 : KT := fun s h => F21.n16 W QR QN QE QP (s.tm 1) (s.tm 4) (s.tm 5) (s.tm 6) (s.tm 43) h
theorem F21.e16 : evG Tryd.prog 76 (fun _ => W) nobody (kP QP) (regOps (F21.d [1, 1, 1, 0, 0])) (F21.g2.drop 7) ((thenQ (F21.f12 W QR QN QE QP) (thenQ (F21.f10 W QR QN QE QP) (F21.q0 QR QN QE))) .normal) s h = F21.f16 W QR QN QE QP s h := nd_gw (want := false) (j := 19) (is := isAt F21.g2 7) (rest := F21.g2.drop 8) (by kernel_rfl) (d := 43) (by kernel_rfl) (F21.e15 W QR QN QE QP) (by kernel_rfl)
def F21.n17 (W : WK) (QR QN : VK) (QE : EK) (QP : PK) (x1 x4 x5 x6 x38 x41 : AV) (h : AH) : Prop :=
pPick x38 (.sc (.bool true)) x41 fun t33 =>
F21.n16 W QR QN QE QP x1 x4 x5 x6 t33 h
def F21.f17 : KT := fun s h => F21.n17 W QR QN QE QP (s.tm 1) (s.tm 4) (s.tm 5) (s.tm 6) (s.tm 38) (s.tm 41) h
theorem F21.e17 : evG Tryd.prog 76 (fun _ => W) nobody (kP QP) (regOps (F21.d [1, 1, 1, 0, 0])) (F21.g2.drop 6) ((thenQ (F21.f12 W QR QN QE QP) (thenQ (F21.f10 W QR QN QE QP) (F21.q0 QR QN QE))) .normal) s h = F21.f17 W QR QN QE QP s h := nd_g (is := isAt F21.g2 6) (rest := F21.g2.drop 7) (by kernel_rfl) (F21.e16 W QR QN QE QP) (by kernel_rfl)
def F21.n18 (W : WK) (QR QN : VK) (QE : EK) (QP : PK) (x1 x4 x5 x6 x38 : AV) (h : AH) : Prop :=
aIg false x38 (
pFld (some 4) x1 fun t34 =>
lLd (some false) (some 1) t34 h fun t35 _ =>
pBin Tryd.prog .lss 3 true t35 (.sc (.int .i64 0)) fun t37 =>
F21.n17 W QR QN QE QP x1 x4 x5 x6 x38 t37 h) (
F21.n17 W QR QN QE QP x1 x4 x5 x6 x38 noA h)
def F21.f18 : KT := fun s h => F21.n18 W QR QN QE QP (s.tm 1) (s.tm 4) (s.tm 5) (s.tm 6) (s.tm 38) h
theorem F21.e18 : evG Tryd.prog 76 (fun _ => W) nobody (kP QP) (regOps (F21.d [1, 1, 1, 0, 0])) (F21.g2.drop 5) ((thenQ (F21.f12 W QR QN QE QP) (thenQ (F21.f10 W QR QN QE QP) (F21.q0 QR QN QE))) .normal) s h = F21.f18 W QR QN QE QP s h := nd_gw (want := false) (j := 14) (is := isAt F21.g2 5) (rest := F21.g2.drop 6) (by kernel_rfl) (d := 38) (by kernel_rfl) (F21.e17 W QR QN QE QP) (by kernel_rfl)
def F21.n19 (W : WK) (QR QN : VK) (QE : EK) (QP : PK) (x1 x4 x5 x6 x29 x36 : AV) (h : AH) : Prop :=
pPick x29 (.sc (.bool true)) x36 fun t38 =>
F21.n18 W QR QN QE QP x1 x4 x5 x6 t38 h
def F21.f19 : KT := fun s h => F21.n19 W QR QN QE QP (s.tm 1) (s.tm 4) (s.tm 5) (s.tm 6) (s.tm 29) (s.tm 36) h
theorem F21.e19 : evG Tryd.prog 76 (fun _ => W) nobody (kP QP) (regOps (F21.d [1, 1, 1, 0, 0])) (F21.g2.drop 4) ((thenQ (F21.f12 W QR QN QE QP) (thenQ (F21.f10 W QR QN QE QP) (F21.q0 QR QN QE))) .normal) s h = F21.f19 W QR QN QE QP s h := nd_g (is := isAt F21.g2 4) (rest := F21.g2.drop 5) (by kernel_rfl) (F21.e18 W QR QN QE QP) (by kernel_rfl)
def F21.n20 (W : WK) (QR QN : VK) (QE : EK) (QP : PK) (x1 x4 x5 x6 x29 x31 x35 : AV) (h : AH) : Prop :=
aIg false x29 (
pPick x31 x35 (.sc (.bool false)) fun t39 =>
F21.n19 W QR QN QE QP x1 x4 x5 x6 x29 t39 h) (
F21.n19 W QR QN QE QP x1 x4 x5 x6 x29 noA h)
def F21.f20 : KT := fun s h => F21.n20 W QR QN QE QP (s.tm 1) (s.tm 4) (s.tm 5) (s.tm 6) (s.tm 29) (s.tm 31) (s.tm 35) h
theorem F21.e20 : evG Tryd.prog 76 (fun _ => W) nobody (kP QP) (regOps (F21.d [1, 1, 1, 0, 0])) (F21.g2.drop 3) ((thenQ (F21.f12 W QR QN QE QP) (thenQ (F21.f10 W QR QN QE QP) (F21.q0 QR QN QE))) .normal) s h = F21.f20 W QR QN QE QP s h := nd_gw (want := false) (j := 5) (is := isAt F21.g2 3) (rest := F21.g2.drop 4) (by kernel_rfl) (d := 29) (by kernel_rfl) (F21.e19 W QR QN QE QP) (by kernel_rfl)
def F21.n21 (W : WK) (QR QN : VK) (QE : EK) (QP : PK) (x1 x4 x5 x6 x29 x31 : AV) (h : AH) : Prop :=
aIg true x31 (
pFld (some 1) x1 fun t40 =>
lLd (some false) (some 1) t40 h fun t41 _ =>
aCall Tryd.prog W 41 [t41] h (fun t43 h44 =>
pUn .not t43 fun t45 =>
F21.n20 W QR QN QE QP x1 x4 x5 x6 x29 x31 t45 h44) QP) (
F21.n20 W QR QN QE QP x1 x4 x5 x6 x29 x31 noA h)
def F21.f21 : KT := fun s h => F21.n21 W QR QN QE QP (s.tm 1) (s.tm 4) (s.tm 5) (s.tm 6) (s.tm 29) (s.tm 31) h
theorem F21.e21 : evG Tryd.prog 76 (fun _ => W) nobody (kP QP) (regOps (F21.d [1, 1, 1, 0, 0])) (F21.g2.drop 2) ((thenQ (F21.f12 W QR QN QE QP) (thenQ (F21.f10 W QR QN QE QP) (F21.q0 QR QN QE))) .normal) s h = F21.f21 W QR QN QE QP s h := nd_gw (want := true) (j := 7) (is := isAt F21.g2 2) (rest := F21.g2.drop 3) (by kernel_rfl) (d := 31) (by kernel_rfl) (F21.e20 W QR QN QE QP) (by kernel_rfl)
def F21.n22 (W : WK) (QR QN : VK) (QE : EK) (QP : PK) (x1 x3 x4 x5 x6 x29 : AV) (h : AH) : Prop :=
aIg false x29 (
F21.n21 W QR QN QE QP x1 x4 x5 x6 x29 x3 h) (
F21.n21 W QR QN QE QP x1 x4 x5 x6 x29 noA h)
def F21.f22 : KT := fun s h => F21.n22 W QR QN QE QP (s.tm 1) (s.tm 3) (s.tm 4) (s.tm 5) (s.tm 6) (s.tm 29) h
theorem F21.e22 : evG Tryd.prog 76 (fun _ => W) nobody (kP QP) (regOps (F21.d [1, 1, 1, 0, 0])) (F21.g2.drop 1) ((thenQ (F21.f12 W QR QN QE QP) (thenQ (F21.f10 W QR QN QE QP) (F21.q0 QR QN QE))) .normal) s h = F21.f22 W QR QN QE QP s h := nd_gw (want := false) (j := 5) (is := isAt F21.g2 1) (rest := F21.g2.drop 2) (by kernel_rfl) (d := 29) (by kernel_rfl) (F21.e21 W QR QN QE QP) (by kernel_rfl)
def F21.n23 (W : WK) (QR QN : VK) (QE : EK) (QP : PK) (x1 x3 x4 x5 x6 : AV) (h : AH) : Prop :=
pFld (some 1) x1 fun t46 =>
lLd (some false) (some 1) t46 h fun t47 _ =>
pBin Tryd.prog .neq 9 true t47 (.sc (.string ⟨#[]⟩)) fun t49 =>
pBin Tryd.prog .neq 4 false x3 t49 fun t50 =>
F21.n22 W QR QN QE QP x1 x3 x4 x5 x6 t50 h
def F21.f23 : KT := fun s h => F21.n23 W QR QN QE QP (s.tm 1) (s.tm 3) (s.tm 4) (s.tm 5) (s.tm 6) h
theorem F21.e23 : evG Tryd.prog 76 (fun _ => W) nobody (kP QP) (regOps (F21.d [1, 1, 1, 0, 0])) (F21.g2.drop 0) ((thenQ (F21.f12 W QR QN QE QP) (thenQ (F21.f10 W QR QN QE QP) (F21.q0 QR QN QE))) .normal) s h = F21.f23 W QR QN QE QP s h := nd_g (is := isAt F21.g2 0) (rest := F21.g2.drop 1) (by kernel_rfl) (F21.e22 W QR QN QE QP) (by kernel_rfl)
theorem F21.o4 : F21.cw W (F21.d [1, 1, 1, 0, 0]) (thenQ (F21.f12 W QR QN QE QP) (thenQ (F21.f10 W QR QN QE QP) (F21.q0 QR QN QE))) QP s h = F21.f23 W QR QN QE QP s h := nd_groups (id := 19) (draw := false) (ops := (regOps (F21.d [1, 1, 1, 0, 0]))) (gs := F21.g2.drop 0) (by kernel_rfl) (by kernel_rfl) (F21.e23 W QR QN QE QP s h)
theorem F21.o5 : F21.cw W (F21.d [1, 1, 1, 0]) (thenQ (F21.f10 W QR QN QE QP) (F21.q0 QR QN QE)) QP s h = F21.f23 W QR QN QE QP s h := nd_seq (a := (F21.d [1, 1, 1, 0, 0])) (b := (F21.d [1, 1, 1, 0, 1])) (by kernel_rfl) (F21.e12 W QR QN QE QP) (F21.o4 W QR QN QE QP s h)
theorem F21.o6 : F21.cw W (F21.d [1, 1, 1]) (F21.q0 QR QN QE) QP s h = F21.f23 W QR QN QE QP s h := nd_seq (a := (F21.d [1, 1, 1, 0])) (b := (F21.d [1, 1, 1, 1])) (by kernel_rfl) (F21.o3 W QR QN QE QP) (F21.o5 W QR QN QE QP s h)
def F21.n24 (_ : WK) (QR _ : VK) (_ : EK) (_ : PK) (h : AH) : Prop :=
QR [(.sc (.bool false))] h
def F21.f24 : KT := fun _ h => F21.n24 W QR QN QE QP h
theorem F21.e24 : F21.cw W (F21.d [1, 1, 0, 1, 0, 1, 1, 1, 1, 1, 1, 1, 1, 1, 1, 1, 1, 1, 1]) (blockQ 0 (thenQ (F21.f23 W QR QN QE QP) (F21.q0 QR QN QE))) QP s h = F21.f24 W QR QN QE QP s h := nd_seq (a := (F21.d [1, 1, 0, 1, 0, 1, 1, 1, 1, 1, 1, 1, 1, 1, 1, 1, 1, 1, 1, 0])) (b := (F21.d [1, 1, 0, 1, 0, 1, 1, 1, 1, 1, 1, 1, 1, 1, 1, 1, 1, 1, 1, 1])) (by kernel_rfl) (fun _ _ => rfl) (by kernel_rfl)
def F21.n25 (W : WK) (QR QN : VK) (QE : EK) (QP : PK) (x1 x4 x5 x22 : AV) (h : AH) : Prop :=
aIf x22 (
F21.n23 W QR QN QE QP x1 (.sc (.bool true)) x4 x5 (.sc (.int .i64 (-1))) h) (
F21.n24 W QR QN QE QP h)
def F21.f25 : KT := fun s h => F21.n25 W QR QN QE QP (s.tm 1) (s.tm 4) (s.tm 5) (s.tm 22) h
theorem F21.e25 : F21.cw W (F21.d [1, 1, 0, 1, 0, 1, 1, 1, 1, 1, 1, 1, 1, 1, 1, 1, 1, 1]) (blockQ 0 (thenQ (F21.f23 W QR QN QE QP) (F21.q0 QR QN QE))) QP s h = F21.f25 W QR QN QE QP s h := nd_cond (o := (.tmp 22)) (a := (F21.d [1, 1, 0, 1, 0, 1, 1, 1, 1, 1, 1, 1, 1, 1, 1, 1, 1, 1, 0])) (b := (F21.d [1, 1, 0, 1, 0, 1, 1, 1, 1, 1, 1, 1, 1, 1, 1, 1, 1, 1, 1])) (by kernel_rfl) rfl (F21.e24 W QR QN QE QP s h) (by kernel_rfl)
def F21.n26 (W : WK) (QR QN : VK) (QE : EK) (QP : PK) (x1 x4 x5 x8 : AV) (h : AH) : Prop :=
pBin Tryd.prog .eql 9 true x8 (.sc (.string ⟨#[117, 115, 101]⟩)) fun t51 =>
F21.n25 W QR QN QE QP x1 x4 x5 t51 h
def F21.f26 : KT := fun s h => F21.n26 W QR QN QE QP (s.tm 1) (s.tm 4) (s.tm 5) (s.tm 8) h
theorem F21.e26 : F21.cw W (F21.d [1, 1, 0, 1, 0, 1, 1, 1, 1, 1, 1, 1, 1, 1, 1, 1, 1]) (blockQ 0 (thenQ (F21.f23 W QR QN QE QP) (F21.q0 QR QN QE))) QP s h = F21.f26 W QR QN QE QP s h := nd_seq (a := (F21.d [1, 1, 0, 1, 0, 1, 1, 1, 1, 1, 1, 1, 1, 1, 1, 1, 1, 0])) (b := (F21.d [1, 1, 0, 1, 0, 1, 1, 1, 1, 1, 1, 1, 1, 1, 1, 1, 1, 1])) (by kernel_rfl) (F21.e25 W QR QN QE QP) (by kernel_rfl)
def F21.n27 (W : WK) (QR QN : VK) (QE : EK) (QP : PK) (x1 x3 x4 x5 x8 x20 : AV) (h : AH) : Prop :=
aIf x20 (
F21.n23 W QR QN QE QP x1 x3 x4 x5 (.sc (.int .i64 1)) h) (
F21.n26 W QR QN QE QP x1 x4 x5 x8 h)
def F21.f27 : KT := fun s h => F21.n27 W QR QN QE QP (s.tm 1) (s.tm 3) (s.tm 4) (s.tm 5) (s.tm 8) (s.tm 20) h
theorem F21.e27 : F21.cw W (F21.d [1, 1, 0, 1, 0, 1, 1, 1, 1, 1, 1, 1, 1, 1, 1, 1]) (blockQ 0 (thenQ (F21.f23 W QR QN QE QP) (F21.q0 QR QN QE))) QP s h = F21.f27 W QR QN QE QP s h := nd_cond (o := (.tmp 20)) (a := (F21.d [1, 1, 0, 1, 0, 1, 1, 1, 1, 1, 1, 1, 1, 1, 1, 1, 0])) (b := (F21.d [1, 1, 0, 1, 0, 1, 1, 1, 1, 1, 1, 1, 1, 1, 1, 1, 1])) (by kernel_rfl) rfl (F21.e26 W QR QN QE QP s h) (by kernel_rfl)
def F21.n28 (W : WK) (QR QN : VK) (QE : EK) (QP : PK) (x1 x3 x4 x5 x8 : AV) (h : AH) : Prop :=
pBin Tryd.prog .eql 9 true x8 (.sc (.string ⟨#[114, 101, 115, 101, 116]⟩)) fun t52 =>
F21.n27 W QR QN QE QP x1 x3 x4 x5 x8 t52 h
def F21.f28 : KT := fun s h => F21.n28 W QR QN QE QP (s.tm 1) (s.tm 3) (s.tm 4) (s.tm 5) (s.tm 8) h
theorem F21.e28 : F21.cw W (F21.d [1, 1, 0, 1, 0, 1, 1, 1, 1, 1, 1, 1, 1, 1, 1]) (blockQ 0 (thenQ (F21.f23 W QR QN QE QP) (F21.q0 QR QN QE))) QP s h = F21.f28 W QR QN QE QP s h := nd_seq (a := (F21.d [1, 1, 0, 1, 0, 1, 1, 1, 1, 1, 1, 1, 1, 1, 1, 0])) (b := (F21.d [1, 1, 0, 1, 0, 1, 1, 1, 1, 1, 1, 1, 1, 1, 1, 1])) (by kernel_rfl) (F21.e27 W QR QN QE QP) (by kernel_rfl)
def F21.n29 (W : WK) (QR QN : VK) (QE : EK) (QP : PK) (x1 x3 x4 x5 x8 x18 : AV) (h : AH) : Prop :=
aIf x18 (
F21.n23 W QR QN QE QP x1 x3 x4 x5 (.sc (.int .i64 2)) h) (
F21.n28 W QR QN QE QP x1 x3 x4 x5 x8 h)
def F21.f29 : KT := fun s h => F21.n29 W QR QN QE QP (s.tm 1) (s.tm 3) (s.tm 4) (s.tm 5) (s.tm 8) (s.tm 18) h
theorem F21.e29 : F21.cw W (F21.d [1, 1, 0, 1, 0, 1, 1, 1, 1, 1, 1, 1, 1, 1]) (blockQ 0 (thenQ (F21.f23 W QR QN QE QP) (F21.q0 QR QN QE))) QP s h = F21.f29 W QR QN QE QP s h := nd_cond (o := (.tmp 18)) (a := (F21.d [1, 1, 0, 1, 0, 1, 1, 1, 1, 1, 1, 1, 1, 1, 0])) (b := (F21.d [1, 1, 0, 1, 0, 1, 1, 1, 1, 1, 1, 1, 1, 1, 1])) (by kernel_rfl) rfl (F21.e28 W QR QN QE QP s h) (by kernel_rfl)
def F21.n30 (W : WK) (QR QN : VK) (QE : EK) (QP : PK) (x1 x3 x4 x5 x8 : AV) (h : AH) : Prop :=
pBin Tryd.prog .eql 9 true x8 (.sc (.string ⟨#[109, 101, 97, 115, 117, 114, 101]⟩)) fun t53 =>
F21.n29 W QR QN QE QP x1 x3 x4 x5 x8 t53 h
def F21.f30 : KT := fun s h => F21.n30 W QR QN QE QP (s.tm 1) (s.tm 3) (s.tm 4) (s.tm 5) (s.tm 8) h
theorem F21.e30 : F21.cw W (F21.d [1, 1, 0, 1, 0, 1, 1, 1, 1, 1, 1, 1, 1]) (blockQ 0 (thenQ (F21.f23 W QR QN QE QP) (F21.q0 QR QN QE))) QP s h = F21.f30 W QR QN QE QP s h := nd_seq (a := (F21.d [1, 1, 0, 1, 0, 1, 1, 1, 1, 1, 1, 1, 1, 0])) (b := (F21.d [1, 1, 0, 1, 0, 1, 1, 1, 1, 1, 1, 1, 1, 1])) (by kernel_rfl) (F21.e29 W QR QN QE QP) (by kernel_rfl)
def F21.n31 (W : WK) (QR QN : VK) (QE : EK) (QP : PK) (x1 x3 x4 x5 x6 x8 x16 : AV) (h : AH) : Prop :=
aIf x16 (
F21.n23 W QR QN QE QP x1 (.sc (.bool true)) (.sc (.bool true)) (.sc (.bool true)) x6 h) (
F21.n30 W QR QN QE QP x1 x3 x4 x5 x8 h)
def F21.f31 : KT := fun s h => F21.n31 W QR QN QE QP (s.tm 1) (s.tm 3) (s.tm 4) (s.tm 5) (s.tm 6) (s.tm 8) (s.tm 16) h
theorem F21.e31 : F21.cw W (F21.d [1, 1, 0, 1, 0, 1, 1, 1, 1, 1, 1, 1]) (blockQ 0 (thenQ (F21.f23 W QR QN QE QP) (F21.q0 QR QN QE))) QP s h = F21.f31 W QR QN QE QP s h := nd_cond (o := (.tmp 16)) (a := (F21.d [1, 1, 0, 1, 0, 1, 1, 1, 1, 1, 1, 1, 0])) (b := (F21.d [1, 1, 0, 1, 0, 1, 1, 1, 1, 1, 1, 1, 1])) (by kernel_rfl) rfl (F21.e30 W QR QN QE QP s h) (by kernel_rfl)
def F21.n32 (W : WK) (QR QN : VK) (QE : EK) (QP : PK) (x1 x3 x4 x5 x6 x8 : AV) (h : AH) : Prop :=
pBin Tryd.prog .eql 9 true x8 (.sc (.string ⟨#[105, 102]⟩)) fun t54 =>
F21.n31 W QR QN QE QP x1 x3 x4 x5 x6 x8 t54 h
def F21.f32 : KT := fun s h => F21.n32 W QR QN QE QP (s.tm 1) (s.tm 3) (s.tm 4) (s.tm 5) (s.tm 6) (s.tm 8) h
theorem F21.e32 : F21.cw W (F21.d [1, 1, 0, 1, 0, 1, 1, 1, 1, 1, 1]) (blockQ 0 (thenQ (F21.f23 W QR QN QE QP) (F21.q0 QR QN QE))) QP s h = F21.f32 W QR QN QE QP s h := nd_seq (a := (F21.d [1, 1, 0, 1, 0, 1, 1, 1, 1, 1, 1, 0])) (b := (F21.d [1, 1, 0, 1, 0, 1, 1, 1, 1, 1, 1, 1])) (by kernel_rfl) (F21.e31 W QR QN QE QP) (by kernel_rfl)
def F21.n33 (W : WK) (QR QN : VK) (QE : EK) (QP : PK) (x1 x3 x4 x5 x6 x8 x14 : AV) (h : AH) : Prop :=
aIf x14 (
F21.n23 W QR QN QE QP x1 x3 (.sc (.bool true)) (.sc (.bool true)) x6 h) (
F21.n32 W QR QN QE QP x1 x3 x4 x5 x6 x8 h)
def F21.f33 : KT := fun s h => F21.n33 W QR QN QE QP (s.tm 1) (s.tm 3) (s.tm 4) (s.tm 5) (s.tm 6) (s.tm 8) (s.tm 14) h
theorem F21.e33 : F21.cw W (F21.d [1, 1, 0, 1, 0, 1, 1, 1, 1, 1]) (blockQ 0 (thenQ (F21.f23 W QR QN QE QP) (F21.q0 QR QN QE))) QP s h = F21.f33 W QR QN QE QP s h := nd_cond (o := (.tmp 14)) (a := (F21.d [1, 1, 0, 1, 0, 1, 1, 1, 1, 1, 0])) (b := (F21.d [1, 1, 0, 1, 0, 1, 1, 1, 1, 1, 1])) (by kernel_rfl) rfl (F21.e32 W QR QN QE QP s h) (by kernel_rfl)
def F21.n34 (W : WK) (QR QN : VK) (QE : EK) (QP : PK) (x1 x3 x4 x5 x6 x8 : AV) (h : AH) : Prop :=
pBin Tryd.prog .eql 9 true x8 (.sc (.string ⟨#[114, 101, 112, 101, 97, 116]⟩)) fun t55 =>
F21.n33 W QR QN QE QP x1 x3 x4 x5 x6 x8 t55 h
def F21.f34 : KT := fun s h => F21.n34 W QR QN QE QP (s.tm 1) (s.tm 3) (s.tm 4) (s.tm 5) (s.tm 6) (s.tm 8) h
theorem F21.e34 : F21.cw W (F21.d [1, 1, 0, 1, 0, 1, 1, 1, 1]) (blockQ 0 (thenQ (F21.f23 W QR QN QE QP) (F21.q0 QR QN QE))) QP s h = F21.f34 W QR QN QE QP s h := nd_seq (a := (F21.d [1, 1, 0, 1, 0, 1, 1, 1, 1, 0])) (b := (F21.d [1, 1, 0, 1, 0, 1, 1, 1, 1, 1])) (by kernel_rfl) (F21.e33 W QR QN QE QP) (by kernel_rfl)
def F21.n35 (W : WK) (QR QN : VK) (QE : EK) (QP : PK) (x1 x3 x4 x5 x6 x8 x12 : AV) (h : AH) : Prop :=
aIf x12 (
F21.n23 W QR QN QE QP x1 (.sc (.bool true)) x4 (.sc (.bool true)) (.sc (.int .i64 (-1))) h) (
F21.n34 W QR QN QE QP x1 x3 x4 x5 x6 x8 h)
def F21.f35 : KT := fun s h => F21.n35 W QR QN QE QP (s.tm 1) (s.tm 3) (s.tm 4) (s.tm 5) (s.tm 6) (s.tm 8) (s.tm 12) h
theorem F21.e35 : F21.cw W (F21.d [1, 1, 0, 1, 0, 1, 1, 1]) (blockQ 0 (thenQ (F21.f23 W QR QN QE QP) (F21.q0 QR QN QE))) QP s h = F21.f35 W QR QN QE QP s h := nd_cond (o := (.tmp 12)) (a := (F21.d [1, 1, 0, 1, 0, 1, 1, 1, 0])) (b := (F21.d [1, 1, 0, 1, 0, 1, 1, 1, 1])) (by kernel_rfl) rfl (F21.e34 W QR QN QE QP s h) (by kernel_rfl)
def F21.n36 (W : WK) (QR QN : VK) (QE : EK) (QP : PK) (x1 x3 x4 x5 x6 x8 : AV) (h : AH) : Prop :=
pBin Tryd.prog .eql 9 true x8 (.sc (.string ⟨#[103, 97, 116, 101]⟩)) fun t56 =>
F21.n35 W QR QN QE QP x1 x3 x4 x5 x6 x8 t56 h
def F21.f36 : KT := fun s h => F21.n36 W QR QN QE QP (s.tm 1) (s.tm 3) (s.tm 4) (s.tm 5) (s.tm 6) (s.tm 8) h
theorem F21.e36 : F21.cw W (F21.d [1, 1, 0, 1, 0, 1, 1]) (blockQ 0 (thenQ (F21.f23 W QR QN QE QP) (F21.q0 QR QN QE))) QP s h = F21.f36 W QR QN QE QP s h := nd_seq (a := (F21.d [1, 1, 0, 1, 0, 1, 1, 0])) (b := (F21.d [1, 1, 0, 1, 0, 1, 1, 1])) (by kernel_rfl) (F21.e35 W QR QN QE QP) (by kernel_rfl)
def F21.n37 (W : WK) (QR QN : VK) (QE : EK) (QP : PK) (x1 x3 x4 x5 x6 x8 x9 : AV) (h : AH) : Prop :=
aIf x9 (
F21.n23 W QR QN QE QP x1 (.sc (.bool true)) (.sc (.bool true)) x5 x6 h) (
F21.n36 W QR QN QE QP x1 x3 x4 x5 x6 x8 h)
def F21.f37 : KT := fun s h => F21.n37 W QR QN QE QP (s.tm 1) (s.tm 3) (s.tm 4) (s.tm 5) (s.tm 6) (s.tm 8) (s.tm 9) h
theorem F21.e37 : F21.cw W (F21.d [1, 1, 0, 1, 0, 1]) (blockQ 0 (thenQ (F21.f23 W QR QN QE QP) (F21.q0 QR QN QE))) QP s h = F21.f37 W QR QN QE QP s h := nd_cond (o := (.tmp 9)) (a := (F21.d [1, 1, 0, 1, 0, 1, 0])) (b := (F21.d [1, 1, 0, 1, 0, 1, 1])) (by kernel_rfl) rfl (F21.e36 W QR QN QE QP s h) (by kernel_rfl)
def F21.n38 (W : WK) (QR QN : VK) (QE : EK) (QP : PK) (x1 x3 x4 x5 x6 x8 x9 : AV) (h : AH) : Prop :=
aIf x9 (
F21.n37 W QR QN QE QP x1 x3 x4 x5 x6 x8 x9 h) (
pBin Tryd.prog .eql 9 true x8 (.sc (.string ⟨#[98, 105, 116, 115]⟩)) fun t57 =>
F21.n37 W QR QN QE QP x1 x3 x4 x5 x6 x8 t57 h)
def F21.f38 : KT := fun s h => F21.n38 W QR QN QE QP (s.tm 1) (s.tm 3) (s.tm 4) (s.tm 5) (s.tm 6) (s.tm 8) (s.tm 9) h
theorem F21.e38 : F21.cw W (F21.d [1, 1, 0, 1, 0, 0, 1]) (thenQ (F21.f37 W QR QN QE QP) (blockQ 0 (thenQ (F21.f23 W QR QN QE QP) (F21.q0 QR QN QE)))) QP s h = F21.f38 W QR QN QE QP s h := nd_cond (o := (.tmp 9)) (a := (F21.d [1, 1, 0, 1, 0, 0, 1, 0])) (b := (F21.d [1, 1, 0, 1, 0, 0, 1, 1])) (by kernel_rfl) rfl rfl (by kernel_rfl)
def F21.n39 (W : WK) (QR QN : VK) (QE : EK) (QP : PK) (x1 x3 x4 x5 x6 x8 : AV) (h : AH) : Prop :=
pBin Tryd.prog .eql 9 true x8 (.sc (.string ⟨#[113, 117, 98, 105, 116, 115]⟩)) fun t58 =>
F21.n38 W QR QN QE QP x1 x3 x4 x5 x6 x8 t58 h
def F21.f39 : KT := fun s h => F21.n39 W QR QN QE QP (s.tm 1) (s.tm 3) (s.tm 4) (s.tm 5) (s.tm 6) (s.tm 8) h
theorem F21.e39 : F21.cw W (F21.d [1, 1, 0, 1, 0, 0]) (thenQ (F21.f37 W QR QN QE QP) (blockQ 0 (thenQ (F21.f23 W QR QN QE QP) (F21.q0 QR QN QE)))) QP s h = F21.f39 W QR QN QE QP s h := nd_seq (a := (F21.d [1, 1, 0, 1, 0, 0, 0])) (b := (F21.d [1, 1, 0, 1, 0, 0, 1])) (by kernel_rfl) (F21.e38 W QR QN QE QP) (by kernel_rfl)
theorem F21.o7 : F21.cw W (F21.d [1, 1, 0, 1, 0]) (blockQ 0 (thenQ (F21.f23 W QR QN QE QP) (F21.q0 QR QN QE))) QP s h = F21.f39 W QR QN QE QP s h := nd_seq (a := (F21.d [1, 1, 0, 1, 0, 0])) (b := (F21.d [1, 1, 0, 1, 0, 1])) (by kernel_rfl) (F21.e37 W QR QN QE QP) (F21.e39 W QR QN QE QP s h)
theorem F21.o8 : F21.cw W (F21.d [1, 1, 0, 1]) (thenQ (F21.f23 W QR QN QE QP) (F21.q0 QR QN QE)) QP s h = F21.f39 W QR QN QE QP s h := nd_block (a := (F21.d [1, 1, 0, 1, 0])) (by kernel_rfl) (F21.o7 W QR QN QE QP s h)
def F21.n40 (W : WK) (QR QN : VK) (QE : EK) (QP : PK) (x1 x3 x4 x5 x6 : AV) (h : AH) : Prop :=
pFld (some 0) x1 fun t59 =>
lLd (some false) (some 1) t59 h fun t60 _ =>
F21.n39 W QR QN QE QP x1 x3 x4 x5 x6 t60 h
def F21.f40 : KT := fun s h => F21.n40 W QR QN QE QP (s.tm 1) (s.tm 3) (s.tm 4) (s.tm 5) (s.tm 6) h
theorem F21.e40 : F21.cw W (F21.d [1, 1, 0]) (thenQ (F21.f23 W QR QN QE QP) (F21.q0 QR QN QE)) QP s h = F21.f40 W QR QN QE QP s h := nd_seq (a := (F21.d [1, 1, 0, 0])) (b := (F21.d [1, 1, 0, 1])) (by kernel_rfl) (F21.o8 W QR QN QE QP) (by kernel_rfl)
theorem F21.o9 : F21.cw W (F21.d [1, 1]) (F21.q0 QR QN QE) QP s h = F21.f40 W QR QN QE QP s h := nd_seq (a := (F21.d [1, 1, 0])) (b := (F21.d [1, 1, 1])) (by kernel_rfl) (F21.o6 W QR QN QE QP) (F21.e40 W QR QN QE QP s h)
def F21.n41 (W : WK) (QR QN : VK) (QE : EK) (QP : PK) (x1 : AV) (h : AH) : Prop :=
F21.n40 W QR QN QE QP x1 (.sc (.bool false)) (.sc (.bool false)) (.sc (.bool false)) (.sc (.int .i64 0)) h
def F21.f41 : KT := fun s h => F21.n41 W QR QN QE QP (s.tm 1) h
theorem F21.e41 : F21.cw W (F21.d [1]) (F21.q0 QR QN QE) QP s h = F21.f41 W QR QN QE QP s h := nd_seq (a := (F21.d [1, 0])) (b := (F21.d [1, 1])) (by kernel_rfl) (F21.o9 W QR QN QE QP) (by kernel_rfl)
def F21.n42 (W : WK) (QR QN : VK) (QE : EK) (QP : PK) (x0 : AV) (h : AH) : Prop :=
eBox 6 39 x0 h fun t62 h63 =>
F21.n41 W QR QN QE QP t62 h63
def F21.f42 : KT := fun s h => F21.n42 W QR QN QE QP (s.tm 0) h
theorem F21.e42 : F21.cw W (F21.d []) (F21.q0 QR QN QE) QP s h = F21.f42 W QR QN QE QP s h := nd_seq (a := (F21.d [0])) (b := (F21.d [1])) (by kernel_rfl) (F21.e41 W QR QN QE QP) (by kernel_rfl)
end
set_option maxRecDepth 100000 in
theorem F21.callsN {x0 : AV} {h : AH} {M : Nat → Prop} {R : AE → AH → Prop} (hp : F21.n42 (fun id => M id ∨ h.next ≤ id) (retV Tryd.prog [.tmp 2] R) (retV Tryd.prog [.tmp 2] R) (fun _ _ _ => False) (fun v h => R (.pan v) h) x0 h) : ACalls Tryd.prog 21 [x0] h M R :=
  acalls_of (c := F21.code) Tryd.mixed Tryd.func21 (by kernel_rfl) (Nat.le_of_ble_eq_true rfl) F21.ok (by rw [show Tryd.f21.ntmps = 76 from rfl, show Tryd.f21.results.toList = [.tmp 2] from rfl]; exact body_D (q := F21.q0 (retV Tryd.prog [.tmp 2] R) (retV Tryd.prog [.tmp 2] R) (fun _ _ _ => False)) (by kernel_rfl) (fun _ _ => rfl) (fun _ _ => rfl) (fun _ _ _ h => h) (fun _ _ _ h => h) rfl (Eq.mpr (F21.e42 (fun id => M id ∨ h.next ≤ id) (retV Tryd.prog [.tmp 2] R) (retV Tryd.prog [.tmp 2] R) (fun _ _ _ => False) (fun v h => R (.pan v) h) (s0 [x0]) h) hp))
attribute [simp] F21.n1 F21.n2 F21.n3 F21.n4 F21.n5 F21.n6 F21.n7 F21.n8 F21.n9 F21.n10 F21.n11 F21.n12 F21.n13 F21.n14 F21.n15 F21.n16 F21.n17 F21.n18 F21.n19 F21.n20 F21.n21 F21.n22 F21.n23 F21.n24 F21.n25 F21.n26 F21.n27 F21.n28 F21.n29 F21.n30 F21.n31 F21.n32 F21.n33 F21.n34 F21.n35 F21.n36 F21.n37 F21.n38 F21.n39 F21.n40 F21.n41 F21.n42

section
variable (W : Nat → Prop) (QR QN : VK) (QE : Nat → VK) (QP : AV → AH → Prop) (s : St) (h : AH)
noncomputable def F22.code : Code := Tryd.f22.body.getD .skip
def F22.g1 : Grps := [(none, [(0, false), (1, false), (2, false), (3, false)]), (some (3, false), [(4, false), (5, false), (6, false)]), (none, [(7, false), (8, false)]), (some (8, false), [(9, false), (10, false), (11, false)]), (none, [(12, false), (13, false)]), (some (13, false), [(14, false), (15, false), (16, false)]), (none, [(17, false)])]
def F22.pl : Plans := [(6, ⟨F22.g1, false, [], []⟩)]
theorem F22.ok : okCode Tryd.prog F22.pl F22.code = true := by kernel_rfl
noncomputable abbrev F22.d (p : List Nat) : Code := Code.at F22.code p
abbrev F22.cw (W : Nat → Prop) (c : Code) (q : Post) (QP : AV → AH → Prop) : KT := Go.Ab.aw Tryd.prog 60 W F22.pl c q (kP QP)
def F22.el0 (_ : Nat) (_ : Nat → AV) : List AV := []
def F22.q0 (QR QN : VK) (QE : Nat → VK) : Post := fun x s h => match x with | .normal => QN [s.tm 2] h | .ret => QR [s.tm 2] h | .exit j => QE j (F22.el0 j s.tm) h | .goto _ => False
def F22.n1 (_ : WK) (QR _ : VK) (_ : EK) (_ : PK) (x3 : AV) (h : AH) : Prop :=
QR [x3] h
def F22.f1 : KT := fun s h => F22.n1 W QR QN QE QP (s.tm 3) h
theorem F22.e1 : F22.cw W (F22.d [1, 1, 1, 1, 1]) (F22.q0 QR QN QE) QP s h = F22.f1 W QR QN QE QP s h := nd_seq (a := (F22.d [1, 1, 1, 1, 1, 0])) (b := (F22.d [1, 1, 1, 1, 1, 1])) (by kernel_rfl) (fun _ _ => rfl) (by kernel_rfl)
def F22.el1 (j : Nat) (tm : Nat → AV) : List AV := if j = 0 then [tm 3] else []
def F22.q1 (QR QN : VK) (QE : Nat → VK) : Post := fun x s h => match x with | .normal => QN [s.tm 1, s.tm 3, s.tm 4] h | .ret => QR [s.tm 2] h | .exit j => QE j (F22.el1 j s.tm) h | .goto _ => False
def F22.n2 (_ : WK) (_ QN : VK) (_ : EK) (_ : PK) (x1 x3 x4 : AV) (h : AH) : Prop :=
pBin Tryd.prog .add 3 true x4 (.sc (.int .i64 1)) fun t1 =>
QN [x1, x3, t1] h
def F22.f2 : KT := fun s h => F22.n2 W QR QN QE QP (s.tm 1) (s.tm 3) (s.tm 4) h
theorem F22.e2 : F22.cw W (F22.d [1, 1, 1, 1, 0, 1, 0, 0, 1, 1]) (F22.q1 QR QN QE) QP s h = F22.f2 W QR QN QE QP s h := by kernel_rfl
def F22.n3 (W : WK) (QR QN : VK) (QE : EK) (QP : PK) (x1 x3 x4 : AV) (h : AH) : Prop :=
pFld (some 2) x1 fun t2 =>
lLd (some false) (some 1) t2 h fun t3 _ =>
pIxA (some (2, none)) t3 x4 fun t5 =>
lLd (some true) (some 2) t5 h fun t6 _ =>
aCall Tryd.prog W 44 [t6] h (fun t8 h9 =>
pBin Tryd.prog .add 9 false x3 t8 fun t10 =>
F22.n2 W QR QN QE QP x1 t10 x4 h9) QP
def F22.f3 : KT := fun s h => F22.n3 W QR QN QE QP (s.tm 1) (s.tm 3) (s.tm 4) h
theorem F22.e3 : F22.cw W (F22.d [1, 1, 1, 1, 0, 1, 0, 0, 1, 0, 0]) (blockQ 1 (thenQ (F22.f2 W QR QN QE QP) (F22.q1 QR QN QE))) QP s h = F22.f3 W QR QN QE QP s h := by kernel_rfl
theorem F22.o1 : F22.cw W (F22.d [1, 1, 1, 1, 0, 1, 0, 0, 1, 0]) (thenQ (F22.f2 W QR QN QE QP) (F22.q1 QR QN QE)) QP s h = F22.f3 W QR QN QE QP s h := nd_block (a := (F22.d [1, 1, 1, 1, 0, 1, 0, 0, 1, 0, 0])) (by kernel_rfl) (F22.e3 W QR QN QE QP s h)
theorem F22.o2 : F22.cw W (F22.d [1, 1, 1, 1, 0, 1, 0, 0, 1]) (F22.q1 QR QN QE) QP s h = F22.f3 W QR QN QE QP s h := nd_seq (a := (F22.d [1, 1, 1, 1, 0, 1, 0, 0, 1, 0])) (b := (F22.d [1, 1, 1, 1, 0, 1, 0, 0, 1, 1])) (by kernel_rfl) (F22.e2 W QR QN QE QP) (F22.o1 W QR QN QE QP s h)
def F22.n4 (W : WK) (QR QN : VK) (QE : EK) (QP : PK) (x1 x3 x4 x48 : AV) (h : AH) : Prop :=
aIf x48 (
F22.n3 W QR QN QE QP x1 x3 x4 h) (
QE 0 [x3] h)
def F22.f4 : KT := fun s h => F22.n4 W QR QN QE QP (s.tm 1) (s.tm 3) (s.tm 4) (s.tm 48) h
theorem F22.e4 : F22.cw W (F22.d [1, 1, 1, 1, 0, 1, 0, 0, 0, 1]) (thenQ (F22.f3 W QR QN QE QP) (F22.q1 QR QN QE)) QP s h = F22.f4 W QR QN QE QP s h := nd_cond (o := (.tmp 48)) (a := (F22.d [1, 1, 1, 1, 0, 1, 0, 0, 0, 1, 0])) (b := (F22.d [1, 1, 1, 1, 0, 1, 0, 0, 0, 1, 1])) (by kernel_rfl) rfl rfl (by kernel_rfl)
def F22.n5 (W : WK) (QR QN : VK) (QE : EK) (QP : PK) (x1 x3 x4 : AV) (h : AH) : Prop :=
pFld (some 2) x1 fun t11 =>
lLd (some false) (some 1) t11 h fun t12 _ =>
(strArg t12 = false) ∧ pLen t12 fun t14 =>
pBin Tryd.prog .lss 3 false x4 t14 fun t15 =>
F22.n4 W QR QN QE QP x1 x3 x4 t15 h
def F22.f5 : KT := fun s h => F22.n5 W QR QN QE QP (s.tm 1) (s.tm 3) (s.tm 4) h
theorem F22.e5 : F22.cw W (F22.d [1, 1, 1, 1, 0, 1, 0, 0, 0]) (thenQ (F22.f3 W QR QN QE QP) (F22.q1 QR QN QE)) QP s h = F22.f5 W QR QN QE QP s h := nd_seq (a := (F22.d [1, 1, 1, 1, 0, 1, 0, 0, 0, 0])) (b := (F22.d [1, 1, 1, 1, 0, 1, 0, 0, 0, 1])) (by kernel_rfl) (F22.e4 W QR QN QE QP) (by kernel_rfl)
theorem F22.o3 : F22.cw W (F22.d [1, 1, 1, 1, 0, 1, 0, 0]) (F22.q1 QR QN QE) QP s h = F22.f5 W QR QN QE QP s h := nd_seq (a := (F22.d [1, 1, 1, 1, 0, 1, 0, 0, 0])) (b := (F22.d [1, 1, 1, 1, 0, 1, 0, 0, 1])) (by kernel_rfl) (F22.o2 W QR QN QE QP) (F22.e5 W QR QN QE QP s h)
noncomputable def F22.c1 : Code := (F22.d [1, 1, 1, 1, 0, 1, 0, 0])
theorem F22.l1 : aw Tryd.prog 60 W F22.pl F22.c1 (F22.q1 QR QN QE) (kP QP) s h = F22.f5 W QR QN QE QP s h := F22.o3 W QR QN QE QP s h
def F22.g1_ (W : WK) (QR QN : VK) (QE : EK) (QP : PK) : VK → VK := fun QN' vs h => F22.n5 W QR QN' (fun (i : Nat) (vs : List AV) (h : AH) => if i = 0 then F22.n1 W QR QN QE QP (vs.getD 0 noA) h else QE i vs h) QP (vs.getD 0 noA) (vs.getD 1 noA) (vs.getD 2 noA) h
theorem F22.p1 {Kn : VK} {KQ : KT} (hK : ∀ s h, KQ s h = Kn [s.tm 1, s.tm 3, s.tm 4] h) : thenQ KQ (blockQ 0 (thenQ (F22.f1 W QR QN QE QP) (F22.q0 QR QN QE))) = F22.q1 QR Kn (fun (i : Nat) (vs : List AV) (h : AH) => if i = 0 then F22.n1 W QR QN QE QP (vs.getD 0 noA) h else QE i vs h) := by
  funext x s h
  cases x with
  | normal => exact hK s h
  | ret => kernel_rfl
  | goto l => kernel_rfl
  | exit j =>
    by_cases h0 : j = 0
    · subst h0; kernel_rfl
    simp only [thenQ, blockQ, noGotoQ, if_neg h0, F22.q1, F22.el1, F22.q0, F22.el0]
def F22.n6 (W : WK) (QR QN : VK) (QE : EK) (QP : PK) (x1 x3 x4 : AV) (h : AH) : Prop :=
vLoop (F22.g1_ W QR QN QE QP) [x1, x3, x4] h
def F22.f6 : KT := fun s h => F22.n6 W QR QN QE QP (s.tm 1) (s.tm 3) (s.tm 4) h
theorem F22.e6 : F22.cw W (F22.d [1, 1, 1, 1, 0, 1, 0]) (blockQ 0 (thenQ (F22.f1 W QR QN QE QP) (F22.q0 QR QN QE))) QP s h = F22.f6 W QR QN QE QP s h := (nd_loop (a := F22.c1) (by kernel_rfl)).trans (vloopD (L := fun tm => [tm 1, tm 3, tm 4]) (G := F22.g1_ W QR QN QE QP) (fun Kn KQ hK s h => (congrArg (fun q => aw Tryd.prog 60 W F22.pl F22.c1 q (kP QP) s h) (F22.p1 W QR QN QE QP hK)).trans (F22.l1 W QR Kn (fun (i : Nat) (vs : List AV) (h : AH) => if i = 0 then F22.n1 W QR QN QE QP (vs.getD 0 noA) h else QE i vs h) QP s h)) s h)
theorem F22.o4 : F22.cw W (F22.d [1, 1, 1, 1, 0, 1]) (thenQ (F22.f1 W QR QN QE QP) (F22.q0 QR QN QE)) QP s h = F22.f6 W QR QN QE QP s h := nd_block (a := (F22.d [1, 1, 1, 1, 0, 1, 0])) (by kernel_rfl) (F22.e6 W QR QN QE QP s h)
def F22.n7 (W : WK) (QR QN : VK) (QE : EK) (QP : PK) (x1 x3 : AV) (h : AH) : Prop :=
F22.n6 W QR QN QE QP x1 x3 (.sc (.int .i64 0)) h
def F22.f7 : KT := fun s h => F22.n7 W QR QN QE QP (s.tm 1) (s.tm 3) h
theorem F22.e7 : F22.cw W (F22.d [1, 1, 1, 1, 0]) (thenQ (F22.f1 W QR QN QE QP) (F22.q0 QR QN QE)) QP s h = F22.f7 W QR QN QE QP s h := nd_seq (a := (F22.d [1, 1, 1, 1, 0, 0])) (b := (F22.d [1, 1, 1, 1, 0, 1])) (by kernel_rfl) (F22.o4 W QR QN QE QP) (by kernel_rfl)
theorem F22.o5 : F22.cw W (F22.d [1, 1, 1, 1]) (F22.q0 QR QN QE) QP s h = F22.f7 W QR QN QE QP s h := nd_seq (a := (F22.d [1, 1, 1, 1, 0])) (b := (F22.d [1, 1, 1, 1, 1])) (by kernel_rfl) (F22.e1 W QR QN QE QP) (F22.e7 W QR QN QE QP s h)
def F22.n8 (W : WK) (QR QN : VK) (QE : EK) (QP : PK) (x1 x3 x37 : AV) (h : AH) : Prop :=
aIf x37 (
pBin Tryd.prog .add 9 true x3 (.sc (.string ⟨#[32]⟩)) fun t16 =>
pFld (some 3) x1 fun t17 =>
lLd (some false) (some 1) t17 h fun t18 _ =>
aCall Tryd.prog W 43 [t18] h (fun t20 h21 =>
pBin Tryd.prog .add 9 false t16 t20 fun t22 =>
F22.n7 W QR QN QE QP x1 t22 h21) QP) (
F22.n7 W QR QN QE QP x1 x3 h)
def F22.f8 : KT := fun s h => F22.n8 W QR QN QE QP (s.tm 1) (s.tm 3) (s.tm 37) h
theorem F22.e8 : F22.cw W (F22.d [1, 1, 1, 0, 1]) (thenQ (F22.f7 W QR QN QE QP) (F22.q0 QR QN QE)) QP s h = F22.f8 W QR QN QE QP s h := nd_cond (o := (.tmp 37)) (a := (F22.d [1, 1, 1, 0, 1, 0])) (b := (F22.d [1, 1, 1, 0, 1, 1])) (by kernel_rfl) rfl rfl (by kernel_rfl)
def F22.n9 (W : WK) (QR QN : VK) (QE : EK) (QP : PK) (x1 x3 x33 x36 : AV) (h : AH) : Prop :=
pPick x33 (.sc (.bool true)) x36 fun t23 =>
F22.n8 W QR QN QE QP x1 x3 t23 h
def F22.f9 : KT := fun s h => F22.n9 W QR QN QE QP (s.tm 1) (s.tm 3) (s.tm 33) (s.tm 36) h
theorem F22.e9 : evG Tryd.prog 60 (fun _ => W) nobody (kP QP) (regOps (F22.d [1, 1, 1, 0, 0])) (F22.g1.drop 6) ((thenQ (F22.f8 W QR QN QE QP) (thenQ (F22.f7 W QR QN QE QP) (F22.q0 QR QN QE))) .normal) s h = F22.f9 W QR QN QE QP s h := nd_g (is := isAt F22.g1 6) (rest := F22.g1.drop 7) (by kernel_rfl) (fun _ _ => rfl) (by kernel_rfl)
def F22.n10 (W : WK) (QR QN : VK) (QE : EK) (QP : PK) (x1 x3 x33 : AV) (h : AH) : Prop :=
aIg false x33 (
pFld (some 0) x1 fun t24 =>
lLd (some false) (some 1) t24 h fun t25 _ =>
pBin Tryd.prog .eql 9 true t25 (.sc (.string ⟨#[105, 102]⟩)) fun t27 =>
F22.n9 W QR QN QE QP x1 x3 x33 t27 h) (
F22.n9 W QR QN QE QP x1 x3 x33 noA h)
def F22.f10 : KT := fun s h => F22.n10 W QR QN QE QP (s.tm 1) (s.tm 3) (s.tm 33) h
theorem F22.e10 : evG Tryd.prog 60 (fun _ => W) nobody (kP QP) (regOps (F22.d [1, 1, 1, 0, 0])) (F22.g1.drop 5) ((thenQ (F22.f8 W QR QN QE QP) (thenQ (F22.f7 W QR QN QE QP) (F22.q0 QR QN QE))) .normal) s h = F22.f10 W QR QN QE QP s h := nd_gw (want := false) (j := 13) (is := isAt F22.g1 5) (rest := F22.g1.drop 6) (by kernel_rfl) (d := 33) (by kernel_rfl) (F22.e9 W QR QN QE QP) (by kernel_rfl)
def F22.n11 (W : WK) (QR QN : VK) (QE : EK) (QP : PK) (x1 x3 x28 x31 : AV) (h : AH) : Prop :=
pPick x28 (.sc (.bool true)) x31 fun t28 =>
F22.n10 W QR QN QE QP x1 x3 t28 h
def F22.f11 : KT := fun s h => F22.n11 W QR QN QE QP (s.tm 1) (s.tm 3) (s.tm 28) (s.tm 31) h
theorem F22.e11 : evG Tryd.prog 60 (fun _ => W) nobody (kP QP) (regOps (F22.d [1, 1, 1, 0, 0])) (F22.g1.drop 4) ((thenQ (F22.f8 W QR QN QE QP) (thenQ (F22.f7 W QR QN QE QP) (F22.q0 QR QN QE))) .normal) s h = F22.f11 W QR QN QE QP s h := nd_g (is := isAt F22.g1 4) (rest := F22.g1.drop 5) (by kernel_rfl) (F22.e10 W QR QN QE QP) (by kernel_rfl)
def F22.n12 (W : WK) (QR QN : VK) (QE : EK) (QP : PK) (x1 x3 x28 : AV) (h : AH) : Prop :=
aIg false x28 (
pFld (some 0) x1 fun t29 =>
lLd (some false) (some 1) t29 h fun t30 _ =>
pBin Tryd.prog .eql 9 true t30 (.sc (.string ⟨#[114, 101, 112, 101, 97, 116]⟩)) fun t32 =>
F22.n11 W QR QN QE QP x1 x3 x28 t32 h) (
F22.n11 W QR QN QE QP x1 x3 x28 noA h)
def F22.f12 : KT := fun s h => F22.n12 W QR QN QE QP (s.tm 1) (s.tm 3) (s.tm 28) h
theorem F22.e12 : evG Tryd.prog 60 (fun _ => W) nobody (kP QP) (regOps (F22.d [1, 1, 1, 0, 0])) (F22.g1.drop 3) ((thenQ (F22.f8 W QR QN QE QP) (thenQ (F22.f7 W QR QN QE QP) (F22.q0 QR QN QE))) .normal) s h = F22.f12 W QR QN QE QP s h := nd_gw (want := false) (j := 8) (is := isAt F22.g1 3) (rest := F22.g1.drop 4) (by kernel_rfl) (d := 28) (by kernel_rfl) (F22.e11 W QR QN QE QP) (by kernel_rfl)
def F22.n13 (W : WK) (QR QN : VK) (QE : EK) (QP : PK) (x1 x3 x23 x26 : AV) (h : AH) : Prop :=
pPick x23 (.sc (.bool true)) x26 fun t33 =>
F22.n12 W QR QN QE QP x1 x3 t33 h
def F22.f13 : KT := fun s h => F22.n13 W QR QN QE QP (s.tm 1) (s.tm 3) (s.tm 23) (s.tm 26) h
theorem F22.e13 : evG Tryd.prog 60 (fun _ => W) nobody (kP QP) (regOps (F22.d [1, 1, 1, 0, 0])) (F22.g1.drop 2) ((thenQ (F22.f8 W QR QN QE QP) (thenQ (F22.f7 W QR QN QE QP) (F22.q0 QR QN QE))) .normal) s h = F22.f13 W QR QN QE QP s h := nd_g (is := isAt F22.g1 2) (rest := F22.g1.drop 3) (by kernel_rfl) (F22.e12 W QR QN QE QP) (by kernel_rfl)
def F22.n14 (W : WK) (QR QN : VK) (QE : EK) (QP : PK) (x1 x3 x23 : AV) (h : AH) : Prop :=
aIg false x23 (
pFld (some 0) x1 fun t34 =>
lLd (some false) (some 1) t34 h fun t35 _ =>
pBin Tryd.prog .eql 9 true t35 (.sc (.string ⟨#[98, 105, 116, 115]⟩)) fun t37 =>
F22.n13 W QR QN QE QP x1 x3 x23 t37 h) (
F22.n13 W QR QN QE QP x1 x3 x23 noA h)
def F22.f14 : KT := fun s h => F22.n14 W QR QN QE QP (s.tm 1) (s.tm 3) (s.tm 23) h
theorem F22.e14 : evG Tryd.prog 60 (fun _ => W) nobody (kP QP) (regOps (F22.d [1, 1, 1, 0, 0])) (F22.g1.drop 1) ((thenQ (F22.f8 W QR QN QE QP) (thenQ (F22.f7 W QR QN QE QP) (F22.q0 QR QN QE))) .normal) s h = F22.f14 W QR QN QE QP s h := nd_gw (want := false) (j := 3) (is := isAt F22.g1 1) (rest := F22.g1.drop 2) (by kernel_rfl) (d := 23) (by kernel_rfl) (F22.e13 W QR QN QE QP) (by kernel_rfl)
def F22.n15 (W : WK) (QR QN : VK) (QE : EK) (QP : PK) (x1 x3 : AV) (h : AH) : Prop :=
pFld (some 0) x1 fun t38 =>
lLd (some false) (some 1) t38 h fun t39 _ =>
pBin Tryd.prog .eql 9 true t39 (.sc (.string ⟨#[113, 117, 98, 105, 116, 115]⟩)) fun t41 =>
F22.n14 W QR QN QE QP x1 x3 t41 h
def F22.f15 : KT := fun s h => F22.n15 W QR QN QE QP (s.tm 1) (s.tm 3) h
theorem F22.e15 : evG Tryd.prog 60 (fun _ => W) nobody (kP QP) (regOps (F22.d [1, 1, 1, 0, 0])) (F22.g1.drop 0) ((thenQ (F22.f8 W QR QN QE QP) (thenQ (F22.f7 W QR QN QE QP) (F22.q0 QR QN QE))) .normal) s h = F22.f15 W QR QN QE QP s h := nd_g (is := isAt F22.g1 0) (rest := F22.g1.drop 1) (by kernel_rfl) (F22.e14 W QR QN QE QP) (by kernel_rfl)
theorem F22.o6 : F22.cw W (F22.d [1, 1, 1, 0, 0]) (thenQ (F22.f8 W QR QN QE QP) (thenQ (F22.f7 W QR QN QE QP) (F22.q0 QR QN QE))) QP s h = F22.f15 W QR QN QE QP s h := nd_groups (id := 6) (draw := false) (ops := (regOps (F22.d [1, 1, 1, 0, 0]))) (gs := F22.g1.drop 0) (by kernel_rfl) (by kernel_rfl) (F22.e15 W QR QN QE QP s h)
theorem F22.o7 : F22.cw W (F22.d [1, 1, 1, 0]) (thenQ (F22.f7 W QR QN QE QP) (F22.q0 QR QN QE)) QP s h = F22.f15 W QR QN QE QP s h := nd_seq (a := (F22.d [1, 1, 1, 0, 0])) (b := (F22.d [1, 1, 1, 0, 1])) (by kernel_rfl) (F22.e8 W QR QN QE QP) (F22.o6 W QR QN QE QP s h)
theorem F22.o8 : F22.cw W (F22.d [1, 1, 1]) (F22.q0 QR QN QE) QP s h = F22.f15 W QR QN QE QP s h := nd_seq (a := (F22.d [1, 1, 1, 0])) (b := (F22.d [1, 1, 1, 1])) (by kernel_rfl) (F22.o5 W QR QN QE QP) (F22.o7 W QR QN QE QP s h)
def F22.n16 (W : WK) (QR QN : VK) (QE : EK) (QP : PK) (x1 x3 x14 : AV) (h : AH) : Prop :=
aIf x14 (
pBin Tryd.prog .add 9 true x3 (.sc (.string ⟨#[32]⟩)) fun t45 =>
pFld (some 1) x1 fun t46 =>
lLd (some false) (some 1) t46 h fun t47 _ =>
pBin Tryd.prog .add 9 false t45 t47 fun t49 =>
F22.n15 W QR QN QE QP x1 t49 h) (
F22.n15 W QR QN QE QP x1 x3 h)
def F22.f16 : KT := fun s h => F22.n16 W QR QN QE QP (s.tm 1) (s.tm 3) (s.tm 14) h
theorem F22.e16 : F22.cw W (F22.d [1, 1, 0, 1, 1, 1]) (thenQ (F22.f15 W QR QN QE QP) (F22.q0 QR QN QE)) QP s h = F22.f16 W QR QN QE QP s h := nd_cond (o := (.tmp 14)) (a := (F22.d [1, 1, 0, 1, 1, 1, 0])) (b := (F22.d [1, 1, 0, 1, 1, 1, 1])) (by kernel_rfl) rfl rfl (by kernel_rfl)
def F22.n17 (W : WK) (QR QN : VK) (QE : EK) (QP : PK) (x1 x3 : AV) (h : AH) : Prop :=
pFld (some 1) x1 fun t50 =>
lLd (some false) (some 1) t50 h fun t51 _ =>
pBin Tryd.prog .neq 9 true t51 (.sc (.string ⟨#[]⟩)) fun t53 =>
F22.n16 W QR QN QE QP x1 x3 t53 h
def F22.f17 : KT := fun s h => F22.n17 W QR QN QE QP (s.tm 1) (s.tm 3) h
theorem F22.e17 : F22.cw W (F22.d [1, 1, 0, 1, 1]) (thenQ (F22.f15 W QR QN QE QP) (F22.q0 QR QN QE)) QP s h = F22.f17 W QR QN QE QP s h := nd_seq (a := (F22.d [1, 1, 0, 1, 1, 0])) (b := (F22.d [1, 1, 0, 1, 1, 1])) (by kernel_rfl) (F22.e16 W QR QN QE QP) (by kernel_rfl)
def F22.n18 (W : WK) (QR QN : VK) (QE : EK) (QP : PK) (x1 x3 x9 : AV) (h : AH) : Prop :=
aIf x9 (
pFld (some 1) x1 fun t42 =>
lLd (some false) (some 1) t42 h fun t43 _ =>
F22.n15 W QR QN QE QP x1 t43 h) (
F22.n17 W QR QN QE QP x1 x3 h)
def F22.f18 : KT := fun s h => F22.n18 W QR QN QE QP (s.tm 1) (s.tm 3) (s.tm 9) h
theorem F22.e18 : F22.cw W (F22.d [1, 1, 0, 1]) (thenQ (F22.f15 W QR QN QE QP) (F22.q0 QR QN QE)) QP s h = F22.f18 W QR QN QE QP s h := nd_cond (o := (.tmp 9)) (a := (F22.d [1, 1, 0, 1, 0])) (b := (F22.d [1, 1, 0, 1, 1])) (by kernel_rfl) rfl (F22.e17 W QR QN QE QP s h) (by kernel_rfl)
def F22.n19 (W : WK) (QR QN : VK) (QE : EK) (QP : PK) (x1 x3 : AV) (h : AH) : Prop :=
pFld (some 0) x1 fun t54 =>
lLd (some false) (some 1) t54 h fun t55 _ =>
pBin Tryd.prog .eql 9 true t55 (.sc (.string ⟨#[117, 115, 101]⟩)) fun t57 =>
F22.n18 W QR QN QE QP x1 x3 t57 h
def F22.f19 : KT := fun s h => F22.n19 W QR QN QE QP (s.tm 1) (s.tm 3) h
theorem F22.e19 : F22.cw W (F22.d [1, 1, 0]) (thenQ (F22.f15 W QR QN QE QP) (F22.q0 QR QN QE)) QP s h = F22.f19 W QR QN QE QP s h := nd_seq (a := (F22.d [1, 1, 0, 0])) (b := (F22.d [1, 1, 0, 1])) (by kernel_rfl) (F22.e18 W QR QN QE QP) (by kernel_rfl)
theorem F22.o9 : F22.cw W (F22.d [1, 1]) (F22.q0 QR QN QE) QP s h = F22.f19 W QR QN QE QP s h := nd_seq (a := (F22.d [1, 1, 0])) (b := (F22.d [1, 1, 1])) (by kernel_rfl) (F22.o8 W QR QN QE QP) (F22.e19 W QR QN QE QP s h)
def F22.n20 (W : WK) (QR QN : VK) (QE : EK) (QP : PK) (x1 : AV) (h : AH) : Prop :=
pFld (some 0) x1 fun t58 =>
lLd (some false) (some 1) t58 h fun t59 _ =>
F22.n19 W QR QN QE QP x1 t59 h
def F22.f20 : KT := fun s h => F22.n20 W QR QN QE QP (s.tm 1) h
theorem F22.e20 : F22.cw W (F22.d [1]) (F22.q0 QR QN QE) QP s h = F22.f20 W QR QN QE QP s h := nd_seq (a := (F22.d [1, 0])) (b := (F22.d [1, 1])) (by kernel_rfl) (F22.o9 W QR QN QE QP) (by kernel_rfl)
def F22.n21 (W : WK) (QR QN : VK) (QE : EK) (QP : PK) (x0 : AV) (h : AH) : Prop :=
eBox 6 39 x0 h fun t61 h62 =>
F22.n20 W QR QN QE QP t61 h62
def F22.f21 : KT := fun s h => F22.n21 W QR QN QE QP (s.tm 0) h
theorem F22.e21 : F22.cw W (F22.d []) (F22.q0 QR QN QE) QP s h = F22.f21 W QR QN QE QP s h := nd_seq (a := (F22.d [0])) (b := (F22.d [1])) (by kernel_rfl) (F22.e20 W QR QN QE QP) (by kernel_rfl)
end
set_option maxRecDepth 100000 in
theorem F22.callsN {x0 : AV} {h : AH} {M : Nat → Prop} {R : AE → AH → Prop} (hp : F22.n21 (fun id => M id ∨ h.next ≤ id) (retV Tryd.prog [.tmp 2] R) (retV Tryd.prog [.tmp 2] R) (fun _ _ _ => False) (fun v h => R (.pan v) h) x0 h) : ACalls Tryd.prog 22 [x0] h M R :=
  acalls_of (c := F22.code) Tryd.mixed Tryd.func22 (by kernel_rfl) (Nat.le_of_ble_eq_true rfl) F22.ok (by rw [show Tryd.f22.ntmps = 60 from rfl, show Tryd.f22.results.toList = [.tmp 2] from rfl]; exact body_D (q := F22.q0 (retV Tryd.prog [.tmp 2] R) (retV Tryd.prog [.tmp 2] R) (fun _ _ _ => False)) (by kernel_rfl) (fun _ _ => rfl) (fun _ _ => rfl) (fun _ _ _ h => h) (fun _ _ _ h => h) rfl (Eq.mpr (F22.e21 (fun id => M id ∨ h.next ≤ id) (retV Tryd.prog [.tmp 2] R) (retV Tryd.prog [.tmp 2] R) (fun _ _ _ => False) (fun v h => R (.pan v) h) (s0 [x0]) h) hp))
attribute [simp] F22.n1 F22.n2 F22.n3 F22.n4 F22.n5 F22.n7 F22.n8 F22.n9 F22.n10 F22.n11 F22.n12 F22.n13 F22.n14 F22.n15 F22.n16 F22.n17 F22.n18 F22.n19 F22.n20 F22.n21

section
variable (W : Nat → Prop) (QR QN : VK) (QE : Nat → VK) (QP : AV → AH → Prop) (s : St) (h : AH)
noncomputable def F42.code : Code := Tryd.f42.body.getD .skip
def F42.g1 : Grps := [(none, [(0, false), (1, false), (2, false), (3, false), (4, false), (5, false), (6, false), (7, false)]), (some (7, false), [(8, false), (9, false), (10, false), (11, false), (12, false), (13, false)]), (none, [(14, false), (15, false)]), (some (15, false), [(16, false), (17, false), (18, false), (19, false), (20, false), (21, false)]), (none, [(22, false), (23, false)]), (some (23, false), [(24, false), (25, false), (26, false)]), (some (26, true), [(27, false), (28, false), (29, false), (30, false), (31, false), (32, false)]), (some (23, false), [(33, false)]), (none, [(34, false)])]
def F42.g2 : Grps := [(none, [(0, false), (1, false), (2, false)]), (some (2, true), [(3, false), (4, false), (5, false), (6, false)]), (none, [(7, false)])]
def F42.pl : Plans := [(1, ⟨F42.g2, false, [], []⟩), (6, ⟨F42.g1, false, [], []⟩)]
theorem F42.ok : okCode Tryd.prog F42.pl F42.code = true := by kernel_rfl
noncomputable abbrev F42.d (p : List Nat) : Code := Code.at F42.code p
abbrev F42.cw (W : Nat → Prop) (c : Code) (q : Post) (QP : AV → AH → Prop) : KT := Go.Ab.aw Tryd.prog 57 W F42.pl c q (kP QP)
def F42.el0 (_ : Nat) (_ : Nat → AV) : List AV := []
def F42.q0 (QR QN : VK) (QE : Nat → VK) : Post := fun x s h => match x with | .normal => QN [s.tm 6] h | .ret => QR [s.tm 6] h | .exit j => QE j (F42.el0 j s.tm) h | .goto _ => False
def F42.n1 (_ : WK) (QR _ : VK) (_ : EK) (_ : PK) (h : AH) : Prop :=
QR [(.sc (.bool true))] h
def F42.f1 : KT := fun _ h => F42.n1 W QR QN QE QP h
theorem F42.e1 : F42.cw W (F42.d [1, 1, 1]) (F42.q0 QR QN QE) QP s h = F42.f1 W QR QN QE QP s h := nd_seq (a := (F42.d [1, 1, 1, 0])) (b := (F42.d [1, 1, 1, 1])) (by kernel_rfl) (fun _ _ => rfl) (by kernel_rfl)
def F42.el1 (j : Nat) (_ : Nat → AV) : List AV := if j = 0 then [] else []
def F42.q1 (QR QN : VK) (QE : Nat → VK) : Post := fun x s h => match x with | .normal => QN [s.tm 0, s.tm 2, s.tm 7] h | .ret => QR [s.tm 6] h | .exit j => QE j (F42.el1 j s.tm) h | .goto _ => False
def F42.n2 (_ : WK) (_ QN : VK) (_ : EK) (_ : PK) (x0 x2 x7 : AV) (h : AH) : Prop :=
pBin Tryd.prog .add 3 true x7 (.sc (.int .i64 1)) fun t1 =>
QN [x0, x2, t1] h
def F42.f2 : KT := fun s h => F42.n2 W QR QN QE QP (s.tm 0) (s.tm 2) (s.tm 7) h
theorem F42.e2 : F42.cw W (F42.d [1, 1, 0, 1, 0, 0, 1, 1]) (F42.q1 QR QN QE) QP s h = F42.f2 W QR QN QE QP s h := by kernel_rfl
def F42.n3 (_ : WK) (QR _ : VK) (_ : EK) (_ : PK) (h : AH) : Prop :=
QR [(.sc (.bool false))] h
def F42.f3 : KT := fun _ h => F42.n3 W QR QN QE QP h
theorem F42.e3 : F42.cw W (F42.d [1, 1, 0, 1, 0, 0, 1, 0, 0, 1, 0]) (blockQ 1 (thenQ (F42.f2 W QR QN QE QP) (F42.q1 QR QN QE))) QP s h = F42.f3 W QR QN QE QP s h := nd_seq (a := (F42.d [1, 1, 0, 1, 0, 0, 1, 0, 0, 1, 0, 0])) (b := (F42.d [1, 1, 0, 1, 0, 0, 1, 0, 0, 1, 0, 1])) (by kernel_rfl) (fun _ _ => rfl) (by kernel_rfl)
def F42.n4 (W : WK) (QR QN : VK) (QE : EK) (QP : PK) (x0 x2 x7 x56 : AV) (h : AH) : Prop :=
aIf x56 (
F42.n3 W QR QN QE QP h) (
F42.n2 W QR QN QE QP x0 x2 x7 h)
def F42.f4 : KT := fun s h => F42.n4 W QR QN QE QP (s.tm 0) (s.tm 2) (s.tm 7) (s.tm 56) h
theorem F42.e4 : F42.cw W (F42.d [1, 1, 0, 1, 0, 0, 1, 0, 0, 1]) (blockQ 1 (thenQ (F42.f2 W QR QN QE QP) (F42.q1 QR QN QE))) QP s h = F42.f4 W QR QN QE QP s h := nd_cond (o := (.tmp 56)) (a := (F42.d [1, 1, 0, 1, 0, 0, 1, 0, 0, 1, 0])) (b := (F42.d [1, 1, 0, 1, 0, 0, 1, 0, 0, 1, 1])) (by kernel_rfl) (F42.e3 W QR QN QE QP s h) rfl (by kernel_rfl)
def F42.n5 (W : WK) (QR QN : VK) (QE : EK) (QP : PK) (x0 x2 x7 x45 x55 : AV) (h : AH) : Prop :=
pPick x45 (.sc (.bool true)) x55 fun t2 =>
F42.n4 W QR QN QE QP x0 x2 x7 t2 h
def F42.f5 : KT := fun s h => F42.n5 W QR QN QE QP (s.tm 0) (s.tm 2) (s.tm 7) (s.tm 45) (s.tm 55) h
theorem F42.e5 : evG Tryd.prog 57 (fun _ => W) nobody (kP QP) (regOps (F42.d [1, 1, 0, 1, 0, 0, 1, 0, 0, 0])) (F42.g1.drop 8) ((thenQ (F42.f4 W QR QN QE QP) (blockQ 1 (thenQ (F42.f2 W QR QN QE QP) (F42.q1 QR QN QE)))) .normal) s h = F42.f5 W QR QN QE QP s h := nd_g (is := isAt F42.g1 8) (rest := F42.g1.drop 9) (by kernel_rfl) (fun _ _ => rfl) (by kernel_rfl)
def F42.n6 (W : WK) (QR QN : VK) (QE : EK) (QP : PK) (x0 x2 x7 x45 x48 x54 : AV) (h : AH) : Prop :=
aIg false x45 (
pPick x48 x54 (.sc (.bool false)) fun t3 =>
F42.n5 W QR QN QE QP x0 x2 x7 x45 t3 h) (
F42.n5 W QR QN QE QP x0 x2 x7 x45 noA h)
def F42.f6 : KT := fun s h => F42.n6 W QR QN QE QP (s.tm 0) (s.tm 2) (s.tm 7) (s.tm 45) (s.tm 48) (s.tm 54) h
theorem F42.e6 : evG Tryd.prog 57 (fun _ => W) nobody (kP QP) (regOps (F42.d [1, 1, 0, 1, 0, 0, 1, 0, 0, 0])) (F42.g1.drop 7) ((thenQ (F42.f4 W QR QN QE QP) (blockQ 1 (thenQ (F42.f2 W QR QN QE QP) (F42.q1 QR QN QE)))) .normal) s h = F42.f6 W QR QN QE QP s h := nd_gw (want := false) (j := 23) (is := isAt F42.g1 7) (rest := F42.g1.drop 8) (by kernel_rfl) (d := 45) (by kernel_rfl) (F42.e5 W QR QN QE QP) (by kernel_rfl)
def F42.n7 (W : WK) (QR QN : VK) (QE : EK) (QP : PK) (x0 x2 x7 x45 x48 : AV) (h : AH) : Prop :=
aIg true x48 (
pIxA (some (2, none)) x0 x7 fun t4 =>
pFld (some 1) t4 fun t5 =>
lLd (some false) (some 1) t5 h fun t6 _ =>
pBin Tryd.prog .neq 3 true t6 (.sc (.int .i64 (-1))) fun t8 =>
F42.n6 W QR QN QE QP x0 x2 x7 x45 x48 t8 h) (
F42.n6 W QR QN QE QP x0 x2 x7 x45 x48 noA h)
def F42.f7 : KT := fun s h => F42.n7 W QR QN QE QP (s.tm 0) (s.tm 2) (s.tm 7) (s.tm 45) (s.tm 48) h
theorem F42.e7 : evG Tryd.prog 57 (fun _ => W) nobody (kP QP) (regOps (F42.d [1, 1, 0, 1, 0, 0, 1, 0, 0, 0])) (F42.g1.drop 6) ((thenQ (F42.f4 W QR QN QE QP) (blockQ 1 (thenQ (F42.f2 W QR QN QE QP) (F42.q1 QR QN QE)))) .normal) s h = F42.f7 W QR QN QE QP s h := nd_gw (want := true) (j := 26) (is := isAt F42.g1 6) (rest := F42.g1.drop 7) (by kernel_rfl) (d := 48) (by kernel_rfl) (F42.e6 W QR QN QE QP) (by kernel_rfl)
def F42.n8 (W : WK) (QR QN : VK) (QE : EK) (QP : PK) (x0 x2 x7 x45 : AV) (h : AH) : Prop :=
aIg false x45 (
pUn .not x2 fun t9 =>
F42.n7 W QR QN QE QP x0 x2 x7 x45 t9 h) (
F42.n7 W QR QN QE QP x0 x2 x7 x45 noA h)
def F42.f8 : KT := fun s h => F42.n8 W QR QN QE QP (s.tm 0) (s.tm 2) (s.tm 7) (s.tm 45) h
theorem F42.e8 : evG Tryd.prog 57 (fun _ => W) nobody (kP QP) (regOps (F42.d [1, 1, 0, 1, 0, 0, 1, 0, 0, 0])) (F42.g1.drop 5) ((thenQ (F42.f4 W QR QN QE QP) (blockQ 1 (thenQ (F42.f2 W QR QN QE QP) (F42.q1 QR QN QE)))) .normal) s h = F42.f8 W QR QN QE QP s h := nd_gw (want := false) (j := 23) (is := isAt F42.g1 5) (rest := F42.g1.drop 6) (by kernel_rfl) (d := 45) (by kernel_rfl) (F42.e7 W QR QN QE QP) (by kernel_rfl)
def F42.n9 (W : WK) (QR QN : VK) (QE : EK) (QP : PK) (x0 x2 x7 x37 x43 : AV) (h : AH) : Prop :=
pPick x37 (.sc (.bool true)) x43 fun t10 =>
F42.n8 W QR QN QE QP x0 x2 x7 t10 h
def F42.f9 : KT := fun s h => F42.n9 W QR QN QE QP (s.tm 0) (s.tm 2) (s.tm 7) (s.tm 37) (s.tm 43) h
theorem F42.e9 : evG Tryd.prog 57 (fun _ => W) nobody (kP QP) (regOps (F42.d [1, 1, 0, 1, 0, 0, 1, 0, 0, 0])) (F42.g1.drop 4) ((thenQ (F42.f4 W QR QN QE QP) (blockQ 1 (thenQ (F42.f2 W QR QN QE QP) (F42.q1 QR QN QE)))) .normal) s h = F42.f9 W QR QN QE QP s h := nd_g (is := isAt F42.g1 4) (rest := F42.g1.drop 5) (by kernel_rfl) (F42.e8 W QR QN QE QP) (by kernel_rfl)
def F42.n10 (W : WK) (QR QN : VK) (QE : EK) (QP : PK) (x0 x2 x7 x37 : AV) (h : AH) : Prop :=
aIg false x37 (
pIxA (some (2, none)) x0 x7 fun t11 =>
pFld (some 1) t11 fun t12 =>
lLd (some false) (some 1) t12 h fun t13 _ =>
pBin Tryd.prog .gtr 3 true t13 (.sc (.int .i64 9007199254740991)) fun t15 =>
F42.n9 W QR QN QE QP x0 x2 x7 x37 t15 h) (
F42.n9 W QR QN QE QP x0 x2 x7 x37 noA h)
def F42.f10 : KT := fun s h => F42.n10 W QR QN QE QP (s.tm 0) (s.tm 2) (s.tm 7) (s.tm 37) h
theorem F42.e10 : evG Tryd.prog 57 (fun _ => W) nobody (kP QP) (regOps (F42.d [1, 1, 0, 1, 0, 0, 1, 0, 0, 0])) (F42.g1.drop 3) ((thenQ (F42.f4 W QR QN QE QP) (blockQ 1 (thenQ (F42.f2 W QR QN QE QP) (F42.q1 QR QN QE)))) .normal) s h = F42.f10 W QR QN QE QP s h := nd_gw (want := false) (j := 15) (is := isAt F42.g1 3) (rest := F42.g1.drop 4) (by kernel_rfl) (d := 37) (by kernel_rfl) (F42.e9 W QR QN QE QP) (by kernel_rfl)
def F42.n11 (W : WK) (QR QN : VK) (QE : EK) (QP : PK) (x0 x2 x7 x29 x35 : AV) (h : AH) : Prop :=
pPick x29 (.sc (.bool true)) x35 fun t16 =>
F42.n10 W QR QN QE QP x0 x2 x7 t16 h
def F42.f11 : KT := fun s h => F42.n11 W QR QN QE QP (s.tm 0) (s.tm 2) (s.tm 7) (s.tm 29) (s.tm 35) h
theorem F42.e11 : evG Tryd.prog 57 (fun _ => W) nobody (kP QP) (regOps (F42.d [1, 1, 0, 1, 0, 0, 1, 0, 0, 0])) (F42.g1.drop 2) ((thenQ (F42.f4 W QR QN QE QP) (blockQ 1 (thenQ (F42.f2 W QR QN QE QP) (F42.q1 QR QN QE)))) .normal) s h = F42.f11 W QR QN QE QP s h := nd_g (is := isAt F42.g1 2) (rest := F42.g1.drop 3) (by kernel_rfl) (F42.e10 W QR QN QE QP) (by kernel_rfl)
def F42.n12 (W : WK) (QR QN : VK) (QE : EK) (QP : PK) (x0 x2 x7 x29 : AV) (h : AH) : Prop :=
aIg false x29 (
pIxA (some (2, none)) x0 x7 fun t17 =>
pFld (some 1) t17 fun t18 =>
lLd (some false) (some 1) t18 h fun t19 _ =>
pBin Tryd.prog .lss 3 true t19 (.sc (.int .i64 (-1))) fun t21 =>
F42.n11 W QR QN QE QP x0 x2 x7 x29 t21 h) (
F42.n11 W QR QN QE QP x0 x2 x7 x29 noA h)
def F42.f12 : KT := fun s h => F42.n12 W QR QN QE QP (s.tm 0) (s.tm 2) (s.tm 7) (s.tm 29) h
theorem F42.e12 : evG Tryd.prog 57 (fun _ => W) nobody (kP QP) (regOps (F42.d [1, 1, 0, 1, 0, 0, 1, 0, 0, 0])) (F42.g1.drop 1) ((thenQ (F42.f4 W QR QN QE QP) (blockQ 1 (thenQ (F42.f2 W QR QN QE QP) (F42.q1 QR QN QE)))) .normal) s h = F42.f12 W QR QN QE QP s h := nd_gw (want := false) (j := 7) (is := isAt F42.g1 1) (rest := F42.g1.drop 2) (by kernel_rfl) (d := 29) (by kernel_rfl) (F42.e11 W QR QN QE QP) (by kernel_rfl)
def F42.n13 (W : WK) (QR QN : VK) (QE : EK) (QP : PK) (x0 x2 x7 : AV) (h : AH) : Prop :=
pIxA (some (2, none)) x0 x7 fun t22 =>
pFld (some 0) t22 fun t23 =>
lLd (some false) (some 1) t23 h fun t24 _ =>
aCall Tryd.prog W 41 [t24] h (fun t26 h27 =>
pUn .not t26 fun t28 =>
F42.n12 W QR QN QE QP x0 x2 x7 t28 h27) QP
def F42.f13 : KT := fun s h => F42.n13 W QR QN QE QP (s.tm 0) (s.tm 2) (s.tm 7) h
theorem F42.e13 : evG Tryd.prog 57 (fun _ => W) nobody (kP QP) (regOps (F42.d [1, 1, 0, 1, 0, 0, 1, 0, 0, 0])) (F42.g1.drop 0) ((thenQ (F42.f4 W QR QN QE QP) (blockQ 1 (thenQ (F42.f2 W QR QN QE QP) (F42.q1 QR QN QE)))) .normal) s h = F42.f13 W QR QN QE QP s h := nd_g (is := isAt F42.g1 0) (rest := F42.g1.drop 1) (by kernel_rfl) (F42.e12 W QR QN QE QP) (by kernel_rfl)
theorem F42.o1 : F42.cw W (F42.d [1, 1, 0, 1, 0, 0, 1, 0, 0, 0]) (thenQ (F42.f4 W QR QN QE QP) (blockQ 1 (thenQ (F42.f2 W QR QN QE QP) (F42.q1 QR QN QE)))) QP s h = F42.f13 W QR QN QE QP s h := nd_groups (id := 6) (draw := false) (ops := (regOps (F42.d [1, 1, 0, 1, 0, 0, 1, 0, 0, 0]))) (gs := F42.g1.drop 0) (by kernel_rfl) (by kernel_rfl) (F42.e13 W QR QN QE QP s h)
theorem F42.o2 : F42.cw W (F42.d [1, 1, 0, 1, 0, 0, 1, 0, 0]) (blockQ 1 (thenQ (F42.f2 W QR QN QE QP) (F42.q1 QR QN QE))) QP s h = F42.f13 W QR QN QE QP s h := nd_seq (a := (F42.d [1, 1, 0, 1, 0, 0, 1, 0, 0, 0])) (b := (F42.d [1, 1, 0, 1, 0, 0, 1, 0, 0, 1])) (by kernel_rfl) (F42.e4 W QR QN QE QP) (F42.o1 W QR QN QE QP s h)
theorem F42.o3 : F42.cw W (F42.d [1, 1, 0, 1, 0, 0, 1, 0]) (thenQ (F42.f2 W QR QN QE QP) (F42.q1 QR QN QE)) QP s h = F42.f13 W QR QN QE QP s h := nd_block (a := (F42.d [1, 1, 0, 1, 0, 0, 1, 0, 0])) (by kernel_rfl) (F42.o2 W QR QN QE QP s h)
theorem F42.o4 : F42.cw W (F42.d [1, 1, 0, 1, 0, 0, 1]) (F42.q1 QR QN QE) QP s h = F42.f13 W QR QN QE QP s h := nd_seq (a := (F42.d [1, 1, 0, 1, 0, 0, 1, 0])) (b := (F42.d [1, 1, 0, 1, 0, 0, 1, 1])) (by kernel_rfl) (F42.e2 W QR QN QE QP) (F42.o3 W QR QN QE QP s h)
def F42.n14 (W : WK) (QR QN : VK) (QE : EK) (QP : PK) (x0 x2 x7 x19 : AV) (h : AH) : Prop :=
aIf x19 (
F42.n13 W QR QN QE QP x0 x2 x7 h) (
QE 0 [] h)
def F42.f14 : KT := fun s h => F42.n14 W QR QN QE QP (s.tm 0) (s.tm 2) (s.tm 7) (s.tm 19) h
theorem F42.e14 : F42.cw W (F42.d [1, 1, 0, 1, 0, 0, 0, 1]) (thenQ (F42.f13 W QR QN QE QP) (F42.q1 QR QN QE)) QP s h = F42.f14 W QR QN QE QP s h := nd_cond (o := (.tmp 19)) (a := (F42.d [1, 1, 0, 1, 0, 0, 0, 1, 0])) (b := (F42.d [1, 1, 0, 1, 0, 0, 0, 1, 1])) (by kernel_rfl) rfl rfl (by kernel_rfl)
def F42.n15 (W : WK) (QR QN : VK) (QE : EK) (QP : PK) (x0 x2 x7 : AV) (h : AH) : Prop :=
(strArg x0 = false) ∧ pLen x0 fun t29 =>
pBin Tryd.prog .lss 3 false x7 t29 fun t30 =>
F42.n14 W QR QN QE QP x0 x2 x7 t30 h
def F42.f15 : KT := fun s h => F42.n15 W QR QN QE QP (s.tm 0) (s.tm 2) (s.tm 7) h
theorem F42.e15 : F42.cw W (F42.d [1, 1, 0, 1, 0, 0, 0]) (thenQ (F42.f13 W QR QN QE QP) (F42.q1 QR QN QE)) QP s h = F42.f15 W QR QN QE QP s h := nd_seq (a := (F42.d [1, 1, 0, 1, 0, 0, 0, 0])) (b := (F42.d [1, 1, 0, 1, 0, 0, 0, 1])) (by kernel_rfl) (F42.e14 W QR QN QE QP) (by kernel_rfl)
theorem F42.o5 : F42.cw W (F42.d [1, 1, 0, 1, 0, 0]) (F42.q1 QR QN QE) QP s h = F42.f15 W QR QN QE QP s h := nd_seq (a := (F42.d [1, 1, 0, 1, 0, 0, 0])) (b := (F42.d [1, 1, 0, 1, 0, 0, 1])) (by kernel_rfl) (F42.o4 W QR QN QE QP) (F42.e15 W QR QN QE QP s h)
noncomputable def F42.c1 : Code := (F42.d [1, 1, 0, 1, 0, 0])
theorem F42.l1 : aw Tryd.prog 57 W F42.pl F42.c1 (F42.q1 QR QN QE) (kP QP) s h = F42.f15 W QR QN QE QP s h := F42.o5 W QR QN QE QP s h
def F42.g1_ (W : WK) (QR QN : VK) (QE : EK) (QP : PK) : VK → VK := fun QN' vs h => F42.n15 W QR QN' (fun (i : Nat) (vs : List AV) (h : AH) => if i = 0 then F42.n1 W QR QN QE QP h else QE i vs h) QP (vs.getD 0 noA) (vs.getD 1 noA) (vs.getD 2 noA) h
theorem F42.p1 {Kn : VK} {KQ : KT} (hK : ∀ s h, KQ s h = Kn [s.tm 0, s.tm 2, s.tm 7] h) : thenQ KQ (blockQ 0 (thenQ (F42.f1 W QR QN QE QP) (F42.q0 QR QN QE))) = F42.q1 QR Kn (fun (i : Nat) (vs : List AV) (h : AH) => if i = 0 then F42.n1 W QR QN QE QP h else QE i vs h) := by
  funext x s h
  cases x with
  | normal => exact hK s h
  | ret => kernel_rfl
  | goto l => kernel_rfl
  | exit j =>
    by_cases h0 : j = 0
    · subst h0; kernel_rfl
    simp only [thenQ, blockQ, noGotoQ, if_neg h0, F42.q1, F42.el1, F42.q0, F42.el0]
def F42.n16 (W : WK) (QR QN : VK) (QE : EK) (QP : PK) (x0 x2 x7 : AV) (h : AH) : Prop :=
vLoop (F42.g1_ W QR QN QE QP) [x0, x2, x7] h
def F42.f16 : KT := fun s h => F42.n16 W QR QN QE QP (s.tm 0) (s.tm 2) (s.tm 7) h
theorem F42.e16 : F42.cw W (F42.d [1, 1, 0, 1, 0]) (blockQ 0 (thenQ (F42.f1 W QR QN QE QP) (F42.q0 QR QN QE))) QP s h = F42.f16 W QR QN QE QP s h := (nd_loop (a := F42.c1) (by kernel_rfl)).trans (vloopD (L := fun tm => [tm 0, tm 2, tm 7]) (G := F42.g1_ W QR QN QE QP) (fun Kn KQ hK s h => (congrArg (fun q => aw Tryd.prog 57 W F42.pl F42.c1 q (kP QP) s h) (F42.p1 W QR QN QE QP hK)).trans (F42.l1 W QR Kn (fun (i : Nat) (vs : List AV) (h : AH) => if i = 0 then F42.n1 W QR QN QE QP h else QE i vs h) QP s h)) s h)
theorem F42.o6 : F42.cw W (F42.d [1, 1, 0, 1]) (thenQ (F42.f1 W QR QN QE QP) (F42.q0 QR QN QE)) QP s h = F42.f16 W QR QN QE QP s h := nd_block (a := (F42.d [1, 1, 0, 1, 0])) (by kernel_rfl) (F42.e16 W QR QN QE QP s h)
def F42.n17 (W : WK) (QR QN : VK) (QE : EK) (QP : PK) (x0 x2 : AV) (h : AH) : Prop :=
F42.n16 W QR QN QE QP x0 x2 (.sc (.int .i64 0)) h
def F42.f17 : KT := fun s h => F42.n17 W QR QN QE QP (s.tm 0) (s.tm 2) h
theorem F42.e17 : F42.cw W (F42.d [1, 1, 0]) (thenQ (F42.f1 W QR QN QE QP) (F42.q0 QR QN QE)) QP s h = F42.f17 W QR QN QE QP s h := nd_seq (a := (F42.d [1, 1, 0, 0])) (b := (F42.d [1, 1, 0, 1])) (by kernel_rfl) (F42.o6 W QR QN QE QP) (by kernel_rfl)
theorem F42.o7 : F42.cw W (F42.d [1, 1]) (F42.q0 QR QN QE) QP s h = F42.f17 W QR QN QE QP s h := nd_seq (a := (F42.d [1, 1, 0])) (b := (F42.d [1, 1, 1])) (by kernel_rfl) (F42.e1 W QR QN QE QP) (F42.e17 W QR QN QE QP s h)
def F42.n18 (_ : WK) (QR _ : VK) (_ : EK) (_ : PK) (h : AH) : Prop :=
QR [(.sc (.bool false))] h
def F42.f18 : KT := fun _ h => F42.n18 W QR QN QE QP h
theorem F42.e18 : F42.cw W (F42.d [1, 0, 1, 0]) (thenQ (F42.f17 W QR QN QE QP) (F42.q0 QR QN QE)) QP s h = F42.f18 W QR QN QE QP s h := nd_seq (a := (F42.d [1, 0, 1, 0, 0])) (b := (F42.d [1, 0, 1, 0, 1])) (by kernel_rfl) (fun _ _ => rfl) (by kernel_rfl)
def F42.n19 (W : WK) (QR QN : VK) (QE : EK) (QP : PK) (x0 x2 x15 : AV) (h : AH) : Prop :=
aIf x15 (
F42.n18 W QR QN QE QP h) (
F42.n17 W QR QN QE QP x0 x2 h)
def F42.f19 : KT := fun s h => F42.n19 W QR QN QE QP (s.tm 0) (s.tm 2) (s.tm 15) h
theorem F42.e19 : F42.cw W (F42.d [1, 0, 1]) (thenQ (F42.f17 W QR QN QE QP) (F42.q0 QR QN QE)) QP s h = F42.f19 W QR QN QE QP s h := nd_cond (o := (.tmp 15)) (a := (F42.d [1, 0, 1, 0])) (b := (F42.d [1, 0, 1, 1])) (by kernel_rfl) (F42.e18 W QR QN QE QP s h) rfl (by kernel_rfl)
def F42.n20 (W : WK) (QR QN : VK) (QE : EK) (QP : PK) (x0 x2 x10 x14 : AV) (h : AH) : Prop :=
pPick x10 x14 (.sc (.bool false)) fun t31 =>
F42.n19 W QR QN QE QP x0 x2 t31 h
def F42.f20 : KT := fun s h => F42.n20 W QR QN QE QP (s.tm 0) (s.tm 2) (s.tm 10) (s.tm 14) h
theorem F42.e20 : evG Tryd.prog 57 (fun _ => W) nobody (kP QP) (regOps (F42.d [1, 0, 0])) (F42.g2.drop 2) ((thenQ (F42.f19 W QR QN QE QP) (thenQ (F42.f17 W QR QN QE QP) (F42.q0 QR QN QE))) .normal) s h = F42.f20 W QR QN QE QP s h := nd_g (is := isAt F42.g2 2) (rest := F42.g2.drop 3) (by kernel_rfl) (fun _ _ => rfl) (by kernel_rfl)
def F42.n21 (W : WK) (QR QN : VK) (QE : EK) (QP : PK) (x0 x1 x2 x10 : AV) (h : AH) : Prop :=
aIg true x10 (
(strArg x0 = false) ∧ pLen x0 fun t32 =>
pBin Tryd.prog .neq 3 false t32 x1 fun t33 =>
F42.n20 W QR QN QE QP x0 x2 x10 t33 h) (
F42.n20 W QR QN QE QP x0 x2 x10 noA h)
def F42.f21 : KT := fun s h => F42.n21 W QR QN QE QP (s.tm 0) (s.tm 1) (s.tm 2) (s.tm 10) h
theorem F42.e21 : evG Tryd.prog 57 (fun _ => W) nobody (kP QP) (regOps (F42.d [1, 0, 0])) (F42.g2.drop 1) ((thenQ (F42.f19 W QR QN QE QP) (thenQ (F42.f17 W QR QN QE QP) (F42.q0 QR QN QE))) .normal) s h = F42.f21 W QR QN QE QP s h := nd_gw (want := true) (j := 2) (is := isAt F42.g2 1) (rest := F42.g2.drop 2) (by kernel_rfl) (d := 10) (by kernel_rfl) (F42.e20 W QR QN QE QP) (by kernel_rfl)
def F42.n22 (W : WK) (QR QN : VK) (QE : EK) (QP : PK) (x0 x1 x2 : AV) (h : AH) : Prop :=
pBin Tryd.prog .geq 3 true x1 (.sc (.int .i64 0)) fun t34 =>
F42.n21 W QR QN QE QP x0 x1 x2 t34 h
def F42.f22 : KT := fun s h => F42.n22 W QR QN QE QP (s.tm 0) (s.tm 1) (s.tm 2) h
theorem F42.e22 : evG Tryd.prog 57 (fun _ => W) nobody (kP QP) (regOps (F42.d [1, 0, 0])) (F42.g2.drop 0) ((thenQ (F42.f19 W QR QN QE QP) (thenQ (F42.f17 W QR QN QE QP) (F42.q0 QR QN QE))) .normal) s h = F42.f22 W QR QN QE QP s h := nd_g (is := isAt F42.g2 0) (rest := F42.g2.drop 1) (by kernel_rfl) (F42.e21 W QR QN QE QP) (by kernel_rfl)
theorem F42.o8 : F42.cw W (F42.d [1, 0, 0]) (thenQ (F42.f19 W QR QN QE QP) (thenQ (F42.f17 W QR QN QE QP) (F42.q0 QR QN QE))) QP s h = F42.f22 W QR QN QE QP s h := nd_groups (id := 1) (draw := false) (ops := (regOps (F42.d [1, 0, 0]))) (gs := F42.g2.drop 0) (by kernel_rfl) (by kernel_rfl) (F42.e22 W QR QN QE QP s h)
theorem F42.o9 : F42.cw W (F42.d [1, 0]) (thenQ (F42.f17 W QR QN QE QP) (F42.q0 QR QN QE)) QP s h = F42.f22 W QR QN QE QP s h := nd_seq (a := (F42.d [1, 0, 0])) (b := (F42.d [1, 0, 1])) (by kernel_rfl) (F42.e19 W QR QN QE QP) (F42.o8 W QR QN QE QP s h)
theorem F42.o10 : F42.cw W (F42.d [1]) (F42.q0 QR QN QE) QP s h = F42.f22 W QR QN QE QP s h := nd_seq (a := (F42.d [1, 0])) (b := (F42.d [1, 1])) (by kernel_rfl) (F42.o7 W QR QN QE QP) (F42.o9 W QR QN QE QP s h)
def F42.n23 (W : WK) (QR QN : VK) (QE : EK) (QP : PK) (x0 x1 x2 : AV) (h : AH) : Prop :=
F42.n22 W QR QN QE QP x0 x1 x2 h
def F42.f23 : KT := fun s h => F42.n23 W QR QN QE QP (s.tm 0) (s.tm 1) (s.tm 2) h
theorem F42.e23 : F42.cw W (F42.d []) (F42.q0 QR QN QE) QP s h = F42.f23 W QR QN QE QP s h := nd_seq (a := (F42.d [0])) (b := (F42.d [1])) (by kernel_rfl) (F42.o10 W QR QN QE QP) (by kernel_rfl)
end
set_option maxRecDepth 100000 in
theorem F42.callsN {x0 x1 x2 : AV} {h : AH} {M : Nat → Prop} {R : AE → AH → Prop} (hp : F42.n23 (fun id => M id ∨ h.next ≤ id) (retV Tryd.prog [.tmp 6] R) (retV Tryd.prog [.tmp 6] R) (fun _ _ _ => False) (fun v h => R (.pan v) h) x0 x1 x2 h) : ACalls Tryd.prog 42 [x0, x1, x2] h M R :=
  acalls_of (c := F42.code) Tryd.mixed Tryd.func42 (by kernel_rfl) (Nat.le_of_ble_eq_true rfl) F42.ok (by rw [show Tryd.f42.ntmps = 57 from rfl, show Tryd.f42.results.toList = [.tmp 6] from rfl]; exact body_D (q := F42.q0 (retV Tryd.prog [.tmp 6] R) (retV Tryd.prog [.tmp 6] R) (fun _ _ _ => False)) (by kernel_rfl) (fun _ _ => rfl) (fun _ _ => rfl) (fun _ _ _ h => h) (fun _ _ _ h => h) rfl (Eq.mpr (F42.e23 (fun id => M id ∨ h.next ≤ id) (retV Tryd.prog [.tmp 6] R) (retV Tryd.prog [.tmp 6] R) (fun _ _ _ => False) (fun v h => R (.pan v) h) (s0 [x0, x1, x2]) h) hp))
attribute [simp] F42.n1 F42.n2 F42.n3 F42.n4 F42.n5 F42.n6 F42.n7 F42.n8 F42.n9 F42.n10 F42.n11 F42.n12 F42.n13 F42.n14 F42.n15 F42.n17 F42.n18 F42.n19 F42.n20 F42.n21 F42.n22 F42.n23

section
variable (W : Nat → Prop) (QR QN : VK) (QE : Nat → VK) (QP : AV → AH → Prop) (s : St) (h : AH)
noncomputable def F43.code : Code := Tryd.f43.body.getD .skip
def F43.pl : Plans := [(3, ⟨[(none, [(0, false), (1, false), (3, false), (4, false), (5, false), (6, false)])], false, [.mk [(2, false), (7, false), (8, false), (9, false), (10, false)] [], .mk [(7, false), (8, false), (2, false), (9, false), (10, false)] []], [2]⟩)]
theorem F43.ok : okCode Tryd.prog F43.pl F43.code = true := by kernel_rfl
noncomputable abbrev F43.d (p : List Nat) : Code := Code.at F43.code p
abbrev F43.cw (W : Nat → Prop) (c : Code) (q : Post) (QP : AV → AH → Prop) : KT := Go.Ab.aw Tryd.prog 20 W F43.pl c q (kP QP)
def F43.el0 (_ : Nat) (_ : Nat → AV) : List AV := []
def F43.q0 (QR QN : VK) (QE : Nat → VK) : Post := fun x s h => match x with | .normal => QN [s.tm 2] h | .ret => QR [s.tm 2] h | .exit j => QE j (F43.el0 j s.tm) h | .goto _ => False
def F43.n1 (_ : WK) (QR _ : VK) (_ : EK) (_ : PK) (x2 : AV) (h : AH) : Prop :=
QR [x2] h
def F43.f1 : KT := fun s h => F43.n1 W QR QN QE QP (s.tm 2) h
theorem F43.e1 : F43.cw W (F43.d [1, 1, 1]) (F43.q0 QR QN QE) QP s h = F43.f1 W QR QN QE QP s h := by kernel_rfl
def F43.n2 (W : WK) (QR QN : VK) (QE : EK) (QP : PK) (x0 : AV) (h : AH) : Prop :=
pBin Tryd.prog .quo 3 true x0 (.sc (.int .i64 10)) fun t1 =>
pBin Tryd.prog .rem 3 true x0 (.sc (.int .i64 10)) fun t2 =>
pBin Tryd.prog .add 3 true (.sc (.int .i64 48)) t2 fun t3 =>
pCnv (some .u8) t3 fun t4 =>
(
aCall Tryd.prog noW 43 [t1] h (fun t5 h6 =>
eBSl (some (1, 5, [.int .u8 0])) 1 [(0, t4)] h6 fun t7 h8 =>
pB2S t7 h8 fun t9 _ =>
pBin Tryd.prog .add 9 false t5 t9 fun t11 =>
F43.n1 W QR QN QE QP t11 h8) QP) ∧ (
eBSl (some (1, 5, [.int .u8 0])) 1 [(0, t4)] h fun t12 h13 =>
pB2S t12 h13 fun t14 _ =>
aCall Tryd.prog noW 43 [t1] h13 (fun t16 h17 =>
pBin Tryd.prog .add 9 false t16 t14 fun t18 =>
F43.n1 W QR QN QE QP t18 h17) QP) ∧ True
def F43.f2 : KT := fun s h => F43.n2 W QR QN QE QP (s.tm 0) h
theorem F43.e2 : F43.cw W (F43.d [1, 1, 0]) (thenQ (F43.f1 W QR QN QE QP) (F43.q0 QR QN QE)) QP s h = F43.f2 W QR QN QE QP s h := by kernel_rfl
theorem F43.o1 : F43.cw W (F43.d [1, 1]) (F43.q0 QR QN QE) QP s h = F43.f2 W QR QN QE QP s h := nd_seq (a := (F43.d [1, 1, 0])) (b := (F43.d [1, 1, 1])) (by kernel_rfl) (F43.e1 W QR QN QE QP) (F43.e2 W QR QN QE QP s h)
def F43.n3 (_ : WK) (QR _ : VK) (_ : EK) (_ : PK) (x0 : AV) (h : AH) : Prop :=
pBin Tryd.prog .add 3 true (.sc (.int .i64 48)) x0 fun t19 =>
pCnv (some .u8) t19 fun t20 =>
eBSl (some (1, 5, [.int .u8 0])) 1 [(0, t20)] h fun t21 h22 =>
pB2S t21 h22 fun t23 _ =>
QR [t23] h22
def F43.f3 : KT := fun s h => F43.n3 W QR QN QE QP (s.tm 0) h
theorem F43.e3 : F43.cw W (F43.d [1, 0, 1, 0]) (thenQ (F43.f2 W QR QN QE QP) (F43.q0 QR QN QE)) QP s h = F43.f3 W QR QN QE QP s h := nd_seq (a := (F43.d [1, 0, 1, 0, 0])) (b := (F43.d [1, 0, 1, 0, 1])) (by kernel_rfl) (fun _ _ => rfl) (by kernel_rfl)
def F43.n4 (W : WK) (QR QN : VK) (QE : EK) (QP : PK) (x0 x4 : AV) (h : AH) : Prop :=
aIf x4 (
F43.n3 W QR QN QE QP x0 h) (
F43.n2 W QR QN QE QP x0 h)
def F43.f4 : KT := fun s h => F43.n4 W QR QN QE QP (s.tm 0) (s.tm 4) h
theorem F43.e4 : F43.cw W (F43.d [1, 0, 1]) (thenQ (F43.f2 W QR QN QE QP) (F43.q0 QR QN QE)) QP s h = F43.f4 W QR QN QE QP s h := nd_cond (o := (.tmp 4)) (a := (F43.d [1, 0, 1, 0])) (b := (F43.d [1, 0, 1, 1])) (by kernel_rfl) (F43.e3 W QR QN QE QP s h) rfl (by kernel_rfl)
def F43.n5 (W : WK) (QR QN : VK) (QE : EK) (QP : PK) (x0 : AV) (h : AH) : Prop :=
pBin Tryd.prog .lss 3 true x0 (.sc (.int .i64 10)) fun t25 =>
F43.n4 W QR QN QE QP x0 t25 h
def F43.f5 : KT := fun s h => F43.n5 W QR QN QE QP (s.tm 0) h
theorem F43.e5 : F43.cw W (F43.d [1, 0]) (thenQ (F43.f2 W QR QN QE QP) (F43.q0 QR QN QE)) QP s h = F43.f5 W QR QN QE QP s h := nd_seq (a := (F43.d [1, 0, 0])) (b := (F43.d [1, 0, 1])) (by kernel_rfl) (F43.e4 W QR QN QE QP) (by kernel_rfl)
theorem F43.o2 : F43.cw W (F43.d [1]) (F43.q0 QR QN QE) QP s h = F43.f5 W QR QN QE QP s h := nd_seq (a := (F43.d [1, 0])) (b := (F43.d [1, 1])) (by kernel_rfl) (F43.o1 W QR QN QE QP) (F43.e5 W QR QN QE QP s h)
def F43.n6 (W : WK) (QR QN : VK) (QE : EK) (QP : PK) (x0 : AV) (h : AH) : Prop :=
F43.n5 W QR QN QE QP x0 h
def F43.f6 : KT := fun s h => F43.n6 W QR QN QE QP (s.tm 0) h
theorem F43.e6 : F43.cw W (F43.d []) (F43.q0 QR QN QE) QP s h = F43.f6 W QR QN QE QP s h := nd_seq (a := (F43.d [0])) (b := (F43.d [1])) (by kernel_rfl) (F43.o2 W QR QN QE QP) (by kernel_rfl)
end
set_option maxRecDepth 100000 in
theorem F43.callsN {x0 : AV} {h : AH} {M : Nat → Prop} {R : AE → AH → Prop} (hp : F43.n6 (fun id => M id ∨ h.next ≤ id) (retV Tryd.prog [.tmp 2] R) (retV Tryd.prog [.tmp 2] R) (fun _ _ _ => False) (fun v h => R (.pan v) h) x0 h) : ACalls Tryd.prog 43 [x0] h M R :=
  acalls_of (c := F43.code) Tryd.mixed Tryd.func43 (by kernel_rfl) (Nat.le_of_ble_eq_true rfl) F43.ok (by rw [show Tryd.f43.ntmps = 20 from rfl, show Tryd.f43.results.toList = [.tmp 2] from rfl]; exact body_D (q := F43.q0 (retV Tryd.prog [.tmp 2] R) (retV Tryd.prog [.tmp 2] R) (fun _ _ _ => False)) (by kernel_rfl) (fun _ _ => rfl) (fun _ _ => rfl) (fun _ _ _ h => h) (fun _ _ _ h => h) rfl (Eq.mpr (F43.e6 (fun id => M id ∨ h.next ≤ id) (retV Tryd.prog [.tmp 2] R) (retV Tryd.prog [.tmp 2] R) (fun _ _ _ => False) (fun v h => R (.pan v) h) (s0 [x0]) h) hp))
attribute [simp] F43.n1 F43.n2 F43.n3 F43.n4 F43.n5 F43.n6

section
variable (W : Nat → Prop) (QR QN : VK) (QE : Nat → VK) (QP : AV → AH → Prop) (s : St) (h : AH)
noncomputable def F44.code : Code := Tryd.f44.body.getD .skip
def F44.g1 : Grps := [(none, [(0, false), (1, false), (2, false), (3, false), (4, false), (5, false), (6, false), (7, false), (8, false), (9, false)])]
def F44.pl : Plans := [(3, ⟨F44.g1, false, [], [6]⟩)]
theorem F44.ok : okCode Tryd.prog F44.pl F44.code = true := by kernel_rfl
noncomputable abbrev F44.d (p : List Nat) : Code := Code.at F44.code p
abbrev F44.cw (W : Nat → Prop) (c : Code) (q : Post) (QP : AV → AH → Prop) : KT := Go.Ab.aw Tryd.prog 18 W F44.pl c q (kP QP)
def F44.el0 (_ : Nat) (_ : Nat → AV) : List AV := []
def F44.q0 (QR QN : VK) (QE : Nat → VK) : Post := fun x s h => match x with | .normal => QN [s.tm 2] h | .ret => QR [s.tm 2] h | .exit j => QE j (F44.el0 j s.tm) h | .goto _ => False
def F44.n1 (_ : WK) (QR _ : VK) (_ : EK) (_ : PK) (x2 : AV) (h : AH) : Prop :=
QR [x2] h
def F44.f1 : KT := fun s h => F44.n1 W QR QN QE QP (s.tm 2) h
theorem F44.e1 : F44.cw W (F44.d [1, 1, 1]) (F44.q0 QR QN QE) QP s h = F44.f1 W QR QN QE QP s h := by kernel_rfl
def F44.n2 (W : WK) (QR QN : VK) (QE : EK) (QP : PK) (x1 : AV) (h : AH) : Prop :=
pFld (some 0) x1 fun t1 =>
lLd (some false) (some 1) t1 h fun t2 _ =>
pBin Tryd.prog .add 9 true (.sc (.string ⟨#[32]⟩)) t2 fun t4 =>
pBin Tryd.prog .add 9 true t4 (.sc (.string ⟨#[91]⟩)) fun t5 =>
pFld (some 1) x1 fun t6 =>
lLd (some false) (some 1) t6 h fun t7 _ =>
aCall Tryd.prog noW 43 [t7] h (fun t9 h10 =>
pBin Tryd.prog .add 9 false t5 t9 fun t11 =>
pBin Tryd.prog .add 9 true t11 (.sc (.string ⟨#[93]⟩)) fun t12 =>
F44.n1 W QR QN QE QP t12 h10) QP
def F44.f2 : KT := fun s h => F44.n2 W QR QN QE QP (s.tm 1) h
theorem F44.e2 : evG Tryd.prog 18 (puW [6] fun _ => W) nobody (kP QP) (regOps (F44.d [1, 1, 0])) (F44.g1.drop 0) ((thenQ (F44.f1 W QR QN QE QP) (F44.q0 QR QN QE)) .normal) s h = F44.f2 W QR QN QE QP s h := nd_g (is := isAt F44.g1 0) (rest := F44.g1.drop 1) (by kernel_rfl) (fun _ _ => rfl) (by kernel_rfl)
theorem F44.o1 : F44.cw W (F44.d [1, 1, 0]) (thenQ (F44.f1 W QR QN QE QP) (F44.q0 QR QN QE)) QP s h = F44.f2 W QR QN QE QP s h := nd_groups_pu (id := 3) (draw := true) (ops := (regOps (F44.d [1, 1, 0]))) (gs := F44.g1.drop 0) (by kernel_rfl) (by kernel_rfl) (F44.e2 W QR QN QE QP s h)
theorem F44.o2 : F44.cw W (F44.d [1, 1]) (F44.q0 QR QN QE) QP s h = F44.f2 W QR QN QE QP s h := nd_seq (a := (F44.d [1, 1, 0])) (b := (F44.d [1, 1, 1])) (by kernel_rfl) (F44.e1 W QR QN QE QP) (F44.o1 W QR QN QE QP s h)
def F44.n3 (_ : WK) (QR _ : VK) (_ : EK) (_ : PK) (x1 : AV) (h : AH) : Prop :=
pFld (some 0) x1 fun t13 =>
lLd (some false) (some 1) t13 h fun t14 _ =>
pBin Tryd.prog .add 9 true (.sc (.string ⟨#[32]⟩)) t14 fun t16 =>
QR [t16] h
def F44.f3 : KT := fun s h => F44.n3 W QR QN QE QP (s.tm 1) h
theorem F44.e3 : F44.cw W (F44.d [1, 0, 1, 0]) (thenQ (F44.f2 W QR QN QE QP) (F44.q0 QR QN QE)) QP s h = F44.f3 W QR QN QE QP s h := nd_seq (a := (F44.d [1, 0, 1, 0, 0])) (b := (F44.d [1, 0, 1, 0, 1])) (by kernel_rfl) (fun _ _ => rfl) (by kernel_rfl)
def F44.n4 (W : WK) (QR QN : VK) (QE : EK) (QP : PK) (x1 x5 : AV) (h : AH) : Prop :=
aIf x5 (
F44.n3 W QR QN QE QP x1 h) (
F44.n2 W QR QN QE QP x1 h)
def F44.f4 : KT := fun s h => F44.n4 W QR QN QE QP (s.tm 1) (s.tm 5) h
theorem F44.e4 : F44.cw W (F44.d [1, 0, 1]) (thenQ (F44.f2 W QR QN QE QP) (F44.q0 QR QN QE)) QP s h = F44.f4 W QR QN QE QP s h := nd_cond (o := (.tmp 5)) (a := (F44.d [1, 0, 1, 0])) (b := (F44.d [1, 0, 1, 1])) (by kernel_rfl) (F44.e3 W QR QN QE QP s h) rfl (by kernel_rfl)
def F44.n5 (W : WK) (QR QN : VK) (QE : EK) (QP : PK) (x1 : AV) (h : AH) : Prop :=
pFld (some 1) x1 fun t17 =>
lLd (some false) (some 1) t17 h fun t18 _ =>
pBin Tryd.prog .lss 3 true t18 (.sc (.int .i64 0)) fun t20 =>
F44.n4 W QR QN QE QP x1 t20 h
def F44.f5 : KT := fun s h => F44.n5 W QR QN QE QP (s.tm 1) h
theorem F44.e5 : F44.cw W (F44.d [1, 0]) (thenQ (F44.f2 W QR QN QE QP) (F44.q0 QR QN QE)) QP s h = F44.f5 W QR QN QE QP s h := nd_seq (a := (F44.d [1, 0, 0])) (b := (F44.d [1, 0, 1])) (by kernel_rfl) (F44.e4 W QR QN QE QP) (by kernel_rfl)
theorem F44.o3 : F44.cw W (F44.d [1]) (F44.q0 QR QN QE) QP s h = F44.f5 W QR QN QE QP s h := nd_seq (a := (F44.d [1, 0])) (b := (F44.d [1, 1])) (by kernel_rfl) (F44.o2 W QR QN QE QP) (F44.e5 W QR QN QE QP s h)
def F44.n6 (W : WK) (QR QN : VK) (QE : EK) (QP : PK) (x0 : AV) (h : AH) : Prop :=
eBox 2 41 x0 h fun t21 h22 =>
F44.n5 W QR QN QE QP t21 h22
def F44.f6 : KT := fun s h => F44.n6 W QR QN QE QP (s.tm 0) h
theorem F44.e6 : F44.cw W (F44.d []) (F44.q0 QR QN QE) QP s h = F44.f6 W QR QN QE QP s h := nd_seq (a := (F44.d [0])) (b := (F44.d [1])) (by kernel_rfl) (F44.o3 W QR QN QE QP) (by kernel_rfl)
end
set_option maxRecDepth 100000 in
theorem F44.callsN {x0 : AV} {h : AH} {M : Nat → Prop} {R : AE → AH → Prop} (hp : F44.n6 (fun id => M id ∨ h.next ≤ id) (retV Tryd.prog [.tmp 2] R) (retV Tryd.prog [.tmp 2] R) (fun _ _ _ => False) (fun v h => R (.pan v) h) x0 h) : ACalls Tryd.prog 44 [x0] h M R :=
  acalls_of (c := F44.code) Tryd.mixed Tryd.func44 (by kernel_rfl) (Nat.le_of_ble_eq_true rfl) F44.ok (by rw [show Tryd.f44.ntmps = 18 from rfl, show Tryd.f44.results.toList = [.tmp 2] from rfl]; exact body_D (q := F44.q0 (retV Tryd.prog [.tmp 2] R) (retV Tryd.prog [.tmp 2] R) (fun _ _ _ => False)) (by kernel_rfl) (fun _ _ => rfl) (fun _ _ => rfl) (fun _ _ _ h => h) (fun _ _ _ h => h) rfl (Eq.mpr (F44.e6 (fun id => M id ∨ h.next ≤ id) (retV Tryd.prog [.tmp 2] R) (retV Tryd.prog [.tmp 2] R) (fun _ _ _ => False) (fun v h => R (.pan v) h) (s0 [x0]) h) hp))
attribute [simp] F44.n1 F44.n2 F44.n3 F44.n4 F44.n5 F44.n6
end Go.Proofs.YthkkgbmjjpcfaaaDoor

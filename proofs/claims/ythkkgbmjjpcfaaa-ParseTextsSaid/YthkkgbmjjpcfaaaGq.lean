/- Bodies of the reader of the document, written out for the table; printed by a program of this session. No condition. -/
import Derived.Test.YthkkgbmjjpcfaaaGl
namespace Go.Proofs.Ythkkgbmjjpcfaaa
open Go.Ab

/-! (*cubit/cubitref10.reader).sign -/
section
variable (W : Nat → Prop) (Q : Post) (QP : PPost) (s : St) (h : AH)
noncomputable def F42.code : Code := Try.f42.body.getD .skip
def F42.g1 : Grps := [(none, [(0, false), (1, false), (2, false), (3, false), (4, false), (5, false)]), (some (5, true), [(6, false), (7, false), (8, false), (9, false), (10, false), (11, false), (12, false), (13, false), (14, false), (15, false)]), (none, [(16, false), (17, false)]), (some (17, true), [(18, false), (19, false), (20, false), (21, false), (22, false), (23, false), (24, false), (25, false), (26, false), (27, false), (28, false), (29, false)]), (none, [(30, false), (31, false)]), (some (31, true), [(32, false), (33, false), (34, false), (35, false), (36, false), (37, false), (38, false), (39, false), (40, false), (41, false), (42, false), (43, false), (44, false)]), (none, [(45, false), (46, false)])]
def F42.pl : Plans := [(1, ⟨F42.g1, false, []⟩)]
theorem F42.ok : okCode F42.pl F42.code = true := by kernel_rfl
def F42.t1 (Q : Post) (s : St) (h : AH) : Prop :=
  Q .ret s h
def F42.k1 (W : Nat → Prop) (Q : Post) (QP : PPost) (s : St) (h : AH) : Prop := F42.t1 Q s h
theorem F42.k1_a : aw Try.prog 51 W F42.pl (Code.at F42.code [1, 1]) (Q) QP s h = F42.t1 Q s h := by kernel_rfl
theorem F42.k1_ok : aw Try.prog 51 W F42.pl (Code.at F42.code [1, 1]) (Q) QP s h = F42.k1 W Q QP s h := (F42.k1_a W Q QP s h)
def F42.t2 (s : St) (h : AH) (C0 : KT) : Prop :=
  pPick (s.tm 36) (s.tm 49) (.sc (.bool false)) fun t1 =>
  C0 ⟨puts s.tm [(50, t1), (4, t1)], s.ds⟩ h
def F42.k2 (W : Nat → Prop) (Q : Post) (QP : PPost) (s : St) (h : AH) : Prop := F42.t2 s h (F42.k1 W Q QP)
theorem F42.k2_a (C0 : KT) : evI Try.prog 51 (fun _ => W) nobody QP (regOps (Code.at F42.code [1, 0])) (isAt F42.g1 6) ((thenQ (C0) (Q)) .normal) s h = F42.t2 s h C0 := by kernel_rfl
theorem F42.k2_ok : evG Try.prog 51 (fun _ => W) nobody QP (regOps (Code.at F42.code [1, 0])) (F42.g1.drop 6) ((thenQ (F42.k1 W Q QP) (Q)) .normal) s h = F42.k2 W Q QP s h := nd_g (is := isAt F42.g1 6) (rest := F42.g1.drop 7) (by kernel_rfl) (fun _ _ => rfl) (F42.k2_a W Q QP s h (F42.k1 W Q QP))
def F42.t3 (s : St) (h : AH) (C0 : KT) : Prop :=
  aIg true (s.tm 36) (
  pNil (s.tm 0) fun t2 =>
  pFld (some 0) t2 fun t3 =>
  lLd (some false) (some 1) t3 h fun t4 _ =>
  pNil (s.tm 0) fun t6 =>
  pFld (some 1) t6 fun t7 =>
  lLd (some false) (some 1) t7 h fun t8 _ =>
  pIxA (some (3, none)) t4 t8 fun t10 =>
  pFld (some 1) t10 fun t11 =>
  lLd (some false) (some 1) t11 h fun t12 _ =>
  pBin Try.prog .eql 9 false t12 (s.tm 1) fun t14 =>
  C0 ⟨puts s.tm [(37, (s.tm 0)), (38, t2), (39, t3), (40, t4), (41, (s.tm 0)), (42, t6), (43, t7), (44, t8), (45, t10), (46, t11), (47, t12), (48, (s.tm 1)), (49, t14)], s.ds⟩ h) (
  C0 ⟨puts s.tm [(37, noA), (38, noA), (39, noA), (40, noA), (41, noA), (42, noA), (43, noA), (44, noA), (45, noA), (46, noA), (47, noA), (48, noA), (49, noA)], s.ds⟩ h)
def F42.k3 (W : Nat → Prop) (Q : Post) (QP : PPost) (s : St) (h : AH) : Prop := F42.t3 s h (F42.k2 W Q QP)
theorem F42.k3_a (C0 : KT) : aIg true (s.tm 36) (evI Try.prog 51 (fun _ => W) nobody QP (regOps (Code.at F42.code [1, 0])) (isAt F42.g1 5) (C0) s h) ((C0) (skI 51 (regOps (Code.at F42.code [1, 0])) (isAt F42.g1 5) s) h) = F42.t3 s h C0 := by kernel_rfl
theorem F42.k3_ok : evG Try.prog 51 (fun _ => W) nobody QP (regOps (Code.at F42.code [1, 0])) (F42.g1.drop 5) ((thenQ (F42.k1 W Q QP) (Q)) .normal) s h = F42.k3 W Q QP s h := nd_gw (j := 31) (is := isAt F42.g1 5) (rest := F42.g1.drop 6) (by kernel_rfl) (d := 36) (by kernel_rfl) (F42.k2_ok W Q QP) (F42.k3_a W QP s h (F42.k2 W Q QP))
def F42.t4 (s : St) (h : AH) (C0 : KT) : Prop :=
  pPick (s.tm 22) (s.tm 34) (.sc (.bool false)) fun t15 =>
  C0 ⟨puts s.tm [(35, t15), (36, t15)], s.ds⟩ h
def F42.k4 (W : Nat → Prop) (Q : Post) (QP : PPost) (s : St) (h : AH) : Prop := F42.t4 s h (F42.k3 W Q QP)
theorem F42.k4_a (C0 : KT) : evI Try.prog 51 (fun _ => W) nobody QP (regOps (Code.at F42.code [1, 0])) (isAt F42.g1 4) (C0) s h = F42.t4 s h C0 := by kernel_rfl
theorem F42.k4_ok : evG Try.prog 51 (fun _ => W) nobody QP (regOps (Code.at F42.code [1, 0])) (F42.g1.drop 4) ((thenQ (F42.k1 W Q QP) (Q)) .normal) s h = F42.k4 W Q QP s h := nd_g (is := isAt F42.g1 4) (rest := F42.g1.drop 5) (by kernel_rfl) (F42.k3_ok W Q QP) (F42.k4_a W QP s h (F42.k3 W Q QP))
def F42.t5 (s : St) (h : AH) (C0 : KT) : Prop :=
  aIg true (s.tm 22) (
  pNil (s.tm 0) fun t16 =>
  pFld (some 0) t16 fun t17 =>
  lLd (some false) (some 1) t17 h fun t18 _ =>
  pNil (s.tm 0) fun t20 =>
  pFld (some 1) t20 fun t21 =>
  lLd (some false) (some 1) t21 h fun t22 _ =>
  pIxA (some (3, none)) t18 t22 fun t24 =>
  pFld (some 0) t24 fun t25 =>
  lLd (some false) (some 1) t25 h fun t26 _ =>
  pBin Try.prog .eql 3 true t26 (.sc (.int .i64 3)) fun t28 =>
  C0 ⟨puts s.tm [(23, (s.tm 0)), (24, t16), (25, t17), (26, t18), (27, (s.tm 0)), (28, t20), (29, t21), (30, t22), (31, t24), (32, t25), (33, t26), (34, t28)], s.ds⟩ h) (
  C0 ⟨puts s.tm [(23, noA), (24, noA), (25, noA), (26, noA), (27, noA), (28, noA), (29, noA), (30, noA), (31, noA), (32, noA), (33, noA), (34, noA)], s.ds⟩ h)
def F42.k5 (W : Nat → Prop) (Q : Post) (QP : PPost) (s : St) (h : AH) : Prop := F42.t5 s h (F42.k4 W Q QP)
theorem F42.k5_a (C0 : KT) : aIg true (s.tm 22) (evI Try.prog 51 (fun _ => W) nobody QP (regOps (Code.at F42.code [1, 0])) (isAt F42.g1 3) (C0) s h) ((C0) (skI 51 (regOps (Code.at F42.code [1, 0])) (isAt F42.g1 3) s) h) = F42.t5 s h C0 := by kernel_rfl
theorem F42.k5_ok : evG Try.prog 51 (fun _ => W) nobody QP (regOps (Code.at F42.code [1, 0])) (F42.g1.drop 3) ((thenQ (F42.k1 W Q QP) (Q)) .normal) s h = F42.k5 W Q QP s h := nd_gw (j := 17) (is := isAt F42.g1 3) (rest := F42.g1.drop 4) (by kernel_rfl) (d := 22) (by kernel_rfl) (F42.k4_ok W Q QP) (F42.k5_a W QP s h (F42.k4 W Q QP))
def F42.t6 (s : St) (h : AH) (C0 : KT) : Prop :=
  pPick (s.tm 10) (s.tm 20) (.sc (.bool false)) fun t29 =>
  C0 ⟨puts s.tm [(21, t29), (22, t29)], s.ds⟩ h
def F42.k6 (W : Nat → Prop) (Q : Post) (QP : PPost) (s : St) (h : AH) : Prop := F42.t6 s h (F42.k5 W Q QP)
theorem F42.k6_a (C0 : KT) : evI Try.prog 51 (fun _ => W) nobody QP (regOps (Code.at F42.code [1, 0])) (isAt F42.g1 2) (C0) s h = F42.t6 s h C0 := by kernel_rfl
theorem F42.k6_ok : evG Try.prog 51 (fun _ => W) nobody QP (regOps (Code.at F42.code [1, 0])) (F42.g1.drop 2) ((thenQ (F42.k1 W Q QP) (Q)) .normal) s h = F42.k6 W Q QP s h := nd_g (is := isAt F42.g1 2) (rest := F42.g1.drop 3) (by kernel_rfl) (F42.k5_ok W Q QP) (F42.k6_a W QP s h (F42.k5 W Q QP))
def F42.t7 (s : St) (h : AH) (C0 : KT) : Prop :=
  aIg true (s.tm 10) (
  pNil (s.tm 0) fun t30 =>
  pFld (some 1) t30 fun t31 =>
  lLd (some false) (some 1) t31 h fun t32 _ =>
  pNil (s.tm 0) fun t34 =>
  pFld (some 0) t34 fun t35 =>
  lLd (some false) (some 1) t35 h fun t36 _ =>
  (strArg t36 = false) ∧ pLen t36 fun t38 =>
  pBin Try.prog .lss 3 false t32 t38 fun t39 =>
  C0 ⟨puts s.tm [(11, (s.tm 0)), (12, t30), (13, t31), (14, t32), (15, (s.tm 0)), (16, t34), (17, t35), (18, t36), (19, t38), (20, t39)], s.ds⟩ h) (
  C0 ⟨puts s.tm [(11, noA), (12, noA), (13, noA), (14, noA), (15, noA), (16, noA), (17, noA), (18, noA), (19, noA), (20, noA)], s.ds⟩ h)
def F42.k7 (W : Nat → Prop) (Q : Post) (QP : PPost) (s : St) (h : AH) : Prop := F42.t7 s h (F42.k6 W Q QP)
theorem F42.k7_a (C0 : KT) : aIg true (s.tm 10) (evI Try.prog 51 (fun _ => W) nobody QP (regOps (Code.at F42.code [1, 0])) (isAt F42.g1 1) (C0) s h) ((C0) (skI 51 (regOps (Code.at F42.code [1, 0])) (isAt F42.g1 1) s) h) = F42.t7 s h C0 := by kernel_rfl
theorem F42.k7_ok : evG Try.prog 51 (fun _ => W) nobody QP (regOps (Code.at F42.code [1, 0])) (F42.g1.drop 1) ((thenQ (F42.k1 W Q QP) (Q)) .normal) s h = F42.k7 W Q QP s h := nd_gw (j := 5) (is := isAt F42.g1 1) (rest := F42.g1.drop 2) (by kernel_rfl) (d := 10) (by kernel_rfl) (F42.k6_ok W Q QP) (F42.k7_a W QP s h (F42.k6 W Q QP))
def F42.t8 (s : St) (h : AH) (C0 : KT) : Prop :=
  pNil (s.tm 0) fun t40 =>
  pFld (some 3) t40 fun t41 =>
  lLd (some false) (some 1) t41 h fun t42 _ =>
  pBin Try.prog .eql 3 true t42 (.sc (.int .i64 0)) fun t44 =>
  C0 ⟨puts s.tm [(5, (s.tm 0)), (6, t40), (7, t41), (8, t42), (9, t44), (10, t44)], s.ds⟩ h
def F42.k8 (W : Nat → Prop) (Q : Post) (QP : PPost) (s : St) (h : AH) : Prop := F42.t8 s h (F42.k7 W Q QP)
theorem F42.k8_a (C0 : KT) : evI Try.prog 51 (fun _ => W) nobody QP (regOps (Code.at F42.code [1, 0])) (isAt F42.g1 0) (C0) s h = F42.t8 s h C0 := by kernel_rfl
theorem F42.k8_ok : evG Try.prog 51 (fun _ => W) nobody QP (regOps (Code.at F42.code [1, 0])) (F42.g1.drop 0) ((thenQ (F42.k1 W Q QP) (Q)) .normal) s h = F42.k8 W Q QP s h := nd_g (is := isAt F42.g1 0) (rest := F42.g1.drop 1) (by kernel_rfl) (F42.k7_ok W Q QP) (F42.k8_a W QP s h (F42.k7 W Q QP))
theorem F42.o1 : aw Try.prog 51 W F42.pl (Code.at F42.code [1, 0]) (thenQ (F42.k1 W Q QP) (Q)) QP s h = F42.k8 W Q QP s h := nd_groups (id := 1) (draw := true) (ops := (regOps (Code.at F42.code [1, 0]))) (gs := F42.g1.drop 0) (by kernel_rfl) (by kernel_rfl) (F42.k8_ok W Q QP s h)
theorem F42.o2 : aw Try.prog 51 W F42.pl (Code.at F42.code [1]) (Q) QP s h = F42.k8 W Q QP s h := nd_seq (a := (Code.at F42.code [1, 0])) (b := (Code.at F42.code [1, 1])) (by kernel_rfl) (F42.k1_ok W Q QP) (F42.o1 W Q QP s h)
def F42.t9 (s : St) (h : AH) (C0 : KT) : Prop :=
  C0 ⟨puts s.tm [(4, (.sc (.bool false)))], s.ds⟩ h
def F42.k9 (W : Nat → Prop) (Q : Post) (QP : PPost) (s : St) (h : AH) : Prop := F42.t9 s h (F42.k8 W Q QP)
theorem F42.k9_a (C0 : KT) : aw Try.prog 51 W F42.pl (Code.at F42.code [0]) (thenQ (C0) (Q)) QP s h = F42.t9 s h C0 := by kernel_rfl
theorem F42.k9_ok : aw Try.prog 51 W F42.pl (Code.at F42.code []) (Q) QP s h = F42.k9 W Q QP s h := nd_seq (a := (Code.at F42.code [0])) (b := (Code.at F42.code [1])) (by kernel_rfl) (F42.o2 W Q QP) (F42.k9_a W Q QP s h (F42.k8 W Q QP))
end
theorem F42.calls {x0 x1 : AV} {h : AH} {M : Nat → Prop} {R : AE → AH → Prop} (hp : F42.k9 (fun id => M id ∨ h.next ≤ id) (bodyQ Try.prog [.tmp 4] R) (bodyP R) (s0 [x0, x1]) h) : ACalls Try.prog 42 [x0, x1] h M R :=
  acalls_of Try.mixed Try.func42 rfl (Nat.le_of_ble_eq_true rfl) F42.ok (by rw [show Try.f42.ntmps = 51 from rfl, show Try.f42.results.toList = [.tmp 4] from rfl]; exact Eq.mpr (F42.k9_ok _ _ _ _ _) hp)
attribute [simp] F42.k1 F42.t1 F42.k2 F42.t2 F42.k3 F42.t3 F42.k4 F42.t4 F42.k5 F42.t5 F42.k6 F42.t6 F42.k7 F42.t7 F42.k8 F42.t8 F42.k9 F42.t9

/-! (*cubit/cubitref10.reader).plain -/
section
variable (W : Nat → Prop) (Q : Post) (QP : PPost) (s : St) (h : AH)
noncomputable def F30.code : Code := Try.f30.body.getD .skip
def F30.g1 : Grps := [(none, [(0, false), (1, false), (2, false), (3, false), (4, false), (5, false)]), (some (5, true), [(6, false), (7, false), (8, false), (9, false), (10, false), (11, false), (12, false), (13, false), (14, false), (15, false)]), (none, [(16, false), (17, false)]), (some (17, true), [(18, false), (19, false), (20, false), (21, false), (22, false), (23, false), (24, false), (25, false), (26, false), (27, false), (28, false), (29, false)]), (none, [(30, false), (31, false)]), (some (31, true), [(32, false), (33, false), (34, false), (35, false), (36, false), (37, false), (38, false), (39, false), (40, false), (41, false), (42, false), (43, false), (44, false)]), (none, [(45, false), (46, false)])]
def F30.pl : Plans := [(1, ⟨F30.g1, false, []⟩)]
theorem F30.ok : okCode F30.pl F30.code = true := by kernel_rfl
def F30.t1 (Q : Post) (s : St) (h : AH) : Prop :=
  Q .ret s h
def F30.k1 (W : Nat → Prop) (Q : Post) (QP : PPost) (s : St) (h : AH) : Prop := F30.t1 Q s h
theorem F30.k1_a : aw Try.prog 49 W F30.pl (Code.at F30.code [1, 1]) (Q) QP s h = F30.t1 Q s h := by kernel_rfl
theorem F30.k1_ok : aw Try.prog 49 W F30.pl (Code.at F30.code [1, 1]) (Q) QP s h = F30.k1 W Q QP s h := (F30.k1_a W Q QP s h)
def F30.t2 (s : St) (h : AH) (C0 : KT) : Prop :=
  pPick (s.tm 34) (s.tm 47) (.sc (.bool false)) fun t1 =>
  C0 ⟨puts s.tm [(48, t1), (2, t1)], s.ds⟩ h
def F30.k2 (W : Nat → Prop) (Q : Post) (QP : PPost) (s : St) (h : AH) : Prop := F30.t2 s h (F30.k1 W Q QP)
theorem F30.k2_a (C0 : KT) : evI Try.prog 49 (fun _ => W) nobody QP (regOps (Code.at F30.code [1, 0])) (isAt F30.g1 6) ((thenQ (C0) (Q)) .normal) s h = F30.t2 s h C0 := by kernel_rfl
theorem F30.k2_ok : evG Try.prog 49 (fun _ => W) nobody QP (regOps (Code.at F30.code [1, 0])) (F30.g1.drop 6) ((thenQ (F30.k1 W Q QP) (Q)) .normal) s h = F30.k2 W Q QP s h := nd_g (is := isAt F30.g1 6) (rest := F30.g1.drop 7) (by kernel_rfl) (fun _ _ => rfl) (F30.k2_a W Q QP s h (F30.k1 W Q QP))
def F30.t3 (W : Nat → Prop) (QP : PPost) (s : St) (h : AH) (C0 : KT) : Prop :=
  aIg true (s.tm 34) (
  pNil (s.tm 0) fun t2 =>
  pFld (some 0) t2 fun t3 =>
  lLd (some false) (some 1) t3 h fun t4 _ =>
  pNil (s.tm 0) fun t6 =>
  pFld (some 1) t6 fun t7 =>
  lLd (some false) (some 1) t7 h fun t8 _ =>
  pIxA (some (3, none)) t4 t8 fun t10 =>
  pFld (some 1) t10 fun t11 =>
  lLd (some false) (some 1) t11 h fun t12 _ =>
  aCall Try.prog W 26 [t12] h (fun t14 h15 =>
  pUn .not t14 fun t16 =>
  C0 ⟨puts s.tm [(35, (s.tm 0)), (36, t2), (37, t3), (38, t4), (39, (s.tm 0)), (40, t6), (41, t7), (42, t8), (43, t10), (44, t11), (45, t12), (46, t14), (47, t16)], s.ds⟩ h15) (QP s.ds)) (
  C0 ⟨puts s.tm [(35, noA), (36, noA), (37, noA), (38, noA), (39, noA), (40, noA), (41, noA), (42, noA), (43, noA), (44, noA), (45, noA), (46, noA), (47, noA)], s.ds⟩ h)
def F30.k3 (W : Nat → Prop) (Q : Post) (QP : PPost) (s : St) (h : AH) : Prop := F30.t3 W QP s h (F30.k2 W Q QP)
theorem F30.k3_a (C0 : KT) : aIg true (s.tm 34) (evI Try.prog 49 (fun _ => W) nobody QP (regOps (Code.at F30.code [1, 0])) (isAt F30.g1 5) (C0) s h) ((C0) (skI 49 (regOps (Code.at F30.code [1, 0])) (isAt F30.g1 5) s) h) = F30.t3 W QP s h C0 := by kernel_rfl
theorem F30.k3_ok : evG Try.prog 49 (fun _ => W) nobody QP (regOps (Code.at F30.code [1, 0])) (F30.g1.drop 5) ((thenQ (F30.k1 W Q QP) (Q)) .normal) s h = F30.k3 W Q QP s h := nd_gw (j := 31) (is := isAt F30.g1 5) (rest := F30.g1.drop 6) (by kernel_rfl) (d := 34) (by kernel_rfl) (F30.k2_ok W Q QP) (F30.k3_a W QP s h (F30.k2 W Q QP))
def F30.t4 (s : St) (h : AH) (C0 : KT) : Prop :=
  pPick (s.tm 20) (s.tm 32) (.sc (.bool false)) fun t17 =>
  C0 ⟨puts s.tm [(33, t17), (34, t17)], s.ds⟩ h
def F30.k4 (W : Nat → Prop) (Q : Post) (QP : PPost) (s : St) (h : AH) : Prop := F30.t4 s h (F30.k3 W Q QP)
theorem F30.k4_a (C0 : KT) : evI Try.prog 49 (fun _ => W) nobody QP (regOps (Code.at F30.code [1, 0])) (isAt F30.g1 4) (C0) s h = F30.t4 s h C0 := by kernel_rfl
theorem F30.k4_ok : evG Try.prog 49 (fun _ => W) nobody QP (regOps (Code.at F30.code [1, 0])) (F30.g1.drop 4) ((thenQ (F30.k1 W Q QP) (Q)) .normal) s h = F30.k4 W Q QP s h := nd_g (is := isAt F30.g1 4) (rest := F30.g1.drop 5) (by kernel_rfl) (F30.k3_ok W Q QP) (F30.k4_a W QP s h (F30.k3 W Q QP))
def F30.t5 (s : St) (h : AH) (C0 : KT) : Prop :=
  aIg true (s.tm 20) (
  pNil (s.tm 0) fun t18 =>
  pFld (some 0) t18 fun t19 =>
  lLd (some false) (some 1) t19 h fun t20 _ =>
  pNil (s.tm 0) fun t22 =>
  pFld (some 1) t22 fun t23 =>
  lLd (some false) (some 1) t23 h fun t24 _ =>
  pIxA (some (3, none)) t20 t24 fun t26 =>
  pFld (some 0) t26 fun t27 =>
  lLd (some false) (some 1) t27 h fun t28 _ =>
  pBin Try.prog .eql 3 true t28 (.sc (.int .i64 1)) fun t30 =>
  C0 ⟨puts s.tm [(21, (s.tm 0)), (22, t18), (23, t19), (24, t20), (25, (s.tm 0)), (26, t22), (27, t23), (28, t24), (29, t26), (30, t27), (31, t28), (32, t30)], s.ds⟩ h) (
  C0 ⟨puts s.tm [(21, noA), (22, noA), (23, noA), (24, noA), (25, noA), (26, noA), (27, noA), (28, noA), (29, noA), (30, noA), (31, noA), (32, noA)], s.ds⟩ h)
def F30.k5 (W : Nat → Prop) (Q : Post) (QP : PPost) (s : St) (h : AH) : Prop := F30.t5 s h (F30.k4 W Q QP)
theorem F30.k5_a (C0 : KT) : aIg true (s.tm 20) (evI Try.prog 49 (fun _ => W) nobody QP (regOps (Code.at F30.code [1, 0])) (isAt F30.g1 3) (C0) s h) ((C0) (skI 49 (regOps (Code.at F30.code [1, 0])) (isAt F30.g1 3) s) h) = F30.t5 s h C0 := by kernel_rfl
theorem F30.k5_ok : evG Try.prog 49 (fun _ => W) nobody QP (regOps (Code.at F30.code [1, 0])) (F30.g1.drop 3) ((thenQ (F30.k1 W Q QP) (Q)) .normal) s h = F30.k5 W Q QP s h := nd_gw (j := 17) (is := isAt F30.g1 3) (rest := F30.g1.drop 4) (by kernel_rfl) (d := 20) (by kernel_rfl) (F30.k4_ok W Q QP) (F30.k5_a W QP s h (F30.k4 W Q QP))
def F30.t6 (s : St) (h : AH) (C0 : KT) : Prop :=
  pPick (s.tm 8) (s.tm 18) (.sc (.bool false)) fun t31 =>
  C0 ⟨puts s.tm [(19, t31), (20, t31)], s.ds⟩ h
def F30.k6 (W : Nat → Prop) (Q : Post) (QP : PPost) (s : St) (h : AH) : Prop := F30.t6 s h (F30.k5 W Q QP)
theorem F30.k6_a (C0 : KT) : evI Try.prog 49 (fun _ => W) nobody QP (regOps (Code.at F30.code [1, 0])) (isAt F30.g1 2) (C0) s h = F30.t6 s h C0 := by kernel_rfl
theorem F30.k6_ok : evG Try.prog 49 (fun _ => W) nobody QP (regOps (Code.at F30.code [1, 0])) (F30.g1.drop 2) ((thenQ (F30.k1 W Q QP) (Q)) .normal) s h = F30.k6 W Q QP s h := nd_g (is := isAt F30.g1 2) (rest := F30.g1.drop 3) (by kernel_rfl) (F30.k5_ok W Q QP) (F30.k6_a W QP s h (F30.k5 W Q QP))
def F30.t7 (s : St) (h : AH) (C0 : KT) : Prop :=
  aIg true (s.tm 8) (
  pNil (s.tm 0) fun t32 =>
  pFld (some 1) t32 fun t33 =>
  lLd (some false) (some 1) t33 h fun t34 _ =>
  pNil (s.tm 0) fun t36 =>
  pFld (some 0) t36 fun t37 =>
  lLd (some false) (some 1) t37 h fun t38 _ =>
  (strArg t38 = false) ∧ pLen t38 fun t40 =>
  pBin Try.prog .lss 3 false t34 t40 fun t41 =>
  C0 ⟨puts s.tm [(9, (s.tm 0)), (10, t32), (11, t33), (12, t34), (13, (s.tm 0)), (14, t36), (15, t37), (16, t38), (17, t40), (18, t41)], s.ds⟩ h) (
  C0 ⟨puts s.tm [(9, noA), (10, noA), (11, noA), (12, noA), (13, noA), (14, noA), (15, noA), (16, noA), (17, noA), (18, noA)], s.ds⟩ h)
def F30.k7 (W : Nat → Prop) (Q : Post) (QP : PPost) (s : St) (h : AH) : Prop := F30.t7 s h (F30.k6 W Q QP)
theorem F30.k7_a (C0 : KT) : aIg true (s.tm 8) (evI Try.prog 49 (fun _ => W) nobody QP (regOps (Code.at F30.code [1, 0])) (isAt F30.g1 1) (C0) s h) ((C0) (skI 49 (regOps (Code.at F30.code [1, 0])) (isAt F30.g1 1) s) h) = F30.t7 s h C0 := by kernel_rfl
theorem F30.k7_ok : evG Try.prog 49 (fun _ => W) nobody QP (regOps (Code.at F30.code [1, 0])) (F30.g1.drop 1) ((thenQ (F30.k1 W Q QP) (Q)) .normal) s h = F30.k7 W Q QP s h := nd_gw (j := 5) (is := isAt F30.g1 1) (rest := F30.g1.drop 2) (by kernel_rfl) (d := 8) (by kernel_rfl) (F30.k6_ok W Q QP) (F30.k7_a W QP s h (F30.k6 W Q QP))
def F30.t8 (s : St) (h : AH) (C0 : KT) : Prop :=
  pNil (s.tm 0) fun t42 =>
  pFld (some 3) t42 fun t43 =>
  lLd (some false) (some 1) t43 h fun t44 _ =>
  pBin Try.prog .eql 3 true t44 (.sc (.int .i64 0)) fun t46 =>
  C0 ⟨puts s.tm [(3, (s.tm 0)), (4, t42), (5, t43), (6, t44), (7, t46), (8, t46)], s.ds⟩ h
def F30.k8 (W : Nat → Prop) (Q : Post) (QP : PPost) (s : St) (h : AH) : Prop := F30.t8 s h (F30.k7 W Q QP)
theorem F30.k8_a (C0 : KT) : evI Try.prog 49 (fun _ => W) nobody QP (regOps (Code.at F30.code [1, 0])) (isAt F30.g1 0) (C0) s h = F30.t8 s h C0 := by kernel_rfl
theorem F30.k8_ok : evG Try.prog 49 (fun _ => W) nobody QP (regOps (Code.at F30.code [1, 0])) (F30.g1.drop 0) ((thenQ (F30.k1 W Q QP) (Q)) .normal) s h = F30.k8 W Q QP s h := nd_g (is := isAt F30.g1 0) (rest := F30.g1.drop 1) (by kernel_rfl) (F30.k7_ok W Q QP) (F30.k8_a W QP s h (F30.k7 W Q QP))
theorem F30.o1 : aw Try.prog 49 W F30.pl (Code.at F30.code [1, 0]) (thenQ (F30.k1 W Q QP) (Q)) QP s h = F30.k8 W Q QP s h := nd_groups (id := 1) (draw := true) (ops := (regOps (Code.at F30.code [1, 0]))) (gs := F30.g1.drop 0) (by kernel_rfl) (by kernel_rfl) (F30.k8_ok W Q QP s h)
theorem F30.o2 : aw Try.prog 49 W F30.pl (Code.at F30.code [1]) (Q) QP s h = F30.k8 W Q QP s h := nd_seq (a := (Code.at F30.code [1, 0])) (b := (Code.at F30.code [1, 1])) (by kernel_rfl) (F30.k1_ok W Q QP) (F30.o1 W Q QP s h)
def F30.t9 (s : St) (h : AH) (C0 : KT) : Prop :=
  C0 ⟨puts s.tm [(2, (.sc (.bool false)))], s.ds⟩ h
def F30.k9 (W : Nat → Prop) (Q : Post) (QP : PPost) (s : St) (h : AH) : Prop := F30.t9 s h (F30.k8 W Q QP)
theorem F30.k9_a (C0 : KT) : aw Try.prog 49 W F30.pl (Code.at F30.code [0]) (thenQ (C0) (Q)) QP s h = F30.t9 s h C0 := by kernel_rfl
theorem F30.k9_ok : aw Try.prog 49 W F30.pl (Code.at F30.code []) (Q) QP s h = F30.k9 W Q QP s h := nd_seq (a := (Code.at F30.code [0])) (b := (Code.at F30.code [1])) (by kernel_rfl) (F30.o2 W Q QP) (F30.k9_a W Q QP s h (F30.k8 W Q QP))
end
theorem F30.calls {x0 : AV} {h : AH} {M : Nat → Prop} {R : AE → AH → Prop} (hp : F30.k9 (fun id => M id ∨ h.next ≤ id) (bodyQ Try.prog [.tmp 2] R) (bodyP R) (s0 [x0]) h) : ACalls Try.prog 30 [x0] h M R :=
  acalls_of Try.mixed Try.func30 rfl (Nat.le_of_ble_eq_true rfl) F30.ok (by rw [show Try.f30.ntmps = 49 from rfl, show Try.f30.results.toList = [.tmp 2] from rfl]; exact Eq.mpr (F30.k9_ok _ _ _ _ _) hp)
attribute [simp] F30.k1 F30.t1 F30.k2 F30.t2 F30.k3 F30.t3 F30.k4 F30.t4 F30.k5 F30.t5 F30.k6 F30.t6 F30.k7 F30.t7 F30.k8 F30.t8 F30.k9 F30.t9

/-! (*cubit/cubitref10.reader).fail -/
section
variable (W : Nat → Prop) (Q : Post) (QP : PPost) (s : St) (h : AH)
noncomputable def F25.code : Code := Try.f25.body.getD .skip
def F25.pl : Plans := [(2, ⟨[(none, [(0, false), (1, false), (2, false), (3, false), (4, false), (5, false), (6, false), (7, false), (8, false), (9, false)])], false, []⟩), (3, ⟨[(none, [(0, false), (1, false), (2, false), (3, false), (4, false), (5, false), (6, false), (7, false), (8, false), (9, false), (10, false), (11, false), (12, false), (13, false), (14, false)])], false, []⟩)]
theorem F25.ok : okCode F25.pl F25.code = true := by kernel_rfl
def F25.t1 (W : Nat → Prop) (Q : Post) (s : St) (h : AH) : Prop :=
  aIf (s.tm 29) (
  pNil (s.tm 0) fun t1 =>
  pFld (some 0) t1 fun t2 =>
  lLd (some false) (some 1) t2 h fun t3 _ =>
  pNil (s.tm 0) fun t5 =>
  pFld (some 1) t5 fun t6 =>
  lLd (some false) (some 1) t6 h fun t7 _ =>
  pIxA (some (3, none)) t3 t7 fun t9 =>
  pFld (some 2) t9 fun t10 =>
  lLd (some false) (some 1) t10 h fun t11 _ =>
  pNil (s.tm 0) fun t13 =>
  pFld (some 4) t13 fun t14 =>
  eStore (some 1) t14 t11 h W fun h15 =>
  Q .normal ⟨puts s.tm [(30, (s.tm 0)), (31, (s.tm 0)), (32, t1), (33, t2), (34, t3), (35, (s.tm 0)), (36, t5), (37, t6), (38, t7), (39, t9), (40, t10), (41, t11), (42, t13), (43, t14)], s.ds⟩ h15) (
  pNil (s.tm 0) fun t16 =>
  pFld (some 3) t16 fun t17 =>
  eStore (some 1) t17 (.sc (.int .i64 101)) h W fun h18 =>
  Q .normal ⟨puts s.tm [(44, (s.tm 0)), (45, t16), (46, t17)], s.ds⟩ h18)
def F25.k1 (W : Nat → Prop) (Q : Post) (QP : PPost) (s : St) (h : AH) : Prop := F25.t1 W Q s h
theorem F25.k1_a : aIf (aev s (.tmp 29)) (aw Try.prog 47 W F25.pl (Code.at F25.code [1, 1, 1, 0]) (Q) QP s h) (aw Try.prog 47 W F25.pl (Code.at F25.code [1, 1, 1, 1]) (Q) QP s h) = F25.t1 W Q s h := by kernel_rfl
theorem F25.k1_ok : aw Try.prog 47 W F25.pl (Code.at F25.code [1, 1, 1]) (Q) QP s h = F25.k1 W Q QP s h := nd_cond (a := (Code.at F25.code [1, 1, 1, 0])) (b := (Code.at F25.code [1, 1, 1, 1])) (by kernel_rfl) rfl rfl (F25.k1_a W Q QP s h)
def F25.t2 (s : St) (h : AH) (C0 : KT) : Prop :=
  pNil (s.tm 0) fun t19 =>
  pFld (some 1) t19 fun t20 =>
  lLd (some false) (some 1) t20 h fun t21 _ =>
  pNil (s.tm 0) fun t23 =>
  pFld (some 0) t23 fun t24 =>
  lLd (some false) (some 1) t24 h fun t25 _ =>
  (strArg t25 = false) ∧ pLen t25 fun t27 =>
  pBin Try.prog .lss 3 false t21 t27 fun t28 =>
  C0 ⟨puts s.tm [(20, (s.tm 0)), (21, t19), (22, t20), (23, t21), (24, (s.tm 0)), (25, t23), (26, t24), (27, t25), (28, t27), (29, t28)], s.ds⟩ h
def F25.k2 (W : Nat → Prop) (Q : Post) (QP : PPost) (s : St) (h : AH) : Prop := F25.t2 s h (F25.k1 W Q QP)
theorem F25.k2_a (C0 : KT) : aw Try.prog 47 W F25.pl (Code.at F25.code [1, 1, 0]) (thenQ (C0) (Q)) QP s h = F25.t2 s h C0 := by kernel_rfl
theorem F25.k2_ok : aw Try.prog 47 W F25.pl (Code.at F25.code [1, 1]) (Q) QP s h = F25.k2 W Q QP s h := nd_seq (a := (Code.at F25.code [1, 1, 0])) (b := (Code.at F25.code [1, 1, 1])) (by kernel_rfl) (F25.k1_ok W Q QP) (F25.k2_a W Q QP s h (F25.k1 W Q QP))
def F25.t3 (W : Nat → Prop) (s : St) (h : AH) (C0 : KT) : Prop :=
  pNil (s.tm 0) fun t29 =>
  pFld (some 2) t29 fun t30 =>
  lLd (some false) (some 1) t30 h fun t31 _ =>
  pNil (s.tm 0) fun t33 =>
  pFld (some 3) t33 fun t34 =>
  eStore (some 1) t34 (s.tm 1) h W fun h35 =>
  pNil (s.tm 0) fun t36 =>
  pFld (some 4) t36 fun t37 =>
  eStore (some 1) t37 t31 h35 W fun h38 =>
  C0 ⟨puts s.tm [(9, (s.tm 0)), (10, (s.tm 0)), (11, (s.tm 1)), (12, (s.tm 0)), (13, t29), (14, t30), (15, t31), (16, t33), (17, t34), (18, t36), (19, t37)], s.ds⟩ h38
def F25.k3 (W : Nat → Prop) (Q : Post) (QP : PPost) (s : St) (h : AH) : Prop := F25.t3 W s h (F25.k2 W Q QP)
theorem F25.k3_a (C0 : KT) : aw Try.prog 47 W F25.pl (Code.at F25.code [1, 0]) (thenQ (C0) (Q)) QP s h = F25.t3 W s h C0 := by kernel_rfl
theorem F25.k3_ok : aw Try.prog 47 W F25.pl (Code.at F25.code [1]) (Q) QP s h = F25.k3 W Q QP s h := nd_seq (a := (Code.at F25.code [1, 0])) (b := (Code.at F25.code [1, 1])) (by kernel_rfl) (F25.k2_ok W Q QP) (F25.k3_a W Q QP s h (F25.k2 W Q QP))
def F25.t4 (Q : Post) (s : St) (h : AH) (C0 : KT) : Prop :=
  aIf (s.tm 8) (
  Q .ret s h) (
  C0 s h)
def F25.k4 (W : Nat → Prop) (Q : Post) (QP : PPost) (s : St) (h : AH) : Prop := F25.t4 Q s h (F25.k3 W Q QP)
theorem F25.k4_a (C0 : KT) : aIf (aev s (.tmp 8)) (aw Try.prog 47 W F25.pl (Code.at F25.code [0, 1, 0]) (thenQ (C0) (Q)) QP s h) (aw Try.prog 47 W F25.pl (Code.at F25.code [0, 1, 1]) (thenQ (C0) (Q)) QP s h) = F25.t4 Q s h C0 := by kernel_rfl
theorem F25.k4_ok : aw Try.prog 47 W F25.pl (Code.at F25.code [0, 1]) (thenQ (F25.k3 W Q QP) (Q)) QP s h = F25.k4 W Q QP s h := nd_cond (a := (Code.at F25.code [0, 1, 0])) (b := (Code.at F25.code [0, 1, 1])) (by kernel_rfl) rfl rfl (F25.k4_a W Q QP s h (F25.k3 W Q QP))
def F25.t5 (s : St) (h : AH) (C0 C1 : KT) : Prop :=
  pNil (s.tm 0) fun t39 =>
  pFld (some 3) t39 fun t40 =>
  lLd (some false) (some 1) t40 h fun t41 _ =>
  pBin Try.prog .neq 3 true t41 (.sc (.int .i64 0)) fun t43 =>
  C1 ⟨puts s.tm [(4, (s.tm 0)), (5, t39), (6, t40), (7, t41), (8, t43)], s.ds⟩ h
def F25.k5 (W : Nat → Prop) (Q : Post) (QP : PPost) (s : St) (h : AH) : Prop := F25.t5 s h (F25.k3 W Q QP) (F25.k4 W Q QP)
theorem F25.k5_a (C0 C1 : KT) : aw Try.prog 47 W F25.pl (Code.at F25.code [0, 0]) (thenQ (C1) (thenQ (C0) (Q))) QP s h = F25.t5 s h C0 C1 := by kernel_rfl
theorem F25.k5_ok : aw Try.prog 47 W F25.pl (Code.at F25.code [0]) (thenQ (F25.k3 W Q QP) (Q)) QP s h = F25.k5 W Q QP s h := nd_seq (a := (Code.at F25.code [0, 0])) (b := (Code.at F25.code [0, 1])) (by kernel_rfl) (F25.k4_ok W Q QP) (F25.k5_a W Q QP s h (F25.k3 W Q QP) (F25.k4 W Q QP))
theorem F25.o1 : aw Try.prog 47 W F25.pl (Code.at F25.code []) (Q) QP s h = F25.k5 W Q QP s h := nd_seq (a := (Code.at F25.code [0])) (b := (Code.at F25.code [1])) (by kernel_rfl) (F25.k3_ok W Q QP) (F25.k5_ok W Q QP s h)
end
theorem F25.calls {x0 x1 : AV} {h : AH} {M : Nat → Prop} {R : AE → AH → Prop} (hp : F25.k5 (fun id => M id ∨ h.next ≤ id) (bodyQ Try.prog [] R) (bodyP R) (s0 [x0, x1]) h) : ACalls Try.prog 25 [x0, x1] h M R :=
  acalls_of Try.mixed Try.func25 rfl (Nat.le_of_ble_eq_true rfl) F25.ok (by rw [show Try.f25.ntmps = 47 from rfl, show Try.f25.results.toList = [] from rfl]; exact Eq.mpr (F25.o1 _ _ _ _ _) hp)
attribute [simp] F25.k1 F25.t1 F25.k2 F25.t2 F25.k3 F25.t3 F25.k4 F25.t4 F25.k5 F25.t5

/-! cubit/cubitref10.Own -/
section
variable (W : Nat → Prop) (Q : Post) (QP : PPost) (s : St) (h : AH)
noncomputable def F26.code : Code := Try.f26.body.getD .skip
def F26.pl : Plans := []
theorem F26.ok : okCode F26.pl F26.code = true := by kernel_rfl
def F26.t1 (Q : Post) (s : St) (h : AH) : Prop :=
  Q .ret ⟨puts s.tm [(2, (.sc (.bool false)))], s.ds⟩ h
def F26.k1 (W : Nat → Prop) (Q : Post) (QP : PPost) (s : St) (h : AH) : Prop := F26.t1 Q s h
theorem F26.k1_a : aw Try.prog 12 W F26.pl (Code.at F26.code [1, 1, 0]) (thenQ (aw Try.prog 12 W F26.pl (Code.at F26.code [1, 1, 1]) (Q) QP) (Q)) QP s h = F26.t1 Q s h := by kernel_rfl
theorem F26.k1_ok : aw Try.prog 12 W F26.pl (Code.at F26.code [1, 1]) (Q) QP s h = F26.k1 W Q QP s h := nd_seq (a := (Code.at F26.code [1, 1, 0])) (b := (Code.at F26.code [1, 1, 1])) (by kernel_rfl) (fun _ _ => rfl) (F26.k1_a W Q QP s h)
def F26.t2 (Q : Post) (s : St) (h : AH) (C0 : KT) : Prop :=
  Q .ret ⟨puts s.tm [(2, (.sc (.bool true)))], s.ds⟩ h
def F26.k2 (W : Nat → Prop) (Q : Post) (QP : PPost) (s : St) (h : AH) : Prop := F26.t2 Q s h (F26.k1 W Q QP)
theorem F26.k2_a (C0 : KT) : aw Try.prog 12 W F26.pl (Code.at F26.code [1, 0, 1, 0, 1, 0, 0]) (thenQ (aw Try.prog 12 W F26.pl (Code.at F26.code [1, 0, 1, 0, 1, 0, 1]) (blockQ 0 (thenQ (C0) (Q))) QP) (blockQ 0 (thenQ (C0) (Q)))) QP s h = F26.t2 Q s h C0 := by kernel_rfl
theorem F26.k2_ok : aw Try.prog 12 W F26.pl (Code.at F26.code [1, 0, 1, 0, 1, 0]) (blockQ 0 (thenQ (F26.k1 W Q QP) (Q))) QP s h = F26.k2 W Q QP s h := nd_seq (a := (Code.at F26.code [1, 0, 1, 0, 1, 0, 0])) (b := (Code.at F26.code [1, 0, 1, 0, 1, 0, 1])) (by kernel_rfl) (fun _ _ => rfl) (F26.k2_a W Q QP s h (F26.k1 W Q QP))
def F26.t3 (s : St) (h : AH) (C0 C1 : KT) : Prop :=
  aIf (s.tm 4) (
  C1 s h) (
  C0 s h)
def F26.k3 (W : Nat → Prop) (Q : Post) (QP : PPost) (s : St) (h : AH) : Prop := F26.t3 s h (F26.k1 W Q QP) (F26.k2 W Q QP)
theorem F26.k3_a (C0 C1 : KT) : aIf (aev s (.tmp 4)) (C1 s h) (aw Try.prog 12 W F26.pl (Code.at F26.code [1, 0, 1, 0, 1, 1]) (blockQ 0 (thenQ (C0) (Q))) QP s h) = F26.t3 s h C0 C1 := by kernel_rfl
theorem F26.k3_ok : aw Try.prog 12 W F26.pl (Code.at F26.code [1, 0, 1, 0, 1]) (blockQ 0 (thenQ (F26.k1 W Q QP) (Q))) QP s h = F26.k3 W Q QP s h := nd_cond (a := (Code.at F26.code [1, 0, 1, 0, 1, 0])) (b := (Code.at F26.code [1, 0, 1, 0, 1, 1])) (by kernel_rfl) (F26.k2_ok W Q QP s h) rfl (F26.k3_a W Q QP s h (F26.k1 W Q QP) (F26.k2 W Q QP))
def F26.t4 (s : St) (h : AH) (C0 C1 : KT) : Prop :=
  aIf (s.tm 4) (
  C1 s h) (
  pBin Try.prog .eql 9 true (s.tm 3) (.sc (.string ⟨#[114, 101, 115, 101, 116]⟩)) fun t1 =>
  C1 ⟨puts s.tm [(11, t1), (4, t1)], s.ds⟩ h)
def F26.k4 (W : Nat → Prop) (Q : Post) (QP : PPost) (s : St) (h : AH) : Prop := F26.t4 s h (F26.k1 W Q QP) (F26.k3 W Q QP)
theorem F26.k4_a (C0 C1 : KT) : aIf (aev s (.tmp 4)) (aw Try.prog 12 W F26.pl (Code.at F26.code [1, 0, 1, 0, 0, 1, 1, 1, 1, 1, 1, 1, 1, 1, 1, 1, 0]) (thenQ (C1) (blockQ 0 (thenQ (C0) (Q)))) QP s h) (aw Try.prog 12 W F26.pl (Code.at F26.code [1, 0, 1, 0, 0, 1, 1, 1, 1, 1, 1, 1, 1, 1, 1, 1, 1]) (thenQ (C1) (blockQ 0 (thenQ (C0) (Q)))) QP s h) = F26.t4 s h C0 C1 := by kernel_rfl
theorem F26.k4_ok : aw Try.prog 12 W F26.pl (Code.at F26.code [1, 0, 1, 0, 0, 1, 1, 1, 1, 1, 1, 1, 1, 1, 1, 1]) (thenQ (F26.k3 W Q QP) (blockQ 0 (thenQ (F26.k1 W Q QP) (Q)))) QP s h = F26.k4 W Q QP s h := nd_cond (a := (Code.at F26.code [1, 0, 1, 0, 0, 1, 1, 1, 1, 1, 1, 1, 1, 1, 1, 1, 0])) (b := (Code.at F26.code [1, 0, 1, 0, 0, 1, 1, 1, 1, 1, 1, 1, 1, 1, 1, 1, 1])) (by kernel_rfl) rfl rfl (F26.k4_a W Q QP s h (F26.k1 W Q QP) (F26.k3 W Q QP))
def F26.t5 (s : St) (h : AH) (C0 C1 C2 : KT) : Prop :=
  pBin Try.prog .eql 9 true (s.tm 3) (.sc (.string ⟨#[109, 101, 97, 115, 117, 114, 101]⟩)) fun t2 =>
  C2 ⟨puts s.tm [(10, t2), (4, t2)], s.ds⟩ h
def F26.k5 (W : Nat → Prop) (Q : Post) (QP : PPost) (s : St) (h : AH) : Prop := F26.t5 s h (F26.k1 W Q QP) (F26.k3 W Q QP) (F26.k4 W Q QP)
theorem F26.k5_a (C0 C1 C2 : KT) : aw Try.prog 12 W F26.pl (Code.at F26.code [1, 0, 1, 0, 0, 1, 1, 1, 1, 1, 1, 1, 1, 1, 1, 0]) (thenQ (C2) (thenQ (C1) (blockQ 0 (thenQ (C0) (Q))))) QP s h = F26.t5 s h C0 C1 C2 := by kernel_rfl
theorem F26.k5_ok : aw Try.prog 12 W F26.pl (Code.at F26.code [1, 0, 1, 0, 0, 1, 1, 1, 1, 1, 1, 1, 1, 1, 1]) (thenQ (F26.k3 W Q QP) (blockQ 0 (thenQ (F26.k1 W Q QP) (Q)))) QP s h = F26.k5 W Q QP s h := nd_seq (a := (Code.at F26.code [1, 0, 1, 0, 0, 1, 1, 1, 1, 1, 1, 1, 1, 1, 1, 0])) (b := (Code.at F26.code [1, 0, 1, 0, 0, 1, 1, 1, 1, 1, 1, 1, 1, 1, 1, 1])) (by kernel_rfl) (F26.k4_ok W Q QP) (F26.k5_a W Q QP s h (F26.k1 W Q QP) (F26.k3 W Q QP) (F26.k4 W Q QP))
def F26.t6 (s : St) (h : AH) (C0 C1 C2 : KT) : Prop :=
  aIf (s.tm 4) (
  C1 s h) (
  C2 s h)
def F26.k6 (W : Nat → Prop) (Q : Post) (QP : PPost) (s : St) (h : AH) : Prop := F26.t6 s h (F26.k1 W Q QP) (F26.k3 W Q QP) (F26.k5 W Q QP)
theorem F26.k6_a (C0 C1 C2 : KT) : aIf (aev s (.tmp 4)) (aw Try.prog 12 W F26.pl (Code.at F26.code [1, 0, 1, 0, 0, 1, 1, 1, 1, 1, 1, 1, 1, 1, 0]) (thenQ (C1) (blockQ 0 (thenQ (C0) (Q)))) QP s h) (C2 s h) = F26.t6 s h C0 C1 C2 := by kernel_rfl
theorem F26.k6_ok : aw Try.prog 12 W F26.pl (Code.at F26.code [1, 0, 1, 0, 0, 1, 1, 1, 1, 1, 1, 1, 1, 1]) (thenQ (F26.k3 W Q QP) (blockQ 0 (thenQ (F26.k1 W Q QP) (Q)))) QP s h = F26.k6 W Q QP s h := nd_cond (a := (Code.at F26.code [1, 0, 1, 0, 0, 1, 1, 1, 1, 1, 1, 1, 1, 1, 0])) (b := (Code.at F26.code [1, 0, 1, 0, 0, 1, 1, 1, 1, 1, 1, 1, 1, 1, 1])) (by kernel_rfl) rfl (F26.k5_ok W Q QP s h) (F26.k6_a W Q QP s h (F26.k1 W Q QP) (F26.k3 W Q QP) (F26.k5 W Q QP))
def F26.t7 (s : St) (h : AH) (C0 C1 C2 : KT) : Prop :=
  pBin Try.prog .eql 9 true (s.tm 3) (.sc (.string ⟨#[105, 102]⟩)) fun t3 =>
  C2 ⟨puts s.tm [(9, t3), (4, t3)], s.ds⟩ h
def F26.k7 (W : Nat → Prop) (Q : Post) (QP : PPost) (s : St) (h : AH) : Prop := F26.t7 s h (F26.k1 W Q QP) (F26.k3 W Q QP) (F26.k6 W Q QP)
theorem F26.k7_a (C0 C1 C2 : KT) : aw Try.prog 12 W F26.pl (Code.at F26.code [1, 0, 1, 0, 0, 1, 1, 1, 1, 1, 1, 1, 1, 0]) (thenQ (C2) (thenQ (C1) (blockQ 0 (thenQ (C0) (Q))))) QP s h = F26.t7 s h C0 C1 C2 := by kernel_rfl
theorem F26.k7_ok : aw Try.prog 12 W F26.pl (Code.at F26.code [1, 0, 1, 0, 0, 1, 1, 1, 1, 1, 1, 1, 1]) (thenQ (F26.k3 W Q QP) (blockQ 0 (thenQ (F26.k1 W Q QP) (Q)))) QP s h = F26.k7 W Q QP s h := nd_seq (a := (Code.at F26.code [1, 0, 1, 0, 0, 1, 1, 1, 1, 1, 1, 1, 1, 0])) (b := (Code.at F26.code [1, 0, 1, 0, 0, 1, 1, 1, 1, 1, 1, 1, 1, 1])) (by kernel_rfl) (F26.k6_ok W Q QP) (F26.k7_a W Q QP s h (F26.k1 W Q QP) (F26.k3 W Q QP) (F26.k6 W Q QP))
def F26.t8 (s : St) (h : AH) (C0 C1 C2 : KT) : Prop :=
  aIf (s.tm 4) (
  C1 s h) (
  C2 s h)
def F26.k8 (W : Nat → Prop) (Q : Post) (QP : PPost) (s : St) (h : AH) : Prop := F26.t8 s h (F26.k1 W Q QP) (F26.k3 W Q QP) (F26.k7 W Q QP)
theorem F26.k8_a (C0 C1 C2 : KT) : aIf (aev s (.tmp 4)) (aw Try.prog 12 W F26.pl (Code.at F26.code [1, 0, 1, 0, 0, 1, 1, 1, 1, 1, 1, 1, 0]) (thenQ (C1) (blockQ 0 (thenQ (C0) (Q)))) QP s h) (C2 s h) = F26.t8 s h C0 C1 C2 := by kernel_rfl
theorem F26.k8_ok : aw Try.prog 12 W F26.pl (Code.at F26.code [1, 0, 1, 0, 0, 1, 1, 1, 1, 1, 1, 1]) (thenQ (F26.k3 W Q QP) (blockQ 0 (thenQ (F26.k1 W Q QP) (Q)))) QP s h = F26.k8 W Q QP s h := nd_cond (a := (Code.at F26.code [1, 0, 1, 0, 0, 1, 1, 1, 1, 1, 1, 1, 0])) (b := (Code.at F26.code [1, 0, 1, 0, 0, 1, 1, 1, 1, 1, 1, 1, 1])) (by kernel_rfl) rfl (F26.k7_ok W Q QP s h) (F26.k8_a W Q QP s h (F26.k1 W Q QP) (F26.k3 W Q QP) (F26.k7 W Q QP))
def F26.t9 (s : St) (h : AH) (C0 C1 C2 : KT) : Prop :=
  pBin Try.prog .eql 9 true (s.tm 3) (.sc (.string ⟨#[114, 101, 112, 101, 97, 116]⟩)) fun t4 =>
  C2 ⟨puts s.tm [(8, t4), (4, t4)], s.ds⟩ h
def F26.k9 (W : Nat → Prop) (Q : Post) (QP : PPost) (s : St) (h : AH) : Prop := F26.t9 s h (F26.k1 W Q QP) (F26.k3 W Q QP) (F26.k8 W Q QP)
theorem F26.k9_a (C0 C1 C2 : KT) : aw Try.prog 12 W F26.pl (Code.at F26.code [1, 0, 1, 0, 0, 1, 1, 1, 1, 1, 1, 0]) (thenQ (C2) (thenQ (C1) (blockQ 0 (thenQ (C0) (Q))))) QP s h = F26.t9 s h C0 C1 C2 := by kernel_rfl
theorem F26.k9_ok : aw Try.prog 12 W F26.pl (Code.at F26.code [1, 0, 1, 0, 0, 1, 1, 1, 1, 1, 1]) (thenQ (F26.k3 W Q QP) (blockQ 0 (thenQ (F26.k1 W Q QP) (Q)))) QP s h = F26.k9 W Q QP s h := nd_seq (a := (Code.at F26.code [1, 0, 1, 0, 0, 1, 1, 1, 1, 1, 1, 0])) (b := (Code.at F26.code [1, 0, 1, 0, 0, 1, 1, 1, 1, 1, 1, 1])) (by kernel_rfl) (F26.k8_ok W Q QP) (F26.k9_a W Q QP s h (F26.k1 W Q QP) (F26.k3 W Q QP) (F26.k8 W Q QP))
def F26.t10 (s : St) (h : AH) (C0 C1 C2 : KT) : Prop :=
  aIf (s.tm 4) (
  C1 s h) (
  C2 s h)
def F26.k10 (W : Nat → Prop) (Q : Post) (QP : PPost) (s : St) (h : AH) : Prop := F26.t10 s h (F26.k1 W Q QP) (F26.k3 W Q QP) (F26.k9 W Q QP)
theorem F26.k10_a (C0 C1 C2 : KT) : aIf (aev s (.tmp 4)) (aw Try.prog 12 W F26.pl (Code.at F26.code [1, 0, 1, 0, 0, 1, 1, 1, 1, 1, 0]) (thenQ (C1) (blockQ 0 (thenQ (C0) (Q)))) QP s h) (C2 s h) = F26.t10 s h C0 C1 C2 := by kernel_rfl
theorem F26.k10_ok : aw Try.prog 12 W F26.pl (Code.at F26.code [1, 0, 1, 0, 0, 1, 1, 1, 1, 1]) (thenQ (F26.k3 W Q QP) (blockQ 0 (thenQ (F26.k1 W Q QP) (Q)))) QP s h = F26.k10 W Q QP s h := nd_cond (a := (Code.at F26.code [1, 0, 1, 0, 0, 1, 1, 1, 1, 1, 0])) (b := (Code.at F26.code [1, 0, 1, 0, 0, 1, 1, 1, 1, 1, 1])) (by kernel_rfl) rfl (F26.k9_ok W Q QP s h) (F26.k10_a W Q QP s h (F26.k1 W Q QP) (F26.k3 W Q QP) (F26.k9 W Q QP))
def F26.t11 (s : St) (h : AH) (C0 C1 C2 : KT) : Prop :=
  pBin Try.prog .eql 9 true (s.tm 3) (.sc (.string ⟨#[103, 97, 116, 101]⟩)) fun t5 =>
  C1 ⟨puts s.tm [(7, t5), (4, t5)], s.ds⟩ h
def F26.k11 (W : Nat → Prop) (Q : Post) (QP : PPost) (s : St) (h : AH) : Prop := F26.t11 s h (F26.k1 W Q QP) (F26.k10 W Q QP) (F26.k3 W Q QP)
theorem F26.k11_a (C0 C1 C2 : KT) : aw Try.prog 12 W F26.pl (Code.at F26.code [1, 0, 1, 0, 0, 1, 1, 1, 1, 0]) (thenQ (C1) (thenQ (C2) (blockQ 0 (thenQ (C0) (Q))))) QP s h = F26.t11 s h C0 C1 C2 := by kernel_rfl
theorem F26.k11_ok : aw Try.prog 12 W F26.pl (Code.at F26.code [1, 0, 1, 0, 0, 1, 1, 1, 1]) (thenQ (F26.k3 W Q QP) (blockQ 0 (thenQ (F26.k1 W Q QP) (Q)))) QP s h = F26.k11 W Q QP s h := nd_seq (a := (Code.at F26.code [1, 0, 1, 0, 0, 1, 1, 1, 1, 0])) (b := (Code.at F26.code [1, 0, 1, 0, 0, 1, 1, 1, 1, 1])) (by kernel_rfl) (F26.k10_ok W Q QP) (F26.k11_a W Q QP s h (F26.k1 W Q QP) (F26.k10 W Q QP) (F26.k3 W Q QP))
def F26.t12 (s : St) (h : AH) (C0 C1 C2 : KT) : Prop :=
  aIf (s.tm 4) (
  C2 s h) (
  C1 s h)
def F26.k12 (W : Nat → Prop) (Q : Post) (QP : PPost) (s : St) (h : AH) : Prop := F26.t12 s h (F26.k1 W Q QP) (F26.k11 W Q QP) (F26.k3 W Q QP)
theorem F26.k12_a (C0 C1 C2 : KT) : aIf (aev s (.tmp 4)) (aw Try.prog 12 W F26.pl (Code.at F26.code [1, 0, 1, 0, 0, 1, 1, 1, 0]) (thenQ (C2) (blockQ 0 (thenQ (C0) (Q)))) QP s h) (C1 s h) = F26.t12 s h C0 C1 C2 := by kernel_rfl
theorem F26.k12_ok : aw Try.prog 12 W F26.pl (Code.at F26.code [1, 0, 1, 0, 0, 1, 1, 1]) (thenQ (F26.k3 W Q QP) (blockQ 0 (thenQ (F26.k1 W Q QP) (Q)))) QP s h = F26.k12 W Q QP s h := nd_cond (a := (Code.at F26.code [1, 0, 1, 0, 0, 1, 1, 1, 0])) (b := (Code.at F26.code [1, 0, 1, 0, 0, 1, 1, 1, 1])) (by kernel_rfl) rfl (F26.k11_ok W Q QP s h) (F26.k12_a W Q QP s h (F26.k1 W Q QP) (F26.k11 W Q QP) (F26.k3 W Q QP))
def F26.t13 (s : St) (h : AH) (C0 C1 C2 : KT) : Prop :=
  pBin Try.prog .eql 9 true (s.tm 3) (.sc (.string ⟨#[98, 105, 116, 115]⟩)) fun t6 =>
  C1 ⟨puts s.tm [(6, t6), (4, t6)], s.ds⟩ h
def F26.k13 (W : Nat → Prop) (Q : Post) (QP : PPost) (s : St) (h : AH) : Prop := F26.t13 s h (F26.k1 W Q QP) (F26.k12 W Q QP) (F26.k3 W Q QP)
theorem F26.k13_a (C0 C1 C2 : KT) : aw Try.prog 12 W F26.pl (Code.at F26.code [1, 0, 1, 0, 0, 1, 1, 0]) (thenQ (C1) (thenQ (C2) (blockQ 0 (thenQ (C0) (Q))))) QP s h = F26.t13 s h C0 C1 C2 := by kernel_rfl
theorem F26.k13_ok : aw Try.prog 12 W F26.pl (Code.at F26.code [1, 0, 1, 0, 0, 1, 1]) (thenQ (F26.k3 W Q QP) (blockQ 0 (thenQ (F26.k1 W Q QP) (Q)))) QP s h = F26.k13 W Q QP s h := nd_seq (a := (Code.at F26.code [1, 0, 1, 0, 0, 1, 1, 0])) (b := (Code.at F26.code [1, 0, 1, 0, 0, 1, 1, 1])) (by kernel_rfl) (F26.k12_ok W Q QP) (F26.k13_a W Q QP s h (F26.k1 W Q QP) (F26.k12 W Q QP) (F26.k3 W Q QP))
def F26.t14 (s : St) (h : AH) (C0 C1 C2 : KT) : Prop :=
  aIf (s.tm 4) (
  C2 s h) (
  C1 s h)
def F26.k14 (W : Nat → Prop) (Q : Post) (QP : PPost) (s : St) (h : AH) : Prop := F26.t14 s h (F26.k1 W Q QP) (F26.k13 W Q QP) (F26.k3 W Q QP)
theorem F26.k14_a (C0 C1 C2 : KT) : aIf (aev s (.tmp 4)) (aw Try.prog 12 W F26.pl (Code.at F26.code [1, 0, 1, 0, 0, 1, 0]) (thenQ (C2) (blockQ 0 (thenQ (C0) (Q)))) QP s h) (C1 s h) = F26.t14 s h C0 C1 C2 := by kernel_rfl
theorem F26.k14_ok : aw Try.prog 12 W F26.pl (Code.at F26.code [1, 0, 1, 0, 0, 1]) (thenQ (F26.k3 W Q QP) (blockQ 0 (thenQ (F26.k1 W Q QP) (Q)))) QP s h = F26.k14 W Q QP s h := nd_cond (a := (Code.at F26.code [1, 0, 1, 0, 0, 1, 0])) (b := (Code.at F26.code [1, 0, 1, 0, 0, 1, 1])) (by kernel_rfl) rfl (F26.k13_ok W Q QP s h) (F26.k14_a W Q QP s h (F26.k1 W Q QP) (F26.k13 W Q QP) (F26.k3 W Q QP))
def F26.t15 (s : St) (h : AH) (C0 C1 C2 : KT) : Prop :=
  pBin Try.prog .eql 9 true (s.tm 3) (.sc (.string ⟨#[113, 117, 98, 105, 116, 115]⟩)) fun t7 =>
  C1 ⟨puts s.tm [(5, t7), (4, t7)], s.ds⟩ h
def F26.k15 (W : Nat → Prop) (Q : Post) (QP : PPost) (s : St) (h : AH) : Prop := F26.t15 s h (F26.k1 W Q QP) (F26.k14 W Q QP) (F26.k3 W Q QP)
theorem F26.k15_a (C0 C1 C2 : KT) : aw Try.prog 12 W F26.pl (Code.at F26.code [1, 0, 1, 0, 0, 0]) (thenQ (C1) (thenQ (C2) (blockQ 0 (thenQ (C0) (Q))))) QP s h = F26.t15 s h C0 C1 C2 := by kernel_rfl
theorem F26.k15_ok : aw Try.prog 12 W F26.pl (Code.at F26.code [1, 0, 1, 0, 0]) (thenQ (F26.k3 W Q QP) (blockQ 0 (thenQ (F26.k1 W Q QP) (Q)))) QP s h = F26.k15 W Q QP s h := nd_seq (a := (Code.at F26.code [1, 0, 1, 0, 0, 0])) (b := (Code.at F26.code [1, 0, 1, 0, 0, 1])) (by kernel_rfl) (F26.k14_ok W Q QP) (F26.k15_a W Q QP s h (F26.k1 W Q QP) (F26.k14 W Q QP) (F26.k3 W Q QP))
theorem F26.o1 : aw Try.prog 12 W F26.pl (Code.at F26.code [1, 0, 1, 0]) (blockQ 0 (thenQ (F26.k1 W Q QP) (Q))) QP s h = F26.k15 W Q QP s h := nd_seq (a := (Code.at F26.code [1, 0, 1, 0, 0])) (b := (Code.at F26.code [1, 0, 1, 0, 1])) (by kernel_rfl) (F26.k3_ok W Q QP) (F26.k15_ok W Q QP s h)
theorem F26.o2 : aw Try.prog 12 W F26.pl (Code.at F26.code [1, 0, 1]) (thenQ (F26.k1 W Q QP) (Q)) QP s h = F26.k15 W Q QP s h := nd_block (a := (Code.at F26.code [1, 0, 1, 0])) (by kernel_rfl) (F26.o1 W Q QP s h)
def F26.t16 (s : St) (h : AH) (C0 C1 : KT) : Prop :=
  C1 ⟨puts s.tm [(3, (s.tm 0))], s.ds⟩ h
def F26.k16 (W : Nat → Prop) (Q : Post) (QP : PPost) (s : St) (h : AH) : Prop := F26.t16 s h (F26.k1 W Q QP) (F26.k15 W Q QP)
theorem F26.k16_a (C0 C1 : KT) : aw Try.prog 12 W F26.pl (Code.at F26.code [1, 0, 0]) (thenQ (C1) (thenQ (C0) (Q))) QP s h = F26.t16 s h C0 C1 := by kernel_rfl
theorem F26.k16_ok : aw Try.prog 12 W F26.pl (Code.at F26.code [1, 0]) (thenQ (F26.k1 W Q QP) (Q)) QP s h = F26.k16 W Q QP s h := nd_seq (a := (Code.at F26.code [1, 0, 0])) (b := (Code.at F26.code [1, 0, 1])) (by kernel_rfl) (F26.o2 W Q QP) (F26.k16_a W Q QP s h (F26.k1 W Q QP) (F26.k15 W Q QP))
theorem F26.o3 : aw Try.prog 12 W F26.pl (Code.at F26.code [1]) (Q) QP s h = F26.k16 W Q QP s h := nd_seq (a := (Code.at F26.code [1, 0])) (b := (Code.at F26.code [1, 1])) (by kernel_rfl) (F26.k1_ok W Q QP) (F26.k16_ok W Q QP s h)
def F26.t17 (s : St) (h : AH) (C0 : KT) : Prop :=
  C0 ⟨puts s.tm [(2, (.sc (.bool false)))], s.ds⟩ h
def F26.k17 (W : Nat → Prop) (Q : Post) (QP : PPost) (s : St) (h : AH) : Prop := F26.t17 s h (F26.k16 W Q QP)
theorem F26.k17_a (C0 : KT) : aw Try.prog 12 W F26.pl (Code.at F26.code [0]) (thenQ (C0) (Q)) QP s h = F26.t17 s h C0 := by kernel_rfl
theorem F26.k17_ok : aw Try.prog 12 W F26.pl (Code.at F26.code []) (Q) QP s h = F26.k17 W Q QP s h := nd_seq (a := (Code.at F26.code [0])) (b := (Code.at F26.code [1])) (by kernel_rfl) (F26.o3 W Q QP) (F26.k17_a W Q QP s h (F26.k16 W Q QP))
end
theorem F26.calls {x0 : AV} {h : AH} {M : Nat → Prop} {R : AE → AH → Prop} (hp : F26.k17 (fun id => M id ∨ h.next ≤ id) (bodyQ Try.prog [.tmp 2] R) (bodyP R) (s0 [x0]) h) : ACalls Try.prog 26 [x0] h M R :=
  acalls_of Try.mixed Try.func26 rfl (Nat.le_of_ble_eq_true rfl) F26.ok (by rw [show Try.f26.ntmps = 12 from rfl, show Try.f26.results.toList = [.tmp 2] from rfl]; exact Eq.mpr (F26.k17_ok _ _ _ _ _) hp)
attribute [simp] F26.k1 F26.t1 F26.k2 F26.t2 F26.k3 F26.t3 F26.k4 F26.t4 F26.k5 F26.t5 F26.k6 F26.t6 F26.k7 F26.t7 F26.k8 F26.t8 F26.k9 F26.t9 F26.k10 F26.t10 F26.k11 F26.t11 F26.k12 F26.t12 F26.k13 F26.t13 F26.k14 F26.t14 F26.k15 F26.t15 F26.k16 F26.t16 F26.k17 F26.t17

/-! (*cubit/cubitref10.reader).name -/
section
variable (W : Nat → Prop) (Q : Post) (QP : PPost) (s : St) (h : AH)
noncomputable def F27.code : Code := Try.f27.body.getD .skip
def F27.pl : Plans := [(5, ⟨[(none, [(0, false), (1, false), (2, false), (3, false), (4, false), (5, false), (6, false), (7, false), (8, false), (9, false), (10, false), (11, false), (12, false)])], false, []⟩)]
theorem F27.ok : okCode F27.pl F27.code = true := by kernel_rfl
def F27.t1 (Q : Post) (s : St) (h : AH) : Prop :=
  pNil (s.tm 0) fun t1 =>
  pFld (some 0) t1 fun t2 =>
  lLd (some false) (some 1) t2 h fun t3 _ =>
  pNil (s.tm 0) fun t5 =>
  pFld (some 1) t5 fun t6 =>
  lLd (some false) (some 1) t6 h fun t7 _ =>
  pBin Try.prog .sub 3 true t7 (.sc (.int .i64 1)) fun t9 =>
  pIxA (some (3, none)) t3 t9 fun t10 =>
  pFld (some 1) t10 fun t11 =>
  lLd (some false) (some 1) t11 h fun t12 _ =>
  Q .ret ⟨puts s.tm [(15, (s.tm 0)), (16, t1), (17, t2), (18, t3), (19, (s.tm 0)), (20, t5), (21, t6), (22, t7), (23, t9), (24, t10), (25, t11), (26, t12), (2, t12)], s.ds⟩ h
def F27.k1 (W : Nat → Prop) (Q : Post) (QP : PPost) (s : St) (h : AH) : Prop := F27.t1 Q s h
theorem F27.k1_a : aw Try.prog 27 W F27.pl (Code.at F27.code [1, 1, 1, 0]) (thenQ (aw Try.prog 27 W F27.pl (Code.at F27.code [1, 1, 1, 1]) (Q) QP) (Q)) QP s h = F27.t1 Q s h := by kernel_rfl
theorem F27.k1_ok : aw Try.prog 27 W F27.pl (Code.at F27.code [1, 1, 1]) (Q) QP s h = F27.k1 W Q QP s h := nd_seq (a := (Code.at F27.code [1, 1, 1, 0])) (b := (Code.at F27.code [1, 1, 1, 1])) (by kernel_rfl) (fun _ _ => rfl) (F27.k1_a W Q QP s h)
def F27.t2 (W : Nat → Prop) (s : St) (h : AH) (C0 : KT) : Prop :=
  pNil (s.tm 0) fun t14 =>
  pFld (some 1) t14 fun t15 =>
  lLd (some false) (some 1) t15 h fun t16 _ =>
  pBin Try.prog .add 3 true t16 (.sc (.int .i64 1)) fun t18 =>
  pNil (s.tm 0) fun t19 =>
  pFld (some 1) t19 fun t20 =>
  eStore (some 1) t20 t18 h W fun h21 =>
  C0 ⟨puts s.tm [(8, (s.tm 0)), (9, t14), (10, t15), (11, t16), (12, t18), (13, t19), (14, t20)], s.ds⟩ h21
def F27.k2 (W : Nat → Prop) (Q : Post) (QP : PPost) (s : St) (h : AH) : Prop := F27.t2 W s h (F27.k1 W Q QP)
theorem F27.k2_a (C0 : KT) : aw Try.prog 27 W F27.pl (Code.at F27.code [1, 1, 0]) (thenQ (C0) (Q)) QP s h = F27.t2 W s h C0 := by kernel_rfl
theorem F27.k2_ok : aw Try.prog 27 W F27.pl (Code.at F27.code [1, 1]) (Q) QP s h = F27.k2 W Q QP s h := nd_seq (a := (Code.at F27.code [1, 1, 0])) (b := (Code.at F27.code [1, 1, 1])) (by kernel_rfl) (F27.k1_ok W Q QP) (F27.k2_a W Q QP s h (F27.k1 W Q QP))
def F27.t3 (Q : Post) (s : St) (h : AH) (C0 : KT) : Prop :=
  Q .ret ⟨puts s.tm [(2, (.sc (.string ⟨#[]⟩)))], s.ds⟩ h
def F27.k3 (W : Nat → Prop) (Q : Post) (QP : PPost) (s : St) (h : AH) : Prop := F27.t3 Q s h (F27.k2 W Q QP)
theorem F27.k3_a (C0 : KT) : aw Try.prog 27 W F27.pl (Code.at F27.code [1, 0, 1, 0, 1, 0]) (thenQ (aw Try.prog 27 W F27.pl (Code.at F27.code [1, 0, 1, 0, 1, 1]) (thenQ (C0) (Q)) QP) (thenQ (C0) (Q))) QP s h = F27.t3 Q s h C0 := by kernel_rfl
theorem F27.k3_ok : aw Try.prog 27 W F27.pl (Code.at F27.code [1, 0, 1, 0, 1]) (thenQ (F27.k2 W Q QP) (Q)) QP s h = F27.k3 W Q QP s h := nd_seq (a := (Code.at F27.code [1, 0, 1, 0, 1, 0])) (b := (Code.at F27.code [1, 0, 1, 0, 1, 1])) (by kernel_rfl) (fun _ _ => rfl) (F27.k3_a W Q QP s h (F27.k2 W Q QP))
def F27.t4 (W : Nat → Prop) (QP : PPost) (s : St) (h : AH) (C0 C1 : KT) : Prop :=
  aCall Try.prog W 25 [(s.tm 0), (.sc (.int .i64 100))] h (fun t22 h23 =>
  C1 ⟨puts s.tm [(6, (s.tm 0)), (7, t22)], s.ds⟩ h23) (QP s.ds)
def F27.k4 (W : Nat → Prop) (Q : Post) (QP : PPost) (s : St) (h : AH) : Prop := F27.t4 W QP s h (F27.k2 W Q QP) (F27.k3 W Q QP)
theorem F27.k4_a (C0 C1 : KT) : aw Try.prog 27 W F27.pl (Code.at F27.code [1, 0, 1, 0, 0]) (thenQ (C1) (thenQ (C0) (Q))) QP s h = F27.t4 W QP s h C0 C1 := by kernel_rfl
theorem F27.k4_ok : aw Try.prog 27 W F27.pl (Code.at F27.code [1, 0, 1, 0]) (thenQ (F27.k2 W Q QP) (Q)) QP s h = F27.k4 W Q QP s h := nd_seq (a := (Code.at F27.code [1, 0, 1, 0, 0])) (b := (Code.at F27.code [1, 0, 1, 0, 1])) (by kernel_rfl) (F27.k3_ok W Q QP) (F27.k4_a W Q QP s h (F27.k2 W Q QP) (F27.k3 W Q QP))
def F27.t5 (s : St) (h : AH) (C0 C1 : KT) : Prop :=
  aIf (s.tm 5) (
  C1 s h) (
  C0 s h)
def F27.k5 (W : Nat → Prop) (Q : Post) (QP : PPost) (s : St) (h : AH) : Prop := F27.t5 s h (F27.k2 W Q QP) (F27.k4 W Q QP)
theorem F27.k5_a (C0 C1 : KT) : aIf (aev s (.tmp 5)) (C1 s h) (aw Try.prog 27 W F27.pl (Code.at F27.code [1, 0, 1, 1]) (thenQ (C0) (Q)) QP s h) = F27.t5 s h C0 C1 := by kernel_rfl
theorem F27.k5_ok : aw Try.prog 27 W F27.pl (Code.at F27.code [1, 0, 1]) (thenQ (F27.k2 W Q QP) (Q)) QP s h = F27.k5 W Q QP s h := nd_cond (a := (Code.at F27.code [1, 0, 1, 0])) (b := (Code.at F27.code [1, 0, 1, 1])) (by kernel_rfl) (F27.k4_ok W Q QP s h) rfl (F27.k5_a W Q QP s h (F27.k2 W Q QP) (F27.k4 W Q QP))
def F27.t6 (W : Nat → Prop) (QP : PPost) (s : St) (h : AH) (C0 C1 : KT) : Prop :=
  aCall Try.prog W 30 [(s.tm 0)] h (fun t24 h25 =>
  pUn .not t24 fun t26 =>
  C1 ⟨puts s.tm [(3, (s.tm 0)), (4, t24), (5, t26)], s.ds⟩ h25) (QP s.ds)
def F27.k6 (W : Nat → Prop) (Q : Post) (QP : PPost) (s : St) (h : AH) : Prop := F27.t6 W QP s h (F27.k2 W Q QP) (F27.k5 W Q QP)
theorem F27.k6_a (C0 C1 : KT) : aw Try.prog 27 W F27.pl (Code.at F27.code [1, 0, 0]) (thenQ (C1) (thenQ (C0) (Q))) QP s h = F27.t6 W QP s h C0 C1 := by kernel_rfl
theorem F27.k6_ok : aw Try.prog 27 W F27.pl (Code.at F27.code [1, 0]) (thenQ (F27.k2 W Q QP) (Q)) QP s h = F27.k6 W Q QP s h := nd_seq (a := (Code.at F27.code [1, 0, 0])) (b := (Code.at F27.code [1, 0, 1])) (by kernel_rfl) (F27.k5_ok W Q QP) (F27.k6_a W Q QP s h (F27.k2 W Q QP) (F27.k5 W Q QP))
theorem F27.o1 : aw Try.prog 27 W F27.pl (Code.at F27.code [1]) (Q) QP s h = F27.k6 W Q QP s h := nd_seq (a := (Code.at F27.code [1, 0])) (b := (Code.at F27.code [1, 1])) (by kernel_rfl) (F27.k2_ok W Q QP) (F27.k6_ok W Q QP s h)
def F27.t7 (s : St) (h : AH) (C0 : KT) : Prop :=
  C0 ⟨puts s.tm [(2, (.sc (.string ⟨#[]⟩)))], s.ds⟩ h
def F27.k7 (W : Nat → Prop) (Q : Post) (QP : PPost) (s : St) (h : AH) : Prop := F27.t7 s h (F27.k6 W Q QP)
theorem F27.k7_a (C0 : KT) : aw Try.prog 27 W F27.pl (Code.at F27.code [0]) (thenQ (C0) (Q)) QP s h = F27.t7 s h C0 := by kernel_rfl
theorem F27.k7_ok : aw Try.prog 27 W F27.pl (Code.at F27.code []) (Q) QP s h = F27.k7 W Q QP s h := nd_seq (a := (Code.at F27.code [0])) (b := (Code.at F27.code [1])) (by kernel_rfl) (F27.o1 W Q QP) (F27.k7_a W Q QP s h (F27.k6 W Q QP))
end
theorem F27.calls {x0 : AV} {h : AH} {M : Nat → Prop} {R : AE → AH → Prop} (hp : F27.k7 (fun id => M id ∨ h.next ≤ id) (bodyQ Try.prog [.tmp 2] R) (bodyP R) (s0 [x0]) h) : ACalls Try.prog 27 [x0] h M R :=
  acalls_of Try.mixed Try.func27 rfl (Nat.le_of_ble_eq_true rfl) F27.ok (by rw [show Try.f27.ntmps = 27 from rfl, show Try.f27.results.toList = [.tmp 2] from rfl]; exact Eq.mpr (F27.k7_ok _ _ _ _ _) hp)
attribute [simp] F27.k1 F27.t1 F27.k2 F27.t2 F27.k3 F27.t3 F27.k4 F27.t4 F27.k5 F27.t5 F27.k6 F27.t6 F27.k7 F27.t7

/-! (*cubit/cubitref10.reader).number -/
section
variable (W : Nat → Prop) (Q : Post) (QP : PPost) (s : St) (h : AH)
noncomputable def F28.code : Code := Try.f28.body.getD .skip
def F28.g1 : Grps := [(none, [(0, false), (1, false), (2, false), (3, false), (4, false), (5, false)]), (some (5, false), [(6, false), (7, false), (8, false), (9, false), (10, false), (11, false), (12, false), (13, false), (14, false), (15, false)]), (none, [(16, false), (17, false)]), (some (17, false), [(18, false), (19, false), (20, false), (21, false), (22, false), (23, false), (24, false), (25, false), (26, false), (27, false), (28, false), (29, false)]), (none, [(30, false)])]
def F28.pl : Plans := [(1, ⟨F28.g1, false, []⟩), (4, ⟨[(none, [(0, false), (1, false), (2, false), (3, false), (4, false), (5, false), (6, false), (7, false), (8, false), (9, false), (10, false), (11, false), (12, false)])], false, []⟩)]
theorem F28.ok : okCode F28.pl F28.code = true := by kernel_rfl
def F28.t1 (Q : Post) (s : St) (h : AH) : Prop :=
  Q .ret ⟨puts s.tm [(60, (s.tm 3)), (2, (s.tm 3))], s.ds⟩ h
def F28.k1 (W : Nat → Prop) (Q : Post) (QP : PPost) (s : St) (h : AH) : Prop := F28.t1 Q s h
theorem F28.k1_a : aw Try.prog 61 W F28.pl (Code.at F28.code [1, 1, 1, 1, 1, 0]) (thenQ (aw Try.prog 61 W F28.pl (Code.at F28.code [1, 1, 1, 1, 1, 1]) (Q) QP) (Q)) QP s h = F28.t1 Q s h := by kernel_rfl
theorem F28.k1_ok : aw Try.prog 61 W F28.pl (Code.at F28.code [1, 1, 1, 1, 1]) (Q) QP s h = F28.k1 W Q QP s h := nd_seq (a := (Code.at F28.code [1, 1, 1, 1, 1, 0])) (b := (Code.at F28.code [1, 1, 1, 1, 1, 1])) (by kernel_rfl) (fun _ _ => rfl) (F28.k1_a W Q QP s h)
def F28.t2 (W : Nat → Prop) (s : St) (h : AH) (C0 : KT) : Prop :=
  pNil (s.tm 0) fun t1 =>
  pFld (some 1) t1 fun t2 =>
  lLd (some false) (some 1) t2 h fun t3 _ =>
  pBin Try.prog .add 3 true t3 (.sc (.int .i64 1)) fun t5 =>
  pNil (s.tm 0) fun t6 =>
  pFld (some 1) t6 fun t7 =>
  eStore (some 1) t7 t5 h W fun h8 =>
  C0 ⟨puts s.tm [(53, (s.tm 0)), (54, t1), (55, t2), (56, t3), (57, t5), (58, t6), (59, t7)], s.ds⟩ h8
def F28.k2 (W : Nat → Prop) (Q : Post) (QP : PPost) (s : St) (h : AH) : Prop := F28.t2 W s h (F28.k1 W Q QP)
theorem F28.k2_a (C0 : KT) : aw Try.prog 61 W F28.pl (Code.at F28.code [1, 1, 1, 1, 0]) (thenQ (C0) (Q)) QP s h = F28.t2 W s h C0 := by kernel_rfl
theorem F28.k2_ok : aw Try.prog 61 W F28.pl (Code.at F28.code [1, 1, 1, 1]) (Q) QP s h = F28.k2 W Q QP s h := nd_seq (a := (Code.at F28.code [1, 1, 1, 1, 0])) (b := (Code.at F28.code [1, 1, 1, 1, 1])) (by kernel_rfl) (F28.k1_ok W Q QP) (F28.k2_a W Q QP s h (F28.k1 W Q QP))
def F28.t3 (Q : Post) (s : St) (h : AH) (C0 : KT) : Prop :=
  Q .ret ⟨puts s.tm [(2, (.sc (.int .i64 0)))], s.ds⟩ h
def F28.k3 (W : Nat → Prop) (Q : Post) (QP : PPost) (s : St) (h : AH) : Prop := F28.t3 Q s h (F28.k2 W Q QP)
theorem F28.k3_a (C0 : KT) : aw Try.prog 61 W F28.pl (Code.at F28.code [1, 1, 1, 0, 1, 0, 1, 0]) (thenQ (aw Try.prog 61 W F28.pl (Code.at F28.code [1, 1, 1, 0, 1, 0, 1, 1]) (thenQ (C0) (Q)) QP) (thenQ (C0) (Q))) QP s h = F28.t3 Q s h C0 := by kernel_rfl
theorem F28.k3_ok : aw Try.prog 61 W F28.pl (Code.at F28.code [1, 1, 1, 0, 1, 0, 1]) (thenQ (F28.k2 W Q QP) (Q)) QP s h = F28.k3 W Q QP s h := nd_seq (a := (Code.at F28.code [1, 1, 1, 0, 1, 0, 1, 0])) (b := (Code.at F28.code [1, 1, 1, 0, 1, 0, 1, 1])) (by kernel_rfl) (fun _ _ => rfl) (F28.k3_a W Q QP s h (F28.k2 W Q QP))
def F28.t4 (W : Nat → Prop) (QP : PPost) (s : St) (h : AH) (C0 C1 : KT) : Prop :=
  aCall Try.prog W 25 [(s.tm 0), (.sc (.int .i64 1))] h (fun t9 h10 =>
  C1 ⟨puts s.tm [(51, (s.tm 0)), (52, t9)], s.ds⟩ h10) (QP s.ds)
def F28.k4 (W : Nat → Prop) (Q : Post) (QP : PPost) (s : St) (h : AH) : Prop := F28.t4 W QP s h (F28.k2 W Q QP) (F28.k3 W Q QP)
theorem F28.k4_a (C0 C1 : KT) : aw Try.prog 61 W F28.pl (Code.at F28.code [1, 1, 1, 0, 1, 0, 0]) (thenQ (C1) (thenQ (C0) (Q))) QP s h = F28.t4 W QP s h C0 C1 := by kernel_rfl
theorem F28.k4_ok : aw Try.prog 61 W F28.pl (Code.at F28.code [1, 1, 1, 0, 1, 0]) (thenQ (F28.k2 W Q QP) (Q)) QP s h = F28.k4 W Q QP s h := nd_seq (a := (Code.at F28.code [1, 1, 1, 0, 1, 0, 0])) (b := (Code.at F28.code [1, 1, 1, 0, 1, 0, 1])) (by kernel_rfl) (F28.k3_ok W Q QP) (F28.k4_a W Q QP s h (F28.k2 W Q QP) (F28.k3 W Q QP))
def F28.t5 (s : St) (h : AH) (C0 C1 : KT) : Prop :=
  aIf (s.tm 50) (
  C1 s h) (
  C0 s h)
def F28.k5 (W : Nat → Prop) (Q : Post) (QP : PPost) (s : St) (h : AH) : Prop := F28.t5 s h (F28.k2 W Q QP) (F28.k4 W Q QP)
theorem F28.k5_a (C0 C1 : KT) : aIf (aev s (.tmp 50)) (C1 s h) (aw Try.prog 61 W F28.pl (Code.at F28.code [1, 1, 1, 0, 1, 1]) (thenQ (C0) (Q)) QP s h) = F28.t5 s h C0 C1 := by kernel_rfl
theorem F28.k5_ok : aw Try.prog 61 W F28.pl (Code.at F28.code [1, 1, 1, 0, 1]) (thenQ (F28.k2 W Q QP) (Q)) QP s h = F28.k5 W Q QP s h := nd_cond (a := (Code.at F28.code [1, 1, 1, 0, 1, 0])) (b := (Code.at F28.code [1, 1, 1, 0, 1, 1])) (by kernel_rfl) (F28.k4_ok W Q QP s h) rfl (F28.k5_a W Q QP s h (F28.k2 W Q QP) (F28.k4 W Q QP))
def F28.t6 (s : St) (h : AH) (C0 C1 : KT) : Prop :=
  pBin Try.prog .lss 3 true (s.tm 3) (.sc (.int .i64 0)) fun t11 =>
  C1 ⟨puts s.tm [(49, (s.tm 3)), (50, t11)], s.ds⟩ h
def F28.k6 (W : Nat → Prop) (Q : Post) (QP : PPost) (s : St) (h : AH) : Prop := F28.t6 s h (F28.k2 W Q QP) (F28.k5 W Q QP)
theorem F28.k6_a (C0 C1 : KT) : aw Try.prog 61 W F28.pl (Code.at F28.code [1, 1, 1, 0, 0]) (thenQ (C1) (thenQ (C0) (Q))) QP s h = F28.t6 s h C0 C1 := by kernel_rfl
theorem F28.k6_ok : aw Try.prog 61 W F28.pl (Code.at F28.code [1, 1, 1, 0]) (thenQ (F28.k2 W Q QP) (Q)) QP s h = F28.k6 W Q QP s h := nd_seq (a := (Code.at F28.code [1, 1, 1, 0, 0])) (b := (Code.at F28.code [1, 1, 1, 0, 1])) (by kernel_rfl) (F28.k5_ok W Q QP) (F28.k6_a W Q QP s h (F28.k2 W Q QP) (F28.k5 W Q QP))
theorem F28.o1 : aw Try.prog 61 W F28.pl (Code.at F28.code [1, 1, 1]) (Q) QP s h = F28.k6 W Q QP s h := nd_seq (a := (Code.at F28.code [1, 1, 1, 0])) (b := (Code.at F28.code [1, 1, 1, 1])) (by kernel_rfl) (F28.k2_ok W Q QP) (F28.k6_ok W Q QP s h)
def F28.t7 (W : Nat → Prop) (QP : PPost) (s : St) (h : AH) (C0 : KT) : Prop :=
  pNil (s.tm 0) fun t12 =>
  pFld (some 0) t12 fun t13 =>
  lLd (some false) (some 1) t13 h fun t14 _ =>
  pNil (s.tm 0) fun t16 =>
  pFld (some 1) t16 fun t17 =>
  lLd (some false) (some 1) t17 h fun t18 _ =>
  pIxA (some (3, none)) t14 t18 fun t20 =>
  pFld (some 1) t20 fun t21 =>
  lLd (some false) (some 1) t21 h fun t22 _ =>
  aCall Try.prog W 41 [t22] h (fun t24 h25 =>
  C0 ⟨puts s.tm [(37, (s.tm 0)), (38, t12), (39, t13), (40, t14), (41, (s.tm 0)), (42, t16), (43, t17), (44, t18), (45, t20), (46, t21), (47, t22), (48, t24), (3, t24)], s.ds⟩ h25) (QP s.ds)
def F28.k7 (W : Nat → Prop) (Q : Post) (QP : PPost) (s : St) (h : AH) : Prop := F28.t7 W QP s h (F28.k6 W Q QP)
theorem F28.k7_a (C0 : KT) : aw Try.prog 61 W F28.pl (Code.at F28.code [1, 1, 0]) (thenQ (C0) (Q)) QP s h = F28.t7 W QP s h C0 := by kernel_rfl
theorem F28.k7_ok : aw Try.prog 61 W F28.pl (Code.at F28.code [1, 1]) (Q) QP s h = F28.k7 W Q QP s h := nd_seq (a := (Code.at F28.code [1, 1, 0])) (b := (Code.at F28.code [1, 1, 1])) (by kernel_rfl) (F28.o1 W Q QP) (F28.k7_a W Q QP s h (F28.k6 W Q QP))
def F28.t8 (Q : Post) (s : St) (h : AH) (C0 : KT) : Prop :=
  Q .ret ⟨puts s.tm [(2, (.sc (.int .i64 0)))], s.ds⟩ h
def F28.k8 (W : Nat → Prop) (Q : Post) (QP : PPost) (s : St) (h : AH) : Prop := F28.t8 Q s h (F28.k7 W Q QP)
theorem F28.k8_a (C0 : KT) : aw Try.prog 61 W F28.pl (Code.at F28.code [1, 0, 1, 0, 1, 0]) (thenQ (aw Try.prog 61 W F28.pl (Code.at F28.code [1, 0, 1, 0, 1, 1]) (thenQ (C0) (Q)) QP) (thenQ (C0) (Q))) QP s h = F28.t8 Q s h C0 := by kernel_rfl
theorem F28.k8_ok : aw Try.prog 61 W F28.pl (Code.at F28.code [1, 0, 1, 0, 1]) (thenQ (F28.k7 W Q QP) (Q)) QP s h = F28.k8 W Q QP s h := nd_seq (a := (Code.at F28.code [1, 0, 1, 0, 1, 0])) (b := (Code.at F28.code [1, 0, 1, 0, 1, 1])) (by kernel_rfl) (fun _ _ => rfl) (F28.k8_a W Q QP s h (F28.k7 W Q QP))
def F28.t9 (W : Nat → Prop) (QP : PPost) (s : St) (h : AH) (C0 C1 : KT) : Prop :=
  aCall Try.prog W 25 [(s.tm 0), (.sc (.int .i64 100))] h (fun t26 h27 =>
  C1 ⟨puts s.tm [(35, (s.tm 0)), (36, t26)], s.ds⟩ h27) (QP s.ds)
def F28.k9 (W : Nat → Prop) (Q : Post) (QP : PPost) (s : St) (h : AH) : Prop := F28.t9 W QP s h (F28.k7 W Q QP) (F28.k8 W Q QP)
theorem F28.k9_a (C0 C1 : KT) : aw Try.prog 61 W F28.pl (Code.at F28.code [1, 0, 1, 0, 0]) (thenQ (C1) (thenQ (C0) (Q))) QP s h = F28.t9 W QP s h C0 C1 := by kernel_rfl
theorem F28.k9_ok : aw Try.prog 61 W F28.pl (Code.at F28.code [1, 0, 1, 0]) (thenQ (F28.k7 W Q QP) (Q)) QP s h = F28.k9 W Q QP s h := nd_seq (a := (Code.at F28.code [1, 0, 1, 0, 0])) (b := (Code.at F28.code [1, 0, 1, 0, 1])) (by kernel_rfl) (F28.k8_ok W Q QP) (F28.k9_a W Q QP s h (F28.k7 W Q QP) (F28.k8 W Q QP))
def F28.t10 (s : St) (h : AH) (C0 C1 : KT) : Prop :=
  aIf (s.tm 34) (
  C1 s h) (
  C0 s h)
def F28.k10 (W : Nat → Prop) (Q : Post) (QP : PPost) (s : St) (h : AH) : Prop := F28.t10 s h (F28.k7 W Q QP) (F28.k9 W Q QP)
theorem F28.k10_a (C0 C1 : KT) : aIf (aev s (.tmp 34)) (C1 s h) (aw Try.prog 61 W F28.pl (Code.at F28.code [1, 0, 1, 1]) (thenQ (C0) (Q)) QP s h) = F28.t10 s h C0 C1 := by kernel_rfl
theorem F28.k10_ok : aw Try.prog 61 W F28.pl (Code.at F28.code [1, 0, 1]) (thenQ (F28.k7 W Q QP) (Q)) QP s h = F28.k10 W Q QP s h := nd_cond (a := (Code.at F28.code [1, 0, 1, 0])) (b := (Code.at F28.code [1, 0, 1, 1])) (by kernel_rfl) (F28.k9_ok W Q QP s h) rfl (F28.k10_a W Q QP s h (F28.k7 W Q QP) (F28.k9 W Q QP))
def F28.t11 (s : St) (h : AH) (C0 C1 : KT) : Prop :=
  pPick (s.tm 21) (.sc (.bool true)) (s.tm 33) fun t28 =>
  C0 ⟨puts s.tm [(34, t28)], s.ds⟩ h
def F28.k11 (W : Nat → Prop) (Q : Post) (QP : PPost) (s : St) (h : AH) : Prop := F28.t11 s h (F28.k10 W Q QP) (F28.k7 W Q QP)
theorem F28.k11_a (C0 C1 : KT) : evI Try.prog 61 (fun _ => W) nobody QP (regOps (Code.at F28.code [1, 0, 0])) (isAt F28.g1 4) ((thenQ (C0) (thenQ (C1) (Q))) .normal) s h = F28.t11 s h C0 C1 := by kernel_rfl
theorem F28.k11_ok : evG Try.prog 61 (fun _ => W) nobody QP (regOps (Code.at F28.code [1, 0, 0])) (F28.g1.drop 4) ((thenQ (F28.k10 W Q QP) (thenQ (F28.k7 W Q QP) (Q))) .normal) s h = F28.k11 W Q QP s h := nd_g (is := isAt F28.g1 4) (rest := F28.g1.drop 5) (by kernel_rfl) (fun _ _ => rfl) (F28.k11_a W Q QP s h (F28.k10 W Q QP) (F28.k7 W Q QP))
def F28.t12 (s : St) (h : AH) (C0 : KT) : Prop :=
  aIg false (s.tm 21) (
  pNil (s.tm 0) fun t29 =>
  pFld (some 0) t29 fun t30 =>
  lLd (some false) (some 1) t30 h fun t31 _ =>
  pNil (s.tm 0) fun t33 =>
  pFld (some 1) t33 fun t34 =>
  lLd (some false) (some 1) t34 h fun t35 _ =>
  pIxA (some (3, none)) t31 t35 fun t37 =>
  pFld (some 0) t37 fun t38 =>
  lLd (some false) (some 1) t38 h fun t39 _ =>
  pBin Try.prog .neq 3 true t39 (.sc (.int .i64 2)) fun t41 =>
  C0 ⟨puts s.tm [(22, (s.tm 0)), (23, t29), (24, t30), (25, t31), (26, (s.tm 0)), (27, t33), (28, t34), (29, t35), (30, t37), (31, t38), (32, t39), (33, t41)], s.ds⟩ h) (
  C0 ⟨puts s.tm [(22, noA), (23, noA), (24, noA), (25, noA), (26, noA), (27, noA), (28, noA), (29, noA), (30, noA), (31, noA), (32, noA), (33, noA)], s.ds⟩ h)
def F28.k12 (W : Nat → Prop) (Q : Post) (QP : PPost) (s : St) (h : AH) : Prop := F28.t12 s h (F28.k11 W Q QP)
theorem F28.k12_a (C0 : KT) : aIg false (s.tm 21) (evI Try.prog 61 (fun _ => W) nobody QP (regOps (Code.at F28.code [1, 0, 0])) (isAt F28.g1 3) (C0) s h) ((C0) (skI 61 (regOps (Code.at F28.code [1, 0, 0])) (isAt F28.g1 3) s) h) = F28.t12 s h C0 := by kernel_rfl
theorem F28.k12_ok : evG Try.prog 61 (fun _ => W) nobody QP (regOps (Code.at F28.code [1, 0, 0])) (F28.g1.drop 3) ((thenQ (F28.k10 W Q QP) (thenQ (F28.k7 W Q QP) (Q))) .normal) s h = F28.k12 W Q QP s h := nd_gw (j := 17) (is := isAt F28.g1 3) (rest := F28.g1.drop 4) (by kernel_rfl) (d := 21) (by kernel_rfl) (F28.k11_ok W Q QP) (F28.k12_a W QP s h (F28.k11 W Q QP))
def F28.t13 (s : St) (h : AH) (C0 : KT) : Prop :=
  pPick (s.tm 9) (.sc (.bool true)) (s.tm 19) fun t42 =>
  C0 ⟨puts s.tm [(20, t42), (21, t42)], s.ds⟩ h
def F28.k13 (W : Nat → Prop) (Q : Post) (QP : PPost) (s : St) (h : AH) : Prop := F28.t13 s h (F28.k12 W Q QP)
theorem F28.k13_a (C0 : KT) : evI Try.prog 61 (fun _ => W) nobody QP (regOps (Code.at F28.code [1, 0, 0])) (isAt F28.g1 2) (C0) s h = F28.t13 s h C0 := by kernel_rfl
theorem F28.k13_ok : evG Try.prog 61 (fun _ => W) nobody QP (regOps (Code.at F28.code [1, 0, 0])) (F28.g1.drop 2) ((thenQ (F28.k10 W Q QP) (thenQ (F28.k7 W Q QP) (Q))) .normal) s h = F28.k13 W Q QP s h := nd_g (is := isAt F28.g1 2) (rest := F28.g1.drop 3) (by kernel_rfl) (F28.k12_ok W Q QP) (F28.k13_a W QP s h (F28.k12 W Q QP))
def F28.t14 (s : St) (h : AH) (C0 : KT) : Prop :=
  aIg false (s.tm 9) (
  pNil (s.tm 0) fun t43 =>
  pFld (some 1) t43 fun t44 =>
  lLd (some false) (some 1) t44 h fun t45 _ =>
  pNil (s.tm 0) fun t47 =>
  pFld (some 0) t47 fun t48 =>
  lLd (some false) (some 1) t48 h fun t49 _ =>
  (strArg t49 = false) ∧ pLen t49 fun t51 =>
  pBin Try.prog .geq 3 false t45 t51 fun t52 =>
  C0 ⟨puts s.tm [(10, (s.tm 0)), (11, t43), (12, t44), (13, t45), (14, (s.tm 0)), (15, t47), (16, t48), (17, t49), (18, t51), (19, t52)], s.ds⟩ h) (
  C0 ⟨puts s.tm [(10, noA), (11, noA), (12, noA), (13, noA), (14, noA), (15, noA), (16, noA), (17, noA), (18, noA), (19, noA)], s.ds⟩ h)
def F28.k14 (W : Nat → Prop) (Q : Post) (QP : PPost) (s : St) (h : AH) : Prop := F28.t14 s h (F28.k13 W Q QP)
theorem F28.k14_a (C0 : KT) : aIg false (s.tm 9) (evI Try.prog 61 (fun _ => W) nobody QP (regOps (Code.at F28.code [1, 0, 0])) (isAt F28.g1 1) (C0) s h) ((C0) (skI 61 (regOps (Code.at F28.code [1, 0, 0])) (isAt F28.g1 1) s) h) = F28.t14 s h C0 := by kernel_rfl
theorem F28.k14_ok : evG Try.prog 61 (fun _ => W) nobody QP (regOps (Code.at F28.code [1, 0, 0])) (F28.g1.drop 1) ((thenQ (F28.k10 W Q QP) (thenQ (F28.k7 W Q QP) (Q))) .normal) s h = F28.k14 W Q QP s h := nd_gw (j := 5) (is := isAt F28.g1 1) (rest := F28.g1.drop 2) (by kernel_rfl) (d := 9) (by kernel_rfl) (F28.k13_ok W Q QP) (F28.k14_a W QP s h (F28.k13 W Q QP))
def F28.t15 (s : St) (h : AH) (C0 : KT) : Prop :=
  pNil (s.tm 0) fun t53 =>
  pFld (some 3) t53 fun t54 =>
  lLd (some false) (some 1) t54 h fun t55 _ =>
  pBin Try.prog .neq 3 true t55 (.sc (.int .i64 0)) fun t57 =>
  C0 ⟨puts s.tm [(4, (s.tm 0)), (5, t53), (6, t54), (7, t55), (8, t57), (9, t57)], s.ds⟩ h
def F28.k15 (W : Nat → Prop) (Q : Post) (QP : PPost) (s : St) (h : AH) : Prop := F28.t15 s h (F28.k14 W Q QP)
theorem F28.k15_a (C0 : KT) : evI Try.prog 61 (fun _ => W) nobody QP (regOps (Code.at F28.code [1, 0, 0])) (isAt F28.g1 0) (C0) s h = F28.t15 s h C0 := by kernel_rfl
theorem F28.k15_ok : evG Try.prog 61 (fun _ => W) nobody QP (regOps (Code.at F28.code [1, 0, 0])) (F28.g1.drop 0) ((thenQ (F28.k10 W Q QP) (thenQ (F28.k7 W Q QP) (Q))) .normal) s h = F28.k15 W Q QP s h := nd_g (is := isAt F28.g1 0) (rest := F28.g1.drop 1) (by kernel_rfl) (F28.k14_ok W Q QP) (F28.k15_a W QP s h (F28.k14 W Q QP))
theorem F28.o2 : aw Try.prog 61 W F28.pl (Code.at F28.code [1, 0, 0]) (thenQ (F28.k10 W Q QP) (thenQ (F28.k7 W Q QP) (Q))) QP s h = F28.k15 W Q QP s h := nd_groups (id := 1) (draw := true) (ops := (regOps (Code.at F28.code [1, 0, 0]))) (gs := F28.g1.drop 0) (by kernel_rfl) (by kernel_rfl) (F28.k15_ok W Q QP s h)
theorem F28.o3 : aw Try.prog 61 W F28.pl (Code.at F28.code [1, 0]) (thenQ (F28.k7 W Q QP) (Q)) QP s h = F28.k15 W Q QP s h := nd_seq (a := (Code.at F28.code [1, 0, 0])) (b := (Code.at F28.code [1, 0, 1])) (by kernel_rfl) (F28.k10_ok W Q QP) (F28.o2 W Q QP s h)
theorem F28.o4 : aw Try.prog 61 W F28.pl (Code.at F28.code [1]) (Q) QP s h = F28.k15 W Q QP s h := nd_seq (a := (Code.at F28.code [1, 0])) (b := (Code.at F28.code [1, 1])) (by kernel_rfl) (F28.k7_ok W Q QP) (F28.o3 W Q QP s h)
def F28.t16 (s : St) (h : AH) (C0 : KT) : Prop :=
  C0 ⟨puts s.tm [(2, (.sc (.int .i64 0)))], s.ds⟩ h
def F28.k16 (W : Nat → Prop) (Q : Post) (QP : PPost) (s : St) (h : AH) : Prop := F28.t16 s h (F28.k15 W Q QP)
theorem F28.k16_a (C0 : KT) : aw Try.prog 61 W F28.pl (Code.at F28.code [0]) (thenQ (C0) (Q)) QP s h = F28.t16 s h C0 := by kernel_rfl
theorem F28.k16_ok : aw Try.prog 61 W F28.pl (Code.at F28.code []) (Q) QP s h = F28.k16 W Q QP s h := nd_seq (a := (Code.at F28.code [0])) (b := (Code.at F28.code [1])) (by kernel_rfl) (F28.o4 W Q QP) (F28.k16_a W Q QP s h (F28.k15 W Q QP))
end
theorem F28.calls {x0 : AV} {h : AH} {M : Nat → Prop} {R : AE → AH → Prop} (hp : F28.k16 (fun id => M id ∨ h.next ≤ id) (bodyQ Try.prog [.tmp 2] R) (bodyP R) (s0 [x0]) h) : ACalls Try.prog 28 [x0] h M R :=
  acalls_of Try.mixed Try.func28 rfl (Nat.le_of_ble_eq_true rfl) F28.ok (by rw [show Try.f28.ntmps = 61 from rfl, show Try.f28.results.toList = [.tmp 2] from rfl]; exact Eq.mpr (F28.k16_ok _ _ _ _ _) hp)
attribute [simp] F28.k1 F28.t1 F28.k2 F28.t2 F28.k3 F28.t3 F28.k4 F28.t4 F28.k5 F28.t5 F28.k6 F28.t6 F28.k7 F28.t7 F28.k8 F28.t8 F28.k9 F28.t9 F28.k10 F28.t10 F28.k11 F28.t11 F28.k12 F28.t12 F28.k13 F28.t13 F28.k14 F28.t14 F28.k15 F28.t15 F28.k16 F28.t16

/-! (*cubit/cubitref10.reader).want -/
section
variable (W : Nat → Prop) (Q : Post) (QP : PPost) (s : St) (h : AH)
noncomputable def F29.code : Code := Try.f29.body.getD .skip
def F29.pl : Plans := []
theorem F29.ok : okCode F29.pl F29.code = true := by kernel_rfl
def F29.t1 (W : Nat → Prop) (Q : Post) (s : St) (h : AH) : Prop :=
  pNil (s.tm 0) fun t1 =>
  pFld (some 1) t1 fun t2 =>
  lLd (some false) (some 1) t2 h fun t3 _ =>
  pBin Try.prog .add 3 true t3 (.sc (.int .i64 1)) fun t5 =>
  pNil (s.tm 0) fun t6 =>
  pFld (some 1) t6 fun t7 =>
  eStore (some 1) t7 t5 h W fun h8 =>
  Q .normal ⟨puts s.tm [(10, (s.tm 0)), (11, t1), (12, t2), (13, t3), (14, t5), (15, t6), (16, t7)], s.ds⟩ h8
def F29.k1 (W : Nat → Prop) (Q : Post) (QP : PPost) (s : St) (h : AH) : Prop := F29.t1 W Q s h
theorem F29.k1_a : aw Try.prog 17 W F29.pl (Code.at F29.code [1]) (Q) QP s h = F29.t1 W Q s h := by kernel_rfl
theorem F29.k1_ok : aw Try.prog 17 W F29.pl (Code.at F29.code [1]) (Q) QP s h = F29.k1 W Q QP s h := (F29.k1_a W Q QP s h)
def F29.t2 (W : Nat → Prop) (Q : Post) (QP : PPost) (s : St) (h : AH) (C0 : KT) : Prop :=
  aCall Try.prog W 25 [(s.tm 0), (.sc (.int .i64 100))] h (fun t9 h10 =>
  Q .ret ⟨puts s.tm [(8, (s.tm 0)), (9, t9)], s.ds⟩ h10) (QP s.ds)
def F29.k2 (W : Nat → Prop) (Q : Post) (QP : PPost) (s : St) (h : AH) : Prop := F29.t2 W Q QP s h (F29.k1 W Q QP)
theorem F29.k2_a (C0 : KT) : aw Try.prog 17 W F29.pl (Code.at F29.code [0, 1, 0, 0]) (thenQ (aw Try.prog 17 W F29.pl (Code.at F29.code [0, 1, 0, 1]) (thenQ (C0) (Q)) QP) (thenQ (C0) (Q))) QP s h = F29.t2 W Q QP s h C0 := by kernel_rfl
theorem F29.k2_ok : aw Try.prog 17 W F29.pl (Code.at F29.code [0, 1, 0]) (thenQ (F29.k1 W Q QP) (Q)) QP s h = F29.k2 W Q QP s h := nd_seq (a := (Code.at F29.code [0, 1, 0, 0])) (b := (Code.at F29.code [0, 1, 0, 1])) (by kernel_rfl) (fun _ _ => rfl) (F29.k2_a W Q QP s h (F29.k1 W Q QP))
def F29.t3 (s : St) (h : AH) (C0 C1 : KT) : Prop :=
  aIf (s.tm 7) (
  C1 s h) (
  C0 s h)
def F29.k3 (W : Nat → Prop) (Q : Post) (QP : PPost) (s : St) (h : AH) : Prop := F29.t3 s h (F29.k1 W Q QP) (F29.k2 W Q QP)
theorem F29.k3_a (C0 C1 : KT) : aIf (aev s (.tmp 7)) (C1 s h) (aw Try.prog 17 W F29.pl (Code.at F29.code [0, 1, 1]) (thenQ (C0) (Q)) QP s h) = F29.t3 s h C0 C1 := by kernel_rfl
theorem F29.k3_ok : aw Try.prog 17 W F29.pl (Code.at F29.code [0, 1]) (thenQ (F29.k1 W Q QP) (Q)) QP s h = F29.k3 W Q QP s h := nd_cond (a := (Code.at F29.code [0, 1, 0])) (b := (Code.at F29.code [0, 1, 1])) (by kernel_rfl) (F29.k2_ok W Q QP s h) rfl (F29.k3_a W Q QP s h (F29.k1 W Q QP) (F29.k2 W Q QP))
def F29.t4 (W : Nat → Prop) (QP : PPost) (s : St) (h : AH) (C0 C1 : KT) : Prop :=
  aCall Try.prog W 42 [(s.tm 0), (s.tm 1)] h (fun t11 h12 =>
  pUn .not t11 fun t13 =>
  C1 ⟨puts s.tm [(4, (s.tm 0)), (5, (s.tm 1)), (6, t11), (7, t13)], s.ds⟩ h12) (QP s.ds)
def F29.k4 (W : Nat → Prop) (Q : Post) (QP : PPost) (s : St) (h : AH) : Prop := F29.t4 W QP s h (F29.k1 W Q QP) (F29.k3 W Q QP)
theorem F29.k4_a (C0 C1 : KT) : aw Try.prog 17 W F29.pl (Code.at F29.code [0, 0]) (thenQ (C1) (thenQ (C0) (Q))) QP s h = F29.t4 W QP s h C0 C1 := by kernel_rfl
theorem F29.k4_ok : aw Try.prog 17 W F29.pl (Code.at F29.code [0]) (thenQ (F29.k1 W Q QP) (Q)) QP s h = F29.k4 W Q QP s h := nd_seq (a := (Code.at F29.code [0, 0])) (b := (Code.at F29.code [0, 1])) (by kernel_rfl) (F29.k3_ok W Q QP) (F29.k4_a W Q QP s h (F29.k1 W Q QP) (F29.k3 W Q QP))
theorem F29.o1 : aw Try.prog 17 W F29.pl (Code.at F29.code []) (Q) QP s h = F29.k4 W Q QP s h := nd_seq (a := (Code.at F29.code [0])) (b := (Code.at F29.code [1])) (by kernel_rfl) (F29.k1_ok W Q QP) (F29.k4_ok W Q QP s h)
end
theorem F29.calls {x0 x1 : AV} {h : AH} {M : Nat → Prop} {R : AE → AH → Prop} (hp : F29.k4 (fun id => M id ∨ h.next ≤ id) (bodyQ Try.prog [] R) (bodyP R) (s0 [x0, x1]) h) : ACalls Try.prog 29 [x0, x1] h M R :=
  acalls_of Try.mixed Try.func29 rfl (Nat.le_of_ble_eq_true rfl) F29.ok (by rw [show Try.f29.ntmps = 17 from rfl, show Try.f29.results.toList = [] from rfl]; exact Eq.mpr (F29.o1 _ _ _ _ _) hp)
attribute [simp] F29.k1 F29.t1 F29.k2 F29.t2 F29.k3 F29.t3 F29.k4 F29.t4

/-! cubit/cubitref10.value -/
section
variable (W : Nat → Prop) (Q : Post) (QP : PPost) (s : St) (h : AH)
noncomputable def F41.code : Code := Try.f41.body.getD .skip
def F41.pl : Plans := []
theorem F41.ok : okCode F41.pl F41.code = true := by kernel_rfl
def F41.t1 (Q : Post) (s : St) (h : AH) : Prop :=
  Q .ret ⟨puts s.tm [(21, (s.tm 3)), (2, (s.tm 3))], s.ds⟩ h
def F41.k1 (W : Nat → Prop) (Q : Post) (QP : PPost) (s : St) (h : AH) : Prop := F41.t1 Q s h
theorem F41.k1_a : aw Try.prog 22 W F41.pl (Code.at F41.code [1, 1, 1, 0]) (thenQ (aw Try.prog 22 W F41.pl (Code.at F41.code [1, 1, 1, 1]) (Q) QP) (Q)) QP s h = F41.t1 Q s h := by kernel_rfl
theorem F41.k1_ok : aw Try.prog 22 W F41.pl (Code.at F41.code [1, 1, 1]) (Q) QP s h = F41.k1 W Q QP s h := nd_seq (a := (Code.at F41.code [1, 1, 1, 0])) (b := (Code.at F41.code [1, 1, 1, 1])) (by kernel_rfl) (fun _ _ => rfl) (F41.k1_a W Q QP s h)
def F41.t2 (Q : Post) (s : St) (h : AH) : Prop :=
  pBin Try.prog .add 3 true (s.tm 4) (.sc (.int .i64 1)) fun t1 =>
  Q .normal ⟨puts s.tm [(9, (s.tm 4)), (10, t1), (4, t1)], s.ds⟩ h
def F41.k2 (W : Nat → Prop) (Q : Post) (QP : PPost) (s : St) (h : AH) : Prop := F41.t2 Q s h
theorem F41.k2_a : aw Try.prog 22 W F41.pl (Code.at F41.code [1, 1, 0, 1, 0, 0, 1, 1]) (Q) QP s h = F41.t2 Q s h := by kernel_rfl
theorem F41.k2_ok : aw Try.prog 22 W F41.pl (Code.at F41.code [1, 1, 0, 1, 0, 0, 1, 1]) (Q) QP s h = F41.k2 W Q QP s h := (F41.k2_a W Q QP s h)
def F41.t3 (Q : Post) (s : St) (h : AH) (C0 : KT) : Prop :=
  Q .ret ⟨puts s.tm [(2, (.sc (.int .i64 (-1))))], s.ds⟩ h
def F41.k3 (W : Nat → Prop) (Q : Post) (QP : PPost) (s : St) (h : AH) : Prop := F41.t3 Q s h (F41.k2 W Q QP)
theorem F41.k3_a (C0 : KT) : aw Try.prog 22 W F41.pl (Code.at F41.code [1, 1, 0, 1, 0, 0, 1, 0, 0, 1, 1, 0, 0]) (thenQ (aw Try.prog 22 W F41.pl (Code.at F41.code [1, 1, 0, 1, 0, 0, 1, 0, 0, 1, 1, 0, 1]) (blockQ 1 (thenQ (C0) (Q))) QP) (blockQ 1 (thenQ (C0) (Q)))) QP s h = F41.t3 Q s h C0 := by kernel_rfl
theorem F41.k3_ok : aw Try.prog 22 W F41.pl (Code.at F41.code [1, 1, 0, 1, 0, 0, 1, 0, 0, 1, 1, 0]) (blockQ 1 (thenQ (F41.k2 W Q QP) (Q))) QP s h = F41.k3 W Q QP s h := nd_seq (a := (Code.at F41.code [1, 1, 0, 1, 0, 0, 1, 0, 0, 1, 1, 0, 0])) (b := (Code.at F41.code [1, 1, 0, 1, 0, 0, 1, 0, 0, 1, 1, 0, 1])) (by kernel_rfl) (fun _ _ => rfl) (F41.k3_a W Q QP s h (F41.k2 W Q QP))
def F41.t4 (s : St) (h : AH) (C0 C1 : KT) : Prop :=
  aIf (s.tm 20) (
  C1 s h) (
  C0 s h)
def F41.k4 (W : Nat → Prop) (Q : Post) (QP : PPost) (s : St) (h : AH) : Prop := F41.t4 s h (F41.k2 W Q QP) (F41.k3 W Q QP)
theorem F41.k4_a (C0 C1 : KT) : aIf (aev s (.tmp 20)) (C1 s h) (aw Try.prog 22 W F41.pl (Code.at F41.code [1, 1, 0, 1, 0, 0, 1, 0, 0, 1, 1, 1]) (blockQ 1 (thenQ (C0) (Q))) QP s h) = F41.t4 s h C0 C1 := by kernel_rfl
theorem F41.k4_ok : aw Try.prog 22 W F41.pl (Code.at F41.code [1, 1, 0, 1, 0, 0, 1, 0, 0, 1, 1]) (blockQ 1 (thenQ (F41.k2 W Q QP) (Q))) QP s h = F41.k4 W Q QP s h := nd_cond (a := (Code.at F41.code [1, 1, 0, 1, 0, 0, 1, 0, 0, 1, 1, 0])) (b := (Code.at F41.code [1, 1, 0, 1, 0, 0, 1, 0, 0, 1, 1, 1])) (by kernel_rfl) (F41.k3_ok W Q QP s h) rfl (F41.k4_a W Q QP s h (F41.k2 W Q QP) (F41.k3 W Q QP))
def F41.t5 (s : St) (h : AH) (C0 C1 : KT) : Prop :=
  pBin Try.prog .gtr 3 true (s.tm 3) (.sc (.int .i64 9007199254740991)) fun t2 =>
  C1 ⟨puts s.tm [(19, (s.tm 3)), (20, t2)], s.ds⟩ h
def F41.k5 (W : Nat → Prop) (Q : Post) (QP : PPost) (s : St) (h : AH) : Prop := F41.t5 s h (F41.k2 W Q QP) (F41.k4 W Q QP)
theorem F41.k5_a (C0 C1 : KT) : aw Try.prog 22 W F41.pl (Code.at F41.code [1, 1, 0, 1, 0, 0, 1, 0, 0, 1, 0]) (thenQ (C1) (blockQ 1 (thenQ (C0) (Q)))) QP s h = F41.t5 s h C0 C1 := by kernel_rfl
theorem F41.k5_ok : aw Try.prog 22 W F41.pl (Code.at F41.code [1, 1, 0, 1, 0, 0, 1, 0, 0, 1]) (blockQ 1 (thenQ (F41.k2 W Q QP) (Q))) QP s h = F41.k5 W Q QP s h := nd_seq (a := (Code.at F41.code [1, 1, 0, 1, 0, 0, 1, 0, 0, 1, 0])) (b := (Code.at F41.code [1, 1, 0, 1, 0, 0, 1, 0, 0, 1, 1])) (by kernel_rfl) (F41.k4_ok W Q QP) (F41.k5_a W Q QP s h (F41.k2 W Q QP) (F41.k4 W Q QP))
def F41.t6 (s : St) (h : AH) (C0 C1 : KT) : Prop :=
  pBin Try.prog .mul 3 true (s.tm 3) (.sc (.int .i64 10)) fun t3 =>
  pIxS true (s.tm 0) (s.tm 4) fun t4 =>
  pBin Try.prog .sub 5 true t4 (.sc (.int .u8 48)) fun t5 =>
  pCnv (some .i64) t5 fun t6 =>
  pBin Try.prog .add 3 false t3 t6 fun t7 =>
  C1 ⟨puts s.tm [(11, (s.tm 3)), (12, t3), (13, (s.tm 0)), (14, (s.tm 4)), (15, t4), (16, t5), (17, t6), (18, t7), (3, t7)], s.ds⟩ h
def F41.k6 (W : Nat → Prop) (Q : Post) (QP : PPost) (s : St) (h : AH) : Prop := F41.t6 s h (F41.k2 W Q QP) (F41.k5 W Q QP)
theorem F41.k6_a (C0 C1 : KT) : aw Try.prog 22 W F41.pl (Code.at F41.code [1, 1, 0, 1, 0, 0, 1, 0, 0, 0]) (thenQ (C1) (blockQ 1 (thenQ (C0) (Q)))) QP s h = F41.t6 s h C0 C1 := by kernel_rfl
theorem F41.k6_ok : aw Try.prog 22 W F41.pl (Code.at F41.code [1, 1, 0, 1, 0, 0, 1, 0, 0]) (blockQ 1 (thenQ (F41.k2 W Q QP) (Q))) QP s h = F41.k6 W Q QP s h := nd_seq (a := (Code.at F41.code [1, 1, 0, 1, 0, 0, 1, 0, 0, 0])) (b := (Code.at F41.code [1, 1, 0, 1, 0, 0, 1, 0, 0, 1])) (by kernel_rfl) (F41.k5_ok W Q QP) (F41.k6_a W Q QP s h (F41.k2 W Q QP) (F41.k5 W Q QP))
theorem F41.o1 : aw Try.prog 22 W F41.pl (Code.at F41.code [1, 1, 0, 1, 0, 0, 1, 0]) (thenQ (F41.k2 W Q QP) (Q)) QP s h = F41.k6 W Q QP s h := nd_block (a := (Code.at F41.code [1, 1, 0, 1, 0, 0, 1, 0, 0])) (by kernel_rfl) (F41.k6_ok W Q QP s h)
theorem F41.o2 : aw Try.prog 22 W F41.pl (Code.at F41.code [1, 1, 0, 1, 0, 0, 1]) (Q) QP s h = F41.k6 W Q QP s h := nd_seq (a := (Code.at F41.code [1, 1, 0, 1, 0, 0, 1, 0])) (b := (Code.at F41.code [1, 1, 0, 1, 0, 0, 1, 1])) (by kernel_rfl) (F41.k2_ok W Q QP) (F41.o1 W Q QP s h)
def F41.t7 (Q : Post) (s : St) (h : AH) (C0 : KT) : Prop :=
  aIf (s.tm 8) (
  C0 s h) (
  Q (.exit 0) s h)
def F41.k7 (W : Nat → Prop) (Q : Post) (QP : PPost) (s : St) (h : AH) : Prop := F41.t7 Q s h (F41.k6 W Q QP)
theorem F41.k7_a (C0 : KT) : aIf (aev s (.tmp 8)) (aw Try.prog 22 W F41.pl (Code.at F41.code [1, 1, 0, 1, 0, 0, 0, 1, 0]) (thenQ (C0) (Q)) QP s h) (aw Try.prog 22 W F41.pl (Code.at F41.code [1, 1, 0, 1, 0, 0, 0, 1, 1]) (thenQ (C0) (Q)) QP s h) = F41.t7 Q s h C0 := by kernel_rfl
theorem F41.k7_ok : aw Try.prog 22 W F41.pl (Code.at F41.code [1, 1, 0, 1, 0, 0, 0, 1]) (thenQ (F41.k6 W Q QP) (Q)) QP s h = F41.k7 W Q QP s h := nd_cond (a := (Code.at F41.code [1, 1, 0, 1, 0, 0, 0, 1, 0])) (b := (Code.at F41.code [1, 1, 0, 1, 0, 0, 0, 1, 1])) (by kernel_rfl) rfl rfl (F41.k7_a W Q QP s h (F41.k6 W Q QP))
def F41.t8 (s : St) (h : AH) (C0 C1 : KT) : Prop :=
  (strArg (s.tm 0) = true) ∧ pLen (s.tm 0) fun t8 =>
  pBin Try.prog .lss 3 false (s.tm 4) t8 fun t9 =>
  C1 ⟨puts s.tm [(5, (s.tm 4)), (6, (s.tm 0)), (7, t8), (8, t9)], s.ds⟩ h
def F41.k8 (W : Nat → Prop) (Q : Post) (QP : PPost) (s : St) (h : AH) : Prop := F41.t8 s h (F41.k6 W Q QP) (F41.k7 W Q QP)
theorem F41.k8_a (C0 C1 : KT) : aw Try.prog 22 W F41.pl (Code.at F41.code [1, 1, 0, 1, 0, 0, 0, 0]) (thenQ (C1) (thenQ (C0) (Q))) QP s h = F41.t8 s h C0 C1 := by kernel_rfl
theorem F41.k8_ok : aw Try.prog 22 W F41.pl (Code.at F41.code [1, 1, 0, 1, 0, 0, 0]) (thenQ (F41.k6 W Q QP) (Q)) QP s h = F41.k8 W Q QP s h := nd_seq (a := (Code.at F41.code [1, 1, 0, 1, 0, 0, 0, 0])) (b := (Code.at F41.code [1, 1, 0, 1, 0, 0, 0, 1])) (by kernel_rfl) (F41.k7_ok W Q QP) (F41.k8_a W Q QP s h (F41.k6 W Q QP) (F41.k7 W Q QP))
theorem F41.o3 : aw Try.prog 22 W F41.pl (Code.at F41.code [1, 1, 0, 1, 0, 0]) (Q) QP s h = F41.k8 W Q QP s h := nd_seq (a := (Code.at F41.code [1, 1, 0, 1, 0, 0, 0])) (b := (Code.at F41.code [1, 1, 0, 1, 0, 0, 1])) (by kernel_rfl) (F41.o2 W Q QP) (F41.k8_ok W Q QP s h)
noncomputable def F41.c1 : Code := (Code.at F41.code [1, 1, 0, 1, 0, 0])
theorem F41.l1 : aw Try.prog 22 W F41.pl F41.c1 Q QP s h = F41.k8 W Q QP s h := F41.o3 W Q QP s h
def F41.k9 (W : Nat → Prop) (Q : Post) (QP : PPost) (s : St) (h : AH) : Prop := aLoop (aw Try.prog 22 W F41.pl F41.c1) (blockQ 0 (thenQ (F41.k1 W Q QP) (Q))) QP s h
theorem F41.k9_ok : aw Try.prog 22 W F41.pl (Code.at F41.code [1, 1, 0, 1, 0]) (blockQ 0 (thenQ (F41.k1 W Q QP) (Q))) QP s h = F41.k9 W Q QP s h := nd_loop (a := F41.c1) (by kernel_rfl)
theorem F41.o4 : aw Try.prog 22 W F41.pl (Code.at F41.code [1, 1, 0, 1]) (thenQ (F41.k1 W Q QP) (Q)) QP s h = F41.k9 W Q QP s h := nd_block (a := (Code.at F41.code [1, 1, 0, 1, 0])) (by kernel_rfl) (F41.k9_ok W Q QP s h)
def F41.t10 (s : St) (h : AH) (C0 C1 : KT) : Prop :=
  C1 ⟨puts s.tm [(4, (.sc (.int .i64 0)))], s.ds⟩ h
def F41.k10 (W : Nat → Prop) (Q : Post) (QP : PPost) (s : St) (h : AH) : Prop := F41.t10 s h (F41.k1 W Q QP) (F41.k9 W Q QP)
theorem F41.k10_a (C0 C1 : KT) : aw Try.prog 22 W F41.pl (Code.at F41.code [1, 1, 0, 0]) (thenQ (C1) (thenQ (C0) (Q))) QP s h = F41.t10 s h C0 C1 := by kernel_rfl
theorem F41.k10_ok : aw Try.prog 22 W F41.pl (Code.at F41.code [1, 1, 0]) (thenQ (F41.k1 W Q QP) (Q)) QP s h = F41.k10 W Q QP s h := nd_seq (a := (Code.at F41.code [1, 1, 0, 0])) (b := (Code.at F41.code [1, 1, 0, 1])) (by kernel_rfl) (F41.o4 W Q QP) (F41.k10_a W Q QP s h (F41.k1 W Q QP) (F41.k9 W Q QP))
theorem F41.o5 : aw Try.prog 22 W F41.pl (Code.at F41.code [1, 1]) (Q) QP s h = F41.k10 W Q QP s h := nd_seq (a := (Code.at F41.code [1, 1, 0])) (b := (Code.at F41.code [1, 1, 1])) (by kernel_rfl) (F41.k1_ok W Q QP) (F41.k10_ok W Q QP s h)
def F41.t11 (s : St) (h : AH) (C0 : KT) : Prop :=
  C0 ⟨puts s.tm [(3, (.sc (.int .i64 0)))], s.ds⟩ h
def F41.k11 (W : Nat → Prop) (Q : Post) (QP : PPost) (s : St) (h : AH) : Prop := F41.t11 s h (F41.k10 W Q QP)
theorem F41.k11_a (C0 : KT) : aw Try.prog 22 W F41.pl (Code.at F41.code [1, 0]) (thenQ (C0) (Q)) QP s h = F41.t11 s h C0 := by kernel_rfl
theorem F41.k11_ok : aw Try.prog 22 W F41.pl (Code.at F41.code [1]) (Q) QP s h = F41.k11 W Q QP s h := nd_seq (a := (Code.at F41.code [1, 0])) (b := (Code.at F41.code [1, 1])) (by kernel_rfl) (F41.o5 W Q QP) (F41.k11_a W Q QP s h (F41.k10 W Q QP))
def F41.t12 (s : St) (h : AH) (C0 : KT) : Prop :=
  C0 ⟨puts s.tm [(2, (.sc (.int .i64 0)))], s.ds⟩ h
def F41.k12 (W : Nat → Prop) (Q : Post) (QP : PPost) (s : St) (h : AH) : Prop := F41.t12 s h (F41.k11 W Q QP)
theorem F41.k12_a (C0 : KT) : aw Try.prog 22 W F41.pl (Code.at F41.code [0]) (thenQ (C0) (Q)) QP s h = F41.t12 s h C0 := by kernel_rfl
theorem F41.k12_ok : aw Try.prog 22 W F41.pl (Code.at F41.code []) (Q) QP s h = F41.k12 W Q QP s h := nd_seq (a := (Code.at F41.code [0])) (b := (Code.at F41.code [1])) (by kernel_rfl) (F41.k11_ok W Q QP) (F41.k12_a W Q QP s h (F41.k11 W Q QP))
end
theorem F41.calls {x0 : AV} {h : AH} {M : Nat → Prop} {R : AE → AH → Prop} (hp : F41.k12 (fun id => M id ∨ h.next ≤ id) (bodyQ Try.prog [.tmp 2] R) (bodyP R) (s0 [x0]) h) : ACalls Try.prog 41 [x0] h M R :=
  acalls_of Try.mixed Try.func41 rfl (Nat.le_of_ble_eq_true rfl) F41.ok (by rw [show Try.f41.ntmps = 22 from rfl, show Try.f41.results.toList = [.tmp 2] from rfl]; exact Eq.mpr (F41.k12_ok _ _ _ _ _) hp)
attribute [simp] F41.k1 F41.t1 F41.k2 F41.t2 F41.k3 F41.t3 F41.k4 F41.t4 F41.k5 F41.t5 F41.k6 F41.t6 F41.k7 F41.t7 F41.k8 F41.t8 F41.k9 F41.k10 F41.t10 F41.k11 F41.t11 F41.k12 F41.t12

/-! (*cubit/cubitref10.reader).argument -/
section
variable (W : Nat → Prop) (Q : Post) (QP : PPost) (s : St) (h : AH)
noncomputable def F32.code : Code := Try.f32.body.getD .skip
def F32.pl : Plans := []
theorem F32.ok : okCode F32.pl F32.code = true := by kernel_rfl
def F32.t1 (W : Nat → Prop) (Q : Post) (s : St) (h : AH) : Prop :=
  lLd (some true) (some 2) (s.tm 3) h fun t1 _ =>
  eStore (some 2) (s.tm 2) t1 h W fun h3 =>
  Q .ret ⟨puts s.tm [(21, t1)], s.ds⟩ h3
def F32.k1 (W : Nat → Prop) (Q : Post) (QP : PPost) (s : St) (h : AH) : Prop := F32.t1 W Q s h
theorem F32.k1_a : aw Try.prog 22 W F32.pl (Code.at F32.code [1, 1, 1, 0]) (thenQ (aw Try.prog 22 W F32.pl (Code.at F32.code [1, 1, 1, 1]) (Q) QP) (Q)) QP s h = F32.t1 W Q s h := by kernel_rfl
theorem F32.k1_ok : aw Try.prog 22 W F32.pl (Code.at F32.code [1, 1, 1]) (Q) QP s h = F32.k1 W Q QP s h := nd_seq (a := (Code.at F32.code [1, 1, 1, 0])) (b := (Code.at F32.code [1, 1, 1, 1])) (by kernel_rfl) (fun _ _ => rfl) (F32.k1_a W Q QP s h)
def F32.t2 (W : Nat → Prop) (QP : PPost) (s : St) (h : AH) (C0 : KT) : Prop :=
  aCall Try.prog W 29 [(s.tm 0), (.sc (.string ⟨#[93]⟩))] h (fun t4 h5 =>
  C0 ⟨puts s.tm [(19, (s.tm 0)), (20, t4)], s.ds⟩ h5) (QP s.ds)
def F32.k2 (W : Nat → Prop) (Q : Post) (QP : PPost) (s : St) (h : AH) : Prop := F32.t2 W QP s h (F32.k1 W Q QP)
theorem F32.k2_a (C0 : KT) : aw Try.prog 22 W F32.pl (Code.at F32.code [1, 1, 0, 1, 0, 1, 1]) (thenQ (C0) (Q)) QP s h = F32.t2 W QP s h C0 := by kernel_rfl
theorem F32.k2_ok : aw Try.prog 22 W F32.pl (Code.at F32.code [1, 1, 0, 1, 0, 1, 1]) (thenQ (F32.k1 W Q QP) (Q)) QP s h = F32.k2 W Q QP s h := (F32.k2_a W Q QP s h (F32.k1 W Q QP))
def F32.t3 (W : Nat → Prop) (QP : PPost) (s : St) (h : AH) (C0 C1 : KT) : Prop :=
  aCall Try.prog W 28 [(s.tm 0)] h (fun t6 h7 =>
  pFld (some 1) (s.tm 3) fun t8 =>
  eStore (some 1) t8 t6 h7 W fun h9 =>
  C1 ⟨puts s.tm [(16, (s.tm 0)), (17, t6), (18, t8)], s.ds⟩ h9) (QP s.ds)
def F32.k3 (W : Nat → Prop) (Q : Post) (QP : PPost) (s : St) (h : AH) : Prop := F32.t3 W QP s h (F32.k1 W Q QP) (F32.k2 W Q QP)
theorem F32.k3_a (C0 C1 : KT) : aw Try.prog 22 W F32.pl (Code.at F32.code [1, 1, 0, 1, 0, 1, 0]) (thenQ (C1) (thenQ (C0) (Q))) QP s h = F32.t3 W QP s h C0 C1 := by kernel_rfl
theorem F32.k3_ok : aw Try.prog 22 W F32.pl (Code.at F32.code [1, 1, 0, 1, 0, 1]) (thenQ (F32.k1 W Q QP) (Q)) QP s h = F32.k3 W Q QP s h := nd_seq (a := (Code.at F32.code [1, 1, 0, 1, 0, 1, 0])) (b := (Code.at F32.code [1, 1, 0, 1, 0, 1, 1])) (by kernel_rfl) (F32.k2_ok W Q QP) (F32.k3_a W Q QP s h (F32.k1 W Q QP) (F32.k2 W Q QP))
def F32.t4 (W : Nat → Prop) (s : St) (h : AH) (C0 C1 : KT) : Prop :=
  pNil (s.tm 0) fun t10 =>
  pFld (some 1) t10 fun t11 =>
  lLd (some false) (some 1) t11 h fun t12 _ =>
  pBin Try.prog .add 3 true t12 (.sc (.int .i64 1)) fun t14 =>
  pNil (s.tm 0) fun t15 =>
  pFld (some 1) t15 fun t16 =>
  eStore (some 1) t16 t14 h W fun h17 =>
  C1 ⟨puts s.tm [(9, (s.tm 0)), (10, t10), (11, t11), (12, t12), (13, t14), (14, t15), (15, t16)], s.ds⟩ h17
def F32.k4 (W : Nat → Prop) (Q : Post) (QP : PPost) (s : St) (h : AH) : Prop := F32.t4 W s h (F32.k1 W Q QP) (F32.k3 W Q QP)
theorem F32.k4_a (C0 C1 : KT) : aw Try.prog 22 W F32.pl (Code.at F32.code [1, 1, 0, 1, 0, 0]) (thenQ (C1) (thenQ (C0) (Q))) QP s h = F32.t4 W s h C0 C1 := by kernel_rfl
theorem F32.k4_ok : aw Try.prog 22 W F32.pl (Code.at F32.code [1, 1, 0, 1, 0]) (thenQ (F32.k1 W Q QP) (Q)) QP s h = F32.k4 W Q QP s h := nd_seq (a := (Code.at F32.code [1, 1, 0, 1, 0, 0])) (b := (Code.at F32.code [1, 1, 0, 1, 0, 1])) (by kernel_rfl) (F32.k3_ok W Q QP) (F32.k4_a W Q QP s h (F32.k1 W Q QP) (F32.k3 W Q QP))
def F32.t5 (s : St) (h : AH) (C0 C1 : KT) : Prop :=
  aIf (s.tm 8) (
  C1 s h) (
  C0 s h)
def F32.k5 (W : Nat → Prop) (Q : Post) (QP : PPost) (s : St) (h : AH) : Prop := F32.t5 s h (F32.k1 W Q QP) (F32.k4 W Q QP)
theorem F32.k5_a (C0 C1 : KT) : aIf (aev s (.tmp 8)) (C1 s h) (aw Try.prog 22 W F32.pl (Code.at F32.code [1, 1, 0, 1, 1]) (thenQ (C0) (Q)) QP s h) = F32.t5 s h C0 C1 := by kernel_rfl
theorem F32.k5_ok : aw Try.prog 22 W F32.pl (Code.at F32.code [1, 1, 0, 1]) (thenQ (F32.k1 W Q QP) (Q)) QP s h = F32.k5 W Q QP s h := nd_cond (a := (Code.at F32.code [1, 1, 0, 1, 0])) (b := (Code.at F32.code [1, 1, 0, 1, 1])) (by kernel_rfl) (F32.k4_ok W Q QP s h) rfl (F32.k5_a W Q QP s h (F32.k1 W Q QP) (F32.k4 W Q QP))
def F32.t6 (W : Nat → Prop) (QP : PPost) (s : St) (h : AH) (C0 C1 : KT) : Prop :=
  aCall Try.prog W 42 [(s.tm 0), (.sc (.string ⟨#[91]⟩))] h (fun t18 h19 =>
  C1 ⟨puts s.tm [(7, (s.tm 0)), (8, t18)], s.ds⟩ h19) (QP s.ds)
def F32.k6 (W : Nat → Prop) (Q : Post) (QP : PPost) (s : St) (h : AH) : Prop := F32.t6 W QP s h (F32.k1 W Q QP) (F32.k5 W Q QP)
theorem F32.k6_a (C0 C1 : KT) : aw Try.prog 22 W F32.pl (Code.at F32.code [1, 1, 0, 0]) (thenQ (C1) (thenQ (C0) (Q))) QP s h = F32.t6 W QP s h C0 C1 := by kernel_rfl
theorem F32.k6_ok : aw Try.prog 22 W F32.pl (Code.at F32.code [1, 1, 0]) (thenQ (F32.k1 W Q QP) (Q)) QP s h = F32.k6 W Q QP s h := nd_seq (a := (Code.at F32.code [1, 1, 0, 0])) (b := (Code.at F32.code [1, 1, 0, 1])) (by kernel_rfl) (F32.k5_ok W Q QP) (F32.k6_a W Q QP s h (F32.k1 W Q QP) (F32.k5 W Q QP))
theorem F32.o1 : aw Try.prog 22 W F32.pl (Code.at F32.code [1, 1]) (Q) QP s h = F32.k6 W Q QP s h := nd_seq (a := (Code.at F32.code [1, 1, 0])) (b := (Code.at F32.code [1, 1, 1])) (by kernel_rfl) (F32.k1_ok W Q QP) (F32.k6_ok W Q QP s h)
def F32.t7 (W : Nat → Prop) (QP : PPost) (s : St) (h : AH) (C0 : KT) : Prop :=
  aCall Try.prog W 27 [(s.tm 0)] h (fun t20 h21 =>
  pBld (some ([.string ⟨#[]⟩, .int .i64 0], .inl [(0, 1), (1, 1)])) [(0, t20), (1, (.sc (.int .i64 (-1))))] fun t22 =>
  eAlloc (some [.string ⟨#[]⟩, .int .i64 0]) 2 53 h21 fun t23 h24 =>
  eStore (some 2) t23 t22 h24 W fun h25 =>
  C0 ⟨puts s.tm [(4, (s.tm 0)), (5, t20), (6, t22), (3, t23)], s.ds⟩ h25) (QP s.ds)
def F32.k7 (W : Nat → Prop) (Q : Post) (QP : PPost) (s : St) (h : AH) : Prop := F32.t7 W QP s h (F32.k6 W Q QP)
theorem F32.k7_a (C0 : KT) : aw Try.prog 22 W F32.pl (Code.at F32.code [1, 0]) (thenQ (C0) (Q)) QP s h = F32.t7 W QP s h C0 := by kernel_rfl
theorem F32.k7_ok : aw Try.prog 22 W F32.pl (Code.at F32.code [1]) (Q) QP s h = F32.k7 W Q QP s h := nd_seq (a := (Code.at F32.code [1, 0])) (b := (Code.at F32.code [1, 1])) (by kernel_rfl) (F32.o1 W Q QP) (F32.k7_a W Q QP s h (F32.k6 W Q QP))
def F32.t8 (s : St) (h : AH) (C0 : KT) : Prop :=
  eAlloc (some [.string ⟨#[]⟩, .int .i64 0]) 2 53 h fun t26 h27 =>
  C0 ⟨puts s.tm [(2, t26)], s.ds⟩ h27
def F32.k8 (W : Nat → Prop) (Q : Post) (QP : PPost) (s : St) (h : AH) : Prop := F32.t8 s h (F32.k7 W Q QP)
theorem F32.k8_a (C0 : KT) : aw Try.prog 22 W F32.pl (Code.at F32.code [0]) (thenQ (C0) (Q)) QP s h = F32.t8 s h C0 := by kernel_rfl
theorem F32.k8_ok : aw Try.prog 22 W F32.pl (Code.at F32.code []) (Q) QP s h = F32.k8 W Q QP s h := nd_seq (a := (Code.at F32.code [0])) (b := (Code.at F32.code [1])) (by kernel_rfl) (F32.k7_ok W Q QP) (F32.k8_a W Q QP s h (F32.k7 W Q QP))
end
theorem F32.calls {x0 : AV} {h : AH} {M : Nat → Prop} {R : AE → AH → Prop} (hp : F32.k8 (fun id => M id ∨ h.next ≤ id) (bodyQ Try.prog [.cell 2 53] R) (bodyP R) (s0 [x0]) h) : ACalls Try.prog 32 [x0] h M R :=
  acalls_of Try.mixed Try.func32 rfl (Nat.le_of_ble_eq_true rfl) F32.ok (by rw [show Try.f32.ntmps = 22 from rfl, show Try.f32.results.toList = [.cell 2 53] from rfl]; exact Eq.mpr (F32.k8_ok _ _ _ _ _) hp)
attribute [simp] F32.k1 F32.t1 F32.k2 F32.t2 F32.k3 F32.t3 F32.k4 F32.t4 F32.k5 F32.t5 F32.k6 F32.t6 F32.k7 F32.t7 F32.k8 F32.t8

/-! (*cubit/cubitref10.reader).body -/
section
variable (W : Nat → Prop) (Q : Post) (QP : PPost) (s : St) (h : AH)
noncomputable def F31.code : Code := Try.f31.body.getD .skip
def F31.g1 : Grps := [(none, [(0, false), (1, false), (2, false), (3, false), (4, false), (5, false)]), (some (5, true), [(6, false), (7, false), (8, false)]), (none, [(9, false)])]
def F31.g2 : Grps := [(none, [(0, false), (1, false), (2, false)]), (some (2, true), [(3, false), (4, false)]), (none, [(5, false)])]
def F31.pl : Plans := [(0, ⟨F31.g2, false, []⟩), (3, ⟨F31.g1, false, []⟩)]
theorem F31.ok : okCode F31.pl F31.code = true := by kernel_rfl
def F31.t1 (W : Nat → Prop) (Q : Post) (QP : PPost) (s : St) (h : AH) : Prop :=
  aCall Try.prog W 29 [(s.tm 0), (.sc (.string ⟨#[125]⟩))] h (fun t1 h2 =>
  Q .normal ⟨puts s.tm [(27, (s.tm 0)), (28, t1)], s.ds⟩ h2) (QP s.ds)
def F31.k1 (W : Nat → Prop) (Q : Post) (QP : PPost) (s : St) (h : AH) : Prop := F31.t1 W Q QP s h
theorem F31.k1_a : aw Try.prog 29 W F31.pl (Code.at F31.code [1, 1, 1]) (Q) QP s h = F31.t1 W Q QP s h := by kernel_rfl
theorem F31.k1_ok : aw Try.prog 29 W F31.pl (Code.at F31.code [1, 1, 1]) (Q) QP s h = F31.k1 W Q QP s h := (F31.k1_a W Q QP s h)
def F31.t2 (W : Nat → Prop) (Q : Post) (QP : PPost) (s : St) (h : AH) : Prop :=
  aCall Try.prog W 12 [(s.tm 0), (s.tm 1)] h (fun t3 h4 =>
  Q .normal ⟨puts s.tm [(24, (s.tm 0)), (25, (s.tm 1)), (26, t3)], s.ds⟩ h4) (QP s.ds)
def F31.k2 (W : Nat → Prop) (Q : Post) (QP : PPost) (s : St) (h : AH) : Prop := F31.t2 W Q QP s h
theorem F31.k2_a : aw Try.prog 29 W F31.pl (Code.at F31.code [1, 1, 0, 0, 0, 1, 0]) (blockQ 1 (Q)) QP s h = F31.t2 W Q QP s h := by kernel_rfl
theorem F31.k2_ok : aw Try.prog 29 W F31.pl (Code.at F31.code [1, 1, 0, 0, 0, 1, 0]) (blockQ 1 (Q)) QP s h = F31.k2 W Q QP s h := (F31.k2_a W Q QP s h)
theorem F31.o1 : aw Try.prog 29 W F31.pl (Code.at F31.code [1, 1, 0, 0, 0, 1]) (Q) QP s h = F31.k2 W Q QP s h := nd_block (a := (Code.at F31.code [1, 1, 0, 0, 0, 1, 0])) (by kernel_rfl) (F31.k2_ok W Q QP s h)
def F31.t3 (Q : Post) (s : St) (h : AH) (C0 : KT) : Prop :=
  aIf (s.tm 23) (
  C0 s h) (
  Q (.exit 0) s h)
def F31.k3 (W : Nat → Prop) (Q : Post) (QP : PPost) (s : St) (h : AH) : Prop := F31.t3 Q s h (F31.k2 W Q QP)
theorem F31.k3_a (C0 : KT) : aIf (aev s (.tmp 23)) (aw Try.prog 29 W F31.pl (Code.at F31.code [1, 1, 0, 0, 0, 0, 1, 0]) (thenQ (C0) (Q)) QP s h) (aw Try.prog 29 W F31.pl (Code.at F31.code [1, 1, 0, 0, 0, 0, 1, 1]) (thenQ (C0) (Q)) QP s h) = F31.t3 Q s h C0 := by kernel_rfl
theorem F31.k3_ok : aw Try.prog 29 W F31.pl (Code.at F31.code [1, 1, 0, 0, 0, 0, 1]) (thenQ (F31.k2 W Q QP) (Q)) QP s h = F31.k3 W Q QP s h := nd_cond (a := (Code.at F31.code [1, 1, 0, 0, 0, 0, 1, 0])) (b := (Code.at F31.code [1, 1, 0, 0, 0, 0, 1, 1])) (by kernel_rfl) rfl rfl (F31.k3_a W Q QP s h (F31.k2 W Q QP))
def F31.t4 (s : St) (h : AH) (C0 C1 : KT) : Prop :=
  pPick (s.tm 19) (s.tm 22) (.sc (.bool false)) fun t5 =>
  C1 ⟨puts s.tm [(23, t5)], s.ds⟩ h
def F31.k4 (W : Nat → Prop) (Q : Post) (QP : PPost) (s : St) (h : AH) : Prop := F31.t4 s h (F31.k2 W Q QP) (F31.k3 W Q QP)
theorem F31.k4_a (C0 C1 : KT) : evI Try.prog 29 (fun _ => W) nobody QP (regOps (Code.at F31.code [1, 1, 0, 0, 0, 0, 0])) (isAt F31.g1 2) ((thenQ (C1) (thenQ (C0) (Q))) .normal) s h = F31.t4 s h C0 C1 := by kernel_rfl
theorem F31.k4_ok : evG Try.prog 29 (fun _ => W) nobody QP (regOps (Code.at F31.code [1, 1, 0, 0, 0, 0, 0])) (F31.g1.drop 2) ((thenQ (F31.k3 W Q QP) (thenQ (F31.k2 W Q QP) (Q))) .normal) s h = F31.k4 W Q QP s h := nd_g (is := isAt F31.g1 2) (rest := F31.g1.drop 3) (by kernel_rfl) (fun _ _ => rfl) (F31.k4_a W Q QP s h (F31.k2 W Q QP) (F31.k3 W Q QP))
def F31.t5 (W : Nat → Prop) (QP : PPost) (s : St) (h : AH) (C0 : KT) : Prop :=
  aIg true (s.tm 19) (
  aCall Try.prog W 42 [(s.tm 0), (.sc (.string ⟨#[125]⟩))] h (fun t6 h7 =>
  pUn .not t6 fun t8 =>
  C0 ⟨puts s.tm [(20, (s.tm 0)), (21, t6), (22, t8)], s.ds⟩ h7) (QP s.ds)) (
  C0 ⟨puts s.tm [(20, noA), (21, noA), (22, noA)], s.ds⟩ h)
def F31.k5 (W : Nat → Prop) (Q : Post) (QP : PPost) (s : St) (h : AH) : Prop := F31.t5 W QP s h (F31.k4 W Q QP)
theorem F31.k5_a (C0 : KT) : aIg true (s.tm 19) (evI Try.prog 29 (fun _ => W) nobody QP (regOps (Code.at F31.code [1, 1, 0, 0, 0, 0, 0])) (isAt F31.g1 1) (C0) s h) ((C0) (skI 29 (regOps (Code.at F31.code [1, 1, 0, 0, 0, 0, 0])) (isAt F31.g1 1) s) h) = F31.t5 W QP s h C0 := by kernel_rfl
theorem F31.k5_ok : evG Try.prog 29 (fun _ => W) nobody QP (regOps (Code.at F31.code [1, 1, 0, 0, 0, 0, 0])) (F31.g1.drop 1) ((thenQ (F31.k3 W Q QP) (thenQ (F31.k2 W Q QP) (Q))) .normal) s h = F31.k5 W Q QP s h := nd_gw (j := 5) (is := isAt F31.g1 1) (rest := F31.g1.drop 2) (by kernel_rfl) (d := 19) (by kernel_rfl) (F31.k4_ok W Q QP) (F31.k5_a W QP s h (F31.k4 W Q QP))
def F31.t6 (s : St) (h : AH) (C0 : KT) : Prop :=
  pNil (s.tm 0) fun t9 =>
  pFld (some 3) t9 fun t10 =>
  lLd (some false) (some 1) t10 h fun t11 _ =>
  pBin Try.prog .eql 3 true t11 (.sc (.int .i64 0)) fun t13 =>
  C0 ⟨puts s.tm [(14, (s.tm 0)), (15, t9), (16, t10), (17, t11), (18, t13), (19, t13)], s.ds⟩ h
def F31.k6 (W : Nat → Prop) (Q : Post) (QP : PPost) (s : St) (h : AH) : Prop := F31.t6 s h (F31.k5 W Q QP)
theorem F31.k6_a (C0 : KT) : evI Try.prog 29 (fun _ => W) nobody QP (regOps (Code.at F31.code [1, 1, 0, 0, 0, 0, 0])) (isAt F31.g1 0) (C0) s h = F31.t6 s h C0 := by kernel_rfl
theorem F31.k6_ok : evG Try.prog 29 (fun _ => W) nobody QP (regOps (Code.at F31.code [1, 1, 0, 0, 0, 0, 0])) (F31.g1.drop 0) ((thenQ (F31.k3 W Q QP) (thenQ (F31.k2 W Q QP) (Q))) .normal) s h = F31.k6 W Q QP s h := nd_g (is := isAt F31.g1 0) (rest := F31.g1.drop 1) (by kernel_rfl) (F31.k5_ok W Q QP) (F31.k6_a W QP s h (F31.k5 W Q QP))
theorem F31.o2 : aw Try.prog 29 W F31.pl (Code.at F31.code [1, 1, 0, 0, 0, 0, 0]) (thenQ (F31.k3 W Q QP) (thenQ (F31.k2 W Q QP) (Q))) QP s h = F31.k6 W Q QP s h := nd_groups (id := 3) (draw := false) (ops := (regOps (Code.at F31.code [1, 1, 0, 0, 0, 0, 0]))) (gs := F31.g1.drop 0) (by kernel_rfl) (by kernel_rfl) (F31.k6_ok W Q QP s h)
theorem F31.o3 : aw Try.prog 29 W F31.pl (Code.at F31.code [1, 1, 0, 0, 0, 0]) (thenQ (F31.k2 W Q QP) (Q)) QP s h = F31.k6 W Q QP s h := nd_seq (a := (Code.at F31.code [1, 1, 0, 0, 0, 0, 0])) (b := (Code.at F31.code [1, 1, 0, 0, 0, 0, 1])) (by kernel_rfl) (F31.k3_ok W Q QP) (F31.o2 W Q QP s h)
theorem F31.o4 : aw Try.prog 29 W F31.pl (Code.at F31.code [1, 1, 0, 0, 0]) (Q) QP s h = F31.k6 W Q QP s h := nd_seq (a := (Code.at F31.code [1, 1, 0, 0, 0, 0])) (b := (Code.at F31.code [1, 1, 0, 0, 0, 1])) (by kernel_rfl) (F31.o1 W Q QP) (F31.o3 W Q QP s h)
noncomputable def F31.c1 : Code := (Code.at F31.code [1, 1, 0, 0, 0])
theorem F31.l1 : aw Try.prog 29 W F31.pl F31.c1 Q QP s h = F31.k6 W Q QP s h := F31.o4 W Q QP s h
def F31.k7 (W : Nat → Prop) (Q : Post) (QP : PPost) (s : St) (h : AH) : Prop := aLoop (aw Try.prog 29 W F31.pl F31.c1) (blockQ 0 (thenQ (F31.k1 W Q QP) (Q))) QP s h
theorem F31.k7_ok : aw Try.prog 29 W F31.pl (Code.at F31.code [1, 1, 0, 0]) (blockQ 0 (thenQ (F31.k1 W Q QP) (Q))) QP s h = F31.k7 W Q QP s h := nd_loop (a := F31.c1) (by kernel_rfl)
theorem F31.o5 : aw Try.prog 29 W F31.pl (Code.at F31.code [1, 1, 0]) (thenQ (F31.k1 W Q QP) (Q)) QP s h = F31.k7 W Q QP s h := nd_block (a := (Code.at F31.code [1, 1, 0, 0])) (by kernel_rfl) (F31.k7_ok W Q QP s h)
theorem F31.o6 : aw Try.prog 29 W F31.pl (Code.at F31.code [1, 1]) (Q) QP s h = F31.k7 W Q QP s h := nd_seq (a := (Code.at F31.code [1, 1, 0])) (b := (Code.at F31.code [1, 1, 1])) (by kernel_rfl) (F31.k1_ok W Q QP) (F31.o5 W Q QP s h)
def F31.t8 (W : Nat → Prop) (QP : PPost) (s : St) (h : AH) (C0 : KT) : Prop :=
  aCall Try.prog W 29 [(s.tm 0), (.sc (.string ⟨#[123]⟩))] h (fun t14 h15 =>
  C0 ⟨puts s.tm [(12, (s.tm 0)), (13, t14)], s.ds⟩ h15) (QP s.ds)
def F31.k8 (W : Nat → Prop) (Q : Post) (QP : PPost) (s : St) (h : AH) : Prop := F31.t8 W QP s h (F31.k7 W Q QP)
theorem F31.k8_a (C0 : KT) : aw Try.prog 29 W F31.pl (Code.at F31.code [1, 0]) (thenQ (C0) (Q)) QP s h = F31.t8 W QP s h C0 := by kernel_rfl
theorem F31.k8_ok : aw Try.prog 29 W F31.pl (Code.at F31.code [1]) (Q) QP s h = F31.k8 W Q QP s h := nd_seq (a := (Code.at F31.code [1, 0])) (b := (Code.at F31.code [1, 1])) (by kernel_rfl) (F31.o6 W Q QP) (F31.k8_a W Q QP s h (F31.k7 W Q QP))
def F31.t9 (W : Nat → Prop) (Q : Post) (QP : PPost) (s : St) (h : AH) (C0 : KT) : Prop :=
  aCall Try.prog W 25 [(s.tm 0), (.sc (.int .i64 102))] h (fun t16 h17 =>
  Q .ret ⟨puts s.tm [(10, (s.tm 0)), (11, t16)], s.ds⟩ h17) (QP s.ds)
def F31.k9 (W : Nat → Prop) (Q : Post) (QP : PPost) (s : St) (h : AH) : Prop := F31.t9 W Q QP s h (F31.k8 W Q QP)
theorem F31.k9_a (C0 : KT) : aw Try.prog 29 W F31.pl (Code.at F31.code [0, 1, 0, 0]) (thenQ (aw Try.prog 29 W F31.pl (Code.at F31.code [0, 1, 0, 1]) (thenQ (C0) (Q)) QP) (thenQ (C0) (Q))) QP s h = F31.t9 W Q QP s h C0 := by kernel_rfl
theorem F31.k9_ok : aw Try.prog 29 W F31.pl (Code.at F31.code [0, 1, 0]) (thenQ (F31.k8 W Q QP) (Q)) QP s h = F31.k9 W Q QP s h := nd_seq (a := (Code.at F31.code [0, 1, 0, 0])) (b := (Code.at F31.code [0, 1, 0, 1])) (by kernel_rfl) (fun _ _ => rfl) (F31.k9_a W Q QP s h (F31.k8 W Q QP))
def F31.t10 (s : St) (h : AH) (C0 C1 : KT) : Prop :=
  aIf (s.tm 9) (
  C1 s h) (
  C0 s h)
def F31.k10 (W : Nat → Prop) (Q : Post) (QP : PPost) (s : St) (h : AH) : Prop := F31.t10 s h (F31.k8 W Q QP) (F31.k9 W Q QP)
theorem F31.k10_a (C0 C1 : KT) : aIf (aev s (.tmp 9)) (C1 s h) (aw Try.prog 29 W F31.pl (Code.at F31.code [0, 1, 1]) (thenQ (C0) (Q)) QP s h) = F31.t10 s h C0 C1 := by kernel_rfl
theorem F31.k10_ok : aw Try.prog 29 W F31.pl (Code.at F31.code [0, 1]) (thenQ (F31.k8 W Q QP) (Q)) QP s h = F31.k10 W Q QP s h := nd_cond (a := (Code.at F31.code [0, 1, 0])) (b := (Code.at F31.code [0, 1, 1])) (by kernel_rfl) (F31.k9_ok W Q QP s h) rfl (F31.k10_a W Q QP s h (F31.k8 W Q QP) (F31.k9 W Q QP))
def F31.t11 (s : St) (h : AH) (C0 C1 : KT) : Prop :=
  pPick (s.tm 6) (s.tm 8) (.sc (.bool false)) fun t18 =>
  C0 ⟨puts s.tm [(9, t18)], s.ds⟩ h
def F31.k11 (W : Nat → Prop) (Q : Post) (QP : PPost) (s : St) (h : AH) : Prop := F31.t11 s h (F31.k10 W Q QP) (F31.k8 W Q QP)
theorem F31.k11_a (C0 C1 : KT) : evI Try.prog 29 (fun _ => W) nobody QP (regOps (Code.at F31.code [0, 0])) (isAt F31.g2 2) ((thenQ (C0) (thenQ (C1) (Q))) .normal) s h = F31.t11 s h C0 C1 := by kernel_rfl
theorem F31.k11_ok : evG Try.prog 29 (fun _ => W) nobody QP (regOps (Code.at F31.code [0, 0])) (F31.g2.drop 2) ((thenQ (F31.k10 W Q QP) (thenQ (F31.k8 W Q QP) (Q))) .normal) s h = F31.k11 W Q QP s h := nd_g (is := isAt F31.g2 2) (rest := F31.g2.drop 3) (by kernel_rfl) (fun _ _ => rfl) (F31.k11_a W Q QP s h (F31.k10 W Q QP) (F31.k8 W Q QP))
def F31.t12 (s : St) (h : AH) (C0 : KT) : Prop :=
  aIg true (s.tm 6) (
  pBin Try.prog .gtr 3 true (s.tm 1) (.sc (.int .i64 32)) fun t19 =>
  C0 ⟨puts s.tm [(7, (s.tm 1)), (8, t19)], s.ds⟩ h) (
  C0 ⟨puts s.tm [(7, noA), (8, noA)], s.ds⟩ h)
def F31.k12 (W : Nat → Prop) (Q : Post) (QP : PPost) (s : St) (h : AH) : Prop := F31.t12 s h (F31.k11 W Q QP)
theorem F31.k12_a (C0 : KT) : aIg true (s.tm 6) (evI Try.prog 29 (fun _ => W) nobody QP (regOps (Code.at F31.code [0, 0])) (isAt F31.g2 1) (C0) s h) ((C0) (skI 29 (regOps (Code.at F31.code [0, 0])) (isAt F31.g2 1) s) h) = F31.t12 s h C0 := by kernel_rfl
theorem F31.k12_ok : evG Try.prog 29 (fun _ => W) nobody QP (regOps (Code.at F31.code [0, 0])) (F31.g2.drop 1) ((thenQ (F31.k10 W Q QP) (thenQ (F31.k8 W Q QP) (Q))) .normal) s h = F31.k12 W Q QP s h := nd_gw (j := 2) (is := isAt F31.g2 1) (rest := F31.g2.drop 2) (by kernel_rfl) (d := 6) (by kernel_rfl) (F31.k11_ok W Q QP) (F31.k12_a W QP s h (F31.k11 W Q QP))
def F31.t13 (W : Nat → Prop) (QP : PPost) (s : St) (h : AH) (C0 : KT) : Prop :=
  aCall Try.prog W 42 [(s.tm 0), (.sc (.string ⟨#[123]⟩))] h (fun t20 h21 =>
  C0 ⟨puts s.tm [(4, (s.tm 0)), (5, t20), (6, t20)], s.ds⟩ h21) (QP s.ds)
def F31.k13 (W : Nat → Prop) (Q : Post) (QP : PPost) (s : St) (h : AH) : Prop := F31.t13 W QP s h (F31.k12 W Q QP)
theorem F31.k13_a (C0 : KT) : evI Try.prog 29 (fun _ => W) nobody QP (regOps (Code.at F31.code [0, 0])) (isAt F31.g2 0) (C0) s h = F31.t13 W QP s h C0 := by kernel_rfl
theorem F31.k13_ok : evG Try.prog 29 (fun _ => W) nobody QP (regOps (Code.at F31.code [0, 0])) (F31.g2.drop 0) ((thenQ (F31.k10 W Q QP) (thenQ (F31.k8 W Q QP) (Q))) .normal) s h = F31.k13 W Q QP s h := nd_g (is := isAt F31.g2 0) (rest := F31.g2.drop 1) (by kernel_rfl) (F31.k12_ok W Q QP) (F31.k13_a W QP s h (F31.k12 W Q QP))
theorem F31.o7 : aw Try.prog 29 W F31.pl (Code.at F31.code [0, 0]) (thenQ (F31.k10 W Q QP) (thenQ (F31.k8 W Q QP) (Q))) QP s h = F31.k13 W Q QP s h := nd_groups (id := 0) (draw := false) (ops := (regOps (Code.at F31.code [0, 0]))) (gs := F31.g2.drop 0) (by kernel_rfl) (by kernel_rfl) (F31.k13_ok W Q QP s h)
theorem F31.o8 : aw Try.prog 29 W F31.pl (Code.at F31.code [0]) (thenQ (F31.k8 W Q QP) (Q)) QP s h = F31.k13 W Q QP s h := nd_seq (a := (Code.at F31.code [0, 0])) (b := (Code.at F31.code [0, 1])) (by kernel_rfl) (F31.k10_ok W Q QP) (F31.o7 W Q QP s h)
theorem F31.o9 : aw Try.prog 29 W F31.pl (Code.at F31.code []) (Q) QP s h = F31.k13 W Q QP s h := nd_seq (a := (Code.at F31.code [0])) (b := (Code.at F31.code [1])) (by kernel_rfl) (F31.k8_ok W Q QP) (F31.o8 W Q QP s h)
end
theorem F31.calls {x0 x1 : AV} {h : AH} {M : Nat → Prop} {R : AE → AH → Prop} (hp : F31.k13 (fun id => M id ∨ h.next ≤ id) (bodyQ Try.prog [] R) (bodyP R) (s0 [x0, x1]) h) : ACalls Try.prog 31 [x0, x1] h M R :=
  acalls_of Try.mixed Try.func31 rfl (Nat.le_of_ble_eq_true rfl) F31.ok (by rw [show Try.f31.ntmps = 29 from rfl, show Try.f31.results.toList = [] from rfl]; exact Eq.mpr (F31.o9 _ _ _ _ _) hp)
attribute [simp] F31.k1 F31.t1 F31.k2 F31.t2 F31.k3 F31.t3 F31.k4 F31.t4 F31.k5 F31.t5 F31.k6 F31.t6 F31.k7 F31.k8 F31.t8 F31.k9 F31.t9 F31.k10 F31.t10 F31.k11 F31.t11 F31.k12 F31.t12 F31.k13 F31.t13

/-! (*cubit/cubitref10.reader).statement -/
section
variable (W : Nat → Prop) (Q : Post) (QP : PPost) (s : St) (h : AH)
noncomputable def F12.code : Code := Try.f12.body.getD .skip
def F12.g1 : Grps := [(none, [(0, false), (1, false), (2, false), (3, false), (4, false), (5, false), (6, false), (7, false), (8, false), (9, false), (10, false)]), (some (10, false), [(11, false), (12, false), (13, false), (14, false), (15, false), (16, false), (17, false), (18, false), (19, false), (20, false), (21, false), (22, false)]), (none, [(23, false)])]
def F12.pl : Plans := [(0, ⟨F12.g1, false, []⟩), (2, ⟨[(none, [(0, false), (1, false), (2, false), (3, false), (4, false), (5, false), (6, false), (7, false), (8, false), (9, false), (10, false), (11, false)])], false, []⟩), (8, ⟨[(none, [(0, false), (1, false), (2, false), (3, false), (4, false), (5, false), (6, false), (7, false), (8, false), (9, false), (10, false)])], false, []⟩), (23, ⟨[(none, [(0, false), (1, true), (2, false), (3, false), (4, false), (5, false), (6, false), (7, false), (8, false)])], true, []⟩), (42, ⟨[(none, [(0, false), (1, false), (2, false), (3, false), (4, false), (5, false), (6, false), (7, false)])], false, []⟩)]
theorem F12.ok : okCode F12.pl F12.code = true := by kernel_rfl
def F12.t1 (W : Nat → Prop) (Q : Post) (s : St) (h : AH) : Prop :=
  pNil (s.tm 0) fun t1 =>
  pFld (some 5) t1 fun t2 =>
  lLd (some false) (some 1) t2 h fun t3 _ =>
  lLd (some true) (some 6) (s.tm 6) h fun t5 _ =>
  pIxA (some (6, none)) t3 (s.tm 5) fun t7 =>
  eStore (some 6) t7 t5 h W fun h8 =>
  Q .normal ⟨puts s.tm [(176, (s.tm 0)), (177, t1), (178, t2), (179, t3), (180, (s.tm 5)), (181, t5), (182, t7)], s.ds⟩ h8
def F12.k1 (W : Nat → Prop) (Q : Post) (QP : PPost) (s : St) (h : AH) : Prop := F12.t1 W Q s h
theorem F12.k1_a : aw Try.prog 183 W F12.pl (Code.at F12.code [1, 1, 1, 1, 1, 1, 1, 1]) (Q) QP s h = F12.t1 W Q s h := by kernel_rfl
theorem F12.k1_ok : aw Try.prog 183 W F12.pl (Code.at F12.code [1, 1, 1, 1, 1, 1, 1, 1]) (Q) QP s h = F12.k1 W Q QP s h := (F12.k1_a W Q QP s h)
def F12.t2 (W : Nat → Prop) (s : St) (h : AH) (C0 : KT) : Prop :=
  pNil (s.tm 0) fun t9 =>
  pFld (some 5) t9 fun t10 =>
  lLd (some false) (some 1) t10 h fun t11 _ =>
  (strArg t11 = false) ∧ pLen t11 fun t13 =>
  pBin Try.prog .sub 3 false t13 (s.tm 5) fun t14 =>
  pBin Try.prog .sub 3 true t14 (.sc (.int .i64 1)) fun t15 =>
  pFld (some 4) (s.tm 6) fun t16 =>
  eStore (some 1) t16 t15 h W fun h17 =>
  C0 ⟨puts s.tm [(167, (s.tm 0)), (168, t9), (169, t10), (170, t11), (171, t13), (172, (s.tm 5)), (173, t14), (174, t15), (175, t16)], s.ds⟩ h17
def F12.k2 (W : Nat → Prop) (Q : Post) (QP : PPost) (s : St) (h : AH) : Prop := F12.t2 W s h (F12.k1 W Q QP)
theorem F12.k2_a (C0 : KT) : aw Try.prog 183 W F12.pl (Code.at F12.code [1, 1, 1, 1, 1, 1, 1, 0]) (thenQ (C0) (Q)) QP s h = F12.t2 W s h C0 := by kernel_rfl
theorem F12.k2_ok : aw Try.prog 183 W F12.pl (Code.at F12.code [1, 1, 1, 1, 1, 1, 1]) (Q) QP s h = F12.k2 W Q QP s h := nd_seq (a := (Code.at F12.code [1, 1, 1, 1, 1, 1, 1, 0])) (b := (Code.at F12.code [1, 1, 1, 1, 1, 1, 1, 1])) (by kernel_rfl) (F12.k1_ok W Q QP) (F12.k2_a W Q QP s h (F12.k1 W Q QP))
def F12.t3 (W : Nat → Prop) (QP : PPost) (s : St) (h : AH) (C0 : KT) : Prop :=
  aCall Try.prog W 29 [(s.tm 0), (.sc (.string ⟨#[59]⟩))] h (fun t18 h19 =>
  C0 ⟨puts s.tm [(104, (s.tm 0)), (105, t18)], s.ds⟩ h19) (QP s.ds)
def F12.k3 (W : Nat → Prop) (Q : Post) (QP : PPost) (s : St) (h : AH) : Prop := F12.t3 W QP s h (F12.k2 W Q QP)
theorem F12.k3_a (C0 : KT) : aw Try.prog 183 W F12.pl (Code.at F12.code [1, 1, 1, 1, 1, 1, 0, 1, 0, 1, 0, 1, 1]) (blockQ 0 (thenQ (C0) (Q))) QP s h = F12.t3 W QP s h C0 := by kernel_rfl
theorem F12.k3_ok : aw Try.prog 183 W F12.pl (Code.at F12.code [1, 1, 1, 1, 1, 1, 0, 1, 0, 1, 0, 1, 1]) (blockQ 0 (thenQ (F12.k2 W Q QP) (Q))) QP s h = F12.k3 W Q QP s h := (F12.k3_a W Q QP s h (F12.k2 W Q QP))
def F12.t4 (W : Nat → Prop) (QP : PPost) (s : St) (h : AH) (C0 C1 : KT) : Prop :=
  aCall Try.prog W 28 [(s.tm 0)] h (fun t20 h21 =>
  pFld (some 3) (s.tm 6) fun t22 =>
  eStore (some 1) t22 t20 h21 W fun h23 =>
  C1 ⟨puts s.tm [(101, (s.tm 0)), (102, t20), (103, t22)], s.ds⟩ h23) (QP s.ds)
def F12.k4 (W : Nat → Prop) (Q : Post) (QP : PPost) (s : St) (h : AH) : Prop := F12.t4 W QP s h (F12.k2 W Q QP) (F12.k3 W Q QP)
theorem F12.k4_a (C0 C1 : KT) : aw Try.prog 183 W F12.pl (Code.at F12.code [1, 1, 1, 1, 1, 1, 0, 1, 0, 1, 0, 1, 0]) (thenQ (C1) (blockQ 0 (thenQ (C0) (Q)))) QP s h = F12.t4 W QP s h C0 C1 := by kernel_rfl
theorem F12.k4_ok : aw Try.prog 183 W F12.pl (Code.at F12.code [1, 1, 1, 1, 1, 1, 0, 1, 0, 1, 0, 1]) (blockQ 0 (thenQ (F12.k2 W Q QP) (Q))) QP s h = F12.k4 W Q QP s h := nd_seq (a := (Code.at F12.code [1, 1, 1, 1, 1, 1, 0, 1, 0, 1, 0, 1, 0])) (b := (Code.at F12.code [1, 1, 1, 1, 1, 1, 0, 1, 0, 1, 0, 1, 1])) (by kernel_rfl) (F12.k3_ok W Q QP) (F12.k4_a W Q QP s h (F12.k2 W Q QP) (F12.k3 W Q QP))
def F12.t5 (W : Nat → Prop) (QP : PPost) (s : St) (h : AH) (C0 C1 : KT) : Prop :=
  aCall Try.prog W 27 [(s.tm 0)] h (fun t24 h25 =>
  pFld (some 1) (s.tm 6) fun t26 =>
  eStore (some 1) t26 t24 h25 W fun h27 =>
  C1 ⟨puts s.tm [(98, (s.tm 0)), (99, t24), (100, t26)], s.ds⟩ h27) (QP s.ds)
def F12.k5 (W : Nat → Prop) (Q : Post) (QP : PPost) (s : St) (h : AH) : Prop := F12.t5 W QP s h (F12.k2 W Q QP) (F12.k4 W Q QP)
theorem F12.k5_a (C0 C1 : KT) : aw Try.prog 183 W F12.pl (Code.at F12.code [1, 1, 1, 1, 1, 1, 0, 1, 0, 1, 0, 0]) (thenQ (C1) (blockQ 0 (thenQ (C0) (Q)))) QP s h = F12.t5 W QP s h C0 C1 := by kernel_rfl
theorem F12.k5_ok : aw Try.prog 183 W F12.pl (Code.at F12.code [1, 1, 1, 1, 1, 1, 0, 1, 0, 1, 0]) (blockQ 0 (thenQ (F12.k2 W Q QP) (Q))) QP s h = F12.k5 W Q QP s h := nd_seq (a := (Code.at F12.code [1, 1, 1, 1, 1, 1, 0, 1, 0, 1, 0, 0])) (b := (Code.at F12.code [1, 1, 1, 1, 1, 1, 0, 1, 0, 1, 0, 1])) (by kernel_rfl) (F12.k4_ok W Q QP) (F12.k5_a W Q QP s h (F12.k2 W Q QP) (F12.k4 W Q QP))
def F12.t6 (W : Nat → Prop) (QP : PPost) (s : St) (h : AH) (C0 : KT) : Prop :=
  pBin Try.prog .add 3 true (s.tm 1) (.sc (.int .i64 1)) fun t28 =>
  aCall Try.prog W 31 [(s.tm 0), t28] h (fun t29 h30 =>
  C0 ⟨puts s.tm [(121, (s.tm 0)), (122, (s.tm 1)), (123, t28), (124, t29)], s.ds⟩ h30) (QP s.ds)
def F12.k6 (W : Nat → Prop) (Q : Post) (QP : PPost) (s : St) (h : AH) : Prop := F12.t6 W QP s h (F12.k2 W Q QP)
theorem F12.k6_a (C0 : KT) : aw Try.prog 183 W F12.pl (Code.at F12.code [1, 1, 1, 1, 1, 1, 0, 1, 0, 1, 1, 1, 0, 1, 1]) (blockQ 0 (thenQ (C0) (Q))) QP s h = F12.t6 W QP s h C0 := by kernel_rfl
theorem F12.k6_ok : aw Try.prog 183 W F12.pl (Code.at F12.code [1, 1, 1, 1, 1, 1, 0, 1, 0, 1, 1, 1, 0, 1, 1]) (blockQ 0 (thenQ (F12.k2 W Q QP) (Q))) QP s h = F12.k6 W Q QP s h := (F12.k6_a W Q QP s h (F12.k2 W Q QP))
def F12.t7 (W : Nat → Prop) (Q : Post) (QP : PPost) (s : St) (h : AH) : Prop :=
  ∃ Hd : Nat → Nat, (∀ i ∈ [1], h.obj (Hd i) ≠ none) ∧ (
  pFld (some 2) (s.tm 6) fun t31 =>
  lLd (some false) (some 1) t31 h fun t32 i33 =>
  (i33 = Hd 1) ∧ (
  aCall Try.prog (banL W Hd [1]) 27 [(s.tm 0)] h (fun t34 h35 =>
  pBld (some ([.string ⟨#[]⟩, .int .i64 0], .inl [(0, 1), (1, 1)])) [(0, t34), (1, (.sc (.int .i64 (-1))))] fun t36 =>
  eBSl (some (2, 53, [.string ⟨#[]⟩, .int .i64 0])) 1 [(0, t36)] h35 fun t37 h38 =>
  eApp (some (2, 24, 53)) t32 t37 h38 W fun t39 h40 =>
  pFld (some 2) (s.tm 6) fun t41 =>
  eStore (some 1) t41 t39 h40 W fun h42 =>
  Q .normal ⟨puts s.tm [(113, t31), (114, t32), (115, (s.tm 0)), (116, t34), (117, t36), (118, t37), (119, t39), (120, t41)], s.ds⟩ h42) (QP s.ds)))
def F12.k7 (W : Nat → Prop) (Q : Post) (QP : PPost) (s : St) (h : AH) : Prop := F12.t7 W Q QP s h
theorem F12.k7_a : aw Try.prog 183 W F12.pl (Code.at F12.code [1, 1, 1, 1, 1, 1, 0, 1, 0, 1, 1, 1, 0, 1, 0, 0, 0, 1, 0]) (blockQ 4 (Q)) QP s h = F12.t7 W Q QP s h := by kernel_rfl
theorem F12.k7_ok : aw Try.prog 183 W F12.pl (Code.at F12.code [1, 1, 1, 1, 1, 1, 0, 1, 0, 1, 1, 1, 0, 1, 0, 0, 0, 1, 0]) (blockQ 4 (Q)) QP s h = F12.k7 W Q QP s h := (F12.k7_a W Q QP s h)
theorem F12.o1 : aw Try.prog 183 W F12.pl (Code.at F12.code [1, 1, 1, 1, 1, 1, 0, 1, 0, 1, 1, 1, 0, 1, 0, 0, 0, 1]) (Q) QP s h = F12.k7 W Q QP s h := nd_block (a := (Code.at F12.code [1, 1, 1, 1, 1, 1, 0, 1, 0, 1, 1, 1, 0, 1, 0, 0, 0, 1, 0])) (by kernel_rfl) (F12.k7_ok W Q QP s h)
def F12.t8 (Q : Post) (s : St) (h : AH) (C0 : KT) : Prop :=
  aIf (s.tm 112) (
  C0 s h) (
  Q (.exit 3) s h)
def F12.k8 (W : Nat → Prop) (Q : Post) (QP : PPost) (s : St) (h : AH) : Prop := F12.t8 Q s h (F12.k7 W Q QP)
theorem F12.k8_a (C0 : KT) : aIf (aev s (.tmp 112)) (aw Try.prog 183 W F12.pl (Code.at F12.code [1, 1, 1, 1, 1, 1, 0, 1, 0, 1, 1, 1, 0, 1, 0, 0, 0, 0, 1, 0]) (thenQ (C0) (Q)) QP s h) (aw Try.prog 183 W F12.pl (Code.at F12.code [1, 1, 1, 1, 1, 1, 0, 1, 0, 1, 1, 1, 0, 1, 0, 0, 0, 0, 1, 1]) (thenQ (C0) (Q)) QP s h) = F12.t8 Q s h C0 := by kernel_rfl
theorem F12.k8_ok : aw Try.prog 183 W F12.pl (Code.at F12.code [1, 1, 1, 1, 1, 1, 0, 1, 0, 1, 1, 1, 0, 1, 0, 0, 0, 0, 1]) (thenQ (F12.k7 W Q QP) (Q)) QP s h = F12.k8 W Q QP s h := nd_cond (a := (Code.at F12.code [1, 1, 1, 1, 1, 1, 0, 1, 0, 1, 1, 1, 0, 1, 0, 0, 0, 0, 1, 0])) (b := (Code.at F12.code [1, 1, 1, 1, 1, 1, 0, 1, 0, 1, 1, 1, 0, 1, 0, 0, 0, 0, 1, 1])) (by kernel_rfl) rfl rfl (F12.k8_a W Q QP s h (F12.k7 W Q QP))
def F12.t9 (W : Nat → Prop) (QP : PPost) (s : St) (h : AH) (C0 C1 : KT) : Prop :=
  aCall Try.prog W 30 [(s.tm 0)] h (fun t43 h44 =>
  C1 ⟨puts s.tm [(111, (s.tm 0)), (112, t43)], s.ds⟩ h44) (QP s.ds)
def F12.k9 (W : Nat → Prop) (Q : Post) (QP : PPost) (s : St) (h : AH) : Prop := F12.t9 W QP s h (F12.k7 W Q QP) (F12.k8 W Q QP)
theorem F12.k9_a (C0 C1 : KT) : aw Try.prog 183 W F12.pl (Code.at F12.code [1, 1, 1, 1, 1, 1, 0, 1, 0, 1, 1, 1, 0, 1, 0, 0, 0, 0, 0]) (thenQ (C1) (thenQ (C0) (Q))) QP s h = F12.t9 W QP s h C0 C1 := by kernel_rfl
theorem F12.k9_ok : aw Try.prog 183 W F12.pl (Code.at F12.code [1, 1, 1, 1, 1, 1, 0, 1, 0, 1, 1, 1, 0, 1, 0, 0, 0, 0]) (thenQ (F12.k7 W Q QP) (Q)) QP s h = F12.k9 W Q QP s h := nd_seq (a := (Code.at F12.code [1, 1, 1, 1, 1, 1, 0, 1, 0, 1, 1, 1, 0, 1, 0, 0, 0, 0, 0])) (b := (Code.at F12.code [1, 1, 1, 1, 1, 1, 0, 1, 0, 1, 1, 1, 0, 1, 0, 0, 0, 0, 1])) (by kernel_rfl) (F12.k8_ok W Q QP) (F12.k9_a W Q QP s h (F12.k7 W Q QP) (F12.k8 W Q QP))
theorem F12.o2 : aw Try.prog 183 W F12.pl (Code.at F12.code [1, 1, 1, 1, 1, 1, 0, 1, 0, 1, 1, 1, 0, 1, 0, 0, 0]) (Q) QP s h = F12.k9 W Q QP s h := nd_seq (a := (Code.at F12.code [1, 1, 1, 1, 1, 1, 0, 1, 0, 1, 1, 1, 0, 1, 0, 0, 0, 0])) (b := (Code.at F12.code [1, 1, 1, 1, 1, 1, 0, 1, 0, 1, 1, 1, 0, 1, 0, 0, 0, 1])) (by kernel_rfl) (F12.o1 W Q QP) (F12.k9_ok W Q QP s h)
noncomputable def F12.c1 : Code := (Code.at F12.code [1, 1, 1, 1, 1, 1, 0, 1, 0, 1, 1, 1, 0, 1, 0, 0, 0])
theorem F12.l1 : aw Try.prog 183 W F12.pl F12.c1 Q QP s h = F12.k9 W Q QP s h := F12.o2 W Q QP s h
def F12.k10 (W : Nat → Prop) (Q : Post) (QP : PPost) (s : St) (h : AH) : Prop := aLoop (aw Try.prog 183 W F12.pl F12.c1) (blockQ 3 (thenQ (F12.k6 W Q QP) (blockQ 0 (thenQ (F12.k2 W Q QP) (Q))))) QP s h
theorem F12.k10_ok : aw Try.prog 183 W F12.pl (Code.at F12.code [1, 1, 1, 1, 1, 1, 0, 1, 0, 1, 1, 1, 0, 1, 0, 0]) (blockQ 3 (thenQ (F12.k6 W Q QP) (blockQ 0 (thenQ (F12.k2 W Q QP) (Q))))) QP s h = F12.k10 W Q QP s h := nd_loop (a := F12.c1) (by kernel_rfl)
theorem F12.o3 : aw Try.prog 183 W F12.pl (Code.at F12.code [1, 1, 1, 1, 1, 1, 0, 1, 0, 1, 1, 1, 0, 1, 0]) (thenQ (F12.k6 W Q QP) (blockQ 0 (thenQ (F12.k2 W Q QP) (Q)))) QP s h = F12.k10 W Q QP s h := nd_block (a := (Code.at F12.code [1, 1, 1, 1, 1, 1, 0, 1, 0, 1, 1, 1, 0, 1, 0, 0])) (by kernel_rfl) (F12.k10_ok W Q QP s h)
theorem F12.o4 : aw Try.prog 183 W F12.pl (Code.at F12.code [1, 1, 1, 1, 1, 1, 0, 1, 0, 1, 1, 1, 0, 1]) (blockQ 0 (thenQ (F12.k2 W Q QP) (Q))) QP s h = F12.k10 W Q QP s h := nd_seq (a := (Code.at F12.code [1, 1, 1, 1, 1, 1, 0, 1, 0, 1, 1, 1, 0, 1, 0])) (b := (Code.at F12.code [1, 1, 1, 1, 1, 1, 0, 1, 0, 1, 1, 1, 0, 1, 1])) (by kernel_rfl) (F12.k6_ok W Q QP) (F12.o3 W Q QP s h)
def F12.t11 (W : Nat → Prop) (QP : PPost) (s : St) (h : AH) (C0 C1 : KT) : Prop :=
  aCall Try.prog W 27 [(s.tm 0)] h (fun t45 h46 =>
  pFld (some 1) (s.tm 6) fun t47 =>
  eStore (some 1) t47 t45 h46 W fun h48 =>
  C0 ⟨puts s.tm [(108, (s.tm 0)), (109, t45), (110, t47)], s.ds⟩ h48) (QP s.ds)
def F12.k11 (W : Nat → Prop) (Q : Post) (QP : PPost) (s : St) (h : AH) : Prop := F12.t11 W QP s h (F12.k10 W Q QP) (F12.k2 W Q QP)
theorem F12.k11_a (C0 C1 : KT) : aw Try.prog 183 W F12.pl (Code.at F12.code [1, 1, 1, 1, 1, 1, 0, 1, 0, 1, 1, 1, 0, 0]) (thenQ (C0) (blockQ 0 (thenQ (C1) (Q)))) QP s h = F12.t11 W QP s h C0 C1 := by kernel_rfl
theorem F12.k11_ok : aw Try.prog 183 W F12.pl (Code.at F12.code [1, 1, 1, 1, 1, 1, 0, 1, 0, 1, 1, 1, 0]) (blockQ 0 (thenQ (F12.k2 W Q QP) (Q))) QP s h = F12.k11 W Q QP s h := nd_seq (a := (Code.at F12.code [1, 1, 1, 1, 1, 1, 0, 1, 0, 1, 1, 1, 0, 0])) (b := (Code.at F12.code [1, 1, 1, 1, 1, 1, 0, 1, 0, 1, 1, 1, 0, 1])) (by kernel_rfl) (F12.o4 W Q QP) (F12.k11_a W Q QP s h (F12.k10 W Q QP) (F12.k2 W Q QP))
def F12.t12 (W : Nat → Prop) (QP : PPost) (s : St) (h : AH) (C0 : KT) : Prop :=
  pBin Try.prog .add 3 true (s.tm 1) (.sc (.int .i64 1)) fun t49 =>
  aCall Try.prog W 31 [(s.tm 0), t49] h (fun t50 h51 =>
  C0 ⟨puts s.tm [(130, (s.tm 0)), (131, (s.tm 1)), (132, t49), (133, t50)], s.ds⟩ h51) (QP s.ds)
def F12.k12 (W : Nat → Prop) (Q : Post) (QP : PPost) (s : St) (h : AH) : Prop := F12.t12 W QP s h (F12.k2 W Q QP)
theorem F12.k12_a (C0 : KT) : aw Try.prog 183 W F12.pl (Code.at F12.code [1, 1, 1, 1, 1, 1, 0, 1, 0, 1, 1, 1, 1, 1, 0, 1]) (blockQ 0 (thenQ (C0) (Q))) QP s h = F12.t12 W QP s h C0 := by kernel_rfl
theorem F12.k12_ok : aw Try.prog 183 W F12.pl (Code.at F12.code [1, 1, 1, 1, 1, 1, 0, 1, 0, 1, 1, 1, 1, 1, 0, 1]) (blockQ 0 (thenQ (F12.k2 W Q QP) (Q))) QP s h = F12.k12 W Q QP s h := (F12.k12_a W Q QP s h (F12.k2 W Q QP))
def F12.t13 (W : Nat → Prop) (QP : PPost) (s : St) (h : AH) (C0 C1 : KT) : Prop :=
  aCall Try.prog W 28 [(s.tm 0)] h (fun t52 h53 =>
  pFld (some 3) (s.tm 6) fun t54 =>
  eStore (some 1) t54 t52 h53 W fun h55 =>
  C0 ⟨puts s.tm [(127, (s.tm 0)), (128, t52), (129, t54)], s.ds⟩ h55) (QP s.ds)
def F12.k13 (W : Nat → Prop) (Q : Post) (QP : PPost) (s : St) (h : AH) : Prop := F12.t13 W QP s h (F12.k12 W Q QP) (F12.k2 W Q QP)
theorem F12.k13_a (C0 C1 : KT) : aw Try.prog 183 W F12.pl (Code.at F12.code [1, 1, 1, 1, 1, 1, 0, 1, 0, 1, 1, 1, 1, 1, 0, 0]) (thenQ (C0) (blockQ 0 (thenQ (C1) (Q)))) QP s h = F12.t13 W QP s h C0 C1 := by kernel_rfl
theorem F12.k13_ok : aw Try.prog 183 W F12.pl (Code.at F12.code [1, 1, 1, 1, 1, 1, 0, 1, 0, 1, 1, 1, 1, 1, 0]) (blockQ 0 (thenQ (F12.k2 W Q QP) (Q))) QP s h = F12.k13 W Q QP s h := nd_seq (a := (Code.at F12.code [1, 1, 1, 1, 1, 1, 0, 1, 0, 1, 1, 1, 1, 1, 0, 0])) (b := (Code.at F12.code [1, 1, 1, 1, 1, 1, 0, 1, 0, 1, 1, 1, 1, 1, 0, 1])) (by kernel_rfl) (F12.k12_ok W Q QP) (F12.k13_a W Q QP s h (F12.k12 W Q QP) (F12.k2 W Q QP))
def F12.t14 (W : Nat → Prop) (QP : PPost) (s : St) (h : AH) (C0 : KT) : Prop :=
  pBin Try.prog .add 3 true (s.tm 1) (.sc (.int .i64 1)) fun t56 =>
  aCall Try.prog W 31 [(s.tm 0), t56] h (fun t57 h58 =>
  C0 ⟨puts s.tm [(142, (s.tm 0)), (143, (s.tm 1)), (144, t56), (145, t57)], s.ds⟩ h58) (QP s.ds)
def F12.k14 (W : Nat → Prop) (Q : Post) (QP : PPost) (s : St) (h : AH) : Prop := F12.t14 W QP s h (F12.k2 W Q QP)
theorem F12.k14_a (C0 : KT) : aw Try.prog 183 W F12.pl (Code.at F12.code [1, 1, 1, 1, 1, 1, 0, 1, 0, 1, 1, 1, 1, 1, 1, 1, 0, 1, 1]) (blockQ 0 (thenQ (C0) (Q))) QP s h = F12.t14 W QP s h C0 := by kernel_rfl
theorem F12.k14_ok : aw Try.prog 183 W F12.pl (Code.at F12.code [1, 1, 1, 1, 1, 1, 0, 1, 0, 1, 1, 1, 1, 1, 1, 1, 0, 1, 1]) (blockQ 0 (thenQ (F12.k2 W Q QP) (Q))) QP s h = F12.k14 W Q QP s h := (F12.k14_a W Q QP s h (F12.k2 W Q QP))
def F12.t15 (W : Nat → Prop) (QP : PPost) (s : St) (h : AH) (C0 C1 : KT) : Prop :=
  aCall Try.prog W 28 [(s.tm 0)] h (fun t59 h60 =>
  pFld (some 3) (s.tm 6) fun t61 =>
  eStore (some 1) t61 t59 h60 W fun h62 =>
  C0 ⟨puts s.tm [(139, (s.tm 0)), (140, t59), (141, t61)], s.ds⟩ h62) (QP s.ds)
def F12.k15 (W : Nat → Prop) (Q : Post) (QP : PPost) (s : St) (h : AH) : Prop := F12.t15 W QP s h (F12.k14 W Q QP) (F12.k2 W Q QP)
theorem F12.k15_a (C0 C1 : KT) : aw Try.prog 183 W F12.pl (Code.at F12.code [1, 1, 1, 1, 1, 1, 0, 1, 0, 1, 1, 1, 1, 1, 1, 1, 0, 1, 0]) (thenQ (C0) (blockQ 0 (thenQ (C1) (Q)))) QP s h = F12.t15 W QP s h C0 C1 := by kernel_rfl
theorem F12.k15_ok : aw Try.prog 183 W F12.pl (Code.at F12.code [1, 1, 1, 1, 1, 1, 0, 1, 0, 1, 1, 1, 1, 1, 1, 1, 0, 1]) (blockQ 0 (thenQ (F12.k2 W Q QP) (Q))) QP s h = F12.k15 W Q QP s h := nd_seq (a := (Code.at F12.code [1, 1, 1, 1, 1, 1, 0, 1, 0, 1, 1, 1, 1, 1, 1, 1, 0, 1, 0])) (b := (Code.at F12.code [1, 1, 1, 1, 1, 1, 0, 1, 0, 1, 1, 1, 1, 1, 1, 1, 0, 1, 1])) (by kernel_rfl) (F12.k14_ok W Q QP) (F12.k15_a W Q QP s h (F12.k14 W Q QP) (F12.k2 W Q QP))
def F12.t16 (W : Nat → Prop) (QP : PPost) (s : St) (h : AH) (C0 C1 : KT) : Prop :=
  aCall Try.prog W 27 [(s.tm 0)] h (fun t63 h64 =>
  pFld (some 1) (s.tm 6) fun t65 =>
  eStore (some 1) t65 t63 h64 W fun h66 =>
  C0 ⟨puts s.tm [(136, (s.tm 0)), (137, t63), (138, t65)], s.ds⟩ h66) (QP s.ds)
def F12.k16 (W : Nat → Prop) (Q : Post) (QP : PPost) (s : St) (h : AH) : Prop := F12.t16 W QP s h (F12.k15 W Q QP) (F12.k2 W Q QP)
theorem F12.k16_a (C0 C1 : KT) : aw Try.prog 183 W F12.pl (Code.at F12.code [1, 1, 1, 1, 1, 1, 0, 1, 0, 1, 1, 1, 1, 1, 1, 1, 0, 0]) (thenQ (C0) (blockQ 0 (thenQ (C1) (Q)))) QP s h = F12.t16 W QP s h C0 C1 := by kernel_rfl
theorem F12.k16_ok : aw Try.prog 183 W F12.pl (Code.at F12.code [1, 1, 1, 1, 1, 1, 0, 1, 0, 1, 1, 1, 1, 1, 1, 1, 0]) (blockQ 0 (thenQ (F12.k2 W Q QP) (Q))) QP s h = F12.k16 W Q QP s h := nd_seq (a := (Code.at F12.code [1, 1, 1, 1, 1, 1, 0, 1, 0, 1, 1, 1, 1, 1, 1, 1, 0, 0])) (b := (Code.at F12.code [1, 1, 1, 1, 1, 1, 0, 1, 0, 1, 1, 1, 1, 1, 1, 1, 0, 1])) (by kernel_rfl) (F12.k15_ok W Q QP) (F12.k16_a W Q QP s h (F12.k15 W Q QP) (F12.k2 W Q QP))
def F12.t17 (W : Nat → Prop) (QP : PPost) (s : St) (h : AH) (C0 : KT) : Prop :=
  aCall Try.prog W 29 [(s.tm 0), (.sc (.string ⟨#[59]⟩))] h (fun t67 h68 =>
  C0 ⟨puts s.tm [(156, (s.tm 0)), (157, t67)], s.ds⟩ h68) (QP s.ds)
def F12.k17 (W : Nat → Prop) (Q : Post) (QP : PPost) (s : St) (h : AH) : Prop := F12.t17 W QP s h (F12.k2 W Q QP)
theorem F12.k17_a (C0 : KT) : aw Try.prog 183 W F12.pl (Code.at F12.code [1, 1, 1, 1, 1, 1, 0, 1, 0, 1, 1, 1, 1, 1, 1, 1, 1, 1, 0, 1, 1, 1]) (blockQ 0 (thenQ (C0) (Q))) QP s h = F12.t17 W QP s h C0 := by kernel_rfl
theorem F12.k17_ok : aw Try.prog 183 W F12.pl (Code.at F12.code [1, 1, 1, 1, 1, 1, 0, 1, 0, 1, 1, 1, 1, 1, 1, 1, 1, 1, 0, 1, 1, 1]) (blockQ 0 (thenQ (F12.k2 W Q QP) (Q))) QP s h = F12.k17 W Q QP s h := (F12.k17_a W Q QP s h (F12.k2 W Q QP))
def F12.t18 (W : Nat → Prop) (s : St) (h : AH) (C0 C1 : KT) : Prop :=
  lLd (some true) (some 2) (s.tm 7) h fun t69 _ =>
  lLd (some true) (some 2) (s.tm 8) h fun t71 _ =>
  eBSl (some (2, 53, [.string ⟨#[]⟩, .int .i64 0, .string ⟨#[]⟩, .int .i64 0])) 2 [(0, t69), (1, t71)] h fun t73 h74 =>
  pFld (some 2) (s.tm 6) fun t75 =>
  eStore (some 1) t75 t73 h74 W fun h76 =>
  C0 ⟨puts s.tm [(152, t69), (153, t71), (154, t73), (155, t75)], s.ds⟩ h76
def F12.k18 (W : Nat → Prop) (Q : Post) (QP : PPost) (s : St) (h : AH) : Prop := F12.t18 W s h (F12.k17 W Q QP) (F12.k2 W Q QP)
theorem F12.k18_a (C0 C1 : KT) : aw Try.prog 183 W F12.pl (Code.at F12.code [1, 1, 1, 1, 1, 1, 0, 1, 0, 1, 1, 1, 1, 1, 1, 1, 1, 1, 0, 1, 1, 0]) (thenQ (C0) (blockQ 0 (thenQ (C1) (Q)))) QP s h = F12.t18 W s h C0 C1 := by kernel_rfl
theorem F12.k18_ok : aw Try.prog 183 W F12.pl (Code.at F12.code [1, 1, 1, 1, 1, 1, 0, 1, 0, 1, 1, 1, 1, 1, 1, 1, 1, 1, 0, 1, 1]) (blockQ 0 (thenQ (F12.k2 W Q QP) (Q))) QP s h = F12.k18 W Q QP s h := nd_seq (a := (Code.at F12.code [1, 1, 1, 1, 1, 1, 0, 1, 0, 1, 1, 1, 1, 1, 1, 1, 1, 1, 0, 1, 1, 0])) (b := (Code.at F12.code [1, 1, 1, 1, 1, 1, 0, 1, 0, 1, 1, 1, 1, 1, 1, 1, 1, 1, 0, 1, 1, 1])) (by kernel_rfl) (F12.k17_ok W Q QP) (F12.k18_a W Q QP s h (F12.k17 W Q QP) (F12.k2 W Q QP))
def F12.t19 (W : Nat → Prop) (QP : PPost) (s : St) (h : AH) (C0 C1 : KT) : Prop :=
  aCall Try.prog W 32 [(s.tm 0)] h (fun t77 h78 =>
  eAlloc (some [.string ⟨#[]⟩, .int .i64 0]) 2 53 h78 fun t79 h80 =>
  eStore (some 2) t79 t77 h80 W fun h81 =>
  C0 ⟨puts s.tm [(150, (s.tm 0)), (151, t77), (8, t79)], s.ds⟩ h81) (QP s.ds)
def F12.k19 (W : Nat → Prop) (Q : Post) (QP : PPost) (s : St) (h : AH) : Prop := F12.t19 W QP s h (F12.k18 W Q QP) (F12.k2 W Q QP)
theorem F12.k19_a (C0 C1 : KT) : aw Try.prog 183 W F12.pl (Code.at F12.code [1, 1, 1, 1, 1, 1, 0, 1, 0, 1, 1, 1, 1, 1, 1, 1, 1, 1, 0, 1, 0]) (thenQ (C0) (blockQ 0 (thenQ (C1) (Q)))) QP s h = F12.t19 W QP s h C0 C1 := by kernel_rfl
theorem F12.k19_ok : aw Try.prog 183 W F12.pl (Code.at F12.code [1, 1, 1, 1, 1, 1, 0, 1, 0, 1, 1, 1, 1, 1, 1, 1, 1, 1, 0, 1]) (blockQ 0 (thenQ (F12.k2 W Q QP) (Q))) QP s h = F12.k19 W Q QP s h := nd_seq (a := (Code.at F12.code [1, 1, 1, 1, 1, 1, 0, 1, 0, 1, 1, 1, 1, 1, 1, 1, 1, 1, 0, 1, 0])) (b := (Code.at F12.code [1, 1, 1, 1, 1, 1, 0, 1, 0, 1, 1, 1, 1, 1, 1, 1, 1, 1, 0, 1, 1])) (by kernel_rfl) (F12.k18_ok W Q QP) (F12.k19_a W Q QP s h (F12.k18 W Q QP) (F12.k2 W Q QP))
def F12.t20 (W : Nat → Prop) (QP : PPost) (s : St) (h : AH) (C0 C1 : KT) : Prop :=
  aCall Try.prog W 32 [(s.tm 0)] h (fun t82 h83 =>
  eAlloc (some [.string ⟨#[]⟩, .int .i64 0]) 2 53 h83 fun t84 h85 =>
  eStore (some 2) t84 t82 h85 W fun h86 =>
  C0 ⟨puts s.tm [(148, (s.tm 0)), (149, t82), (7, t84)], s.ds⟩ h86) (QP s.ds)
def F12.k20 (W : Nat → Prop) (Q : Post) (QP : PPost) (s : St) (h : AH) : Prop := F12.t20 W QP s h (F12.k19 W Q QP) (F12.k2 W Q QP)
theorem F12.k20_a (C0 C1 : KT) : aw Try.prog 183 W F12.pl (Code.at F12.code [1, 1, 1, 1, 1, 1, 0, 1, 0, 1, 1, 1, 1, 1, 1, 1, 1, 1, 0, 0]) (thenQ (C0) (blockQ 0 (thenQ (C1) (Q)))) QP s h = F12.t20 W QP s h C0 C1 := by kernel_rfl
theorem F12.k20_ok : aw Try.prog 183 W F12.pl (Code.at F12.code [1, 1, 1, 1, 1, 1, 0, 1, 0, 1, 1, 1, 1, 1, 1, 1, 1, 1, 0]) (blockQ 0 (thenQ (F12.k2 W Q QP) (Q))) QP s h = F12.k20 W Q QP s h := nd_seq (a := (Code.at F12.code [1, 1, 1, 1, 1, 1, 0, 1, 0, 1, 1, 1, 1, 1, 1, 1, 1, 1, 0, 0])) (b := (Code.at F12.code [1, 1, 1, 1, 1, 1, 0, 1, 0, 1, 1, 1, 1, 1, 1, 1, 1, 1, 0, 1])) (by kernel_rfl) (F12.k19_ok W Q QP) (F12.k20_a W Q QP s h (F12.k19 W Q QP) (F12.k2 W Q QP))
def F12.t21 (W : Nat → Prop) (QP : PPost) (s : St) (h : AH) (C0 : KT) : Prop :=
  aCall Try.prog W 29 [(s.tm 0), (.sc (.string ⟨#[59]⟩))] h (fun t87 h88 =>
  C0 ⟨puts s.tm [(165, (s.tm 0)), (166, t87)], s.ds⟩ h88) (QP s.ds)
def F12.k21 (W : Nat → Prop) (Q : Post) (QP : PPost) (s : St) (h : AH) : Prop := F12.t21 W QP s h (F12.k2 W Q QP)
theorem F12.k21_a (C0 : KT) : aw Try.prog 183 W F12.pl (Code.at F12.code [1, 1, 1, 1, 1, 1, 0, 1, 0, 1, 1, 1, 1, 1, 1, 1, 1, 1, 1, 1, 0, 1, 1]) (blockQ 0 (thenQ (C0) (Q))) QP s h = F12.t21 W QP s h C0 := by kernel_rfl
theorem F12.k21_ok : aw Try.prog 183 W F12.pl (Code.at F12.code [1, 1, 1, 1, 1, 1, 0, 1, 0, 1, 1, 1, 1, 1, 1, 1, 1, 1, 1, 1, 0, 1, 1]) (blockQ 0 (thenQ (F12.k2 W Q QP) (Q))) QP s h = F12.k21 W Q QP s h := (F12.k21_a W Q QP s h (F12.k2 W Q QP))
def F12.t22 (W : Nat → Prop) (s : St) (h : AH) (C0 C1 : KT) : Prop :=
  lLd (some true) (some 2) (s.tm 9) h fun t89 _ =>
  eBSl (some (2, 53, [.string ⟨#[]⟩, .int .i64 0])) 1 [(0, t89)] h fun t91 h92 =>
  pFld (some 2) (s.tm 6) fun t93 =>
  eStore (some 1) t93 t91 h92 W fun h94 =>
  C1 ⟨puts s.tm [(162, t89), (163, t91), (164, t93)], s.ds⟩ h94
def F12.k22 (W : Nat → Prop) (Q : Post) (QP : PPost) (s : St) (h : AH) : Prop := F12.t22 W s h (F12.k2 W Q QP) (F12.k21 W Q QP)
theorem F12.k22_a (C0 C1 : KT) : aw Try.prog 183 W F12.pl (Code.at F12.code [1, 1, 1, 1, 1, 1, 0, 1, 0, 1, 1, 1, 1, 1, 1, 1, 1, 1, 1, 1, 0, 1, 0]) (thenQ (C1) (blockQ 0 (thenQ (C0) (Q)))) QP s h = F12.t22 W s h C0 C1 := by kernel_rfl
theorem F12.k22_ok : aw Try.prog 183 W F12.pl (Code.at F12.code [1, 1, 1, 1, 1, 1, 0, 1, 0, 1, 1, 1, 1, 1, 1, 1, 1, 1, 1, 1, 0, 1]) (blockQ 0 (thenQ (F12.k2 W Q QP) (Q))) QP s h = F12.k22 W Q QP s h := nd_seq (a := (Code.at F12.code [1, 1, 1, 1, 1, 1, 0, 1, 0, 1, 1, 1, 1, 1, 1, 1, 1, 1, 1, 1, 0, 1, 0])) (b := (Code.at F12.code [1, 1, 1, 1, 1, 1, 0, 1, 0, 1, 1, 1, 1, 1, 1, 1, 1, 1, 1, 1, 0, 1, 1])) (by kernel_rfl) (F12.k21_ok W Q QP) (F12.k22_a W Q QP s h (F12.k2 W Q QP) (F12.k21 W Q QP))
def F12.t23 (W : Nat → Prop) (QP : PPost) (s : St) (h : AH) (C0 C1 : KT) : Prop :=
  aCall Try.prog W 32 [(s.tm 0)] h (fun t95 h96 =>
  eAlloc (some [.string ⟨#[]⟩, .int .i64 0]) 2 53 h96 fun t97 h98 =>
  eStore (some 2) t97 t95 h98 W fun h99 =>
  C1 ⟨puts s.tm [(160, (s.tm 0)), (161, t95), (9, t97)], s.ds⟩ h99) (QP s.ds)
def F12.k23 (W : Nat → Prop) (Q : Post) (QP : PPost) (s : St) (h : AH) : Prop := F12.t23 W QP s h (F12.k2 W Q QP) (F12.k22 W Q QP)
theorem F12.k23_a (C0 C1 : KT) : aw Try.prog 183 W F12.pl (Code.at F12.code [1, 1, 1, 1, 1, 1, 0, 1, 0, 1, 1, 1, 1, 1, 1, 1, 1, 1, 1, 1, 0, 0]) (thenQ (C1) (blockQ 0 (thenQ (C0) (Q)))) QP s h = F12.t23 W QP s h C0 C1 := by kernel_rfl
theorem F12.k23_ok : aw Try.prog 183 W F12.pl (Code.at F12.code [1, 1, 1, 1, 1, 1, 0, 1, 0, 1, 1, 1, 1, 1, 1, 1, 1, 1, 1, 1, 0]) (blockQ 0 (thenQ (F12.k2 W Q QP) (Q))) QP s h = F12.k23 W Q QP s h := nd_seq (a := (Code.at F12.code [1, 1, 1, 1, 1, 1, 0, 1, 0, 1, 1, 1, 1, 1, 1, 1, 1, 1, 1, 1, 0, 0])) (b := (Code.at F12.code [1, 1, 1, 1, 1, 1, 0, 1, 0, 1, 1, 1, 1, 1, 1, 1, 1, 1, 1, 1, 0, 1])) (by kernel_rfl) (F12.k22_ok W Q QP) (F12.k23_a W Q QP s h (F12.k2 W Q QP) (F12.k22 W Q QP))
def F12.t24 (W : Nat → Prop) (QP : PPost) (s : St) (h : AH) (C0 : KT) : Prop :=
  aCall Try.prog W 29 [(s.tm 0), (.sc (.string ⟨#[59]⟩))] h (fun t100 h101 =>
  C0 ⟨puts s.tm [(93, (s.tm 0)), (94, t100)], s.ds⟩ h101) (QP s.ds)
def F12.k24 (W : Nat → Prop) (Q : Post) (QP : PPost) (s : St) (h : AH) : Prop := F12.t24 W QP s h (F12.k2 W Q QP)
theorem F12.k24_a (C0 : KT) : aw Try.prog 183 W F12.pl (Code.at F12.code [1, 1, 1, 1, 1, 1, 0, 1, 0, 1, 1, 1, 1, 1, 1, 1, 1, 1, 1, 1, 1, 1, 1]) (blockQ 0 (thenQ (C0) (Q))) QP s h = F12.t24 W QP s h C0 := by kernel_rfl
theorem F12.k24_ok : aw Try.prog 183 W F12.pl (Code.at F12.code [1, 1, 1, 1, 1, 1, 0, 1, 0, 1, 1, 1, 1, 1, 1, 1, 1, 1, 1, 1, 1, 1, 1]) (blockQ 0 (thenQ (F12.k2 W Q QP) (Q))) QP s h = F12.k24 W Q QP s h := (F12.k24_a W Q QP s h (F12.k2 W Q QP))
def F12.t25 (W : Nat → Prop) (Q : Post) (s : St) (h : AH) : Prop :=
  pFld (some 2) (s.tm 6) fun t102 =>
  lLd (some false) (some 1) t102 h fun t103 _ =>
  lLd (some true) (some 2) (s.tm 10) h fun t105 _ =>
  eBSl (some (2, 53, [.string ⟨#[]⟩, .int .i64 0])) 1 [(0, t105)] h fun t107 h108 =>
  eApp (some (2, 24, 53)) t103 t107 h108 W fun t109 h110 =>
  pFld (some 2) (s.tm 6) fun t111 =>
  eStore (some 1) t111 t109 h110 W fun h112 =>
  Q .normal ⟨puts s.tm [(87, t102), (88, t103), (89, t105), (90, t107), (91, t109), (92, t111)], s.ds⟩ h112
def F12.k25 (W : Nat → Prop) (Q : Post) (QP : PPost) (s : St) (h : AH) : Prop := F12.t25 W Q s h
theorem F12.k25_a : aw Try.prog 183 W F12.pl (Code.at F12.code [1, 1, 1, 1, 1, 1, 0, 1, 0, 1, 1, 1, 1, 1, 1, 1, 1, 1, 1, 1, 1, 1, 0, 0, 0, 1, 0, 1]) (blockQ 2 (Q)) QP s h = F12.t25 W Q s h := by kernel_rfl
theorem F12.k25_ok : aw Try.prog 183 W F12.pl (Code.at F12.code [1, 1, 1, 1, 1, 1, 0, 1, 0, 1, 1, 1, 1, 1, 1, 1, 1, 1, 1, 1, 1, 1, 0, 0, 0, 1, 0, 1]) (blockQ 2 (Q)) QP s h = F12.k25 W Q QP s h := (F12.k25_a W Q QP s h)
def F12.t26 (W : Nat → Prop) (QP : PPost) (s : St) (h : AH) (C0 : KT) : Prop :=
  aCall Try.prog W 32 [(s.tm 0)] h (fun t113 h114 =>
  eAlloc (some [.string ⟨#[]⟩, .int .i64 0]) 2 53 h114 fun t115 h116 =>
  eStore (some 2) t115 t113 h116 W fun h117 =>
  C0 ⟨puts s.tm [(85, (s.tm 0)), (86, t113), (10, t115)], s.ds⟩ h117) (QP s.ds)
def F12.k26 (W : Nat → Prop) (Q : Post) (QP : PPost) (s : St) (h : AH) : Prop := F12.t26 W QP s h (F12.k25 W Q QP)
theorem F12.k26_a (C0 : KT) : aw Try.prog 183 W F12.pl (Code.at F12.code [1, 1, 1, 1, 1, 1, 0, 1, 0, 1, 1, 1, 1, 1, 1, 1, 1, 1, 1, 1, 1, 1, 0, 0, 0, 1, 0, 0]) (thenQ (C0) (blockQ 2 (Q))) QP s h = F12.t26 W QP s h C0 := by kernel_rfl
theorem F12.k26_ok : aw Try.prog 183 W F12.pl (Code.at F12.code [1, 1, 1, 1, 1, 1, 0, 1, 0, 1, 1, 1, 1, 1, 1, 1, 1, 1, 1, 1, 1, 1, 0, 0, 0, 1, 0]) (blockQ 2 (Q)) QP s h = F12.k26 W Q QP s h := nd_seq (a := (Code.at F12.code [1, 1, 1, 1, 1, 1, 0, 1, 0, 1, 1, 1, 1, 1, 1, 1, 1, 1, 1, 1, 1, 1, 0, 0, 0, 1, 0, 0])) (b := (Code.at F12.code [1, 1, 1, 1, 1, 1, 0, 1, 0, 1, 1, 1, 1, 1, 1, 1, 1, 1, 1, 1, 1, 1, 0, 0, 0, 1, 0, 1])) (by kernel_rfl) (F12.k25_ok W Q QP) (F12.k26_a W Q QP s h (F12.k25 W Q QP))
theorem F12.o5 : aw Try.prog 183 W F12.pl (Code.at F12.code [1, 1, 1, 1, 1, 1, 0, 1, 0, 1, 1, 1, 1, 1, 1, 1, 1, 1, 1, 1, 1, 1, 0, 0, 0, 1]) (Q) QP s h = F12.k26 W Q QP s h := nd_block (a := (Code.at F12.code [1, 1, 1, 1, 1, 1, 0, 1, 0, 1, 1, 1, 1, 1, 1, 1, 1, 1, 1, 1, 1, 1, 0, 0, 0, 1, 0])) (by kernel_rfl) (F12.k26_ok W Q QP s h)
def F12.t27 (Q : Post) (s : St) (h : AH) (C0 : KT) : Prop :=
  aIf (s.tm 84) (
  C0 s h) (
  Q (.exit 1) s h)
def F12.k27 (W : Nat → Prop) (Q : Post) (QP : PPost) (s : St) (h : AH) : Prop := F12.t27 Q s h (F12.k26 W Q QP)
theorem F12.k27_a (C0 : KT) : aIf (aev s (.tmp 84)) (aw Try.prog 183 W F12.pl (Code.at F12.code [1, 1, 1, 1, 1, 1, 0, 1, 0, 1, 1, 1, 1, 1, 1, 1, 1, 1, 1, 1, 1, 1, 0, 0, 0, 0, 1, 0]) (thenQ (C0) (Q)) QP s h) (aw Try.prog 183 W F12.pl (Code.at F12.code [1, 1, 1, 1, 1, 1, 0, 1, 0, 1, 1, 1, 1, 1, 1, 1, 1, 1, 1, 1, 1, 1, 0, 0, 0, 0, 1, 1]) (thenQ (C0) (Q)) QP s h) = F12.t27 Q s h C0 := by kernel_rfl
theorem F12.k27_ok : aw Try.prog 183 W F12.pl (Code.at F12.code [1, 1, 1, 1, 1, 1, 0, 1, 0, 1, 1, 1, 1, 1, 1, 1, 1, 1, 1, 1, 1, 1, 0, 0, 0, 0, 1]) (thenQ (F12.k26 W Q QP) (Q)) QP s h = F12.k27 W Q QP s h := nd_cond (a := (Code.at F12.code [1, 1, 1, 1, 1, 1, 0, 1, 0, 1, 1, 1, 1, 1, 1, 1, 1, 1, 1, 1, 1, 1, 0, 0, 0, 0, 1, 0])) (b := (Code.at F12.code [1, 1, 1, 1, 1, 1, 0, 1, 0, 1, 1, 1, 1, 1, 1, 1, 1, 1, 1, 1, 1, 1, 0, 0, 0, 0, 1, 1])) (by kernel_rfl) rfl rfl (F12.k27_a W Q QP s h (F12.k26 W Q QP))
def F12.t28 (W : Nat → Prop) (QP : PPost) (s : St) (h : AH) (C0 C1 : KT) : Prop :=
  aCall Try.prog W 30 [(s.tm 0)] h (fun t118 h119 =>
  C1 ⟨puts s.tm [(83, (s.tm 0)), (84, t118)], s.ds⟩ h119) (QP s.ds)
def F12.k28 (W : Nat → Prop) (Q : Post) (QP : PPost) (s : St) (h : AH) : Prop := F12.t28 W QP s h (F12.k26 W Q QP) (F12.k27 W Q QP)
theorem F12.k28_a (C0 C1 : KT) : aw Try.prog 183 W F12.pl (Code.at F12.code [1, 1, 1, 1, 1, 1, 0, 1, 0, 1, 1, 1, 1, 1, 1, 1, 1, 1, 1, 1, 1, 1, 0, 0, 0, 0, 0]) (thenQ (C1) (thenQ (C0) (Q))) QP s h = F12.t28 W QP s h C0 C1 := by kernel_rfl
theorem F12.k28_ok : aw Try.prog 183 W F12.pl (Code.at F12.code [1, 1, 1, 1, 1, 1, 0, 1, 0, 1, 1, 1, 1, 1, 1, 1, 1, 1, 1, 1, 1, 1, 0, 0, 0, 0]) (thenQ (F12.k26 W Q QP) (Q)) QP s h = F12.k28 W Q QP s h := nd_seq (a := (Code.at F12.code [1, 1, 1, 1, 1, 1, 0, 1, 0, 1, 1, 1, 1, 1, 1, 1, 1, 1, 1, 1, 1, 1, 0, 0, 0, 0, 0])) (b := (Code.at F12.code [1, 1, 1, 1, 1, 1, 0, 1, 0, 1, 1, 1, 1, 1, 1, 1, 1, 1, 1, 1, 1, 1, 0, 0, 0, 0, 1])) (by kernel_rfl) (F12.k27_ok W Q QP) (F12.k28_a W Q QP s h (F12.k26 W Q QP) (F12.k27 W Q QP))
theorem F12.o6 : aw Try.prog 183 W F12.pl (Code.at F12.code [1, 1, 1, 1, 1, 1, 0, 1, 0, 1, 1, 1, 1, 1, 1, 1, 1, 1, 1, 1, 1, 1, 0, 0, 0]) (Q) QP s h = F12.k28 W Q QP s h := nd_seq (a := (Code.at F12.code [1, 1, 1, 1, 1, 1, 0, 1, 0, 1, 1, 1, 1, 1, 1, 1, 1, 1, 1, 1, 1, 1, 0, 0, 0, 0])) (b := (Code.at F12.code [1, 1, 1, 1, 1, 1, 0, 1, 0, 1, 1, 1, 1, 1, 1, 1, 1, 1, 1, 1, 1, 1, 0, 0, 0, 1])) (by kernel_rfl) (F12.o5 W Q QP) (F12.k28_ok W Q QP s h)
noncomputable def F12.c2 : Code := (Code.at F12.code [1, 1, 1, 1, 1, 1, 0, 1, 0, 1, 1, 1, 1, 1, 1, 1, 1, 1, 1, 1, 1, 1, 0, 0, 0])
theorem F12.l2 : aw Try.prog 183 W F12.pl F12.c2 Q QP s h = F12.k28 W Q QP s h := F12.o6 W Q QP s h
def F12.k29 (W : Nat → Prop) (Q : Post) (QP : PPost) (s : St) (h : AH) : Prop := aLoop (aw Try.prog 183 W F12.pl F12.c2) (blockQ 1 (thenQ (F12.k24 W Q QP) (blockQ 0 (thenQ (F12.k2 W Q QP) (Q))))) QP s h
theorem F12.k29_ok : aw Try.prog 183 W F12.pl (Code.at F12.code [1, 1, 1, 1, 1, 1, 0, 1, 0, 1, 1, 1, 1, 1, 1, 1, 1, 1, 1, 1, 1, 1, 0, 0]) (blockQ 1 (thenQ (F12.k24 W Q QP) (blockQ 0 (thenQ (F12.k2 W Q QP) (Q))))) QP s h = F12.k29 W Q QP s h := nd_loop (a := F12.c2) (by kernel_rfl)
theorem F12.o7 : aw Try.prog 183 W F12.pl (Code.at F12.code [1, 1, 1, 1, 1, 1, 0, 1, 0, 1, 1, 1, 1, 1, 1, 1, 1, 1, 1, 1, 1, 1, 0]) (thenQ (F12.k24 W Q QP) (blockQ 0 (thenQ (F12.k2 W Q QP) (Q)))) QP s h = F12.k29 W Q QP s h := nd_block (a := (Code.at F12.code [1, 1, 1, 1, 1, 1, 0, 1, 0, 1, 1, 1, 1, 1, 1, 1, 1, 1, 1, 1, 1, 1, 0, 0])) (by kernel_rfl) (F12.k29_ok W Q QP s h)
theorem F12.o8 : aw Try.prog 183 W F12.pl (Code.at F12.code [1, 1, 1, 1, 1, 1, 0, 1, 0, 1, 1, 1, 1, 1, 1, 1, 1, 1, 1, 1, 1, 1]) (blockQ 0 (thenQ (F12.k2 W Q QP) (Q))) QP s h = F12.k29 W Q QP s h := nd_seq (a := (Code.at F12.code [1, 1, 1, 1, 1, 1, 0, 1, 0, 1, 1, 1, 1, 1, 1, 1, 1, 1, 1, 1, 1, 1, 0])) (b := (Code.at F12.code [1, 1, 1, 1, 1, 1, 0, 1, 0, 1, 1, 1, 1, 1, 1, 1, 1, 1, 1, 1, 1, 1, 1])) (by kernel_rfl) (F12.k24_ok W Q QP) (F12.o7 W Q QP s h)
def F12.t30 (W : Nat → Prop) (QP : PPost) (s : St) (h : AH) (C0 C1 : KT) : Prop :=
  aCall Try.prog W 27 [(s.tm 0)] h (fun t120 h121 =>
  pFld (some 1) (s.tm 6) fun t122 =>
  eStore (some 1) t122 t120 h121 W fun h123 =>
  C1 ⟨puts s.tm [(80, (s.tm 0)), (81, t120), (82, t122)], s.ds⟩ h123) (QP s.ds)
def F12.k30 (W : Nat → Prop) (Q : Post) (QP : PPost) (s : St) (h : AH) : Prop := F12.t30 W QP s h (F12.k2 W Q QP) (F12.k29 W Q QP)
theorem F12.k30_a (C0 C1 : KT) : aw Try.prog 183 W F12.pl (Code.at F12.code [1, 1, 1, 1, 1, 1, 0, 1, 0, 1, 1, 1, 1, 1, 1, 1, 1, 1, 1, 1, 1, 0]) (thenQ (C1) (blockQ 0 (thenQ (C0) (Q)))) QP s h = F12.t30 W QP s h C0 C1 := by kernel_rfl
theorem F12.k30_ok : aw Try.prog 183 W F12.pl (Code.at F12.code [1, 1, 1, 1, 1, 1, 0, 1, 0, 1, 1, 1, 1, 1, 1, 1, 1, 1, 1, 1, 1]) (blockQ 0 (thenQ (F12.k2 W Q QP) (Q))) QP s h = F12.k30 W Q QP s h := nd_seq (a := (Code.at F12.code [1, 1, 1, 1, 1, 1, 0, 1, 0, 1, 1, 1, 1, 1, 1, 1, 1, 1, 1, 1, 1, 0])) (b := (Code.at F12.code [1, 1, 1, 1, 1, 1, 0, 1, 0, 1, 1, 1, 1, 1, 1, 1, 1, 1, 1, 1, 1, 1])) (by kernel_rfl) (F12.o8 W Q QP) (F12.k30_a W Q QP s h (F12.k2 W Q QP) (F12.k29 W Q QP))
def F12.t31 (s : St) (h : AH) (C0 C1 : KT) : Prop :=
  aIf (s.tm 158) (
  C0 s h) (
  C1 s h)
def F12.k31 (W : Nat → Prop) (Q : Post) (QP : PPost) (s : St) (h : AH) : Prop := F12.t31 s h (F12.k23 W Q QP) (F12.k30 W Q QP)
theorem F12.k31_a (C0 C1 : KT) : aIf (aev s (.tmp 158)) (C0 s h) (C1 s h) = F12.t31 s h C0 C1 := by kernel_rfl
theorem F12.k31_ok : aw Try.prog 183 W F12.pl (Code.at F12.code [1, 1, 1, 1, 1, 1, 0, 1, 0, 1, 1, 1, 1, 1, 1, 1, 1, 1, 1, 1]) (blockQ 0 (thenQ (F12.k2 W Q QP) (Q))) QP s h = F12.k31 W Q QP s h := nd_cond (a := (Code.at F12.code [1, 1, 1, 1, 1, 1, 0, 1, 0, 1, 1, 1, 1, 1, 1, 1, 1, 1, 1, 1, 0])) (b := (Code.at F12.code [1, 1, 1, 1, 1, 1, 0, 1, 0, 1, 1, 1, 1, 1, 1, 1, 1, 1, 1, 1, 1])) (by kernel_rfl) (F12.k23_ok W Q QP s h) (F12.k30_ok W Q QP s h) (F12.k31_a s h (F12.k23 W Q QP) (F12.k30 W Q QP))
def F12.t32 (s : St) (h : AH) (C0 C1 : KT) : Prop :=
  pBin Try.prog .eql 9 true (s.tm 79) (.sc (.string ⟨#[114, 101, 115, 101, 116]⟩)) fun t124 =>
  C1 ⟨puts s.tm [(159, t124), (158, t124)], s.ds⟩ h
def F12.k32 (W : Nat → Prop) (Q : Post) (QP : PPost) (s : St) (h : AH) : Prop := F12.t32 s h (F12.k2 W Q QP) (F12.k31 W Q QP)
theorem F12.k32_a (C0 C1 : KT) : aw Try.prog 183 W F12.pl (Code.at F12.code [1, 1, 1, 1, 1, 1, 0, 1, 0, 1, 1, 1, 1, 1, 1, 1, 1, 1, 1, 0]) (thenQ (C1) (blockQ 0 (thenQ (C0) (Q)))) QP s h = F12.t32 s h C0 C1 := by kernel_rfl
theorem F12.k32_ok : aw Try.prog 183 W F12.pl (Code.at F12.code [1, 1, 1, 1, 1, 1, 0, 1, 0, 1, 1, 1, 1, 1, 1, 1, 1, 1, 1]) (blockQ 0 (thenQ (F12.k2 W Q QP) (Q))) QP s h = F12.k32 W Q QP s h := nd_seq (a := (Code.at F12.code [1, 1, 1, 1, 1, 1, 0, 1, 0, 1, 1, 1, 1, 1, 1, 1, 1, 1, 1, 0])) (b := (Code.at F12.code [1, 1, 1, 1, 1, 1, 0, 1, 0, 1, 1, 1, 1, 1, 1, 1, 1, 1, 1, 1])) (by kernel_rfl) (F12.k31_ok W Q QP) (F12.k32_a W Q QP s h (F12.k2 W Q QP) (F12.k31 W Q QP))
def F12.t33 (s : St) (h : AH) (C0 C1 : KT) : Prop :=
  aIf (s.tm 146) (
  C0 s h) (
  C1 s h)
def F12.k33 (W : Nat → Prop) (Q : Post) (QP : PPost) (s : St) (h : AH) : Prop := F12.t33 s h (F12.k20 W Q QP) (F12.k32 W Q QP)
theorem F12.k33_a (C0 C1 : KT) : aIf (aev s (.tmp 146)) (C0 s h) (C1 s h) = F12.t33 s h C0 C1 := by kernel_rfl
theorem F12.k33_ok : aw Try.prog 183 W F12.pl (Code.at F12.code [1, 1, 1, 1, 1, 1, 0, 1, 0, 1, 1, 1, 1, 1, 1, 1, 1, 1]) (blockQ 0 (thenQ (F12.k2 W Q QP) (Q))) QP s h = F12.k33 W Q QP s h := nd_cond (a := (Code.at F12.code [1, 1, 1, 1, 1, 1, 0, 1, 0, 1, 1, 1, 1, 1, 1, 1, 1, 1, 0])) (b := (Code.at F12.code [1, 1, 1, 1, 1, 1, 0, 1, 0, 1, 1, 1, 1, 1, 1, 1, 1, 1, 1])) (by kernel_rfl) (F12.k20_ok W Q QP s h) (F12.k32_ok W Q QP s h) (F12.k33_a s h (F12.k20 W Q QP) (F12.k32 W Q QP))
def F12.t34 (s : St) (h : AH) (C0 C1 : KT) : Prop :=
  pBin Try.prog .eql 9 true (s.tm 79) (.sc (.string ⟨#[109, 101, 97, 115, 117, 114, 101]⟩)) fun t125 =>
  C1 ⟨puts s.tm [(147, t125), (146, t125)], s.ds⟩ h
def F12.k34 (W : Nat → Prop) (Q : Post) (QP : PPost) (s : St) (h : AH) : Prop := F12.t34 s h (F12.k2 W Q QP) (F12.k33 W Q QP)
theorem F12.k34_a (C0 C1 : KT) : aw Try.prog 183 W F12.pl (Code.at F12.code [1, 1, 1, 1, 1, 1, 0, 1, 0, 1, 1, 1, 1, 1, 1, 1, 1, 0]) (thenQ (C1) (blockQ 0 (thenQ (C0) (Q)))) QP s h = F12.t34 s h C0 C1 := by kernel_rfl
theorem F12.k34_ok : aw Try.prog 183 W F12.pl (Code.at F12.code [1, 1, 1, 1, 1, 1, 0, 1, 0, 1, 1, 1, 1, 1, 1, 1, 1]) (blockQ 0 (thenQ (F12.k2 W Q QP) (Q))) QP s h = F12.k34 W Q QP s h := nd_seq (a := (Code.at F12.code [1, 1, 1, 1, 1, 1, 0, 1, 0, 1, 1, 1, 1, 1, 1, 1, 1, 0])) (b := (Code.at F12.code [1, 1, 1, 1, 1, 1, 0, 1, 0, 1, 1, 1, 1, 1, 1, 1, 1, 1])) (by kernel_rfl) (F12.k33_ok W Q QP) (F12.k34_a W Q QP s h (F12.k2 W Q QP) (F12.k33 W Q QP))
def F12.t35 (s : St) (h : AH) (C0 C1 : KT) : Prop :=
  aIf (s.tm 134) (
  C0 s h) (
  C1 s h)
def F12.k35 (W : Nat → Prop) (Q : Post) (QP : PPost) (s : St) (h : AH) : Prop := F12.t35 s h (F12.k16 W Q QP) (F12.k34 W Q QP)
theorem F12.k35_a (C0 C1 : KT) : aIf (aev s (.tmp 134)) (C0 s h) (C1 s h) = F12.t35 s h C0 C1 := by kernel_rfl
theorem F12.k35_ok : aw Try.prog 183 W F12.pl (Code.at F12.code [1, 1, 1, 1, 1, 1, 0, 1, 0, 1, 1, 1, 1, 1, 1, 1]) (blockQ 0 (thenQ (F12.k2 W Q QP) (Q))) QP s h = F12.k35 W Q QP s h := nd_cond (a := (Code.at F12.code [1, 1, 1, 1, 1, 1, 0, 1, 0, 1, 1, 1, 1, 1, 1, 1, 0])) (b := (Code.at F12.code [1, 1, 1, 1, 1, 1, 0, 1, 0, 1, 1, 1, 1, 1, 1, 1, 1])) (by kernel_rfl) (F12.k16_ok W Q QP s h) (F12.k34_ok W Q QP s h) (F12.k35_a s h (F12.k16 W Q QP) (F12.k34 W Q QP))
def F12.t36 (s : St) (h : AH) (C0 C1 : KT) : Prop :=
  pBin Try.prog .eql 9 true (s.tm 79) (.sc (.string ⟨#[105, 102]⟩)) fun t126 =>
  C1 ⟨puts s.tm [(135, t126), (134, t126)], s.ds⟩ h
def F12.k36 (W : Nat → Prop) (Q : Post) (QP : PPost) (s : St) (h : AH) : Prop := F12.t36 s h (F12.k2 W Q QP) (F12.k35 W Q QP)
theorem F12.k36_a (C0 C1 : KT) : aw Try.prog 183 W F12.pl (Code.at F12.code [1, 1, 1, 1, 1, 1, 0, 1, 0, 1, 1, 1, 1, 1, 1, 0]) (thenQ (C1) (blockQ 0 (thenQ (C0) (Q)))) QP s h = F12.t36 s h C0 C1 := by kernel_rfl
theorem F12.k36_ok : aw Try.prog 183 W F12.pl (Code.at F12.code [1, 1, 1, 1, 1, 1, 0, 1, 0, 1, 1, 1, 1, 1, 1]) (blockQ 0 (thenQ (F12.k2 W Q QP) (Q))) QP s h = F12.k36 W Q QP s h := nd_seq (a := (Code.at F12.code [1, 1, 1, 1, 1, 1, 0, 1, 0, 1, 1, 1, 1, 1, 1, 0])) (b := (Code.at F12.code [1, 1, 1, 1, 1, 1, 0, 1, 0, 1, 1, 1, 1, 1, 1, 1])) (by kernel_rfl) (F12.k35_ok W Q QP) (F12.k36_a W Q QP s h (F12.k2 W Q QP) (F12.k35 W Q QP))
def F12.t37 (s : St) (h : AH) (C0 C1 : KT) : Prop :=
  aIf (s.tm 125) (
  C0 s h) (
  C1 s h)
def F12.k37 (W : Nat → Prop) (Q : Post) (QP : PPost) (s : St) (h : AH) : Prop := F12.t37 s h (F12.k13 W Q QP) (F12.k36 W Q QP)
theorem F12.k37_a (C0 C1 : KT) : aIf (aev s (.tmp 125)) (C0 s h) (C1 s h) = F12.t37 s h C0 C1 := by kernel_rfl
theorem F12.k37_ok : aw Try.prog 183 W F12.pl (Code.at F12.code [1, 1, 1, 1, 1, 1, 0, 1, 0, 1, 1, 1, 1, 1]) (blockQ 0 (thenQ (F12.k2 W Q QP) (Q))) QP s h = F12.k37 W Q QP s h := nd_cond (a := (Code.at F12.code [1, 1, 1, 1, 1, 1, 0, 1, 0, 1, 1, 1, 1, 1, 0])) (b := (Code.at F12.code [1, 1, 1, 1, 1, 1, 0, 1, 0, 1, 1, 1, 1, 1, 1])) (by kernel_rfl) (F12.k13_ok W Q QP s h) (F12.k36_ok W Q QP s h) (F12.k37_a s h (F12.k13 W Q QP) (F12.k36 W Q QP))
def F12.t38 (s : St) (h : AH) (C0 C1 : KT) : Prop :=
  pBin Try.prog .eql 9 true (s.tm 79) (.sc (.string ⟨#[114, 101, 112, 101, 97, 116]⟩)) fun t127 =>
  C1 ⟨puts s.tm [(126, t127), (125, t127)], s.ds⟩ h
def F12.k38 (W : Nat → Prop) (Q : Post) (QP : PPost) (s : St) (h : AH) : Prop := F12.t38 s h (F12.k2 W Q QP) (F12.k37 W Q QP)
theorem F12.k38_a (C0 C1 : KT) : aw Try.prog 183 W F12.pl (Code.at F12.code [1, 1, 1, 1, 1, 1, 0, 1, 0, 1, 1, 1, 1, 0]) (thenQ (C1) (blockQ 0 (thenQ (C0) (Q)))) QP s h = F12.t38 s h C0 C1 := by kernel_rfl
theorem F12.k38_ok : aw Try.prog 183 W F12.pl (Code.at F12.code [1, 1, 1, 1, 1, 1, 0, 1, 0, 1, 1, 1, 1]) (blockQ 0 (thenQ (F12.k2 W Q QP) (Q))) QP s h = F12.k38 W Q QP s h := nd_seq (a := (Code.at F12.code [1, 1, 1, 1, 1, 1, 0, 1, 0, 1, 1, 1, 1, 0])) (b := (Code.at F12.code [1, 1, 1, 1, 1, 1, 0, 1, 0, 1, 1, 1, 1, 1])) (by kernel_rfl) (F12.k37_ok W Q QP) (F12.k38_a W Q QP s h (F12.k2 W Q QP) (F12.k37 W Q QP))
def F12.t39 (s : St) (h : AH) (C0 C1 : KT) : Prop :=
  aIf (s.tm 106) (
  C0 s h) (
  C1 s h)
def F12.k39 (W : Nat → Prop) (Q : Post) (QP : PPost) (s : St) (h : AH) : Prop := F12.t39 s h (F12.k11 W Q QP) (F12.k38 W Q QP)
theorem F12.k39_a (C0 C1 : KT) : aIf (aev s (.tmp 106)) (C0 s h) (C1 s h) = F12.t39 s h C0 C1 := by kernel_rfl
theorem F12.k39_ok : aw Try.prog 183 W F12.pl (Code.at F12.code [1, 1, 1, 1, 1, 1, 0, 1, 0, 1, 1, 1]) (blockQ 0 (thenQ (F12.k2 W Q QP) (Q))) QP s h = F12.k39 W Q QP s h := nd_cond (a := (Code.at F12.code [1, 1, 1, 1, 1, 1, 0, 1, 0, 1, 1, 1, 0])) (b := (Code.at F12.code [1, 1, 1, 1, 1, 1, 0, 1, 0, 1, 1, 1, 1])) (by kernel_rfl) (F12.k11_ok W Q QP s h) (F12.k38_ok W Q QP s h) (F12.k39_a s h (F12.k11 W Q QP) (F12.k38 W Q QP))
def F12.t40 (s : St) (h : AH) (C0 C1 : KT) : Prop :=
  pBin Try.prog .eql 9 true (s.tm 79) (.sc (.string ⟨#[103, 97, 116, 101]⟩)) fun t128 =>
  C1 ⟨puts s.tm [(107, t128), (106, t128)], s.ds⟩ h
def F12.k40 (W : Nat → Prop) (Q : Post) (QP : PPost) (s : St) (h : AH) : Prop := F12.t40 s h (F12.k2 W Q QP) (F12.k39 W Q QP)
theorem F12.k40_a (C0 C1 : KT) : aw Try.prog 183 W F12.pl (Code.at F12.code [1, 1, 1, 1, 1, 1, 0, 1, 0, 1, 1, 0]) (thenQ (C1) (blockQ 0 (thenQ (C0) (Q)))) QP s h = F12.t40 s h C0 C1 := by kernel_rfl
theorem F12.k40_ok : aw Try.prog 183 W F12.pl (Code.at F12.code [1, 1, 1, 1, 1, 1, 0, 1, 0, 1, 1]) (blockQ 0 (thenQ (F12.k2 W Q QP) (Q))) QP s h = F12.k40 W Q QP s h := nd_seq (a := (Code.at F12.code [1, 1, 1, 1, 1, 1, 0, 1, 0, 1, 1, 0])) (b := (Code.at F12.code [1, 1, 1, 1, 1, 1, 0, 1, 0, 1, 1, 1])) (by kernel_rfl) (F12.k39_ok W Q QP) (F12.k40_a W Q QP s h (F12.k2 W Q QP) (F12.k39 W Q QP))
def F12.t41 (s : St) (h : AH) (C0 C1 : KT) : Prop :=
  aIf (s.tm 95) (
  C1 s h) (
  C0 s h)
def F12.k41 (W : Nat → Prop) (Q : Post) (QP : PPost) (s : St) (h : AH) : Prop := F12.t41 s h (F12.k40 W Q QP) (F12.k5 W Q QP)
theorem F12.k41_a (C0 C1 : KT) : aIf (aev s (.tmp 95)) (C1 s h) (C0 s h) = F12.t41 s h C0 C1 := by kernel_rfl
theorem F12.k41_ok : aw Try.prog 183 W F12.pl (Code.at F12.code [1, 1, 1, 1, 1, 1, 0, 1, 0, 1]) (blockQ 0 (thenQ (F12.k2 W Q QP) (Q))) QP s h = F12.k41 W Q QP s h := nd_cond (a := (Code.at F12.code [1, 1, 1, 1, 1, 1, 0, 1, 0, 1, 0])) (b := (Code.at F12.code [1, 1, 1, 1, 1, 1, 0, 1, 0, 1, 1])) (by kernel_rfl) (F12.k5_ok W Q QP s h) (F12.k40_ok W Q QP s h) (F12.k41_a s h (F12.k40 W Q QP) (F12.k5 W Q QP))
def F12.t42 (s : St) (h : AH) (C0 C1 : KT) : Prop :=
  aIf (s.tm 95) (
  C1 s h) (
  pBin Try.prog .eql 9 true (s.tm 79) (.sc (.string ⟨#[98, 105, 116, 115]⟩)) fun t129 =>
  C1 ⟨puts s.tm [(97, t129), (95, t129)], s.ds⟩ h)
def F12.k42 (W : Nat → Prop) (Q : Post) (QP : PPost) (s : St) (h : AH) : Prop := F12.t42 s h (F12.k2 W Q QP) (F12.k41 W Q QP)
theorem F12.k42_a (C0 C1 : KT) : aIf (aev s (.tmp 95)) (aw Try.prog 183 W F12.pl (Code.at F12.code [1, 1, 1, 1, 1, 1, 0, 1, 0, 0, 1, 0]) (thenQ (C1) (blockQ 0 (thenQ (C0) (Q)))) QP s h) (aw Try.prog 183 W F12.pl (Code.at F12.code [1, 1, 1, 1, 1, 1, 0, 1, 0, 0, 1, 1]) (thenQ (C1) (blockQ 0 (thenQ (C0) (Q)))) QP s h) = F12.t42 s h C0 C1 := by kernel_rfl
theorem F12.k42_ok : aw Try.prog 183 W F12.pl (Code.at F12.code [1, 1, 1, 1, 1, 1, 0, 1, 0, 0, 1]) (thenQ (F12.k41 W Q QP) (blockQ 0 (thenQ (F12.k2 W Q QP) (Q)))) QP s h = F12.k42 W Q QP s h := nd_cond (a := (Code.at F12.code [1, 1, 1, 1, 1, 1, 0, 1, 0, 0, 1, 0])) (b := (Code.at F12.code [1, 1, 1, 1, 1, 1, 0, 1, 0, 0, 1, 1])) (by kernel_rfl) rfl rfl (F12.k42_a W Q QP s h (F12.k2 W Q QP) (F12.k41 W Q QP))
def F12.t43 (s : St) (h : AH) (C0 C1 C2 : KT) : Prop :=
  pBin Try.prog .eql 9 true (s.tm 79) (.sc (.string ⟨#[113, 117, 98, 105, 116, 115]⟩)) fun t130 =>
  C2 ⟨puts s.tm [(96, t130), (95, t130)], s.ds⟩ h
def F12.k43 (W : Nat → Prop) (Q : Post) (QP : PPost) (s : St) (h : AH) : Prop := F12.t43 s h (F12.k2 W Q QP) (F12.k41 W Q QP) (F12.k42 W Q QP)
theorem F12.k43_a (C0 C1 C2 : KT) : aw Try.prog 183 W F12.pl (Code.at F12.code [1, 1, 1, 1, 1, 1, 0, 1, 0, 0, 0]) (thenQ (C2) (thenQ (C1) (blockQ 0 (thenQ (C0) (Q))))) QP s h = F12.t43 s h C0 C1 C2 := by kernel_rfl
theorem F12.k43_ok : aw Try.prog 183 W F12.pl (Code.at F12.code [1, 1, 1, 1, 1, 1, 0, 1, 0, 0]) (thenQ (F12.k41 W Q QP) (blockQ 0 (thenQ (F12.k2 W Q QP) (Q)))) QP s h = F12.k43 W Q QP s h := nd_seq (a := (Code.at F12.code [1, 1, 1, 1, 1, 1, 0, 1, 0, 0, 0])) (b := (Code.at F12.code [1, 1, 1, 1, 1, 1, 0, 1, 0, 0, 1])) (by kernel_rfl) (F12.k42_ok W Q QP) (F12.k43_a W Q QP s h (F12.k2 W Q QP) (F12.k41 W Q QP) (F12.k42 W Q QP))
theorem F12.o9 : aw Try.prog 183 W F12.pl (Code.at F12.code [1, 1, 1, 1, 1, 1, 0, 1, 0]) (blockQ 0 (thenQ (F12.k2 W Q QP) (Q))) QP s h = F12.k43 W Q QP s h := nd_seq (a := (Code.at F12.code [1, 1, 1, 1, 1, 1, 0, 1, 0, 0])) (b := (Code.at F12.code [1, 1, 1, 1, 1, 1, 0, 1, 0, 1])) (by kernel_rfl) (F12.k41_ok W Q QP) (F12.k43_ok W Q QP s h)
theorem F12.o10 : aw Try.prog 183 W F12.pl (Code.at F12.code [1, 1, 1, 1, 1, 1, 0, 1]) (thenQ (F12.k2 W Q QP) (Q)) QP s h = F12.k43 W Q QP s h := nd_block (a := (Code.at F12.code [1, 1, 1, 1, 1, 1, 0, 1, 0])) (by kernel_rfl) (F12.o9 W Q QP s h)
def F12.t44 (s : St) (h : AH) (C0 C1 : KT) : Prop :=
  pFld (some 0) (s.tm 6) fun t131 =>
  lLd (some false) (some 1) t131 h fun t132 _ =>
  C1 ⟨puts s.tm [(78, t131), (79, t132)], s.ds⟩ h
def F12.k44 (W : Nat → Prop) (Q : Post) (QP : PPost) (s : St) (h : AH) : Prop := F12.t44 s h (F12.k2 W Q QP) (F12.k43 W Q QP)
theorem F12.k44_a (C0 C1 : KT) : aw Try.prog 183 W F12.pl (Code.at F12.code [1, 1, 1, 1, 1, 1, 0, 0]) (thenQ (C1) (thenQ (C0) (Q))) QP s h = F12.t44 s h C0 C1 := by kernel_rfl
theorem F12.k44_ok : aw Try.prog 183 W F12.pl (Code.at F12.code [1, 1, 1, 1, 1, 1, 0]) (thenQ (F12.k2 W Q QP) (Q)) QP s h = F12.k44 W Q QP s h := nd_seq (a := (Code.at F12.code [1, 1, 1, 1, 1, 1, 0, 0])) (b := (Code.at F12.code [1, 1, 1, 1, 1, 1, 0, 1])) (by kernel_rfl) (F12.o10 W Q QP) (F12.k44_a W Q QP s h (F12.k2 W Q QP) (F12.k43 W Q QP))
theorem F12.o11 : aw Try.prog 183 W F12.pl (Code.at F12.code [1, 1, 1, 1, 1, 1]) (Q) QP s h = F12.k44 W Q QP s h := nd_seq (a := (Code.at F12.code [1, 1, 1, 1, 1, 1, 0])) (b := (Code.at F12.code [1, 1, 1, 1, 1, 1, 1])) (by kernel_rfl) (F12.k2_ok W Q QP) (F12.k44_ok W Q QP s h)
def F12.t45 (W : Nat → Prop) (s : St) (h : AH) (C0 : KT) : Prop :=
  pNil (s.tm 0) fun t134 =>
  pFld (some 5) t134 fun t135 =>
  lLd (some false) (some 1) t135 h fun t136 _ =>
  lLd (some true) (some 6) (s.tm 6) h fun t138 _ =>
  eBSl (some (6, 36, [.string ⟨#[]⟩, .string ⟨#[]⟩, .slice none 0 0, .int .i64 0, .int .i64 0, .int .i64 0])) 1 [(0, t138)] h fun t140 h141 =>
  eApp (some (6, 80, 36)) t136 t140 h141 W fun t142 h143 =>
  pNil (s.tm 0) fun t144 =>
  pFld (some 5) t144 fun t145 =>
  eStore (some 1) t145 t142 h143 W fun h146 =>
  C0 ⟨puts s.tm [(68, (s.tm 0)), (69, (s.tm 0)), (70, t134), (71, t135), (72, t136), (73, t138), (74, t140), (75, t142), (76, t144), (77, t145)], s.ds⟩ h146
def F12.k45 (W : Nat → Prop) (Q : Post) (QP : PPost) (s : St) (h : AH) : Prop := F12.t45 W s h (F12.k44 W Q QP)
theorem F12.k45_a (C0 : KT) : aw Try.prog 183 W F12.pl (Code.at F12.code [1, 1, 1, 1, 1, 0]) (thenQ (C0) (Q)) QP s h = F12.t45 W s h C0 := by kernel_rfl
theorem F12.k45_ok : aw Try.prog 183 W F12.pl (Code.at F12.code [1, 1, 1, 1, 1]) (Q) QP s h = F12.k45 W Q QP s h := nd_seq (a := (Code.at F12.code [1, 1, 1, 1, 1, 0])) (b := (Code.at F12.code [1, 1, 1, 1, 1, 1])) (by kernel_rfl) (F12.o11 W Q QP) (F12.k45_a W Q QP s h (F12.k44 W Q QP))
def F12.t46 (W : Nat → Prop) (s : St) (h : AH) (C0 : KT) : Prop :=
  pNil (s.tm 0) fun t147 =>
  pFld (some 1) t147 fun t148 =>
  lLd (some false) (some 1) t148 h fun t149 _ =>
  pBin Try.prog .add 3 true t149 (.sc (.int .i64 1)) fun t151 =>
  pNil (s.tm 0) fun t152 =>
  pFld (some 1) t152 fun t153 =>
  eStore (some 1) t153 t151 h W fun h154 =>
  C0 ⟨puts s.tm [(61, (s.tm 0)), (62, t147), (63, t148), (64, t149), (65, t151), (66, t152), (67, t153)], s.ds⟩ h154
def F12.k46 (W : Nat → Prop) (Q : Post) (QP : PPost) (s : St) (h : AH) : Prop := F12.t46 W s h (F12.k45 W Q QP)
theorem F12.k46_a (C0 : KT) : aw Try.prog 183 W F12.pl (Code.at F12.code [1, 1, 1, 1, 0, 1, 0, 1]) (thenQ (C0) (Q)) QP s h = F12.t46 W s h C0 := by kernel_rfl
theorem F12.k46_ok : aw Try.prog 183 W F12.pl (Code.at F12.code [1, 1, 1, 1, 0, 1, 0, 1]) (thenQ (F12.k45 W Q QP) (Q)) QP s h = F12.k46 W Q QP s h := (F12.k46_a W Q QP s h (F12.k45 W Q QP))
def F12.t47 (W : Nat → Prop) (s : St) (h : AH) (C0 C1 : KT) : Prop :=
  pFld (some 1) (s.tm 4) fun t155 =>
  lLd (some false) (some 1) t155 h fun t156 _ =>
  pFld (some 0) (s.tm 6) fun t158 =>
  eStore (some 1) t158 t156 h W fun h159 =>
  C1 ⟨puts s.tm [(58, t155), (59, t156), (60, t158)], s.ds⟩ h159
def F12.k47 (W : Nat → Prop) (Q : Post) (QP : PPost) (s : St) (h : AH) : Prop := F12.t47 W s h (F12.k45 W Q QP) (F12.k46 W Q QP)
theorem F12.k47_a (C0 C1 : KT) : aw Try.prog 183 W F12.pl (Code.at F12.code [1, 1, 1, 1, 0, 1, 0, 0]) (thenQ (C1) (thenQ (C0) (Q))) QP s h = F12.t47 W s h C0 C1 := by kernel_rfl
theorem F12.k47_ok : aw Try.prog 183 W F12.pl (Code.at F12.code [1, 1, 1, 1, 0, 1, 0]) (thenQ (F12.k45 W Q QP) (Q)) QP s h = F12.k47 W Q QP s h := nd_seq (a := (Code.at F12.code [1, 1, 1, 1, 0, 1, 0, 0])) (b := (Code.at F12.code [1, 1, 1, 1, 0, 1, 0, 1])) (by kernel_rfl) (F12.k46_ok W Q QP) (F12.k47_a W Q QP s h (F12.k45 W Q QP) (F12.k46 W Q QP))
def F12.t48 (s : St) (h : AH) (C0 C1 : KT) : Prop :=
  aIf (s.tm 57) (
  C1 s h) (
  C0 s h)
def F12.k48 (W : Nat → Prop) (Q : Post) (QP : PPost) (s : St) (h : AH) : Prop := F12.t48 s h (F12.k45 W Q QP) (F12.k47 W Q QP)
theorem F12.k48_a (C0 C1 : KT) : aIf (aev s (.tmp 57)) (C1 s h) (aw Try.prog 183 W F12.pl (Code.at F12.code [1, 1, 1, 1, 0, 1, 1]) (thenQ (C0) (Q)) QP s h) = F12.t48 s h C0 C1 := by kernel_rfl
theorem F12.k48_ok : aw Try.prog 183 W F12.pl (Code.at F12.code [1, 1, 1, 1, 0, 1]) (thenQ (F12.k45 W Q QP) (Q)) QP s h = F12.k48 W Q QP s h := nd_cond (a := (Code.at F12.code [1, 1, 1, 1, 0, 1, 0])) (b := (Code.at F12.code [1, 1, 1, 1, 0, 1, 1])) (by kernel_rfl) (F12.k47_ok W Q QP s h) rfl (F12.k48_a W Q QP s h (F12.k45 W Q QP) (F12.k47 W Q QP))
def F12.t49 (W : Nat → Prop) (QP : PPost) (s : St) (h : AH) (C0 C1 : KT) : Prop :=
  pFld (some 1) (s.tm 4) fun t160 =>
  lLd (some false) (some 1) t160 h fun t161 _ =>
  aCall Try.prog W 26 [t161] h (fun t163 h164 =>
  C1 ⟨puts s.tm [(55, t160), (56, t161), (57, t163)], s.ds⟩ h164) (QP s.ds)
def F12.k49 (W : Nat → Prop) (Q : Post) (QP : PPost) (s : St) (h : AH) : Prop := F12.t49 W QP s h (F12.k45 W Q QP) (F12.k48 W Q QP)
theorem F12.k49_a (C0 C1 : KT) : aw Try.prog 183 W F12.pl (Code.at F12.code [1, 1, 1, 1, 0, 0]) (thenQ (C1) (thenQ (C0) (Q))) QP s h = F12.t49 W QP s h C0 C1 := by kernel_rfl
theorem F12.k49_ok : aw Try.prog 183 W F12.pl (Code.at F12.code [1, 1, 1, 1, 0]) (thenQ (F12.k45 W Q QP) (Q)) QP s h = F12.k49 W Q QP s h := nd_seq (a := (Code.at F12.code [1, 1, 1, 1, 0, 0])) (b := (Code.at F12.code [1, 1, 1, 1, 0, 1])) (by kernel_rfl) (F12.k48_ok W Q QP) (F12.k49_a W Q QP s h (F12.k45 W Q QP) (F12.k48 W Q QP))
theorem F12.o12 : aw Try.prog 183 W F12.pl (Code.at F12.code [1, 1, 1, 1]) (Q) QP s h = F12.k49 W Q QP s h := nd_seq (a := (Code.at F12.code [1, 1, 1, 1, 0])) (b := (Code.at F12.code [1, 1, 1, 1, 1])) (by kernel_rfl) (F12.k45_ok W Q QP) (F12.k49_ok W Q QP s h)
def F12.t50 (W : Nat → Prop) (s : St) (h : AH) (C0 : KT) : Prop :=
  pFld (some 2) (s.tm 4) fun t165 =>
  lLd (some false) (some 1) t165 h fun t166 _ =>
  pBld (some ([.string ⟨#[]⟩, .string ⟨#[]⟩, .slice none 0 0, .int .i64 0, .int .i64 0, .int .i64 0], .inl [(0, 1), (1, 1), (2, 1), (3, 1), (4, 1), (5, 1)])) [(0, (.sc (.string ⟨#[117, 115, 101]⟩))), (5, t166)] fun t168 =>
  eAlloc (some [.string ⟨#[]⟩, .string ⟨#[]⟩, .slice none 0 0, .int .i64 0, .int .i64 0, .int .i64 0]) 6 36 h fun t169 h170 =>
  eStore (some 6) t169 t168 h170 W fun h171 =>
  C0 ⟨puts s.tm [(52, t165), (53, t166), (54, t168), (6, t169)], s.ds⟩ h171
def F12.k50 (W : Nat → Prop) (Q : Post) (QP : PPost) (s : St) (h : AH) : Prop := F12.t50 W s h (F12.k49 W Q QP)
theorem F12.k50_a (C0 : KT) : aw Try.prog 183 W F12.pl (Code.at F12.code [1, 1, 1, 0]) (thenQ (C0) (Q)) QP s h = F12.t50 W s h C0 := by kernel_rfl
theorem F12.k50_ok : aw Try.prog 183 W F12.pl (Code.at F12.code [1, 1, 1]) (Q) QP s h = F12.k50 W Q QP s h := nd_seq (a := (Code.at F12.code [1, 1, 1, 0])) (b := (Code.at F12.code [1, 1, 1, 1])) (by kernel_rfl) (F12.o12 W Q QP) (F12.k50_a W Q QP s h (F12.k49 W Q QP))
def F12.t51 (s : St) (h : AH) (C0 : KT) : Prop :=
  pNil (s.tm 0) fun t172 =>
  pFld (some 5) t172 fun t173 =>
  lLd (some false) (some 1) t173 h fun t174 _ =>
  (strArg t174 = false) ∧ pLen t174 fun t176 =>
  C0 ⟨puts s.tm [(47, (s.tm 0)), (48, t172), (49, t173), (50, t174), (51, t176), (5, t176)], s.ds⟩ h
def F12.k51 (W : Nat → Prop) (Q : Post) (QP : PPost) (s : St) (h : AH) : Prop := F12.t51 s h (F12.k50 W Q QP)
theorem F12.k51_a (C0 : KT) : aw Try.prog 183 W F12.pl (Code.at F12.code [1, 1, 0]) (thenQ (C0) (Q)) QP s h = F12.t51 s h C0 := by kernel_rfl
theorem F12.k51_ok : aw Try.prog 183 W F12.pl (Code.at F12.code [1, 1]) (Q) QP s h = F12.k51 W Q QP s h := nd_seq (a := (Code.at F12.code [1, 1, 0])) (b := (Code.at F12.code [1, 1, 1])) (by kernel_rfl) (F12.k50_ok W Q QP) (F12.k51_a W Q QP s h (F12.k50 W Q QP))
def F12.t52 (W : Nat → Prop) (s : St) (h : AH) (C0 : KT) : Prop :=
  pNil (s.tm 0) fun t177 =>
  pFld (some 0) t177 fun t178 =>
  lLd (some false) (some 1) t178 h fun t179 _ =>
  pNil (s.tm 0) fun t181 =>
  pFld (some 1) t181 fun t182 =>
  lLd (some false) (some 1) t182 h fun t183 _ =>
  pIxA (some (3, none)) t179 t183 fun t185 =>
  lLd (some true) (some 3) t185 h fun t186 _ =>
  eAlloc (some [.int .i64 0, .string ⟨#[]⟩, .int .i64 0]) 3 38 h fun t188 h189 =>
  eStore (some 3) t188 t186 h189 W fun h190 =>
  C0 ⟨puts s.tm [(37, (s.tm 0)), (38, t177), (39, t178), (40, t179), (41, (s.tm 0)), (42, t181), (43, t182), (44, t183), (45, t185), (46, t186), (4, t188)], s.ds⟩ h190
def F12.k52 (W : Nat → Prop) (Q : Post) (QP : PPost) (s : St) (h : AH) : Prop := F12.t52 W s h (F12.k51 W Q QP)
theorem F12.k52_a (C0 : KT) : aw Try.prog 183 W F12.pl (Code.at F12.code [1, 0]) (thenQ (C0) (Q)) QP s h = F12.t52 W s h C0 := by kernel_rfl
theorem F12.k52_ok : aw Try.prog 183 W F12.pl (Code.at F12.code [1]) (Q) QP s h = F12.k52 W Q QP s h := nd_seq (a := (Code.at F12.code [1, 0])) (b := (Code.at F12.code [1, 1])) (by kernel_rfl) (F12.k51_ok W Q QP) (F12.k52_a W Q QP s h (F12.k51 W Q QP))
def F12.t53 (W : Nat → Prop) (Q : Post) (QP : PPost) (s : St) (h : AH) (C0 : KT) : Prop :=
  aCall Try.prog W 25 [(s.tm 0), (.sc (.int .i64 100))] h (fun t191 h192 =>
  Q .ret ⟨puts s.tm [(35, (s.tm 0)), (36, t191)], s.ds⟩ h192) (QP s.ds)
def F12.k53 (W : Nat → Prop) (Q : Post) (QP : PPost) (s : St) (h : AH) : Prop := F12.t53 W Q QP s h (F12.k52 W Q QP)
theorem F12.k53_a (C0 : KT) : aw Try.prog 183 W F12.pl (Code.at F12.code [0, 1, 0, 0]) (thenQ (aw Try.prog 183 W F12.pl (Code.at F12.code [0, 1, 0, 1]) (thenQ (C0) (Q)) QP) (thenQ (C0) (Q))) QP s h = F12.t53 W Q QP s h C0 := by kernel_rfl
theorem F12.k53_ok : aw Try.prog 183 W F12.pl (Code.at F12.code [0, 1, 0]) (thenQ (F12.k52 W Q QP) (Q)) QP s h = F12.k53 W Q QP s h := nd_seq (a := (Code.at F12.code [0, 1, 0, 0])) (b := (Code.at F12.code [0, 1, 0, 1])) (by kernel_rfl) (fun _ _ => rfl) (F12.k53_a W Q QP s h (F12.k52 W Q QP))
def F12.t54 (s : St) (h : AH) (C0 C1 : KT) : Prop :=
  aIf (s.tm 34) (
  C1 s h) (
  C0 s h)
def F12.k54 (W : Nat → Prop) (Q : Post) (QP : PPost) (s : St) (h : AH) : Prop := F12.t54 s h (F12.k52 W Q QP) (F12.k53 W Q QP)
theorem F12.k54_a (C0 C1 : KT) : aIf (aev s (.tmp 34)) (C1 s h) (aw Try.prog 183 W F12.pl (Code.at F12.code [0, 1, 1]) (thenQ (C0) (Q)) QP s h) = F12.t54 s h C0 C1 := by kernel_rfl
theorem F12.k54_ok : aw Try.prog 183 W F12.pl (Code.at F12.code [0, 1]) (thenQ (F12.k52 W Q QP) (Q)) QP s h = F12.k54 W Q QP s h := nd_cond (a := (Code.at F12.code [0, 1, 0])) (b := (Code.at F12.code [0, 1, 1])) (by kernel_rfl) (F12.k53_ok W Q QP s h) rfl (F12.k54_a W Q QP s h (F12.k52 W Q QP) (F12.k53 W Q QP))
def F12.t55 (s : St) (h : AH) (C0 C1 : KT) : Prop :=
  pPick (s.tm 21) (.sc (.bool true)) (s.tm 33) fun t193 =>
  C1 ⟨puts s.tm [(34, t193)], s.ds⟩ h
def F12.k55 (W : Nat → Prop) (Q : Post) (QP : PPost) (s : St) (h : AH) : Prop := F12.t55 s h (F12.k52 W Q QP) (F12.k54 W Q QP)
theorem F12.k55_a (C0 C1 : KT) : evI Try.prog 183 (fun _ => W) nobody QP (regOps (Code.at F12.code [0, 0])) (isAt F12.g1 2) ((thenQ (C1) (thenQ (C0) (Q))) .normal) s h = F12.t55 s h C0 C1 := by kernel_rfl
theorem F12.k55_ok : evG Try.prog 183 (fun _ => W) nobody QP (regOps (Code.at F12.code [0, 0])) (F12.g1.drop 2) ((thenQ (F12.k54 W Q QP) (thenQ (F12.k52 W Q QP) (Q))) .normal) s h = F12.k55 W Q QP s h := nd_g (is := isAt F12.g1 2) (rest := F12.g1.drop 3) (by kernel_rfl) (fun _ _ => rfl) (F12.k55_a W Q QP s h (F12.k52 W Q QP) (F12.k54 W Q QP))
def F12.t56 (s : St) (h : AH) (C0 : KT) : Prop :=
  aIg false (s.tm 21) (
  pNil (s.tm 0) fun t194 =>
  pFld (some 0) t194 fun t195 =>
  lLd (some false) (some 1) t195 h fun t196 _ =>
  pNil (s.tm 0) fun t198 =>
  pFld (some 1) t198 fun t199 =>
  lLd (some false) (some 1) t199 h fun t200 _ =>
  pIxA (some (3, none)) t196 t200 fun t202 =>
  pFld (some 0) t202 fun t203 =>
  lLd (some false) (some 1) t203 h fun t204 _ =>
  pBin Try.prog .neq 3 true t204 (.sc (.int .i64 1)) fun t206 =>
  C0 ⟨puts s.tm [(22, (s.tm 0)), (23, t194), (24, t195), (25, t196), (26, (s.tm 0)), (27, t198), (28, t199), (29, t200), (30, t202), (31, t203), (32, t204), (33, t206)], s.ds⟩ h) (
  C0 ⟨puts s.tm [(22, noA), (23, noA), (24, noA), (25, noA), (26, noA), (27, noA), (28, noA), (29, noA), (30, noA), (31, noA), (32, noA), (33, noA)], s.ds⟩ h)
def F12.k56 (W : Nat → Prop) (Q : Post) (QP : PPost) (s : St) (h : AH) : Prop := F12.t56 s h (F12.k55 W Q QP)
theorem F12.k56_a (C0 : KT) : aIg false (s.tm 21) (evI Try.prog 183 (fun _ => W) nobody QP (regOps (Code.at F12.code [0, 0])) (isAt F12.g1 1) (C0) s h) ((C0) (skI 183 (regOps (Code.at F12.code [0, 0])) (isAt F12.g1 1) s) h) = F12.t56 s h C0 := by kernel_rfl
theorem F12.k56_ok : evG Try.prog 183 (fun _ => W) nobody QP (regOps (Code.at F12.code [0, 0])) (F12.g1.drop 1) ((thenQ (F12.k54 W Q QP) (thenQ (F12.k52 W Q QP) (Q))) .normal) s h = F12.k56 W Q QP s h := nd_gw (j := 10) (is := isAt F12.g1 1) (rest := F12.g1.drop 2) (by kernel_rfl) (d := 21) (by kernel_rfl) (F12.k55_ok W Q QP) (F12.k56_a W QP s h (F12.k55 W Q QP))
def F12.t57 (s : St) (h : AH) (C0 : KT) : Prop :=
  pNil (s.tm 0) fun t207 =>
  pFld (some 1) t207 fun t208 =>
  lLd (some false) (some 1) t208 h fun t209 _ =>
  pNil (s.tm 0) fun t211 =>
  pFld (some 0) t211 fun t212 =>
  lLd (some false) (some 1) t212 h fun t213 _ =>
  (strArg t213 = false) ∧ pLen t213 fun t215 =>
  pBin Try.prog .geq 3 false t209 t215 fun t216 =>
  C0 ⟨puts s.tm [(11, (s.tm 0)), (12, t207), (13, t208), (14, t209), (15, (s.tm 0)), (16, t211), (17, t212), (18, t213), (19, t215), (20, t216), (21, t216)], s.ds⟩ h
def F12.k57 (W : Nat → Prop) (Q : Post) (QP : PPost) (s : St) (h : AH) : Prop := F12.t57 s h (F12.k56 W Q QP)
theorem F12.k57_a (C0 : KT) : evI Try.prog 183 (fun _ => W) nobody QP (regOps (Code.at F12.code [0, 0])) (isAt F12.g1 0) (C0) s h = F12.t57 s h C0 := by kernel_rfl
theorem F12.k57_ok : evG Try.prog 183 (fun _ => W) nobody QP (regOps (Code.at F12.code [0, 0])) (F12.g1.drop 0) ((thenQ (F12.k54 W Q QP) (thenQ (F12.k52 W Q QP) (Q))) .normal) s h = F12.k57 W Q QP s h := nd_g (is := isAt F12.g1 0) (rest := F12.g1.drop 1) (by kernel_rfl) (F12.k56_ok W Q QP) (F12.k57_a W QP s h (F12.k56 W Q QP))
theorem F12.o13 : aw Try.prog 183 W F12.pl (Code.at F12.code [0, 0]) (thenQ (F12.k54 W Q QP) (thenQ (F12.k52 W Q QP) (Q))) QP s h = F12.k57 W Q QP s h := nd_groups (id := 0) (draw := true) (ops := (regOps (Code.at F12.code [0, 0]))) (gs := F12.g1.drop 0) (by kernel_rfl) (by kernel_rfl) (F12.k57_ok W Q QP s h)
theorem F12.o14 : aw Try.prog 183 W F12.pl (Code.at F12.code [0]) (thenQ (F12.k52 W Q QP) (Q)) QP s h = F12.k57 W Q QP s h := nd_seq (a := (Code.at F12.code [0, 0])) (b := (Code.at F12.code [0, 1])) (by kernel_rfl) (F12.k54_ok W Q QP) (F12.o13 W Q QP s h)
theorem F12.o15 : aw Try.prog 183 W F12.pl (Code.at F12.code []) (Q) QP s h = F12.k57 W Q QP s h := nd_seq (a := (Code.at F12.code [0])) (b := (Code.at F12.code [1])) (by kernel_rfl) (F12.k52_ok W Q QP) (F12.o14 W Q QP s h)
end
theorem F12.calls {x0 x1 : AV} {h : AH} {M : Nat → Prop} {R : AE → AH → Prop} (hp : F12.k57 (fun id => M id ∨ h.next ≤ id) (bodyQ Try.prog [] R) (bodyP R) (s0 [x0, x1]) h) : ACalls Try.prog 12 [x0, x1] h M R :=
  acalls_of Try.mixed Try.func12 rfl (Nat.le_of_ble_eq_true rfl) F12.ok (by rw [show Try.f12.ntmps = 183 from rfl, show Try.f12.results.toList = [] from rfl]; exact Eq.mpr (F12.o15 _ _ _ _ _) hp)
attribute [simp] F12.k1 F12.t1 F12.k2 F12.t2 F12.k3 F12.t3 F12.k4 F12.t4 F12.k5 F12.t5 F12.k6 F12.t6 F12.k7 F12.t7 F12.k8 F12.t8 F12.k9 F12.t9 F12.k10 F12.k11 F12.t11 F12.k12 F12.t12 F12.k13 F12.t13 F12.k14 F12.t14 F12.k15 F12.t15 F12.k16 F12.t16 F12.k17 F12.t17 F12.k18 F12.t18 F12.k19 F12.t19 F12.k20 F12.t20 F12.k21 F12.t21 F12.k22 F12.t22 F12.k23 F12.t23 F12.k24 F12.t24 F12.k25 F12.t25 F12.k26 F12.t26 F12.k27 F12.t27 F12.k28 F12.t28 F12.k29 F12.k30 F12.t30 F12.k31 F12.t31 F12.k32 F12.t32 F12.k33 F12.t33 F12.k34 F12.t34 F12.k35 F12.t35 F12.k36 F12.t36 F12.k37 F12.t37 F12.k38 F12.t38 F12.k39 F12.t39 F12.k40 F12.t40 F12.k41 F12.t41 F12.k42 F12.t42 F12.k43 F12.t43 F12.k44 F12.t44 F12.k45 F12.t45 F12.k46 F12.t46 F12.k47 F12.t47 F12.k48 F12.t48 F12.k49 F12.t49 F12.k50 F12.t50 F12.k51 F12.t51 F12.k52 F12.t52 F12.k53 F12.t53 F12.k54 F12.t54 F12.k55 F12.t55 F12.k56 F12.t56 F12.k57 F12.t57
end Go.Proofs.Ythkkgbmjjpcfaaa

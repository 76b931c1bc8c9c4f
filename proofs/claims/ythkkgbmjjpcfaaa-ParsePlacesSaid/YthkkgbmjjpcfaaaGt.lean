/- Bodies of the law and of parse.Parse, written out for the table; printed by a program of this session. No condition. -/
import Derived.Test.YthkkgbmjjpcfaaaGl
namespace Go.Proofs.Ythkkgbmjjpcfaaa
open Go.Ab

/-! cubit/cubitlaw10.ParsePlaces -/
section
variable (W : Nat → Prop) (Q : Post) (QP : PPost) (s : St) (h : AH)
noncomputable def F4.code : Code := Try.f4.body.getD .skip
def F4.g1 : Grps := [(none, [(0, false), (1, false), (2, false), (3, false), (4, false)]), (some (4, false), [(5, false), (6, false), (7, false), (8, false), (9, false), (10, false), (11, false), (12, false)]), (none, [(13, false), (14, false)]), (some (14, false), [(15, false), (16, false), (17, false), (18, false), (19, false), (20, false), (21, false)]), (none, [(22, false)])]
def F4.g2 : Grps := [(none, [(0, false), (1, false), (2, false), (3, false), (4, false)]), (some (4, true), [(5, false), (6, false), (7, false), (8, false), (9, false), (10, false), (11, false), (12, false)]), (none, [(13, false)])]
def F4.g3 : Grps := [(none, [(0, false), (1, false), (2, false)]), (some (2, true), [(3, false), (4, false), (5, false), (6, false), (7, false), (8, false), (9, false), (10, false), (11, false)]), (none, [(12, false), (13, false)]), (some (13, false), [(14, false), (15, false), (16, false)]), (none, [(17, false), (18, false)]), (some (18, false), [(19, false), (20, false), (21, false), (22, false), (23, false), (24, false), (25, false), (26, false)]), (none, [(27, false)])]
def F4.g4 : Grps := [(none, [(0, false), (1, false), (2, false), (3, false)]), (some (3, true), [(4, false), (5, false)]), (none, [(6, false), (7, false)]), (some (7, true), [(8, false), (9, false), (10, false), (11, false)]), (none, [(12, false), (13, false)])]
def F4.pl : Plans := [(5, ⟨F4.g4, false, []⟩), (13, ⟨F4.g3, false, []⟩), (15, ⟨F4.g2, false, []⟩), (20, ⟨F4.g1, false, []⟩)]
theorem F4.ok : okCode F4.pl F4.code = true := by kernel_rfl
def F4.t1 (Q : Post) (s : St) (h : AH) : Prop :=
  pBin Try.prog .eql 3 true (s.tm 4) (.sc (.int .i64 0)) fun t1 =>
  Q .ret ⟨puts s.tm [(125, (s.tm 4)), (126, t1), (2, t1)], s.ds⟩ h
def F4.k1 (W : Nat → Prop) (Q : Post) (QP : PPost) (s : St) (h : AH) : Prop := F4.t1 Q s h
theorem F4.k1_a : aw Try.prog 127 W F4.pl (Code.at F4.code [1, 1, 1, 1, 1, 1, 1, 1, 0]) (thenQ (aw Try.prog 127 W F4.pl (Code.at F4.code [1, 1, 1, 1, 1, 1, 1, 1, 1]) (Q) QP) (Q)) QP s h = F4.t1 Q s h := by kernel_rfl
theorem F4.k1_ok : aw Try.prog 127 W F4.pl (Code.at F4.code [1, 1, 1, 1, 1, 1, 1, 1]) (Q) QP s h = F4.k1 W Q QP s h := nd_seq (a := (Code.at F4.code [1, 1, 1, 1, 1, 1, 1, 1, 0])) (b := (Code.at F4.code [1, 1, 1, 1, 1, 1, 1, 1, 1])) (by kernel_rfl) (fun _ _ => rfl) (F4.k1_a W Q QP s h)
def F4.t2 (Q : Post) (s : St) (h : AH) : Prop :=
  pBin Try.prog .add 3 true (s.tm 46) (.sc (.int .i64 1)) fun t2 =>
  Q .normal ⟨puts s.tm [(124, t2), (46, t2)], s.ds⟩ h
def F4.k2 (W : Nat → Prop) (Q : Post) (QP : PPost) (s : St) (h : AH) : Prop := F4.t2 Q s h
theorem F4.k2_a : aw Try.prog 127 W F4.pl (Code.at F4.code [1, 1, 1, 1, 1, 1, 1, 0, 1, 0, 0, 1, 1, 1]) (Q) QP s h = F4.t2 Q s h := by kernel_rfl
theorem F4.k2_ok : aw Try.prog 127 W F4.pl (Code.at F4.code [1, 1, 1, 1, 1, 1, 1, 0, 1, 0, 0, 1, 1, 1]) (Q) QP s h = F4.k2 W Q QP s h := (F4.k2_a W Q QP s h)
def F4.t3 (Q : Post) (s : St) (h : AH) (C0 : KT) : Prop :=
  Q .ret ⟨puts s.tm [(2, (.sc (.bool false)))], s.ds⟩ h
def F4.k3 (W : Nat → Prop) (Q : Post) (QP : PPost) (s : St) (h : AH) : Prop := F4.t3 Q s h (F4.k2 W Q QP)
theorem F4.k3_a (C0 : KT) : aw Try.prog 127 W F4.pl (Code.at F4.code [1, 1, 1, 1, 1, 1, 1, 0, 1, 0, 0, 1, 1, 0, 0, 1, 1, 1, 1, 1, 1, 0, 0]) (thenQ (aw Try.prog 127 W F4.pl (Code.at F4.code [1, 1, 1, 1, 1, 1, 1, 0, 1, 0, 0, 1, 1, 0, 0, 1, 1, 1, 1, 1, 1, 0, 1]) (blockQ 1 (thenQ (C0) (Q))) QP) (blockQ 1 (thenQ (C0) (Q)))) QP s h = F4.t3 Q s h C0 := by kernel_rfl
theorem F4.k3_ok : aw Try.prog 127 W F4.pl (Code.at F4.code [1, 1, 1, 1, 1, 1, 1, 0, 1, 0, 0, 1, 1, 0, 0, 1, 1, 1, 1, 1, 1, 0]) (blockQ 1 (thenQ (F4.k2 W Q QP) (Q))) QP s h = F4.k3 W Q QP s h := nd_seq (a := (Code.at F4.code [1, 1, 1, 1, 1, 1, 1, 0, 1, 0, 0, 1, 1, 0, 0, 1, 1, 1, 1, 1, 1, 0, 0])) (b := (Code.at F4.code [1, 1, 1, 1, 1, 1, 1, 0, 1, 0, 0, 1, 1, 0, 0, 1, 1, 1, 1, 1, 1, 0, 1])) (by kernel_rfl) (fun _ _ => rfl) (F4.k3_a W Q QP s h (F4.k2 W Q QP))
def F4.t4 (s : St) (h : AH) (C0 C1 : KT) : Prop :=
  aIf (s.tm 123) (
  C1 s h) (
  C0 s h)
def F4.k4 (W : Nat → Prop) (Q : Post) (QP : PPost) (s : St) (h : AH) : Prop := F4.t4 s h (F4.k2 W Q QP) (F4.k3 W Q QP)
theorem F4.k4_a (C0 C1 : KT) : aIf (aev s (.tmp 123)) (C1 s h) (aw Try.prog 127 W F4.pl (Code.at F4.code [1, 1, 1, 1, 1, 1, 1, 0, 1, 0, 0, 1, 1, 0, 0, 1, 1, 1, 1, 1, 1, 1]) (blockQ 1 (thenQ (C0) (Q))) QP s h) = F4.t4 s h C0 C1 := by kernel_rfl
theorem F4.k4_ok : aw Try.prog 127 W F4.pl (Code.at F4.code [1, 1, 1, 1, 1, 1, 1, 0, 1, 0, 0, 1, 1, 0, 0, 1, 1, 1, 1, 1, 1]) (blockQ 1 (thenQ (F4.k2 W Q QP) (Q))) QP s h = F4.k4 W Q QP s h := nd_cond (a := (Code.at F4.code [1, 1, 1, 1, 1, 1, 1, 0, 1, 0, 0, 1, 1, 0, 0, 1, 1, 1, 1, 1, 1, 0])) (b := (Code.at F4.code [1, 1, 1, 1, 1, 1, 1, 0, 1, 0, 0, 1, 1, 0, 0, 1, 1, 1, 1, 1, 1, 1])) (by kernel_rfl) (F4.k3_ok W Q QP s h) rfl (F4.k4_a W Q QP s h (F4.k2 W Q QP) (F4.k3 W Q QP))
def F4.t5 (s : St) (h : AH) (C0 C1 : KT) : Prop :=
  pPick (s.tm 115) (.sc (.bool true)) (s.tm 122) fun t3 =>
  C1 ⟨puts s.tm [(123, t3)], s.ds⟩ h
def F4.k5 (W : Nat → Prop) (Q : Post) (QP : PPost) (s : St) (h : AH) : Prop := F4.t5 s h (F4.k2 W Q QP) (F4.k4 W Q QP)
theorem F4.k5_a (C0 C1 : KT) : evI Try.prog 127 (fun _ => W) nobody QP (regOps (Code.at F4.code [1, 1, 1, 1, 1, 1, 1, 0, 1, 0, 0, 1, 1, 0, 0, 1, 1, 1, 1, 1, 0])) (isAt F4.g1 4) ((thenQ (C1) (blockQ 1 (thenQ (C0) (Q)))) .normal) s h = F4.t5 s h C0 C1 := by kernel_rfl
theorem F4.k5_ok : evG Try.prog 127 (fun _ => W) nobody QP (regOps (Code.at F4.code [1, 1, 1, 1, 1, 1, 1, 0, 1, 0, 0, 1, 1, 0, 0, 1, 1, 1, 1, 1, 0])) (F4.g1.drop 4) ((thenQ (F4.k4 W Q QP) (blockQ 1 (thenQ (F4.k2 W Q QP) (Q)))) .normal) s h = F4.k5 W Q QP s h := nd_g (is := isAt F4.g1 4) (rest := F4.g1.drop 5) (by kernel_rfl) (fun _ _ => rfl) (F4.k5_a W Q QP s h (F4.k2 W Q QP) (F4.k4 W Q QP))
def F4.t6 (s : St) (h : AH) (C0 : KT) : Prop :=
  aIg false (s.tm 115) (
  pIxA (some (3, none)) (s.tm 6) (s.tm 9) fun t4 =>
  pFld (some 1) t4 fun t5 =>
  lLd (some false) (some 1) t5 h fun t6 _ =>
  pBin Try.prog .neq 9 false t6 (s.tm 12) fun t8 =>
  C0 ⟨puts s.tm [(116, (s.tm 6)), (117, (s.tm 9)), (118, t4), (119, t5), (120, t6), (121, (s.tm 12)), (122, t8)], s.ds⟩ h) (
  C0 ⟨puts s.tm [(116, noA), (117, noA), (118, noA), (119, noA), (120, noA), (121, noA), (122, noA)], s.ds⟩ h)
def F4.k6 (W : Nat → Prop) (Q : Post) (QP : PPost) (s : St) (h : AH) : Prop := F4.t6 s h (F4.k5 W Q QP)
theorem F4.k6_a (C0 : KT) : aIg false (s.tm 115) (evI Try.prog 127 (fun _ => W) nobody QP (regOps (Code.at F4.code [1, 1, 1, 1, 1, 1, 1, 0, 1, 0, 0, 1, 1, 0, 0, 1, 1, 1, 1, 1, 0])) (isAt F4.g1 3) (C0) s h) ((C0) (skI 127 (regOps (Code.at F4.code [1, 1, 1, 1, 1, 1, 1, 0, 1, 0, 0, 1, 1, 0, 0, 1, 1, 1, 1, 1, 0])) (isAt F4.g1 3) s) h) = F4.t6 s h C0 := by kernel_rfl
theorem F4.k6_ok : evG Try.prog 127 (fun _ => W) nobody QP (regOps (Code.at F4.code [1, 1, 1, 1, 1, 1, 1, 0, 1, 0, 0, 1, 1, 0, 0, 1, 1, 1, 1, 1, 0])) (F4.g1.drop 3) ((thenQ (F4.k4 W Q QP) (blockQ 1 (thenQ (F4.k2 W Q QP) (Q)))) .normal) s h = F4.k6 W Q QP s h := nd_gw (j := 14) (is := isAt F4.g1 3) (rest := F4.g1.drop 4) (by kernel_rfl) (d := 115) (by kernel_rfl) (F4.k5_ok W Q QP) (F4.k6_a W QP s h (F4.k5 W Q QP))
def F4.t7 (s : St) (h : AH) (C0 : KT) : Prop :=
  pPick (s.tm 105) (.sc (.bool true)) (s.tm 113) fun t9 =>
  C0 ⟨puts s.tm [(114, t9), (115, t9)], s.ds⟩ h
def F4.k7 (W : Nat → Prop) (Q : Post) (QP : PPost) (s : St) (h : AH) : Prop := F4.t7 s h (F4.k6 W Q QP)
theorem F4.k7_a (C0 : KT) : evI Try.prog 127 (fun _ => W) nobody QP (regOps (Code.at F4.code [1, 1, 1, 1, 1, 1, 1, 0, 1, 0, 0, 1, 1, 0, 0, 1, 1, 1, 1, 1, 0])) (isAt F4.g1 2) (C0) s h = F4.t7 s h C0 := by kernel_rfl
theorem F4.k7_ok : evG Try.prog 127 (fun _ => W) nobody QP (regOps (Code.at F4.code [1, 1, 1, 1, 1, 1, 1, 0, 1, 0, 0, 1, 1, 0, 0, 1, 1, 1, 1, 1, 0])) (F4.g1.drop 2) ((thenQ (F4.k4 W Q QP) (blockQ 1 (thenQ (F4.k2 W Q QP) (Q)))) .normal) s h = F4.k7 W Q QP s h := nd_g (is := isAt F4.g1 2) (rest := F4.g1.drop 3) (by kernel_rfl) (F4.k6_ok W Q QP) (F4.k7_a W QP s h (F4.k6 W Q QP))
def F4.t8 (s : St) (h : AH) (C0 : KT) : Prop :=
  aIg false (s.tm 105) (
  pIxA (some (3, none)) (s.tm 6) (s.tm 9) fun t10 =>
  pFld (some 2) t10 fun t11 =>
  lLd (some false) (some 1) t11 h fun t12 _ =>
  pFld (some 5) (s.tm 11) fun t14 =>
  lLd (some false) (some 1) t14 h fun t15 _ =>
  pBin Try.prog .neq 3 false t12 t15 fun t17 =>
  C0 ⟨puts s.tm [(106, (s.tm 6)), (107, (s.tm 9)), (108, t10), (109, t11), (110, t12), (111, t14), (112, t15), (113, t17)], s.ds⟩ h) (
  C0 ⟨puts s.tm [(106, noA), (107, noA), (108, noA), (109, noA), (110, noA), (111, noA), (112, noA), (113, noA)], s.ds⟩ h)
def F4.k8 (W : Nat → Prop) (Q : Post) (QP : PPost) (s : St) (h : AH) : Prop := F4.t8 s h (F4.k7 W Q QP)
theorem F4.k8_a (C0 : KT) : aIg false (s.tm 105) (evI Try.prog 127 (fun _ => W) nobody QP (regOps (Code.at F4.code [1, 1, 1, 1, 1, 1, 1, 0, 1, 0, 0, 1, 1, 0, 0, 1, 1, 1, 1, 1, 0])) (isAt F4.g1 1) (C0) s h) ((C0) (skI 127 (regOps (Code.at F4.code [1, 1, 1, 1, 1, 1, 1, 0, 1, 0, 0, 1, 1, 0, 0, 1, 1, 1, 1, 1, 0])) (isAt F4.g1 1) s) h) = F4.t8 s h C0 := by kernel_rfl
theorem F4.k8_ok : evG Try.prog 127 (fun _ => W) nobody QP (regOps (Code.at F4.code [1, 1, 1, 1, 1, 1, 1, 0, 1, 0, 0, 1, 1, 0, 0, 1, 1, 1, 1, 1, 0])) (F4.g1.drop 1) ((thenQ (F4.k4 W Q QP) (blockQ 1 (thenQ (F4.k2 W Q QP) (Q)))) .normal) s h = F4.k8 W Q QP s h := nd_gw (j := 4) (is := isAt F4.g1 1) (rest := F4.g1.drop 2) (by kernel_rfl) (d := 105) (by kernel_rfl) (F4.k7_ok W Q QP) (F4.k8_a W QP s h (F4.k7 W Q QP))
def F4.t9 (s : St) (h : AH) (C0 : KT) : Prop :=
  (strArg (s.tm 6) = false) ∧ pLen (s.tm 6) fun t18 =>
  pBin Try.prog .eql 3 false (s.tm 9) t18 fun t19 =>
  C0 ⟨puts s.tm [(101, (s.tm 9)), (102, (s.tm 6)), (103, t18), (104, t19), (105, t19)], s.ds⟩ h
def F4.k9 (W : Nat → Prop) (Q : Post) (QP : PPost) (s : St) (h : AH) : Prop := F4.t9 s h (F4.k8 W Q QP)
theorem F4.k9_a (C0 : KT) : evI Try.prog 127 (fun _ => W) nobody QP (regOps (Code.at F4.code [1, 1, 1, 1, 1, 1, 1, 0, 1, 0, 0, 1, 1, 0, 0, 1, 1, 1, 1, 1, 0])) (isAt F4.g1 0) (C0) s h = F4.t9 s h C0 := by kernel_rfl
theorem F4.k9_ok : evG Try.prog 127 (fun _ => W) nobody QP (regOps (Code.at F4.code [1, 1, 1, 1, 1, 1, 1, 0, 1, 0, 0, 1, 1, 0, 0, 1, 1, 1, 1, 1, 0])) (F4.g1.drop 0) ((thenQ (F4.k4 W Q QP) (blockQ 1 (thenQ (F4.k2 W Q QP) (Q)))) .normal) s h = F4.k9 W Q QP s h := nd_g (is := isAt F4.g1 0) (rest := F4.g1.drop 1) (by kernel_rfl) (F4.k8_ok W Q QP) (F4.k9_a W QP s h (F4.k8 W Q QP))
theorem F4.o1 : aw Try.prog 127 W F4.pl (Code.at F4.code [1, 1, 1, 1, 1, 1, 1, 0, 1, 0, 0, 1, 1, 0, 0, 1, 1, 1, 1, 1, 0]) (thenQ (F4.k4 W Q QP) (blockQ 1 (thenQ (F4.k2 W Q QP) (Q)))) QP s h = F4.k9 W Q QP s h := nd_groups (id := 20) (draw := true) (ops := (regOps (Code.at F4.code [1, 1, 1, 1, 1, 1, 1, 0, 1, 0, 0, 1, 1, 0, 0, 1, 1, 1, 1, 1, 0]))) (gs := F4.g1.drop 0) (by kernel_rfl) (by kernel_rfl) (F4.k9_ok W Q QP s h)
theorem F4.o2 : aw Try.prog 127 W F4.pl (Code.at F4.code [1, 1, 1, 1, 1, 1, 1, 0, 1, 0, 0, 1, 1, 0, 0, 1, 1, 1, 1, 1]) (blockQ 1 (thenQ (F4.k2 W Q QP) (Q))) QP s h = F4.k9 W Q QP s h := nd_seq (a := (Code.at F4.code [1, 1, 1, 1, 1, 1, 1, 0, 1, 0, 0, 1, 1, 0, 0, 1, 1, 1, 1, 1, 0])) (b := (Code.at F4.code [1, 1, 1, 1, 1, 1, 1, 0, 1, 0, 0, 1, 1, 0, 0, 1, 1, 1, 1, 1, 1])) (by kernel_rfl) (F4.k4_ok W Q QP) (F4.o1 W Q QP s h)
def F4.t10 (s : St) (h : AH) (C0 C1 : KT) : Prop :=
  aIf (s.tm 98) (
  pFld (some 1) (s.tm 11) fun t20 =>
  lLd (some false) (some 1) t20 h fun t21 _ =>
  C1 ⟨puts s.tm [(99, t20), (100, t21), (12, t21)], s.ds⟩ h) (
  C1 s h)
def F4.k10 (W : Nat → Prop) (Q : Post) (QP : PPost) (s : St) (h : AH) : Prop := F4.t10 s h (F4.k2 W Q QP) (F4.k9 W Q QP)
theorem F4.k10_a (C0 C1 : KT) : aIf (aev s (.tmp 98)) (aw Try.prog 127 W F4.pl (Code.at F4.code [1, 1, 1, 1, 1, 1, 1, 0, 1, 0, 0, 1, 1, 0, 0, 1, 1, 1, 1, 0, 1, 0]) (thenQ (C1) (blockQ 1 (thenQ (C0) (Q)))) QP s h) (aw Try.prog 127 W F4.pl (Code.at F4.code [1, 1, 1, 1, 1, 1, 1, 0, 1, 0, 0, 1, 1, 0, 0, 1, 1, 1, 1, 0, 1, 1]) (thenQ (C1) (blockQ 1 (thenQ (C0) (Q)))) QP s h) = F4.t10 s h C0 C1 := by kernel_rfl
theorem F4.k10_ok : aw Try.prog 127 W F4.pl (Code.at F4.code [1, 1, 1, 1, 1, 1, 1, 0, 1, 0, 0, 1, 1, 0, 0, 1, 1, 1, 1, 0, 1]) (thenQ (F4.k9 W Q QP) (blockQ 1 (thenQ (F4.k2 W Q QP) (Q)))) QP s h = F4.k10 W Q QP s h := nd_cond (a := (Code.at F4.code [1, 1, 1, 1, 1, 1, 1, 0, 1, 0, 0, 1, 1, 0, 0, 1, 1, 1, 1, 0, 1, 0])) (b := (Code.at F4.code [1, 1, 1, 1, 1, 1, 1, 0, 1, 0, 0, 1, 1, 0, 0, 1, 1, 1, 1, 0, 1, 1])) (by kernel_rfl) rfl rfl (F4.k10_a W Q QP s h (F4.k2 W Q QP) (F4.k9 W Q QP))
def F4.t11 (s : St) (h : AH) (C0 C1 C2 : KT) : Prop :=
  pBin Try.prog .eql 9 true (s.tm 12) (.sc (.string ⟨#[117, 115, 101]⟩)) fun t23 =>
  C0 ⟨puts s.tm [(97, (s.tm 12)), (98, t23)], s.ds⟩ h
def F4.k11 (W : Nat → Prop) (Q : Post) (QP : PPost) (s : St) (h : AH) : Prop := F4.t11 s h (F4.k10 W Q QP) (F4.k2 W Q QP) (F4.k9 W Q QP)
theorem F4.k11_a (C0 C1 C2 : KT) : aw Try.prog 127 W F4.pl (Code.at F4.code [1, 1, 1, 1, 1, 1, 1, 0, 1, 0, 0, 1, 1, 0, 0, 1, 1, 1, 1, 0, 0]) (thenQ (C0) (thenQ (C2) (blockQ 1 (thenQ (C1) (Q))))) QP s h = F4.t11 s h C0 C1 C2 := by kernel_rfl
theorem F4.k11_ok : aw Try.prog 127 W F4.pl (Code.at F4.code [1, 1, 1, 1, 1, 1, 1, 0, 1, 0, 0, 1, 1, 0, 0, 1, 1, 1, 1, 0]) (thenQ (F4.k9 W Q QP) (blockQ 1 (thenQ (F4.k2 W Q QP) (Q)))) QP s h = F4.k11 W Q QP s h := nd_seq (a := (Code.at F4.code [1, 1, 1, 1, 1, 1, 1, 0, 1, 0, 0, 1, 1, 0, 0, 1, 1, 1, 1, 0, 0])) (b := (Code.at F4.code [1, 1, 1, 1, 1, 1, 1, 0, 1, 0, 0, 1, 1, 0, 0, 1, 1, 1, 1, 0, 1])) (by kernel_rfl) (F4.k10_ok W Q QP) (F4.k11_a W Q QP s h (F4.k10 W Q QP) (F4.k2 W Q QP) (F4.k9 W Q QP))
theorem F4.o3 : aw Try.prog 127 W F4.pl (Code.at F4.code [1, 1, 1, 1, 1, 1, 1, 0, 1, 0, 0, 1, 1, 0, 0, 1, 1, 1, 1]) (blockQ 1 (thenQ (F4.k2 W Q QP) (Q))) QP s h = F4.k11 W Q QP s h := nd_seq (a := (Code.at F4.code [1, 1, 1, 1, 1, 1, 1, 0, 1, 0, 0, 1, 1, 0, 0, 1, 1, 1, 1, 0])) (b := (Code.at F4.code [1, 1, 1, 1, 1, 1, 1, 0, 1, 0, 0, 1, 1, 0, 0, 1, 1, 1, 1, 1])) (by kernel_rfl) (F4.o2 W Q QP) (F4.k11_ok W Q QP s h)
def F4.t12 (s : St) (h : AH) (C0 C1 : KT) : Prop :=
  pFld (some 0) (s.tm 11) fun t24 =>
  lLd (some false) (some 1) t24 h fun t25 _ =>
  C0 ⟨puts s.tm [(95, t24), (96, t25), (12, t25)], s.ds⟩ h
def F4.k12 (W : Nat → Prop) (Q : Post) (QP : PPost) (s : St) (h : AH) : Prop := F4.t12 s h (F4.k11 W Q QP) (F4.k2 W Q QP)
theorem F4.k12_a (C0 C1 : KT) : aw Try.prog 127 W F4.pl (Code.at F4.code [1, 1, 1, 1, 1, 1, 1, 0, 1, 0, 0, 1, 1, 0, 0, 1, 1, 1, 0]) (thenQ (C0) (blockQ 1 (thenQ (C1) (Q)))) QP s h = F4.t12 s h C0 C1 := by kernel_rfl
theorem F4.k12_ok : aw Try.prog 127 W F4.pl (Code.at F4.code [1, 1, 1, 1, 1, 1, 1, 0, 1, 0, 0, 1, 1, 0, 0, 1, 1, 1]) (blockQ 1 (thenQ (F4.k2 W Q QP) (Q))) QP s h = F4.k12 W Q QP s h := nd_seq (a := (Code.at F4.code [1, 1, 1, 1, 1, 1, 1, 0, 1, 0, 0, 1, 1, 0, 0, 1, 1, 1, 0])) (b := (Code.at F4.code [1, 1, 1, 1, 1, 1, 1, 0, 1, 0, 0, 1, 1, 0, 0, 1, 1, 1, 1])) (by kernel_rfl) (F4.o3 W Q QP) (F4.k12_a W Q QP s h (F4.k11 W Q QP) (F4.k2 W Q QP))
def F4.t13 (Q : Post) (s : St) (h : AH) : Prop :=
  pBin Try.prog .add 3 true (s.tm 9) (.sc (.int .i64 1)) fun t27 =>
  Q .normal ⟨puts s.tm [(93, (s.tm 9)), (94, t27), (9, t27)], s.ds⟩ h
def F4.k13 (W : Nat → Prop) (Q : Post) (QP : PPost) (s : St) (h : AH) : Prop := F4.t13 Q s h
theorem F4.k13_a : aw Try.prog 127 W F4.pl (Code.at F4.code [1, 1, 1, 1, 1, 1, 1, 0, 1, 0, 0, 1, 1, 0, 0, 1, 1, 0, 0, 0, 1, 0]) (blockQ 3 (Q)) QP s h = F4.t13 Q s h := by kernel_rfl
theorem F4.k13_ok : aw Try.prog 127 W F4.pl (Code.at F4.code [1, 1, 1, 1, 1, 1, 1, 0, 1, 0, 0, 1, 1, 0, 0, 1, 1, 0, 0, 0, 1, 0]) (blockQ 3 (Q)) QP s h = F4.k13 W Q QP s h := (F4.k13_a W Q QP s h)
theorem F4.o4 : aw Try.prog 127 W F4.pl (Code.at F4.code [1, 1, 1, 1, 1, 1, 1, 0, 1, 0, 0, 1, 1, 0, 0, 1, 1, 0, 0, 0, 1]) (Q) QP s h = F4.k13 W Q QP s h := nd_block (a := (Code.at F4.code [1, 1, 1, 1, 1, 1, 1, 0, 1, 0, 0, 1, 1, 0, 0, 1, 1, 0, 0, 0, 1, 0])) (by kernel_rfl) (F4.k13_ok W Q QP s h)
def F4.t14 (Q : Post) (s : St) (h : AH) (C0 : KT) : Prop :=
  aIf (s.tm 92) (
  C0 s h) (
  Q (.exit 2) s h)
def F4.k14 (W : Nat → Prop) (Q : Post) (QP : PPost) (s : St) (h : AH) : Prop := F4.t14 Q s h (F4.k13 W Q QP)
theorem F4.k14_a (C0 : KT) : aIf (aev s (.tmp 92)) (aw Try.prog 127 W F4.pl (Code.at F4.code [1, 1, 1, 1, 1, 1, 1, 0, 1, 0, 0, 1, 1, 0, 0, 1, 1, 0, 0, 0, 0, 1, 0]) (thenQ (C0) (Q)) QP s h) (aw Try.prog 127 W F4.pl (Code.at F4.code [1, 1, 1, 1, 1, 1, 1, 0, 1, 0, 0, 1, 1, 0, 0, 1, 1, 0, 0, 0, 0, 1, 1]) (thenQ (C0) (Q)) QP s h) = F4.t14 Q s h C0 := by kernel_rfl
theorem F4.k14_ok : aw Try.prog 127 W F4.pl (Code.at F4.code [1, 1, 1, 1, 1, 1, 1, 0, 1, 0, 0, 1, 1, 0, 0, 1, 1, 0, 0, 0, 0, 1]) (thenQ (F4.k13 W Q QP) (Q)) QP s h = F4.k14 W Q QP s h := nd_cond (a := (Code.at F4.code [1, 1, 1, 1, 1, 1, 1, 0, 1, 0, 0, 1, 1, 0, 0, 1, 1, 0, 0, 0, 0, 1, 0])) (b := (Code.at F4.code [1, 1, 1, 1, 1, 1, 1, 0, 1, 0, 0, 1, 1, 0, 0, 1, 1, 0, 0, 0, 0, 1, 1])) (by kernel_rfl) rfl rfl (F4.k14_a W Q QP s h (F4.k13 W Q QP))
def F4.t15 (s : St) (h : AH) (C0 C1 : KT) : Prop :=
  pPick (s.tm 83) (s.tm 91) (.sc (.bool false)) fun t28 =>
  C1 ⟨puts s.tm [(92, t28)], s.ds⟩ h
def F4.k15 (W : Nat → Prop) (Q : Post) (QP : PPost) (s : St) (h : AH) : Prop := F4.t15 s h (F4.k13 W Q QP) (F4.k14 W Q QP)
theorem F4.k15_a (C0 C1 : KT) : evI Try.prog 127 (fun _ => W) nobody QP (regOps (Code.at F4.code [1, 1, 1, 1, 1, 1, 1, 0, 1, 0, 0, 1, 1, 0, 0, 1, 1, 0, 0, 0, 0, 0])) (isAt F4.g2 2) ((thenQ (C1) (thenQ (C0) (Q))) .normal) s h = F4.t15 s h C0 C1 := by kernel_rfl
theorem F4.k15_ok : evG Try.prog 127 (fun _ => W) nobody QP (regOps (Code.at F4.code [1, 1, 1, 1, 1, 1, 1, 0, 1, 0, 0, 1, 1, 0, 0, 1, 1, 0, 0, 0, 0, 0])) (F4.g2.drop 2) ((thenQ (F4.k14 W Q QP) (thenQ (F4.k13 W Q QP) (Q))) .normal) s h = F4.k15 W Q QP s h := nd_g (is := isAt F4.g2 2) (rest := F4.g2.drop 3) (by kernel_rfl) (fun _ _ => rfl) (F4.k15_a W Q QP s h (F4.k13 W Q QP) (F4.k14 W Q QP))
def F4.t16 (s : St) (h : AH) (C0 : KT) : Prop :=
  aIg true (s.tm 83) (
  pIxA (some (3, none)) (s.tm 6) (s.tm 9) fun t29 =>
  pFld (some 2) t29 fun t30 =>
  lLd (some false) (some 1) t30 h fun t31 _ =>
  pFld (some 5) (s.tm 11) fun t33 =>
  lLd (some false) (some 1) t33 h fun t34 _ =>
  pBin Try.prog .lss 3 false t31 t34 fun t36 =>
  C0 ⟨puts s.tm [(84, (s.tm 6)), (85, (s.tm 9)), (86, t29), (87, t30), (88, t31), (89, t33), (90, t34), (91, t36)], s.ds⟩ h) (
  C0 ⟨puts s.tm [(84, noA), (85, noA), (86, noA), (87, noA), (88, noA), (89, noA), (90, noA), (91, noA)], s.ds⟩ h)
def F4.k16 (W : Nat → Prop) (Q : Post) (QP : PPost) (s : St) (h : AH) : Prop := F4.t16 s h (F4.k15 W Q QP)
theorem F4.k16_a (C0 : KT) : aIg true (s.tm 83) (evI Try.prog 127 (fun _ => W) nobody QP (regOps (Code.at F4.code [1, 1, 1, 1, 1, 1, 1, 0, 1, 0, 0, 1, 1, 0, 0, 1, 1, 0, 0, 0, 0, 0])) (isAt F4.g2 1) (C0) s h) ((C0) (skI 127 (regOps (Code.at F4.code [1, 1, 1, 1, 1, 1, 1, 0, 1, 0, 0, 1, 1, 0, 0, 1, 1, 0, 0, 0, 0, 0])) (isAt F4.g2 1) s) h) = F4.t16 s h C0 := by kernel_rfl
theorem F4.k16_ok : evG Try.prog 127 (fun _ => W) nobody QP (regOps (Code.at F4.code [1, 1, 1, 1, 1, 1, 1, 0, 1, 0, 0, 1, 1, 0, 0, 1, 1, 0, 0, 0, 0, 0])) (F4.g2.drop 1) ((thenQ (F4.k14 W Q QP) (thenQ (F4.k13 W Q QP) (Q))) .normal) s h = F4.k16 W Q QP s h := nd_gw (j := 4) (is := isAt F4.g2 1) (rest := F4.g2.drop 2) (by kernel_rfl) (d := 83) (by kernel_rfl) (F4.k15_ok W Q QP) (F4.k16_a W QP s h (F4.k15 W Q QP))
def F4.t17 (s : St) (h : AH) (C0 : KT) : Prop :=
  (strArg (s.tm 6) = false) ∧ pLen (s.tm 6) fun t37 =>
  pBin Try.prog .lss 3 false (s.tm 9) t37 fun t38 =>
  C0 ⟨puts s.tm [(79, (s.tm 9)), (80, (s.tm 6)), (81, t37), (82, t38), (83, t38)], s.ds⟩ h
def F4.k17 (W : Nat → Prop) (Q : Post) (QP : PPost) (s : St) (h : AH) : Prop := F4.t17 s h (F4.k16 W Q QP)
theorem F4.k17_a (C0 : KT) : evI Try.prog 127 (fun _ => W) nobody QP (regOps (Code.at F4.code [1, 1, 1, 1, 1, 1, 1, 0, 1, 0, 0, 1, 1, 0, 0, 1, 1, 0, 0, 0, 0, 0])) (isAt F4.g2 0) (C0) s h = F4.t17 s h C0 := by kernel_rfl
theorem F4.k17_ok : evG Try.prog 127 (fun _ => W) nobody QP (regOps (Code.at F4.code [1, 1, 1, 1, 1, 1, 1, 0, 1, 0, 0, 1, 1, 0, 0, 1, 1, 0, 0, 0, 0, 0])) (F4.g2.drop 0) ((thenQ (F4.k14 W Q QP) (thenQ (F4.k13 W Q QP) (Q))) .normal) s h = F4.k17 W Q QP s h := nd_g (is := isAt F4.g2 0) (rest := F4.g2.drop 1) (by kernel_rfl) (F4.k16_ok W Q QP) (F4.k17_a W QP s h (F4.k16 W Q QP))
theorem F4.o5 : aw Try.prog 127 W F4.pl (Code.at F4.code [1, 1, 1, 1, 1, 1, 1, 0, 1, 0, 0, 1, 1, 0, 0, 1, 1, 0, 0, 0, 0, 0]) (thenQ (F4.k14 W Q QP) (thenQ (F4.k13 W Q QP) (Q))) QP s h = F4.k17 W Q QP s h := nd_groups (id := 15) (draw := true) (ops := (regOps (Code.at F4.code [1, 1, 1, 1, 1, 1, 1, 0, 1, 0, 0, 1, 1, 0, 0, 1, 1, 0, 0, 0, 0, 0]))) (gs := F4.g2.drop 0) (by kernel_rfl) (by kernel_rfl) (F4.k17_ok W Q QP s h)
theorem F4.o6 : aw Try.prog 127 W F4.pl (Code.at F4.code [1, 1, 1, 1, 1, 1, 1, 0, 1, 0, 0, 1, 1, 0, 0, 1, 1, 0, 0, 0, 0]) (thenQ (F4.k13 W Q QP) (Q)) QP s h = F4.k17 W Q QP s h := nd_seq (a := (Code.at F4.code [1, 1, 1, 1, 1, 1, 1, 0, 1, 0, 0, 1, 1, 0, 0, 1, 1, 0, 0, 0, 0, 0])) (b := (Code.at F4.code [1, 1, 1, 1, 1, 1, 1, 0, 1, 0, 0, 1, 1, 0, 0, 1, 1, 0, 0, 0, 0, 1])) (by kernel_rfl) (F4.k14_ok W Q QP) (F4.o5 W Q QP s h)
theorem F4.o7 : aw Try.prog 127 W F4.pl (Code.at F4.code [1, 1, 1, 1, 1, 1, 1, 0, 1, 0, 0, 1, 1, 0, 0, 1, 1, 0, 0, 0]) (Q) QP s h = F4.k17 W Q QP s h := nd_seq (a := (Code.at F4.code [1, 1, 1, 1, 1, 1, 1, 0, 1, 0, 0, 1, 1, 0, 0, 1, 1, 0, 0, 0, 0])) (b := (Code.at F4.code [1, 1, 1, 1, 1, 1, 1, 0, 1, 0, 0, 1, 1, 0, 0, 1, 1, 0, 0, 0, 1])) (by kernel_rfl) (F4.o4 W Q QP) (F4.o6 W Q QP s h)
noncomputable def F4.c2 : Code := (Code.at F4.code [1, 1, 1, 1, 1, 1, 1, 0, 1, 0, 0, 1, 1, 0, 0, 1, 1, 0, 0, 0])
theorem F4.l2 : aw Try.prog 127 W F4.pl F4.c2 Q QP s h = F4.k17 W Q QP s h := F4.o7 W Q QP s h
def F4.k18 (W : Nat → Prop) (Q : Post) (QP : PPost) (s : St) (h : AH) : Prop := aLoop (aw Try.prog 127 W F4.pl F4.c2) (blockQ 2 (thenQ (F4.k12 W Q QP) (blockQ 1 (thenQ (F4.k2 W Q QP) (Q))))) QP s h
theorem F4.k18_ok : aw Try.prog 127 W F4.pl (Code.at F4.code [1, 1, 1, 1, 1, 1, 1, 0, 1, 0, 0, 1, 1, 0, 0, 1, 1, 0, 0]) (blockQ 2 (thenQ (F4.k12 W Q QP) (blockQ 1 (thenQ (F4.k2 W Q QP) (Q))))) QP s h = F4.k18 W Q QP s h := nd_loop (a := F4.c2) (by kernel_rfl)
theorem F4.o8 : aw Try.prog 127 W F4.pl (Code.at F4.code [1, 1, 1, 1, 1, 1, 1, 0, 1, 0, 0, 1, 1, 0, 0, 1, 1, 0]) (thenQ (F4.k12 W Q QP) (blockQ 1 (thenQ (F4.k2 W Q QP) (Q)))) QP s h = F4.k18 W Q QP s h := nd_block (a := (Code.at F4.code [1, 1, 1, 1, 1, 1, 1, 0, 1, 0, 0, 1, 1, 0, 0, 1, 1, 0, 0])) (by kernel_rfl) (F4.k18_ok W Q QP s h)
theorem F4.o9 : aw Try.prog 127 W F4.pl (Code.at F4.code [1, 1, 1, 1, 1, 1, 1, 0, 1, 0, 0, 1, 1, 0, 0, 1, 1]) (blockQ 1 (thenQ (F4.k2 W Q QP) (Q))) QP s h = F4.k18 W Q QP s h := nd_seq (a := (Code.at F4.code [1, 1, 1, 1, 1, 1, 1, 0, 1, 0, 0, 1, 1, 0, 0, 1, 1, 0])) (b := (Code.at F4.code [1, 1, 1, 1, 1, 1, 1, 0, 1, 0, 0, 1, 1, 0, 0, 1, 1, 1])) (by kernel_rfl) (F4.k12_ok W Q QP) (F4.o8 W Q QP s h)
def F4.t19 (Q : Post) (s : St) (h : AH) (C0 C1 : KT) : Prop :=
  Q .ret ⟨puts s.tm [(2, (.sc (.bool false)))], s.ds⟩ h
def F4.k19 (W : Nat → Prop) (Q : Post) (QP : PPost) (s : St) (h : AH) : Prop := F4.t19 Q s h (F4.k18 W Q QP) (F4.k2 W Q QP)
theorem F4.k19_a (C0 C1 : KT) : aw Try.prog 127 W F4.pl (Code.at F4.code [1, 1, 1, 1, 1, 1, 1, 0, 1, 0, 0, 1, 1, 0, 0, 1, 0, 1, 0, 0]) (thenQ (aw Try.prog 127 W F4.pl (Code.at F4.code [1, 1, 1, 1, 1, 1, 1, 0, 1, 0, 0, 1, 1, 0, 0, 1, 0, 1, 0, 1]) (thenQ (C0) (blockQ 1 (thenQ (C1) (Q)))) QP) (thenQ (C0) (blockQ 1 (thenQ (C1) (Q))))) QP s h = F4.t19 Q s h C0 C1 := by kernel_rfl
theorem F4.k19_ok : aw Try.prog 127 W F4.pl (Code.at F4.code [1, 1, 1, 1, 1, 1, 1, 0, 1, 0, 0, 1, 1, 0, 0, 1, 0, 1, 0]) (thenQ (F4.k18 W Q QP) (blockQ 1 (thenQ (F4.k2 W Q QP) (Q)))) QP s h = F4.k19 W Q QP s h := nd_seq (a := (Code.at F4.code [1, 1, 1, 1, 1, 1, 1, 0, 1, 0, 0, 1, 1, 0, 0, 1, 0, 1, 0, 0])) (b := (Code.at F4.code [1, 1, 1, 1, 1, 1, 1, 0, 1, 0, 0, 1, 1, 0, 0, 1, 0, 1, 0, 1])) (by kernel_rfl) (fun _ _ => rfl) (F4.k19_a W Q QP s h (F4.k18 W Q QP) (F4.k2 W Q QP))
def F4.t20 (s : St) (h : AH) (C0 C1 C2 : KT) : Prop :=
  aIf (s.tm 78) (
  C1 s h) (
  C0 s h)
def F4.k20 (W : Nat → Prop) (Q : Post) (QP : PPost) (s : St) (h : AH) : Prop := F4.t20 s h (F4.k18 W Q QP) (F4.k19 W Q QP) (F4.k2 W Q QP)
theorem F4.k20_a (C0 C1 C2 : KT) : aIf (aev s (.tmp 78)) (C1 s h) (aw Try.prog 127 W F4.pl (Code.at F4.code [1, 1, 1, 1, 1, 1, 1, 0, 1, 0, 0, 1, 1, 0, 0, 1, 0, 1, 1]) (thenQ (C0) (blockQ 1 (thenQ (C2) (Q)))) QP s h) = F4.t20 s h C0 C1 C2 := by kernel_rfl
theorem F4.k20_ok : aw Try.prog 127 W F4.pl (Code.at F4.code [1, 1, 1, 1, 1, 1, 1, 0, 1, 0, 0, 1, 1, 0, 0, 1, 0, 1]) (thenQ (F4.k18 W Q QP) (blockQ 1 (thenQ (F4.k2 W Q QP) (Q)))) QP s h = F4.k20 W Q QP s h := nd_cond (a := (Code.at F4.code [1, 1, 1, 1, 1, 1, 1, 0, 1, 0, 0, 1, 1, 0, 0, 1, 0, 1, 0])) (b := (Code.at F4.code [1, 1, 1, 1, 1, 1, 1, 0, 1, 0, 0, 1, 1, 0, 0, 1, 0, 1, 1])) (by kernel_rfl) (F4.k19_ok W Q QP s h) rfl (F4.k20_a W Q QP s h (F4.k18 W Q QP) (F4.k19 W Q QP) (F4.k2 W Q QP))
def F4.t21 (s : St) (h : AH) (C0 C1 C2 : KT) : Prop :=
  pPick (s.tm 69) (.sc (.bool true)) (s.tm 77) fun t39 =>
  C2 ⟨puts s.tm [(78, t39)], s.ds⟩ h
def F4.k21 (W : Nat → Prop) (Q : Post) (QP : PPost) (s : St) (h : AH) : Prop := F4.t21 s h (F4.k18 W Q QP) (F4.k2 W Q QP) (F4.k20 W Q QP)
theorem F4.k21_a (C0 C1 C2 : KT) : evI Try.prog 127 (fun _ => W) nobody QP (regOps (Code.at F4.code [1, 1, 1, 1, 1, 1, 1, 0, 1, 0, 0, 1, 1, 0, 0, 1, 0, 0])) (isAt F4.g3 6) ((thenQ (C2) (thenQ (C0) (blockQ 1 (thenQ (C1) (Q))))) .normal) s h = F4.t21 s h C0 C1 C2 := by kernel_rfl
theorem F4.k21_ok : evG Try.prog 127 (fun _ => W) nobody QP (regOps (Code.at F4.code [1, 1, 1, 1, 1, 1, 1, 0, 1, 0, 0, 1, 1, 0, 0, 1, 0, 0])) (F4.g3.drop 6) ((thenQ (F4.k20 W Q QP) (thenQ (F4.k18 W Q QP) (blockQ 1 (thenQ (F4.k2 W Q QP) (Q))))) .normal) s h = F4.k21 W Q QP s h := nd_g (is := isAt F4.g3 6) (rest := F4.g3.drop 7) (by kernel_rfl) (fun _ _ => rfl) (F4.k21_a W Q QP s h (F4.k18 W Q QP) (F4.k2 W Q QP) (F4.k20 W Q QP))
def F4.t22 (s : St) (h : AH) (C0 : KT) : Prop :=
  aIg false (s.tm 69) (
  pFld (some 4) (s.tm 11) fun t40 =>
  lLd (some false) (some 1) t40 h fun t41 _ =>
  (strArg (s.tm 3) = false) ∧ pLen (s.tm 3) fun t43 =>
  pBin Try.prog .sub 3 false t43 (s.tm 10) fun t44 =>
  pBin Try.prog .sub 3 true t44 (.sc (.int .i64 1)) fun t45 =>
  pBin Try.prog .gtr 3 false t41 t45 fun t46 =>
  C0 ⟨puts s.tm [(70, t40), (71, t41), (72, (s.tm 3)), (73, t43), (74, (s.tm 10)), (75, t44), (76, t45), (77, t46)], s.ds⟩ h) (
  C0 ⟨puts s.tm [(70, noA), (71, noA), (72, noA), (73, noA), (74, noA), (75, noA), (76, noA), (77, noA)], s.ds⟩ h)
def F4.k22 (W : Nat → Prop) (Q : Post) (QP : PPost) (s : St) (h : AH) : Prop := F4.t22 s h (F4.k21 W Q QP)
theorem F4.k22_a (C0 : KT) : aIg false (s.tm 69) (evI Try.prog 127 (fun _ => W) nobody QP (regOps (Code.at F4.code [1, 1, 1, 1, 1, 1, 1, 0, 1, 0, 0, 1, 1, 0, 0, 1, 0, 0])) (isAt F4.g3 5) (C0) s h) ((C0) (skI 127 (regOps (Code.at F4.code [1, 1, 1, 1, 1, 1, 1, 0, 1, 0, 0, 1, 1, 0, 0, 1, 0, 0])) (isAt F4.g3 5) s) h) = F4.t22 s h C0 := by kernel_rfl
theorem F4.k22_ok : evG Try.prog 127 (fun _ => W) nobody QP (regOps (Code.at F4.code [1, 1, 1, 1, 1, 1, 1, 0, 1, 0, 0, 1, 1, 0, 0, 1, 0, 0])) (F4.g3.drop 5) ((thenQ (F4.k20 W Q QP) (thenQ (F4.k18 W Q QP) (blockQ 1 (thenQ (F4.k2 W Q QP) (Q))))) .normal) s h = F4.k22 W Q QP s h := nd_gw (j := 18) (is := isAt F4.g3 5) (rest := F4.g3.drop 6) (by kernel_rfl) (d := 69) (by kernel_rfl) (F4.k21_ok W Q QP) (F4.k22_a W QP s h (F4.k21 W Q QP))
def F4.t23 (s : St) (h : AH) (C0 : KT) : Prop :=
  pPick (s.tm 64) (.sc (.bool true)) (s.tm 67) fun t47 =>
  C0 ⟨puts s.tm [(68, t47), (69, t47)], s.ds⟩ h
def F4.k23 (W : Nat → Prop) (Q : Post) (QP : PPost) (s : St) (h : AH) : Prop := F4.t23 s h (F4.k22 W Q QP)
theorem F4.k23_a (C0 : KT) : evI Try.prog 127 (fun _ => W) nobody QP (regOps (Code.at F4.code [1, 1, 1, 1, 1, 1, 1, 0, 1, 0, 0, 1, 1, 0, 0, 1, 0, 0])) (isAt F4.g3 4) (C0) s h = F4.t23 s h C0 := by kernel_rfl
theorem F4.k23_ok : evG Try.prog 127 (fun _ => W) nobody QP (regOps (Code.at F4.code [1, 1, 1, 1, 1, 1, 1, 0, 1, 0, 0, 1, 1, 0, 0, 1, 0, 0])) (F4.g3.drop 4) ((thenQ (F4.k20 W Q QP) (thenQ (F4.k18 W Q QP) (blockQ 1 (thenQ (F4.k2 W Q QP) (Q))))) .normal) s h = F4.k23 W Q QP s h := nd_g (is := isAt F4.g3 4) (rest := F4.g3.drop 5) (by kernel_rfl) (F4.k22_ok W Q QP) (F4.k23_a W QP s h (F4.k22 W Q QP))
def F4.t24 (s : St) (h : AH) (C0 : KT) : Prop :=
  aIg false (s.tm 64) (
  pFld (some 4) (s.tm 11) fun t48 =>
  lLd (some false) (some 1) t48 h fun t49 _ =>
  pBin Try.prog .lss 3 true t49 (.sc (.int .i64 0)) fun t51 =>
  C0 ⟨puts s.tm [(65, t48), (66, t49), (67, t51)], s.ds⟩ h) (
  C0 ⟨puts s.tm [(65, noA), (66, noA), (67, noA)], s.ds⟩ h)
def F4.k24 (W : Nat → Prop) (Q : Post) (QP : PPost) (s : St) (h : AH) : Prop := F4.t24 s h (F4.k23 W Q QP)
theorem F4.k24_a (C0 : KT) : aIg false (s.tm 64) (evI Try.prog 127 (fun _ => W) nobody QP (regOps (Code.at F4.code [1, 1, 1, 1, 1, 1, 1, 0, 1, 0, 0, 1, 1, 0, 0, 1, 0, 0])) (isAt F4.g3 3) (C0) s h) ((C0) (skI 127 (regOps (Code.at F4.code [1, 1, 1, 1, 1, 1, 1, 0, 1, 0, 0, 1, 1, 0, 0, 1, 0, 0])) (isAt F4.g3 3) s) h) = F4.t24 s h C0 := by kernel_rfl
theorem F4.k24_ok : evG Try.prog 127 (fun _ => W) nobody QP (regOps (Code.at F4.code [1, 1, 1, 1, 1, 1, 1, 0, 1, 0, 0, 1, 1, 0, 0, 1, 0, 0])) (F4.g3.drop 3) ((thenQ (F4.k20 W Q QP) (thenQ (F4.k18 W Q QP) (blockQ 1 (thenQ (F4.k2 W Q QP) (Q))))) .normal) s h = F4.k24 W Q QP s h := nd_gw (j := 13) (is := isAt F4.g3 3) (rest := F4.g3.drop 4) (by kernel_rfl) (d := 64) (by kernel_rfl) (F4.k23_ok W Q QP) (F4.k24_a W QP s h (F4.k23 W Q QP))
def F4.t25 (s : St) (h : AH) (C0 : KT) : Prop :=
  pPick (s.tm 53) (s.tm 62) (.sc (.bool false)) fun t52 =>
  C0 ⟨puts s.tm [(63, t52), (64, t52)], s.ds⟩ h
def F4.k25 (W : Nat → Prop) (Q : Post) (QP : PPost) (s : St) (h : AH) : Prop := F4.t25 s h (F4.k24 W Q QP)
theorem F4.k25_a (C0 : KT) : evI Try.prog 127 (fun _ => W) nobody QP (regOps (Code.at F4.code [1, 1, 1, 1, 1, 1, 1, 0, 1, 0, 0, 1, 1, 0, 0, 1, 0, 0])) (isAt F4.g3 2) (C0) s h = F4.t25 s h C0 := by kernel_rfl
theorem F4.k25_ok : evG Try.prog 127 (fun _ => W) nobody QP (regOps (Code.at F4.code [1, 1, 1, 1, 1, 1, 1, 0, 1, 0, 0, 1, 1, 0, 0, 1, 0, 0])) (F4.g3.drop 2) ((thenQ (F4.k20 W Q QP) (thenQ (F4.k18 W Q QP) (blockQ 1 (thenQ (F4.k2 W Q QP) (Q))))) .normal) s h = F4.k25 W Q QP s h := nd_g (is := isAt F4.g3 2) (rest := F4.g3.drop 3) (by kernel_rfl) (F4.k24_ok W Q QP) (F4.k25_a W QP s h (F4.k24 W Q QP))
def F4.t26 (s : St) (h : AH) (C0 : KT) : Prop :=
  aIg true (s.tm 53) (
  pFld (some 5) (s.tm 11) fun t53 =>
  lLd (some false) (some 1) t53 h fun t54 _ =>
  pBin Try.prog .sub 3 true (s.tm 10) (.sc (.int .i64 1)) fun t56 =>
  pIxA (some (6, none)) (s.tm 3) t56 fun t57 =>
  pFld (some 5) t57 fun t58 =>
  lLd (some false) (some 1) t58 h fun t59 _ =>
  pBin Try.prog .leq 3 false t54 t59 fun t61 =>
  C0 ⟨puts s.tm [(54, t53), (55, t54), (56, (s.tm 3)), (57, (s.tm 10)), (58, t56), (59, t57), (60, t58), (61, t59), (62, t61)], s.ds⟩ h) (
  C0 ⟨puts s.tm [(54, noA), (55, noA), (56, noA), (57, noA), (58, noA), (59, noA), (60, noA), (61, noA), (62, noA)], s.ds⟩ h)
def F4.k26 (W : Nat → Prop) (Q : Post) (QP : PPost) (s : St) (h : AH) : Prop := F4.t26 s h (F4.k25 W Q QP)
theorem F4.k26_a (C0 : KT) : aIg true (s.tm 53) (evI Try.prog 127 (fun _ => W) nobody QP (regOps (Code.at F4.code [1, 1, 1, 1, 1, 1, 1, 0, 1, 0, 0, 1, 1, 0, 0, 1, 0, 0])) (isAt F4.g3 1) (C0) s h) ((C0) (skI 127 (regOps (Code.at F4.code [1, 1, 1, 1, 1, 1, 1, 0, 1, 0, 0, 1, 1, 0, 0, 1, 0, 0])) (isAt F4.g3 1) s) h) = F4.t26 s h C0 := by kernel_rfl
theorem F4.k26_ok : evG Try.prog 127 (fun _ => W) nobody QP (regOps (Code.at F4.code [1, 1, 1, 1, 1, 1, 1, 0, 1, 0, 0, 1, 1, 0, 0, 1, 0, 0])) (F4.g3.drop 1) ((thenQ (F4.k20 W Q QP) (thenQ (F4.k18 W Q QP) (blockQ 1 (thenQ (F4.k2 W Q QP) (Q))))) .normal) s h = F4.k26 W Q QP s h := nd_gw (j := 2) (is := isAt F4.g3 1) (rest := F4.g3.drop 2) (by kernel_rfl) (d := 53) (by kernel_rfl) (F4.k25_ok W Q QP) (F4.k26_a W QP s h (F4.k25 W Q QP))
def F4.t27 (s : St) (h : AH) (C0 : KT) : Prop :=
  pBin Try.prog .gtr 3 true (s.tm 10) (.sc (.int .i64 0)) fun t62 =>
  C0 ⟨puts s.tm [(51, (s.tm 10)), (52, t62), (53, t62)], s.ds⟩ h
def F4.k27 (W : Nat → Prop) (Q : Post) (QP : PPost) (s : St) (h : AH) : Prop := F4.t27 s h (F4.k26 W Q QP)
theorem F4.k27_a (C0 : KT) : evI Try.prog 127 (fun _ => W) nobody QP (regOps (Code.at F4.code [1, 1, 1, 1, 1, 1, 1, 0, 1, 0, 0, 1, 1, 0, 0, 1, 0, 0])) (isAt F4.g3 0) (C0) s h = F4.t27 s h C0 := by kernel_rfl
theorem F4.k27_ok : evG Try.prog 127 (fun _ => W) nobody QP (regOps (Code.at F4.code [1, 1, 1, 1, 1, 1, 1, 0, 1, 0, 0, 1, 1, 0, 0, 1, 0, 0])) (F4.g3.drop 0) ((thenQ (F4.k20 W Q QP) (thenQ (F4.k18 W Q QP) (blockQ 1 (thenQ (F4.k2 W Q QP) (Q))))) .normal) s h = F4.k27 W Q QP s h := nd_g (is := isAt F4.g3 0) (rest := F4.g3.drop 1) (by kernel_rfl) (F4.k26_ok W Q QP) (F4.k27_a W QP s h (F4.k26 W Q QP))
theorem F4.o10 : aw Try.prog 127 W F4.pl (Code.at F4.code [1, 1, 1, 1, 1, 1, 1, 0, 1, 0, 0, 1, 1, 0, 0, 1, 0, 0]) (thenQ (F4.k20 W Q QP) (thenQ (F4.k18 W Q QP) (blockQ 1 (thenQ (F4.k2 W Q QP) (Q))))) QP s h = F4.k27 W Q QP s h := nd_groups (id := 13) (draw := true) (ops := (regOps (Code.at F4.code [1, 1, 1, 1, 1, 1, 1, 0, 1, 0, 0, 1, 1, 0, 0, 1, 0, 0]))) (gs := F4.g3.drop 0) (by kernel_rfl) (by kernel_rfl) (F4.k27_ok W Q QP s h)
theorem F4.o11 : aw Try.prog 127 W F4.pl (Code.at F4.code [1, 1, 1, 1, 1, 1, 1, 0, 1, 0, 0, 1, 1, 0, 0, 1, 0]) (thenQ (F4.k18 W Q QP) (blockQ 1 (thenQ (F4.k2 W Q QP) (Q)))) QP s h = F4.k27 W Q QP s h := nd_seq (a := (Code.at F4.code [1, 1, 1, 1, 1, 1, 1, 0, 1, 0, 0, 1, 1, 0, 0, 1, 0, 0])) (b := (Code.at F4.code [1, 1, 1, 1, 1, 1, 1, 0, 1, 0, 0, 1, 1, 0, 0, 1, 0, 1])) (by kernel_rfl) (F4.k20_ok W Q QP) (F4.o10 W Q QP s h)
theorem F4.o12 : aw Try.prog 127 W F4.pl (Code.at F4.code [1, 1, 1, 1, 1, 1, 1, 0, 1, 0, 0, 1, 1, 0, 0, 1]) (blockQ 1 (thenQ (F4.k2 W Q QP) (Q))) QP s h = F4.k27 W Q QP s h := nd_seq (a := (Code.at F4.code [1, 1, 1, 1, 1, 1, 1, 0, 1, 0, 0, 1, 1, 0, 0, 1, 0])) (b := (Code.at F4.code [1, 1, 1, 1, 1, 1, 1, 0, 1, 0, 0, 1, 1, 0, 0, 1, 1])) (by kernel_rfl) (F4.o9 W Q QP) (F4.o11 W Q QP s h)
def F4.t28 (W : Nat → Prop) (s : St) (h : AH) (C0 C1 : KT) : Prop :=
  pIxA (some (6, none)) (s.tm 44) (s.tm 46) fun t63 =>
  lLd (some true) (some 6) t63 h fun t64 _ =>
  eAlloc (some [.string ⟨#[]⟩, .string ⟨#[]⟩, .slice none 0 0, .int .i64 0, .int .i64 0, .int .i64 0]) 6 36 h fun t66 h67 =>
  eStore (some 6) t66 t64 h67 W fun h68 =>
  C1 ⟨puts s.tm [(48, (s.tm 46)), (49, t63), (50, t64), (11, t66), (10, (s.tm 46))], s.ds⟩ h68
def F4.k28 (W : Nat → Prop) (Q : Post) (QP : PPost) (s : St) (h : AH) : Prop := F4.t28 W s h (F4.k2 W Q QP) (F4.k27 W Q QP)
theorem F4.k28_a (C0 C1 : KT) : aw Try.prog 127 W F4.pl (Code.at F4.code [1, 1, 1, 1, 1, 1, 1, 0, 1, 0, 0, 1, 1, 0, 0, 0]) (thenQ (C1) (blockQ 1 (thenQ (C0) (Q)))) QP s h = F4.t28 W s h C0 C1 := by kernel_rfl
theorem F4.k28_ok : aw Try.prog 127 W F4.pl (Code.at F4.code [1, 1, 1, 1, 1, 1, 1, 0, 1, 0, 0, 1, 1, 0, 0]) (blockQ 1 (thenQ (F4.k2 W Q QP) (Q))) QP s h = F4.k28 W Q QP s h := nd_seq (a := (Code.at F4.code [1, 1, 1, 1, 1, 1, 1, 0, 1, 0, 0, 1, 1, 0, 0, 0])) (b := (Code.at F4.code [1, 1, 1, 1, 1, 1, 1, 0, 1, 0, 0, 1, 1, 0, 0, 1])) (by kernel_rfl) (F4.o12 W Q QP) (F4.k28_a W Q QP s h (F4.k2 W Q QP) (F4.k27 W Q QP))
theorem F4.o13 : aw Try.prog 127 W F4.pl (Code.at F4.code [1, 1, 1, 1, 1, 1, 1, 0, 1, 0, 0, 1, 1, 0]) (thenQ (F4.k2 W Q QP) (Q)) QP s h = F4.k28 W Q QP s h := nd_block (a := (Code.at F4.code [1, 1, 1, 1, 1, 1, 1, 0, 1, 0, 0, 1, 1, 0, 0])) (by kernel_rfl) (F4.k28_ok W Q QP s h)
theorem F4.o14 : aw Try.prog 127 W F4.pl (Code.at F4.code [1, 1, 1, 1, 1, 1, 1, 0, 1, 0, 0, 1, 1]) (Q) QP s h = F4.k28 W Q QP s h := nd_seq (a := (Code.at F4.code [1, 1, 1, 1, 1, 1, 1, 0, 1, 0, 0, 1, 1, 0])) (b := (Code.at F4.code [1, 1, 1, 1, 1, 1, 1, 0, 1, 0, 0, 1, 1, 1])) (by kernel_rfl) (F4.k2_ok W Q QP) (F4.o13 W Q QP s h)
def F4.t29 (Q : Post) (s : St) (h : AH) (C0 : KT) : Prop :=
  aIf (s.tm 47) (
  C0 s h) (
  Q (.exit 0) s h)
def F4.k29 (W : Nat → Prop) (Q : Post) (QP : PPost) (s : St) (h : AH) : Prop := F4.t29 Q s h (F4.k28 W Q QP)
theorem F4.k29_a (C0 : KT) : aIf (aev s (.tmp 47)) (aw Try.prog 127 W F4.pl (Code.at F4.code [1, 1, 1, 1, 1, 1, 1, 0, 1, 0, 0, 1, 0, 0]) (thenQ (C0) (Q)) QP s h) (aw Try.prog 127 W F4.pl (Code.at F4.code [1, 1, 1, 1, 1, 1, 1, 0, 1, 0, 0, 1, 0, 1]) (thenQ (C0) (Q)) QP s h) = F4.t29 Q s h C0 := by kernel_rfl
theorem F4.k29_ok : aw Try.prog 127 W F4.pl (Code.at F4.code [1, 1, 1, 1, 1, 1, 1, 0, 1, 0, 0, 1, 0]) (thenQ (F4.k28 W Q QP) (Q)) QP s h = F4.k29 W Q QP s h := nd_cond (a := (Code.at F4.code [1, 1, 1, 1, 1, 1, 1, 0, 1, 0, 0, 1, 0, 0])) (b := (Code.at F4.code [1, 1, 1, 1, 1, 1, 1, 0, 1, 0, 0, 1, 0, 1])) (by kernel_rfl) rfl rfl (F4.k29_a W Q QP s h (F4.k28 W Q QP))
theorem F4.o15 : aw Try.prog 127 W F4.pl (Code.at F4.code [1, 1, 1, 1, 1, 1, 1, 0, 1, 0, 0, 1]) (Q) QP s h = F4.k29 W Q QP s h := nd_seq (a := (Code.at F4.code [1, 1, 1, 1, 1, 1, 1, 0, 1, 0, 0, 1, 0])) (b := (Code.at F4.code [1, 1, 1, 1, 1, 1, 1, 0, 1, 0, 0, 1, 1])) (by kernel_rfl) (F4.o14 W Q QP) (F4.k29_ok W Q QP s h)
def F4.t30 (s : St) (h : AH) (C0 : KT) : Prop :=
  pBin Try.prog .lss 3 false (s.tm 46) (s.tm 45) fun t69 =>
  C0 ⟨puts s.tm [(47, t69)], s.ds⟩ h
def F4.k30 (W : Nat → Prop) (Q : Post) (QP : PPost) (s : St) (h : AH) : Prop := F4.t30 s h (F4.k29 W Q QP)
theorem F4.k30_a (C0 : KT) : aw Try.prog 127 W F4.pl (Code.at F4.code [1, 1, 1, 1, 1, 1, 1, 0, 1, 0, 0, 0]) (thenQ (C0) (Q)) QP s h = F4.t30 s h C0 := by kernel_rfl
theorem F4.k30_ok : aw Try.prog 127 W F4.pl (Code.at F4.code [1, 1, 1, 1, 1, 1, 1, 0, 1, 0, 0]) (Q) QP s h = F4.k30 W Q QP s h := nd_seq (a := (Code.at F4.code [1, 1, 1, 1, 1, 1, 1, 0, 1, 0, 0, 0])) (b := (Code.at F4.code [1, 1, 1, 1, 1, 1, 1, 0, 1, 0, 0, 1])) (by kernel_rfl) (F4.o15 W Q QP) (F4.k30_a W Q QP s h (F4.k29 W Q QP))
noncomputable def F4.c1 : Code := (Code.at F4.code [1, 1, 1, 1, 1, 1, 1, 0, 1, 0, 0])
theorem F4.l1 : aw Try.prog 127 W F4.pl F4.c1 Q QP s h = F4.k30 W Q QP s h := F4.k30_ok W Q QP s h
def F4.k31 (W : Nat → Prop) (Q : Post) (QP : PPost) (s : St) (h : AH) : Prop := aLoop (aw Try.prog 127 W F4.pl F4.c1) (blockQ 0 (thenQ (F4.k1 W Q QP) (Q))) QP s h
theorem F4.k31_ok : aw Try.prog 127 W F4.pl (Code.at F4.code [1, 1, 1, 1, 1, 1, 1, 0, 1, 0]) (blockQ 0 (thenQ (F4.k1 W Q QP) (Q))) QP s h = F4.k31 W Q QP s h := nd_loop (a := F4.c1) (by kernel_rfl)
theorem F4.o16 : aw Try.prog 127 W F4.pl (Code.at F4.code [1, 1, 1, 1, 1, 1, 1, 0, 1]) (thenQ (F4.k1 W Q QP) (Q)) QP s h = F4.k31 W Q QP s h := nd_block (a := (Code.at F4.code [1, 1, 1, 1, 1, 1, 1, 0, 1, 0])) (by kernel_rfl) (F4.k31_ok W Q QP s h)
def F4.t32 (s : St) (h : AH) (C0 C1 : KT) : Prop :=
  (strArg (s.tm 3) = false) ∧ pLen (s.tm 3) fun t70 =>
  C1 ⟨puts s.tm [(44, (s.tm 3)), (45, t70), (46, (.sc (.int .i64 0)))], s.ds⟩ h
def F4.k32 (W : Nat → Prop) (Q : Post) (QP : PPost) (s : St) (h : AH) : Prop := F4.t32 s h (F4.k1 W Q QP) (F4.k31 W Q QP)
theorem F4.k32_a (C0 C1 : KT) : aw Try.prog 127 W F4.pl (Code.at F4.code [1, 1, 1, 1, 1, 1, 1, 0, 0]) (thenQ (C1) (thenQ (C0) (Q))) QP s h = F4.t32 s h C0 C1 := by kernel_rfl
theorem F4.k32_ok : aw Try.prog 127 W F4.pl (Code.at F4.code [1, 1, 1, 1, 1, 1, 1, 0]) (thenQ (F4.k1 W Q QP) (Q)) QP s h = F4.k32 W Q QP s h := nd_seq (a := (Code.at F4.code [1, 1, 1, 1, 1, 1, 1, 0, 0])) (b := (Code.at F4.code [1, 1, 1, 1, 1, 1, 1, 0, 1])) (by kernel_rfl) (F4.o16 W Q QP) (F4.k32_a W Q QP s h (F4.k1 W Q QP) (F4.k31 W Q QP))
theorem F4.o17 : aw Try.prog 127 W F4.pl (Code.at F4.code [1, 1, 1, 1, 1, 1, 1]) (Q) QP s h = F4.k32 W Q QP s h := nd_seq (a := (Code.at F4.code [1, 1, 1, 1, 1, 1, 1, 0])) (b := (Code.at F4.code [1, 1, 1, 1, 1, 1, 1, 1])) (by kernel_rfl) (F4.k1_ok W Q QP) (F4.k32_ok W Q QP s h)
def F4.t33 (s : St) (h : AH) (C0 : KT) : Prop :=
  C0 ⟨puts s.tm [(9, (.sc (.int .i64 0)))], s.ds⟩ h
def F4.k33 (W : Nat → Prop) (Q : Post) (QP : PPost) (s : St) (h : AH) : Prop := F4.t33 s h (F4.k32 W Q QP)
theorem F4.k33_a (C0 : KT) : aw Try.prog 127 W F4.pl (Code.at F4.code [1, 1, 1, 1, 1, 1, 0]) (thenQ (C0) (Q)) QP s h = F4.t33 s h C0 := by kernel_rfl
theorem F4.k33_ok : aw Try.prog 127 W F4.pl (Code.at F4.code [1, 1, 1, 1, 1, 1]) (Q) QP s h = F4.k33 W Q QP s h := nd_seq (a := (Code.at F4.code [1, 1, 1, 1, 1, 1, 0])) (b := (Code.at F4.code [1, 1, 1, 1, 1, 1, 1])) (by kernel_rfl) (F4.o17 W Q QP) (F4.k33_a W Q QP s h (F4.k32 W Q QP))
def F4.t34 (Q : Post) (s : St) (h : AH) (C0 : KT) : Prop :=
  Q .ret ⟨puts s.tm [(2, (.sc (.bool false)))], s.ds⟩ h
def F4.k34 (W : Nat → Prop) (Q : Post) (QP : PPost) (s : St) (h : AH) : Prop := F4.t34 Q s h (F4.k33 W Q QP)
theorem F4.k34_a (C0 : KT) : aw Try.prog 127 W F4.pl (Code.at F4.code [1, 1, 1, 1, 1, 0, 1, 0, 0]) (thenQ (aw Try.prog 127 W F4.pl (Code.at F4.code [1, 1, 1, 1, 1, 0, 1, 0, 1]) (thenQ (C0) (Q)) QP) (thenQ (C0) (Q))) QP s h = F4.t34 Q s h C0 := by kernel_rfl
theorem F4.k34_ok : aw Try.prog 127 W F4.pl (Code.at F4.code [1, 1, 1, 1, 1, 0, 1, 0]) (thenQ (F4.k33 W Q QP) (Q)) QP s h = F4.k34 W Q QP s h := nd_seq (a := (Code.at F4.code [1, 1, 1, 1, 1, 0, 1, 0, 0])) (b := (Code.at F4.code [1, 1, 1, 1, 1, 0, 1, 0, 1])) (by kernel_rfl) (fun _ _ => rfl) (F4.k34_a W Q QP s h (F4.k33 W Q QP))
def F4.t35 (s : St) (h : AH) (C0 C1 : KT) : Prop :=
  aIf (s.tm 43) (
  C1 s h) (
  C0 s h)
def F4.k35 (W : Nat → Prop) (Q : Post) (QP : PPost) (s : St) (h : AH) : Prop := F4.t35 s h (F4.k33 W Q QP) (F4.k34 W Q QP)
theorem F4.k35_a (C0 C1 : KT) : aIf (aev s (.tmp 43)) (C1 s h) (aw Try.prog 127 W F4.pl (Code.at F4.code [1, 1, 1, 1, 1, 0, 1, 1]) (thenQ (C0) (Q)) QP s h) = F4.t35 s h C0 C1 := by kernel_rfl
theorem F4.k35_ok : aw Try.prog 127 W F4.pl (Code.at F4.code [1, 1, 1, 1, 1, 0, 1]) (thenQ (F4.k33 W Q QP) (Q)) QP s h = F4.k35 W Q QP s h := nd_cond (a := (Code.at F4.code [1, 1, 1, 1, 1, 0, 1, 0])) (b := (Code.at F4.code [1, 1, 1, 1, 1, 0, 1, 1])) (by kernel_rfl) (F4.k34_ok W Q QP s h) rfl (F4.k35_a W Q QP s h (F4.k33 W Q QP) (F4.k34 W Q QP))
def F4.t36 (s : St) (h : AH) (C0 C1 : KT) : Prop :=
  pBin Try.prog .neq 26 true (s.tm 8) (.sc (.int .i64 0)) fun t71 =>
  C1 ⟨puts s.tm [(42, (s.tm 8)), (43, t71)], s.ds⟩ h
def F4.k36 (W : Nat → Prop) (Q : Post) (QP : PPost) (s : St) (h : AH) : Prop := F4.t36 s h (F4.k33 W Q QP) (F4.k35 W Q QP)
theorem F4.k36_a (C0 C1 : KT) : aw Try.prog 127 W F4.pl (Code.at F4.code [1, 1, 1, 1, 1, 0, 0]) (thenQ (C1) (thenQ (C0) (Q))) QP s h = F4.t36 s h C0 C1 := by kernel_rfl
theorem F4.k36_ok : aw Try.prog 127 W F4.pl (Code.at F4.code [1, 1, 1, 1, 1, 0]) (thenQ (F4.k33 W Q QP) (Q)) QP s h = F4.k36 W Q QP s h := nd_seq (a := (Code.at F4.code [1, 1, 1, 1, 1, 0, 0])) (b := (Code.at F4.code [1, 1, 1, 1, 1, 0, 1])) (by kernel_rfl) (F4.k35_ok W Q QP) (F4.k36_a W Q QP s h (F4.k33 W Q QP) (F4.k35 W Q QP))
theorem F4.o18 : aw Try.prog 127 W F4.pl (Code.at F4.code [1, 1, 1, 1, 1]) (Q) QP s h = F4.k36 W Q QP s h := nd_seq (a := (Code.at F4.code [1, 1, 1, 1, 1, 0])) (b := (Code.at F4.code [1, 1, 1, 1, 1, 1])) (by kernel_rfl) (F4.k33_ok W Q QP) (F4.k36_ok W Q QP s h)
def F4.t37 (W : Nat → Prop) (QP : PPost) (s : St) (h : AH) (C0 : KT) : Prop :=
  aCall Try.prog W 10 [(s.tm 0)] h (fun t72 h73 =>
  pExt t72 0 fun t74 =>
  pExt t72 1 fun t75 =>
  pExt t72 2 fun t76 =>
  C0 ⟨puts s.tm [(37, (s.tm 0)), (38, t72), (36, t72), (39, t74), (40, t75), (41, t76), (6, t74), (7, t75), (8, t76)], s.ds⟩ h73) (QP s.ds)
def F4.k37 (W : Nat → Prop) (Q : Post) (QP : PPost) (s : St) (h : AH) : Prop := F4.t37 W QP s h (F4.k36 W Q QP)
theorem F4.k37_a (C0 : KT) : aw Try.prog 127 W F4.pl (Code.at F4.code [1, 1, 1, 1, 0]) (thenQ (C0) (Q)) QP s h = F4.t37 W QP s h C0 := by kernel_rfl
theorem F4.k37_ok : aw Try.prog 127 W F4.pl (Code.at F4.code [1, 1, 1, 1]) (Q) QP s h = F4.k37 W Q QP s h := nd_seq (a := (Code.at F4.code [1, 1, 1, 1, 0])) (b := (Code.at F4.code [1, 1, 1, 1, 1])) (by kernel_rfl) (F4.o18 W Q QP) (F4.k37_a W Q QP s h (F4.k36 W Q QP))
def F4.t38 (Q : Post) (s : St) (h : AH) (C0 : KT) : Prop :=
  Q .ret s h
def F4.k38 (W : Nat → Prop) (Q : Post) (QP : PPost) (s : St) (h : AH) : Prop := F4.t38 Q s h (F4.k37 W Q QP)
theorem F4.k38_a (C0 : KT) : aw Try.prog 127 W F4.pl (Code.at F4.code [1, 1, 1, 0, 1, 0, 1]) (thenQ (C0) (Q)) QP s h = F4.t38 Q s h C0 := by kernel_rfl
theorem F4.k38_ok : aw Try.prog 127 W F4.pl (Code.at F4.code [1, 1, 1, 0, 1, 0, 1]) (thenQ (F4.k37 W Q QP) (Q)) QP s h = F4.k38 W Q QP s h := (F4.k38_a W Q QP s h (F4.k37 W Q QP))
def F4.t39 (s : St) (h : AH) (C0 C1 : KT) : Prop :=
  pPick (s.tm 30) (s.tm 34) (.sc (.bool false)) fun t77 =>
  C1 ⟨puts s.tm [(35, t77), (2, t77)], s.ds⟩ h
def F4.k39 (W : Nat → Prop) (Q : Post) (QP : PPost) (s : St) (h : AH) : Prop := F4.t39 s h (F4.k37 W Q QP) (F4.k38 W Q QP)
theorem F4.k39_a (C0 C1 : KT) : evI Try.prog 127 (fun _ => W) nobody QP (regOps (Code.at F4.code [1, 1, 1, 0, 1, 0, 0])) (isAt F4.g4 4) ((thenQ (C1) (thenQ (C0) (Q))) .normal) s h = F4.t39 s h C0 C1 := by kernel_rfl
theorem F4.k39_ok : evG Try.prog 127 (fun _ => W) nobody QP (regOps (Code.at F4.code [1, 1, 1, 0, 1, 0, 0])) (F4.g4.drop 4) ((thenQ (F4.k38 W Q QP) (thenQ (F4.k37 W Q QP) (Q))) .normal) s h = F4.k39 W Q QP s h := nd_g (is := isAt F4.g4 4) (rest := F4.g4.drop 5) (by kernel_rfl) (fun _ _ => rfl) (F4.k39_a W Q QP s h (F4.k37 W Q QP) (F4.k38 W Q QP))
def F4.t40 (s : St) (h : AH) (C0 : KT) : Prop :=
  aIg true (s.tm 30) (
  (strArg (s.tm 0) = true) ∧ pLen (s.tm 0) fun t78 =>
  pBin Try.prog .leq 3 false (s.tm 4) t78 fun t79 =>
  C0 ⟨puts s.tm [(31, (s.tm 4)), (32, (s.tm 0)), (33, t78), (34, t79)], s.ds⟩ h) (
  C0 ⟨puts s.tm [(31, noA), (32, noA), (33, noA), (34, noA)], s.ds⟩ h)
def F4.k40 (W : Nat → Prop) (Q : Post) (QP : PPost) (s : St) (h : AH) : Prop := F4.t40 s h (F4.k39 W Q QP)
theorem F4.k40_a (C0 : KT) : aIg true (s.tm 30) (evI Try.prog 127 (fun _ => W) nobody QP (regOps (Code.at F4.code [1, 1, 1, 0, 1, 0, 0])) (isAt F4.g4 3) (C0) s h) ((C0) (skI 127 (regOps (Code.at F4.code [1, 1, 1, 0, 1, 0, 0])) (isAt F4.g4 3) s) h) = F4.t40 s h C0 := by kernel_rfl
theorem F4.k40_ok : evG Try.prog 127 (fun _ => W) nobody QP (regOps (Code.at F4.code [1, 1, 1, 0, 1, 0, 0])) (F4.g4.drop 3) ((thenQ (F4.k38 W Q QP) (thenQ (F4.k37 W Q QP) (Q))) .normal) s h = F4.k40 W Q QP s h := nd_gw (j := 7) (is := isAt F4.g4 3) (rest := F4.g4.drop 4) (by kernel_rfl) (d := 30) (by kernel_rfl) (F4.k39_ok W Q QP) (F4.k40_a W QP s h (F4.k39 W Q QP))
def F4.t41 (s : St) (h : AH) (C0 : KT) : Prop :=
  pPick (s.tm 26) (s.tm 28) (.sc (.bool false)) fun t80 =>
  C0 ⟨puts s.tm [(29, t80), (30, t80)], s.ds⟩ h
def F4.k41 (W : Nat → Prop) (Q : Post) (QP : PPost) (s : St) (h : AH) : Prop := F4.t41 s h (F4.k40 W Q QP)
theorem F4.k41_a (C0 : KT) : evI Try.prog 127 (fun _ => W) nobody QP (regOps (Code.at F4.code [1, 1, 1, 0, 1, 0, 0])) (isAt F4.g4 2) (C0) s h = F4.t41 s h C0 := by kernel_rfl
theorem F4.k41_ok : evG Try.prog 127 (fun _ => W) nobody QP (regOps (Code.at F4.code [1, 1, 1, 0, 1, 0, 0])) (F4.g4.drop 2) ((thenQ (F4.k38 W Q QP) (thenQ (F4.k37 W Q QP) (Q))) .normal) s h = F4.k41 W Q QP s h := nd_g (is := isAt F4.g4 2) (rest := F4.g4.drop 3) (by kernel_rfl) (F4.k40_ok W Q QP) (F4.k41_a W QP s h (F4.k40 W Q QP))
def F4.t42 (s : St) (h : AH) (C0 : KT) : Prop :=
  aIg true (s.tm 26) (
  pBin Try.prog .geq 3 true (s.tm 4) (.sc (.int .i64 0)) fun t81 =>
  C0 ⟨puts s.tm [(27, (s.tm 4)), (28, t81)], s.ds⟩ h) (
  C0 ⟨puts s.tm [(27, noA), (28, noA)], s.ds⟩ h)
def F4.k42 (W : Nat → Prop) (Q : Post) (QP : PPost) (s : St) (h : AH) : Prop := F4.t42 s h (F4.k41 W Q QP)
theorem F4.k42_a (C0 : KT) : aIg true (s.tm 26) (evI Try.prog 127 (fun _ => W) nobody QP (regOps (Code.at F4.code [1, 1, 1, 0, 1, 0, 0])) (isAt F4.g4 1) (C0) s h) ((C0) (skI 127 (regOps (Code.at F4.code [1, 1, 1, 0, 1, 0, 0])) (isAt F4.g4 1) s) h) = F4.t42 s h C0 := by kernel_rfl
theorem F4.k42_ok : evG Try.prog 127 (fun _ => W) nobody QP (regOps (Code.at F4.code [1, 1, 1, 0, 1, 0, 0])) (F4.g4.drop 1) ((thenQ (F4.k38 W Q QP) (thenQ (F4.k37 W Q QP) (Q))) .normal) s h = F4.k42 W Q QP s h := nd_gw (j := 3) (is := isAt F4.g4 1) (rest := F4.g4.drop 2) (by kernel_rfl) (d := 26) (by kernel_rfl) (F4.k41_ok W Q QP) (F4.k42_a W QP s h (F4.k41 W Q QP))
def F4.t43 (s : St) (h : AH) (C0 : KT) : Prop :=
  (strArg (s.tm 3) = false) ∧ pLen (s.tm 3) fun t82 =>
  pBin Try.prog .eql 3 true t82 (.sc (.int .i64 0)) fun t83 =>
  C0 ⟨puts s.tm [(23, (s.tm 3)), (24, t82), (25, t83), (26, t83)], s.ds⟩ h
def F4.k43 (W : Nat → Prop) (Q : Post) (QP : PPost) (s : St) (h : AH) : Prop := F4.t43 s h (F4.k42 W Q QP)
theorem F4.k43_a (C0 : KT) : evI Try.prog 127 (fun _ => W) nobody QP (regOps (Code.at F4.code [1, 1, 1, 0, 1, 0, 0])) (isAt F4.g4 0) (C0) s h = F4.t43 s h C0 := by kernel_rfl
theorem F4.k43_ok : evG Try.prog 127 (fun _ => W) nobody QP (regOps (Code.at F4.code [1, 1, 1, 0, 1, 0, 0])) (F4.g4.drop 0) ((thenQ (F4.k38 W Q QP) (thenQ (F4.k37 W Q QP) (Q))) .normal) s h = F4.k43 W Q QP s h := nd_g (is := isAt F4.g4 0) (rest := F4.g4.drop 1) (by kernel_rfl) (F4.k42_ok W Q QP) (F4.k43_a W QP s h (F4.k42 W Q QP))
theorem F4.o19 : aw Try.prog 127 W F4.pl (Code.at F4.code [1, 1, 1, 0, 1, 0, 0]) (thenQ (F4.k38 W Q QP) (thenQ (F4.k37 W Q QP) (Q))) QP s h = F4.k43 W Q QP s h := nd_groups (id := 5) (draw := false) (ops := (regOps (Code.at F4.code [1, 1, 1, 0, 1, 0, 0]))) (gs := F4.g4.drop 0) (by kernel_rfl) (by kernel_rfl) (F4.k43_ok W Q QP s h)
theorem F4.o20 : aw Try.prog 127 W F4.pl (Code.at F4.code [1, 1, 1, 0, 1, 0]) (thenQ (F4.k37 W Q QP) (Q)) QP s h = F4.k43 W Q QP s h := nd_seq (a := (Code.at F4.code [1, 1, 1, 0, 1, 0, 0])) (b := (Code.at F4.code [1, 1, 1, 0, 1, 0, 1])) (by kernel_rfl) (F4.k38_ok W Q QP) (F4.o19 W Q QP s h)
def F4.t44 (s : St) (h : AH) (C0 C1 : KT) : Prop :=
  aIf (s.tm 22) (
  C1 s h) (
  C0 s h)
def F4.k44 (W : Nat → Prop) (Q : Post) (QP : PPost) (s : St) (h : AH) : Prop := F4.t44 s h (F4.k37 W Q QP) (F4.k43 W Q QP)
theorem F4.k44_a (C0 C1 : KT) : aIf (aev s (.tmp 22)) (C1 s h) (aw Try.prog 127 W F4.pl (Code.at F4.code [1, 1, 1, 0, 1, 1]) (thenQ (C0) (Q)) QP s h) = F4.t44 s h C0 C1 := by kernel_rfl
theorem F4.k44_ok : aw Try.prog 127 W F4.pl (Code.at F4.code [1, 1, 1, 0, 1]) (thenQ (F4.k37 W Q QP) (Q)) QP s h = F4.k44 W Q QP s h := nd_cond (a := (Code.at F4.code [1, 1, 1, 0, 1, 0])) (b := (Code.at F4.code [1, 1, 1, 0, 1, 1])) (by kernel_rfl) (F4.o20 W Q QP s h) rfl (F4.k44_a W Q QP s h (F4.k37 W Q QP) (F4.k43 W Q QP))
def F4.t45 (s : St) (h : AH) (C0 C1 : KT) : Prop :=
  pBin Try.prog .neq 26 true (s.tm 5) (.sc (.int .i64 0)) fun t84 =>
  C1 ⟨puts s.tm [(21, (s.tm 5)), (22, t84)], s.ds⟩ h
def F4.k45 (W : Nat → Prop) (Q : Post) (QP : PPost) (s : St) (h : AH) : Prop := F4.t45 s h (F4.k37 W Q QP) (F4.k44 W Q QP)
theorem F4.k45_a (C0 C1 : KT) : aw Try.prog 127 W F4.pl (Code.at F4.code [1, 1, 1, 0, 0]) (thenQ (C1) (thenQ (C0) (Q))) QP s h = F4.t45 s h C0 C1 := by kernel_rfl
theorem F4.k45_ok : aw Try.prog 127 W F4.pl (Code.at F4.code [1, 1, 1, 0]) (thenQ (F4.k37 W Q QP) (Q)) QP s h = F4.k45 W Q QP s h := nd_seq (a := (Code.at F4.code [1, 1, 1, 0, 0])) (b := (Code.at F4.code [1, 1, 1, 0, 1])) (by kernel_rfl) (F4.k44_ok W Q QP) (F4.k45_a W Q QP s h (F4.k37 W Q QP) (F4.k44 W Q QP))
theorem F4.o21 : aw Try.prog 127 W F4.pl (Code.at F4.code [1, 1, 1]) (Q) QP s h = F4.k45 W Q QP s h := nd_seq (a := (Code.at F4.code [1, 1, 1, 0])) (b := (Code.at F4.code [1, 1, 1, 1])) (by kernel_rfl) (F4.k37_ok W Q QP) (F4.k45_ok W Q QP s h)
def F4.t46 (W : Nat → Prop) (QP : PPost) (s : St) (h : AH) (C0 : KT) : Prop :=
  aCall Try.prog W 8 [(s.tm 0)] h (fun t85 h86 =>
  pExt t85 0 fun t87 =>
  pExt t85 1 fun t88 =>
  pExt t85 2 fun t89 =>
  C0 ⟨puts s.tm [(16, (s.tm 0)), (17, t85), (15, t85), (18, t87), (19, t88), (20, t89), (3, t87), (4, t88), (5, t89)], s.ds⟩ h86) (QP s.ds)
def F4.k46 (W : Nat → Prop) (Q : Post) (QP : PPost) (s : St) (h : AH) : Prop := F4.t46 W QP s h (F4.k45 W Q QP)
theorem F4.k46_a (C0 : KT) : aw Try.prog 127 W F4.pl (Code.at F4.code [1, 1, 0]) (thenQ (C0) (Q)) QP s h = F4.t46 W QP s h C0 := by kernel_rfl
theorem F4.k46_ok : aw Try.prog 127 W F4.pl (Code.at F4.code [1, 1]) (Q) QP s h = F4.k46 W Q QP s h := nd_seq (a := (Code.at F4.code [1, 1, 0])) (b := (Code.at F4.code [1, 1, 1])) (by kernel_rfl) (F4.o21 W Q QP) (F4.k46_a W Q QP s h (F4.k45 W Q QP))
def F4.t47 (Q : Post) (s : St) (h : AH) (C0 : KT) : Prop :=
  Q .ret ⟨puts s.tm [(2, (.sc (.bool false)))], s.ds⟩ h
def F4.k47 (W : Nat → Prop) (Q : Post) (QP : PPost) (s : St) (h : AH) : Prop := F4.t47 Q s h (F4.k46 W Q QP)
theorem F4.k47_a (C0 : KT) : aw Try.prog 127 W F4.pl (Code.at F4.code [1, 0, 1, 0, 0]) (thenQ (aw Try.prog 127 W F4.pl (Code.at F4.code [1, 0, 1, 0, 1]) (thenQ (C0) (Q)) QP) (thenQ (C0) (Q))) QP s h = F4.t47 Q s h C0 := by kernel_rfl
theorem F4.k47_ok : aw Try.prog 127 W F4.pl (Code.at F4.code [1, 0, 1, 0]) (thenQ (F4.k46 W Q QP) (Q)) QP s h = F4.k47 W Q QP s h := nd_seq (a := (Code.at F4.code [1, 0, 1, 0, 0])) (b := (Code.at F4.code [1, 0, 1, 0, 1])) (by kernel_rfl) (fun _ _ => rfl) (F4.k47_a W Q QP s h (F4.k46 W Q QP))
def F4.t48 (s : St) (h : AH) (C0 C1 : KT) : Prop :=
  aIf (s.tm 14) (
  C1 s h) (
  C0 s h)
def F4.k48 (W : Nat → Prop) (Q : Post) (QP : PPost) (s : St) (h : AH) : Prop := F4.t48 s h (F4.k46 W Q QP) (F4.k47 W Q QP)
theorem F4.k48_a (C0 C1 : KT) : aIf (aev s (.tmp 14)) (C1 s h) (aw Try.prog 127 W F4.pl (Code.at F4.code [1, 0, 1, 1]) (thenQ (C0) (Q)) QP s h) = F4.t48 s h C0 C1 := by kernel_rfl
theorem F4.k48_ok : aw Try.prog 127 W F4.pl (Code.at F4.code [1, 0, 1]) (thenQ (F4.k46 W Q QP) (Q)) QP s h = F4.k48 W Q QP s h := nd_cond (a := (Code.at F4.code [1, 0, 1, 0])) (b := (Code.at F4.code [1, 0, 1, 1])) (by kernel_rfl) (F4.k47_ok W Q QP s h) rfl (F4.k48_a W Q QP s h (F4.k46 W Q QP) (F4.k47 W Q QP))
def F4.t49 (W : Nat → Prop) (QP : PPost) (s : St) (h : AH) (C0 C1 : KT) : Prop :=
  aCall Try.prog W 6 [] h (fun t90 h91 =>
  pUn .not t90 fun t92 =>
  C1 ⟨puts s.tm [(13, t90), (14, t92)], s.ds⟩ h91) (QP s.ds)
def F4.k49 (W : Nat → Prop) (Q : Post) (QP : PPost) (s : St) (h : AH) : Prop := F4.t49 W QP s h (F4.k46 W Q QP) (F4.k48 W Q QP)
theorem F4.k49_a (C0 C1 : KT) : aw Try.prog 127 W F4.pl (Code.at F4.code [1, 0, 0]) (thenQ (C1) (thenQ (C0) (Q))) QP s h = F4.t49 W QP s h C0 C1 := by kernel_rfl
theorem F4.k49_ok : aw Try.prog 127 W F4.pl (Code.at F4.code [1, 0]) (thenQ (F4.k46 W Q QP) (Q)) QP s h = F4.k49 W Q QP s h := nd_seq (a := (Code.at F4.code [1, 0, 0])) (b := (Code.at F4.code [1, 0, 1])) (by kernel_rfl) (F4.k48_ok W Q QP) (F4.k49_a W Q QP s h (F4.k46 W Q QP) (F4.k48 W Q QP))
theorem F4.o22 : aw Try.prog 127 W F4.pl (Code.at F4.code [1]) (Q) QP s h = F4.k49 W Q QP s h := nd_seq (a := (Code.at F4.code [1, 0])) (b := (Code.at F4.code [1, 1])) (by kernel_rfl) (F4.k46_ok W Q QP) (F4.k49_ok W Q QP s h)
def F4.t50 (s : St) (h : AH) (C0 : KT) : Prop :=
  C0 ⟨puts s.tm [(2, (.sc (.bool false)))], s.ds⟩ h
def F4.k50 (W : Nat → Prop) (Q : Post) (QP : PPost) (s : St) (h : AH) : Prop := F4.t50 s h (F4.k49 W Q QP)
theorem F4.k50_a (C0 : KT) : aw Try.prog 127 W F4.pl (Code.at F4.code [0]) (thenQ (C0) (Q)) QP s h = F4.t50 s h C0 := by kernel_rfl
theorem F4.k50_ok : aw Try.prog 127 W F4.pl (Code.at F4.code []) (Q) QP s h = F4.k50 W Q QP s h := nd_seq (a := (Code.at F4.code [0])) (b := (Code.at F4.code [1])) (by kernel_rfl) (F4.o22 W Q QP) (F4.k50_a W Q QP s h (F4.k49 W Q QP))
end
theorem F4.calls {x0 : AV} {h : AH} {M : Nat → Prop} {R : AE → AH → Prop} (hp : F4.k50 (fun id => M id ∨ h.next ≤ id) (bodyQ Try.prog [.tmp 2] R) (bodyP R) (s0 [x0]) h) : ACalls Try.prog 4 [x0] h M R :=
  acalls_of Try.mixed Try.func4 rfl (Nat.le_of_ble_eq_true rfl) F4.ok (by rw [show Try.f4.ntmps = 127 from rfl, show Try.f4.results.toList = [.tmp 2] from rfl]; exact Eq.mpr (F4.k50_ok _ _ _ _ _) hp)
attribute [simp] F4.k1 F4.t1 F4.k2 F4.t2 F4.k3 F4.t3 F4.k4 F4.t4 F4.k5 F4.t5 F4.k6 F4.t6 F4.k7 F4.t7 F4.k8 F4.t8 F4.k9 F4.t9 F4.k10 F4.t10 F4.k11 F4.t11 F4.k12 F4.t12 F4.k13 F4.t13 F4.k14 F4.t14 F4.k15 F4.t15 F4.k16 F4.t16 F4.k17 F4.t17 F4.k18 F4.k19 F4.t19 F4.k20 F4.t20 F4.k21 F4.t21 F4.k22 F4.t22 F4.k23 F4.t23 F4.k24 F4.t24 F4.k25 F4.t25 F4.k26 F4.t26 F4.k27 F4.t27 F4.k28 F4.t28 F4.k29 F4.t29 F4.k30 F4.t30 F4.k31 F4.k32 F4.t32 F4.k33 F4.t33 F4.k34 F4.t34 F4.k35 F4.t35 F4.k36 F4.t36 F4.k37 F4.t37 F4.k38 F4.t38 F4.k39 F4.t39 F4.k40 F4.t40 F4.k41 F4.t41 F4.k42 F4.t42 F4.k43 F4.t43 F4.k44 F4.t44 F4.k45 F4.t45 F4.k46 F4.t46 F4.k47 F4.t47 F4.k48 F4.t48 F4.k49 F4.t49 F4.k50 F4.t50

/-! cubit/cubitlaw10.awake -/
section
variable (W : Nat → Prop) (Q : Post) (QP : PPost) (s : St) (h : AH)
noncomputable def F6.code : Code := Try.f6.body.getD .skip
def F6.g1 : Grps := [(none, [(0, false), (1, false), (2, false)]), (some (2, true), [(3, false), (4, false)]), (none, [(5, false), (6, false)]), (some (6, true), [(7, false), (8, false), (9, false)]), (none, [(10, false), (11, false)]), (some (11, true), [(12, false), (13, false), (14, false), (15, false), (16, false)]), (none, [(17, false), (18, false)]), (some (18, true), [(19, false), (20, false), (21, false), (22, false), (23, false)]), (none, [(24, false), (25, false)]), (some (25, true), [(26, false), (27, false), (28, false), (29, false), (30, false)]), (none, [(31, false), (32, false)]), (some (32, true), [(33, false), (34, false), (35, false), (36, false), (37, false), (38, false)]), (none, [(39, false), (40, false)]), (some (40, true), [(41, false), (42, false)]), (none, [(43, false), (44, false)]), (some (44, true), [(45, false), (46, false)]), (none, [(47, false), (48, false)])]
def F6.pl : Plans := [(3, ⟨F6.g1, false, []⟩)]
theorem F6.ok : okCode F6.pl F6.code = true := by kernel_rfl
def F6.t1 (Q : Post) (s : St) (h : AH) : Prop :=
  Q .ret s h
def F6.k1 (W : Nat → Prop) (Q : Post) (QP : PPost) (s : St) (h : AH) : Prop := F6.t1 Q s h
theorem F6.k1_a : aw Try.prog 65 W F6.pl (Code.at F6.code [1, 1, 1, 1]) (Q) QP s h = F6.t1 Q s h := by kernel_rfl
theorem F6.k1_ok : aw Try.prog 65 W F6.pl (Code.at F6.code [1, 1, 1, 1]) (Q) QP s h = F6.k1 W Q QP s h := (F6.k1_a W Q QP s h)
def F6.t2 (s : St) (h : AH) (C0 : KT) : Prop :=
  pPick (s.tm 61) (s.tm 63) (.sc (.bool false)) fun t1 =>
  C0 ⟨puts s.tm [(64, t1), (0, t1)], s.ds⟩ h
def F6.k2 (W : Nat → Prop) (Q : Post) (QP : PPost) (s : St) (h : AH) : Prop := F6.t2 s h (F6.k1 W Q QP)
theorem F6.k2_a (C0 : KT) : evI Try.prog 65 (fun _ => W) nobody QP (regOps (Code.at F6.code [1, 1, 1, 0])) (isAt F6.g1 16) ((thenQ (C0) (Q)) .normal) s h = F6.t2 s h C0 := by kernel_rfl
theorem F6.k2_ok : evG Try.prog 65 (fun _ => W) nobody QP (regOps (Code.at F6.code [1, 1, 1, 0])) (F6.g1.drop 16) ((thenQ (F6.k1 W Q QP) (Q)) .normal) s h = F6.k2 W Q QP s h := nd_g (is := isAt F6.g1 16) (rest := F6.g1.drop 17) (by kernel_rfl) (fun _ _ => rfl) (F6.k2_a W Q QP s h (F6.k1 W Q QP))
def F6.t3 (s : St) (h : AH) (C0 : KT) : Prop :=
  aIg true (s.tm 61) (
  pBin Try.prog .eql 3 true (s.tm 5) (.sc (.int .i64 6)) fun t2 =>
  C0 ⟨puts s.tm [(62, (s.tm 5)), (63, t2)], s.ds⟩ h) (
  C0 ⟨puts s.tm [(62, noA), (63, noA)], s.ds⟩ h)
def F6.k3 (W : Nat → Prop) (Q : Post) (QP : PPost) (s : St) (h : AH) : Prop := F6.t3 s h (F6.k2 W Q QP)
theorem F6.k3_a (C0 : KT) : aIg true (s.tm 61) (evI Try.prog 65 (fun _ => W) nobody QP (regOps (Code.at F6.code [1, 1, 1, 0])) (isAt F6.g1 15) (C0) s h) ((C0) (skI 65 (regOps (Code.at F6.code [1, 1, 1, 0])) (isAt F6.g1 15) s) h) = F6.t3 s h C0 := by kernel_rfl
theorem F6.k3_ok : evG Try.prog 65 (fun _ => W) nobody QP (regOps (Code.at F6.code [1, 1, 1, 0])) (F6.g1.drop 15) ((thenQ (F6.k1 W Q QP) (Q)) .normal) s h = F6.k3 W Q QP s h := nd_gw (j := 44) (is := isAt F6.g1 15) (rest := F6.g1.drop 16) (by kernel_rfl) (d := 61) (by kernel_rfl) (F6.k2_ok W Q QP) (F6.k3_a W QP s h (F6.k2 W Q QP))
def F6.t4 (s : St) (h : AH) (C0 : KT) : Prop :=
  pPick (s.tm 57) (s.tm 59) (.sc (.bool false)) fun t3 =>
  C0 ⟨puts s.tm [(60, t3), (61, t3)], s.ds⟩ h
def F6.k4 (W : Nat → Prop) (Q : Post) (QP : PPost) (s : St) (h : AH) : Prop := F6.t4 s h (F6.k3 W Q QP)
theorem F6.k4_a (C0 : KT) : evI Try.prog 65 (fun _ => W) nobody QP (regOps (Code.at F6.code [1, 1, 1, 0])) (isAt F6.g1 14) (C0) s h = F6.t4 s h C0 := by kernel_rfl
theorem F6.k4_ok : evG Try.prog 65 (fun _ => W) nobody QP (regOps (Code.at F6.code [1, 1, 1, 0])) (F6.g1.drop 14) ((thenQ (F6.k1 W Q QP) (Q)) .normal) s h = F6.k4 W Q QP s h := nd_g (is := isAt F6.g1 14) (rest := F6.g1.drop 15) (by kernel_rfl) (F6.k3_ok W Q QP) (F6.k4_a W QP s h (F6.k3 W Q QP))
def F6.t5 (s : St) (h : AH) (C0 : KT) : Prop :=
  aIg true (s.tm 57) (
  pBin Try.prog .eql 26 true (s.tm 6) (.sc (.int .i64 101)) fun t4 =>
  C0 ⟨puts s.tm [(58, (s.tm 6)), (59, t4)], s.ds⟩ h) (
  C0 ⟨puts s.tm [(58, noA), (59, noA)], s.ds⟩ h)
def F6.k5 (W : Nat → Prop) (Q : Post) (QP : PPost) (s : St) (h : AH) : Prop := F6.t5 s h (F6.k4 W Q QP)
theorem F6.k5_a (C0 : KT) : aIg true (s.tm 57) (evI Try.prog 65 (fun _ => W) nobody QP (regOps (Code.at F6.code [1, 1, 1, 0])) (isAt F6.g1 13) (C0) s h) ((C0) (skI 65 (regOps (Code.at F6.code [1, 1, 1, 0])) (isAt F6.g1 13) s) h) = F6.t5 s h C0 := by kernel_rfl
theorem F6.k5_ok : evG Try.prog 65 (fun _ => W) nobody QP (regOps (Code.at F6.code [1, 1, 1, 0])) (F6.g1.drop 13) ((thenQ (F6.k1 W Q QP) (Q)) .normal) s h = F6.k5 W Q QP s h := nd_gw (j := 40) (is := isAt F6.g1 13) (rest := F6.g1.drop 14) (by kernel_rfl) (d := 57) (by kernel_rfl) (F6.k4_ok W Q QP) (F6.k5_a W QP s h (F6.k4 W Q QP))
def F6.t6 (s : St) (h : AH) (C0 : KT) : Prop :=
  pPick (s.tm 49) (s.tm 55) (.sc (.bool false)) fun t5 =>
  C0 ⟨puts s.tm [(56, t5), (57, t5)], s.ds⟩ h
def F6.k6 (W : Nat → Prop) (Q : Post) (QP : PPost) (s : St) (h : AH) : Prop := F6.t6 s h (F6.k5 W Q QP)
theorem F6.k6_a (C0 : KT) : evI Try.prog 65 (fun _ => W) nobody QP (regOps (Code.at F6.code [1, 1, 1, 0])) (isAt F6.g1 12) (C0) s h = F6.t6 s h C0 := by kernel_rfl
theorem F6.k6_ok : evG Try.prog 65 (fun _ => W) nobody QP (regOps (Code.at F6.code [1, 1, 1, 0])) (F6.g1.drop 12) ((thenQ (F6.k1 W Q QP) (Q)) .normal) s h = F6.k6 W Q QP s h := nd_g (is := isAt F6.g1 12) (rest := F6.g1.drop 13) (by kernel_rfl) (F6.k5_ok W Q QP) (F6.k6_a W QP s h (F6.k5 W Q QP))
def F6.t7 (s : St) (h : AH) (C0 : KT) : Prop :=
  aIg true (s.tm 49) (
  pIxA (some (6, none)) (s.tm 1) (.sc (.int .i64 1)) fun t6 =>
  pFld (some 2) t6 fun t7 =>
  lLd (some false) (some 1) t7 h fun t8 _ =>
  (strArg t8 = false) ∧ pLen t8 fun t10 =>
  pBin Try.prog .eql 3 true t10 (.sc (.int .i64 1)) fun t11 =>
  C0 ⟨puts s.tm [(50, (s.tm 1)), (51, t6), (52, t7), (53, t8), (54, t10), (55, t11)], s.ds⟩ h) (
  C0 ⟨puts s.tm [(50, noA), (51, noA), (52, noA), (53, noA), (54, noA), (55, noA)], s.ds⟩ h)
def F6.k7 (W : Nat → Prop) (Q : Post) (QP : PPost) (s : St) (h : AH) : Prop := F6.t7 s h (F6.k6 W Q QP)
theorem F6.k7_a (C0 : KT) : aIg true (s.tm 49) (evI Try.prog 65 (fun _ => W) nobody QP (regOps (Code.at F6.code [1, 1, 1, 0])) (isAt F6.g1 11) (C0) s h) ((C0) (skI 65 (regOps (Code.at F6.code [1, 1, 1, 0])) (isAt F6.g1 11) s) h) = F6.t7 s h C0 := by kernel_rfl
theorem F6.k7_ok : evG Try.prog 65 (fun _ => W) nobody QP (regOps (Code.at F6.code [1, 1, 1, 0])) (F6.g1.drop 11) ((thenQ (F6.k1 W Q QP) (Q)) .normal) s h = F6.k7 W Q QP s h := nd_gw (j := 32) (is := isAt F6.g1 11) (rest := F6.g1.drop 12) (by kernel_rfl) (d := 49) (by kernel_rfl) (F6.k6_ok W Q QP) (F6.k7_a W QP s h (F6.k6 W Q QP))
def F6.t8 (s : St) (h : AH) (C0 : KT) : Prop :=
  pPick (s.tm 42) (s.tm 47) (.sc (.bool false)) fun t12 =>
  C0 ⟨puts s.tm [(48, t12), (49, t12)], s.ds⟩ h
def F6.k8 (W : Nat → Prop) (Q : Post) (QP : PPost) (s : St) (h : AH) : Prop := F6.t8 s h (F6.k7 W Q QP)
theorem F6.k8_a (C0 : KT) : evI Try.prog 65 (fun _ => W) nobody QP (regOps (Code.at F6.code [1, 1, 1, 0])) (isAt F6.g1 10) (C0) s h = F6.t8 s h C0 := by kernel_rfl
theorem F6.k8_ok : evG Try.prog 65 (fun _ => W) nobody QP (regOps (Code.at F6.code [1, 1, 1, 0])) (F6.g1.drop 10) ((thenQ (F6.k1 W Q QP) (Q)) .normal) s h = F6.k8 W Q QP s h := nd_g (is := isAt F6.g1 10) (rest := F6.g1.drop 11) (by kernel_rfl) (F6.k7_ok W Q QP) (F6.k8_a W QP s h (F6.k7 W Q QP))
def F6.t9 (s : St) (h : AH) (C0 : KT) : Prop :=
  aIg true (s.tm 42) (
  pIxA (some (6, none)) (s.tm 1) (.sc (.int .i64 1)) fun t13 =>
  pFld (some 5) t13 fun t14 =>
  lLd (some false) (some 1) t14 h fun t15 _ =>
  pBin Try.prog .eql 3 true t15 (.sc (.int .i64 12)) fun t17 =>
  C0 ⟨puts s.tm [(43, (s.tm 1)), (44, t13), (45, t14), (46, t15), (47, t17)], s.ds⟩ h) (
  C0 ⟨puts s.tm [(43, noA), (44, noA), (45, noA), (46, noA), (47, noA)], s.ds⟩ h)
def F6.k9 (W : Nat → Prop) (Q : Post) (QP : PPost) (s : St) (h : AH) : Prop := F6.t9 s h (F6.k8 W Q QP)
theorem F6.k9_a (C0 : KT) : aIg true (s.tm 42) (evI Try.prog 65 (fun _ => W) nobody QP (regOps (Code.at F6.code [1, 1, 1, 0])) (isAt F6.g1 9) (C0) s h) ((C0) (skI 65 (regOps (Code.at F6.code [1, 1, 1, 0])) (isAt F6.g1 9) s) h) = F6.t9 s h C0 := by kernel_rfl
theorem F6.k9_ok : evG Try.prog 65 (fun _ => W) nobody QP (regOps (Code.at F6.code [1, 1, 1, 0])) (F6.g1.drop 9) ((thenQ (F6.k1 W Q QP) (Q)) .normal) s h = F6.k9 W Q QP s h := nd_gw (j := 25) (is := isAt F6.g1 9) (rest := F6.g1.drop 10) (by kernel_rfl) (d := 42) (by kernel_rfl) (F6.k8_ok W Q QP) (F6.k9_a W QP s h (F6.k8 W Q QP))
def F6.t10 (s : St) (h : AH) (C0 : KT) : Prop :=
  pPick (s.tm 35) (s.tm 40) (.sc (.bool false)) fun t18 =>
  C0 ⟨puts s.tm [(41, t18), (42, t18)], s.ds⟩ h
def F6.k10 (W : Nat → Prop) (Q : Post) (QP : PPost) (s : St) (h : AH) : Prop := F6.t10 s h (F6.k9 W Q QP)
theorem F6.k10_a (C0 : KT) : evI Try.prog 65 (fun _ => W) nobody QP (regOps (Code.at F6.code [1, 1, 1, 0])) (isAt F6.g1 8) (C0) s h = F6.t10 s h C0 := by kernel_rfl
theorem F6.k10_ok : evG Try.prog 65 (fun _ => W) nobody QP (regOps (Code.at F6.code [1, 1, 1, 0])) (F6.g1.drop 8) ((thenQ (F6.k1 W Q QP) (Q)) .normal) s h = F6.k10 W Q QP s h := nd_g (is := isAt F6.g1 8) (rest := F6.g1.drop 9) (by kernel_rfl) (F6.k9_ok W Q QP) (F6.k10_a W QP s h (F6.k9 W Q QP))
def F6.t11 (s : St) (h : AH) (C0 : KT) : Prop :=
  aIg true (s.tm 35) (
  pIxA (some (6, none)) (s.tm 1) (.sc (.int .i64 1)) fun t19 =>
  pFld (some 1) t19 fun t20 =>
  lLd (some false) (some 1) t20 h fun t21 _ =>
  pBin Try.prog .eql 9 true t21 (.sc (.string ⟨#[104]⟩)) fun t23 =>
  C0 ⟨puts s.tm [(36, (s.tm 1)), (37, t19), (38, t20), (39, t21), (40, t23)], s.ds⟩ h) (
  C0 ⟨puts s.tm [(36, noA), (37, noA), (38, noA), (39, noA), (40, noA)], s.ds⟩ h)
def F6.k11 (W : Nat → Prop) (Q : Post) (QP : PPost) (s : St) (h : AH) : Prop := F6.t11 s h (F6.k10 W Q QP)
theorem F6.k11_a (C0 : KT) : aIg true (s.tm 35) (evI Try.prog 65 (fun _ => W) nobody QP (regOps (Code.at F6.code [1, 1, 1, 0])) (isAt F6.g1 7) (C0) s h) ((C0) (skI 65 (regOps (Code.at F6.code [1, 1, 1, 0])) (isAt F6.g1 7) s) h) = F6.t11 s h C0 := by kernel_rfl
theorem F6.k11_ok : evG Try.prog 65 (fun _ => W) nobody QP (regOps (Code.at F6.code [1, 1, 1, 0])) (F6.g1.drop 7) ((thenQ (F6.k1 W Q QP) (Q)) .normal) s h = F6.k11 W Q QP s h := nd_gw (j := 18) (is := isAt F6.g1 7) (rest := F6.g1.drop 8) (by kernel_rfl) (d := 35) (by kernel_rfl) (F6.k10_ok W Q QP) (F6.k11_a W QP s h (F6.k10 W Q QP))
def F6.t12 (s : St) (h : AH) (C0 : KT) : Prop :=
  pPick (s.tm 28) (s.tm 33) (.sc (.bool false)) fun t24 =>
  C0 ⟨puts s.tm [(34, t24), (35, t24)], s.ds⟩ h
def F6.k12 (W : Nat → Prop) (Q : Post) (QP : PPost) (s : St) (h : AH) : Prop := F6.t12 s h (F6.k11 W Q QP)
theorem F6.k12_a (C0 : KT) : evI Try.prog 65 (fun _ => W) nobody QP (regOps (Code.at F6.code [1, 1, 1, 0])) (isAt F6.g1 6) (C0) s h = F6.t12 s h C0 := by kernel_rfl
theorem F6.k12_ok : evG Try.prog 65 (fun _ => W) nobody QP (regOps (Code.at F6.code [1, 1, 1, 0])) (F6.g1.drop 6) ((thenQ (F6.k1 W Q QP) (Q)) .normal) s h = F6.k12 W Q QP s h := nd_g (is := isAt F6.g1 6) (rest := F6.g1.drop 7) (by kernel_rfl) (F6.k11_ok W Q QP) (F6.k12_a W QP s h (F6.k11 W Q QP))
def F6.t13 (s : St) (h : AH) (C0 : KT) : Prop :=
  aIg true (s.tm 28) (
  pIxA (some (6, none)) (s.tm 1) (.sc (.int .i64 0)) fun t25 =>
  pFld (some 3) t25 fun t26 =>
  lLd (some false) (some 1) t26 h fun t27 _ =>
  pBin Try.prog .eql 3 true t27 (.sc (.int .i64 2)) fun t29 =>
  C0 ⟨puts s.tm [(29, (s.tm 1)), (30, t25), (31, t26), (32, t27), (33, t29)], s.ds⟩ h) (
  C0 ⟨puts s.tm [(29, noA), (30, noA), (31, noA), (32, noA), (33, noA)], s.ds⟩ h)
def F6.k13 (W : Nat → Prop) (Q : Post) (QP : PPost) (s : St) (h : AH) : Prop := F6.t13 s h (F6.k12 W Q QP)
theorem F6.k13_a (C0 : KT) : aIg true (s.tm 28) (evI Try.prog 65 (fun _ => W) nobody QP (regOps (Code.at F6.code [1, 1, 1, 0])) (isAt F6.g1 5) (C0) s h) ((C0) (skI 65 (regOps (Code.at F6.code [1, 1, 1, 0])) (isAt F6.g1 5) s) h) = F6.t13 s h C0 := by kernel_rfl
theorem F6.k13_ok : evG Try.prog 65 (fun _ => W) nobody QP (regOps (Code.at F6.code [1, 1, 1, 0])) (F6.g1.drop 5) ((thenQ (F6.k1 W Q QP) (Q)) .normal) s h = F6.k13 W Q QP s h := nd_gw (j := 11) (is := isAt F6.g1 5) (rest := F6.g1.drop 6) (by kernel_rfl) (d := 28) (by kernel_rfl) (F6.k12_ok W Q QP) (F6.k13_a W QP s h (F6.k12 W Q QP))
def F6.t14 (s : St) (h : AH) (C0 : KT) : Prop :=
  pPick (s.tm 23) (s.tm 26) (.sc (.bool false)) fun t30 =>
  C0 ⟨puts s.tm [(27, t30), (28, t30)], s.ds⟩ h
def F6.k14 (W : Nat → Prop) (Q : Post) (QP : PPost) (s : St) (h : AH) : Prop := F6.t14 s h (F6.k13 W Q QP)
theorem F6.k14_a (C0 : KT) : evI Try.prog 65 (fun _ => W) nobody QP (regOps (Code.at F6.code [1, 1, 1, 0])) (isAt F6.g1 4) (C0) s h = F6.t14 s h C0 := by kernel_rfl
theorem F6.k14_ok : evG Try.prog 65 (fun _ => W) nobody QP (regOps (Code.at F6.code [1, 1, 1, 0])) (F6.g1.drop 4) ((thenQ (F6.k1 W Q QP) (Q)) .normal) s h = F6.k14 W Q QP s h := nd_g (is := isAt F6.g1 4) (rest := F6.g1.drop 5) (by kernel_rfl) (F6.k13_ok W Q QP) (F6.k14_a W QP s h (F6.k13 W Q QP))
def F6.t15 (s : St) (h : AH) (C0 : KT) : Prop :=
  aIg true (s.tm 23) (
  (strArg (s.tm 1) = false) ∧ pLen (s.tm 1) fun t31 =>
  pBin Try.prog .eql 3 true t31 (.sc (.int .i64 2)) fun t32 =>
  C0 ⟨puts s.tm [(24, (s.tm 1)), (25, t31), (26, t32)], s.ds⟩ h) (
  C0 ⟨puts s.tm [(24, noA), (25, noA), (26, noA)], s.ds⟩ h)
def F6.k15 (W : Nat → Prop) (Q : Post) (QP : PPost) (s : St) (h : AH) : Prop := F6.t15 s h (F6.k14 W Q QP)
theorem F6.k15_a (C0 : KT) : aIg true (s.tm 23) (evI Try.prog 65 (fun _ => W) nobody QP (regOps (Code.at F6.code [1, 1, 1, 0])) (isAt F6.g1 3) (C0) s h) ((C0) (skI 65 (regOps (Code.at F6.code [1, 1, 1, 0])) (isAt F6.g1 3) s) h) = F6.t15 s h C0 := by kernel_rfl
theorem F6.k15_ok : evG Try.prog 65 (fun _ => W) nobody QP (regOps (Code.at F6.code [1, 1, 1, 0])) (F6.g1.drop 3) ((thenQ (F6.k1 W Q QP) (Q)) .normal) s h = F6.k15 W Q QP s h := nd_gw (j := 6) (is := isAt F6.g1 3) (rest := F6.g1.drop 4) (by kernel_rfl) (d := 23) (by kernel_rfl) (F6.k14_ok W Q QP) (F6.k15_a W QP s h (F6.k14 W Q QP))
def F6.t16 (s : St) (h : AH) (C0 : KT) : Prop :=
  pPick (s.tm 19) (s.tm 21) (.sc (.bool false)) fun t33 =>
  C0 ⟨puts s.tm [(22, t33), (23, t33)], s.ds⟩ h
def F6.k16 (W : Nat → Prop) (Q : Post) (QP : PPost) (s : St) (h : AH) : Prop := F6.t16 s h (F6.k15 W Q QP)
theorem F6.k16_a (C0 : KT) : evI Try.prog 65 (fun _ => W) nobody QP (regOps (Code.at F6.code [1, 1, 1, 0])) (isAt F6.g1 2) (C0) s h = F6.t16 s h C0 := by kernel_rfl
theorem F6.k16_ok : evG Try.prog 65 (fun _ => W) nobody QP (regOps (Code.at F6.code [1, 1, 1, 0])) (F6.g1.drop 2) ((thenQ (F6.k1 W Q QP) (Q)) .normal) s h = F6.k16 W Q QP s h := nd_g (is := isAt F6.g1 2) (rest := F6.g1.drop 3) (by kernel_rfl) (F6.k15_ok W Q QP) (F6.k16_a W QP s h (F6.k15 W Q QP))
def F6.t17 (s : St) (h : AH) (C0 : KT) : Prop :=
  aIg true (s.tm 19) (
  pBin Try.prog .eql 3 true (s.tm 2) (.sc (.int .i64 0)) fun t34 =>
  C0 ⟨puts s.tm [(20, (s.tm 2)), (21, t34)], s.ds⟩ h) (
  C0 ⟨puts s.tm [(20, noA), (21, noA)], s.ds⟩ h)
def F6.k17 (W : Nat → Prop) (Q : Post) (QP : PPost) (s : St) (h : AH) : Prop := F6.t17 s h (F6.k16 W Q QP)
theorem F6.k17_a (C0 : KT) : aIg true (s.tm 19) (evI Try.prog 65 (fun _ => W) nobody QP (regOps (Code.at F6.code [1, 1, 1, 0])) (isAt F6.g1 1) (C0) s h) ((C0) (skI 65 (regOps (Code.at F6.code [1, 1, 1, 0])) (isAt F6.g1 1) s) h) = F6.t17 s h C0 := by kernel_rfl
theorem F6.k17_ok : evG Try.prog 65 (fun _ => W) nobody QP (regOps (Code.at F6.code [1, 1, 1, 0])) (F6.g1.drop 1) ((thenQ (F6.k1 W Q QP) (Q)) .normal) s h = F6.k17 W Q QP s h := nd_gw (j := 2) (is := isAt F6.g1 1) (rest := F6.g1.drop 2) (by kernel_rfl) (d := 19) (by kernel_rfl) (F6.k16_ok W Q QP) (F6.k17_a W QP s h (F6.k16 W Q QP))
def F6.t18 (s : St) (h : AH) (C0 : KT) : Prop :=
  pBin Try.prog .eql 26 true (s.tm 3) (.sc (.int .i64 0)) fun t35 =>
  C0 ⟨puts s.tm [(17, (s.tm 3)), (18, t35), (19, t35)], s.ds⟩ h
def F6.k18 (W : Nat → Prop) (Q : Post) (QP : PPost) (s : St) (h : AH) : Prop := F6.t18 s h (F6.k17 W Q QP)
theorem F6.k18_a (C0 : KT) : evI Try.prog 65 (fun _ => W) nobody QP (regOps (Code.at F6.code [1, 1, 1, 0])) (isAt F6.g1 0) (C0) s h = F6.t18 s h C0 := by kernel_rfl
theorem F6.k18_ok : evG Try.prog 65 (fun _ => W) nobody QP (regOps (Code.at F6.code [1, 1, 1, 0])) (F6.g1.drop 0) ((thenQ (F6.k1 W Q QP) (Q)) .normal) s h = F6.k18 W Q QP s h := nd_g (is := isAt F6.g1 0) (rest := F6.g1.drop 1) (by kernel_rfl) (F6.k17_ok W Q QP) (F6.k18_a W QP s h (F6.k17 W Q QP))
theorem F6.o1 : aw Try.prog 65 W F6.pl (Code.at F6.code [1, 1, 1, 0]) (thenQ (F6.k1 W Q QP) (Q)) QP s h = F6.k18 W Q QP s h := nd_groups (id := 3) (draw := false) (ops := (regOps (Code.at F6.code [1, 1, 1, 0]))) (gs := F6.g1.drop 0) (by kernel_rfl) (by kernel_rfl) (F6.k18_ok W Q QP s h)
theorem F6.o2 : aw Try.prog 65 W F6.pl (Code.at F6.code [1, 1, 1]) (Q) QP s h = F6.k18 W Q QP s h := nd_seq (a := (Code.at F6.code [1, 1, 1, 0])) (b := (Code.at F6.code [1, 1, 1, 1])) (by kernel_rfl) (F6.k1_ok W Q QP) (F6.o1 W Q QP s h)
def F6.t19 (W : Nat → Prop) (QP : PPost) (s : St) (h : AH) (C0 : KT) : Prop :=
  aCall Try.prog W 8 [(.sc (.string ⟨#[104, 32, 113, 91, 48, 93]⟩))] h (fun t36 h37 =>
  pExt t36 0 fun t38 =>
  pExt t36 1 fun t39 =>
  pExt t36 2 fun t40 =>
  C0 ⟨puts s.tm [(13, t36), (12, t36), (14, t38), (15, t39), (16, t40), (4, t38), (5, t39), (6, t40)], s.ds⟩ h37) (QP s.ds)
def F6.k19 (W : Nat → Prop) (Q : Post) (QP : PPost) (s : St) (h : AH) : Prop := F6.t19 W QP s h (F6.k18 W Q QP)
theorem F6.k19_a (C0 : KT) : aw Try.prog 65 W F6.pl (Code.at F6.code [1, 1, 0]) (thenQ (C0) (Q)) QP s h = F6.t19 W QP s h C0 := by kernel_rfl
theorem F6.k19_ok : aw Try.prog 65 W F6.pl (Code.at F6.code [1, 1]) (Q) QP s h = F6.k19 W Q QP s h := nd_seq (a := (Code.at F6.code [1, 1, 0])) (b := (Code.at F6.code [1, 1, 1])) (by kernel_rfl) (F6.o2 W Q QP) (F6.k19_a W Q QP s h (F6.k18 W Q QP))
def F6.t20 (W : Nat → Prop) (QP : PPost) (s : St) (h : AH) (C0 : KT) : Prop :=
  aCall Try.prog W 8 [(.sc (.string ⟨#[113, 117, 98, 105, 116, 115, 32, 113, 32, 50, 59, 32, 104, 32, 113, 91, 48, 93, 59]⟩))] h (fun t41 h42 =>
  pExt t41 0 fun t43 =>
  pExt t41 1 fun t44 =>
  pExt t41 2 fun t45 =>
  C0 ⟨puts s.tm [(8, t41), (7, t41), (9, t43), (10, t44), (11, t45), (1, t43), (2, t44), (3, t45)], s.ds⟩ h42) (QP s.ds)
def F6.k20 (W : Nat → Prop) (Q : Post) (QP : PPost) (s : St) (h : AH) : Prop := F6.t20 W QP s h (F6.k19 W Q QP)
theorem F6.k20_a (C0 : KT) : aw Try.prog 65 W F6.pl (Code.at F6.code [1, 0]) (thenQ (C0) (Q)) QP s h = F6.t20 W QP s h C0 := by kernel_rfl
theorem F6.k20_ok : aw Try.prog 65 W F6.pl (Code.at F6.code [1]) (Q) QP s h = F6.k20 W Q QP s h := nd_seq (a := (Code.at F6.code [1, 0])) (b := (Code.at F6.code [1, 1])) (by kernel_rfl) (F6.k19_ok W Q QP) (F6.k20_a W Q QP s h (F6.k19 W Q QP))
def F6.t21 (s : St) (h : AH) (C0 : KT) : Prop :=
  C0 ⟨puts s.tm [(0, (.sc (.bool false)))], s.ds⟩ h
def F6.k21 (W : Nat → Prop) (Q : Post) (QP : PPost) (s : St) (h : AH) : Prop := F6.t21 s h (F6.k20 W Q QP)
theorem F6.k21_a (C0 : KT) : aw Try.prog 65 W F6.pl (Code.at F6.code [0]) (thenQ (C0) (Q)) QP s h = F6.t21 s h C0 := by kernel_rfl
theorem F6.k21_ok : aw Try.prog 65 W F6.pl (Code.at F6.code []) (Q) QP s h = F6.k21 W Q QP s h := nd_seq (a := (Code.at F6.code [0])) (b := (Code.at F6.code [1])) (by kernel_rfl) (F6.k20_ok W Q QP) (F6.k21_a W Q QP s h (F6.k20 W Q QP))
end
theorem F6.calls {h : AH} {M : Nat → Prop} {R : AE → AH → Prop} (hp : F6.k21 (fun id => M id ∨ h.next ≤ id) (bodyQ Try.prog [.tmp 0] R) (bodyP R) (s0 []) h) : ACalls Try.prog 6 [] h M R :=
  acalls_of Try.mixed Try.func6 rfl (Nat.le_of_ble_eq_true rfl) F6.ok (by rw [show Try.f6.ntmps = 65 from rfl, show Try.f6.results.toList = [.tmp 0] from rfl]; exact Eq.mpr (F6.k21_ok _ _ _ _ _) hp)
attribute [simp] F6.k1 F6.t1 F6.k2 F6.t2 F6.k3 F6.t3 F6.k4 F6.t4 F6.k5 F6.t5 F6.k6 F6.t6 F6.k7 F6.t7 F6.k8 F6.t8 F6.k9 F6.t9 F6.k10 F6.t10 F6.k11 F6.t11 F6.k12 F6.t12 F6.k13 F6.t13 F6.k14 F6.t14 F6.k15 F6.t15 F6.k16 F6.t16 F6.k17 F6.t17 F6.k18 F6.t18 F6.k19 F6.t19 F6.k20 F6.t20 F6.k21 F6.t21

/-! cubit/parse.Parse -/
section
variable (W : Nat → Prop) (Q : Post) (QP : PPost) (s : St) (h : AH)
noncomputable def F8.code : Code := Try.f8.body.getD .skip
def F8.pl : Plans := [(3, ⟨[(none, [(0, true), (1, true), (2, false), (3, false), (4, false)])], true, []⟩)]
theorem F8.ok : okCode F8.pl F8.code = true := by kernel_rfl
def F8.t1 (W : Nat → Prop) (Q : Post) (s : St) (h : AH) : Prop :=
  pNil (s.tm 6) fun t1 =>
  pFld (some 3) t1 fun t2 =>
  lLd (some false) (some 1) t2 h fun t3 _ =>
  eStore (some 1) (s.tm 2) t3 h W fun h5 =>
  eStore (some 1) (s.tm 3) (.sc (.int .i64 0)) h5 W fun h6 =>
  eStore (some 1) (s.tm 4) (.sc (.int .i64 0)) h6 W fun h7 =>
  Q .ret ⟨puts s.tm [(32, (s.tm 6)), (33, t1), (34, t2), (35, t3)], s.ds⟩ h7
def F8.k1 (W : Nat → Prop) (Q : Post) (QP : PPost) (s : St) (h : AH) : Prop := F8.t1 W Q s h
theorem F8.k1_a : aw Try.prog 36 W F8.pl (Code.at F8.code [1, 1, 1, 1, 1, 1, 0]) (thenQ (aw Try.prog 36 W F8.pl (Code.at F8.code [1, 1, 1, 1, 1, 1, 1]) (Q) QP) (Q)) QP s h = F8.t1 W Q s h := by kernel_rfl
theorem F8.k1_ok : aw Try.prog 36 W F8.pl (Code.at F8.code [1, 1, 1, 1, 1, 1]) (Q) QP s h = F8.k1 W Q QP s h := nd_seq (a := (Code.at F8.code [1, 1, 1, 1, 1, 1, 0])) (b := (Code.at F8.code [1, 1, 1, 1, 1, 1, 1])) (by kernel_rfl) (fun _ _ => rfl) (F8.k1_a W Q QP s h)
def F8.t2 (W : Nat → Prop) (Q : Post) (QP : PPost) (s : St) (h : AH) : Prop :=
  aCall Try.prog W 14 [(s.tm 6), (.sc (.int .i64 0))] h (fun t8 h9 =>
  Q .normal ⟨puts s.tm [(30, (s.tm 6)), (31, t8)], s.ds⟩ h9) (QP s.ds)
def F8.k2 (W : Nat → Prop) (Q : Post) (QP : PPost) (s : St) (h : AH) : Prop := F8.t2 W Q QP s h
theorem F8.k2_a : aw Try.prog 36 W F8.pl (Code.at F8.code [1, 1, 1, 1, 1, 0, 0, 0, 1, 0]) (blockQ 1 (Q)) QP s h = F8.t2 W Q QP s h := by kernel_rfl
theorem F8.k2_ok : aw Try.prog 36 W F8.pl (Code.at F8.code [1, 1, 1, 1, 1, 0, 0, 0, 1, 0]) (blockQ 1 (Q)) QP s h = F8.k2 W Q QP s h := (F8.k2_a W Q QP s h)
theorem F8.o1 : aw Try.prog 36 W F8.pl (Code.at F8.code [1, 1, 1, 1, 1, 0, 0, 0, 1]) (Q) QP s h = F8.k2 W Q QP s h := nd_block (a := (Code.at F8.code [1, 1, 1, 1, 1, 0, 0, 0, 1, 0])) (by kernel_rfl) (F8.k2_ok W Q QP s h)
def F8.t3 (Q : Post) (s : St) (h : AH) (C0 : KT) : Prop :=
  aIf (s.tm 29) (
  C0 s h) (
  Q (.exit 0) s h)
def F8.k3 (W : Nat → Prop) (Q : Post) (QP : PPost) (s : St) (h : AH) : Prop := F8.t3 Q s h (F8.k2 W Q QP)
theorem F8.k3_a (C0 : KT) : aIf (aev s (.tmp 29)) (aw Try.prog 36 W F8.pl (Code.at F8.code [1, 1, 1, 1, 1, 0, 0, 0, 0, 1, 0]) (thenQ (C0) (Q)) QP s h) (aw Try.prog 36 W F8.pl (Code.at F8.code [1, 1, 1, 1, 1, 0, 0, 0, 0, 1, 1]) (thenQ (C0) (Q)) QP s h) = F8.t3 Q s h C0 := by kernel_rfl
theorem F8.k3_ok : aw Try.prog 36 W F8.pl (Code.at F8.code [1, 1, 1, 1, 1, 0, 0, 0, 0, 1]) (thenQ (F8.k2 W Q QP) (Q)) QP s h = F8.k3 W Q QP s h := nd_cond (a := (Code.at F8.code [1, 1, 1, 1, 1, 0, 0, 0, 0, 1, 0])) (b := (Code.at F8.code [1, 1, 1, 1, 1, 0, 0, 0, 0, 1, 1])) (by kernel_rfl) rfl rfl (F8.k3_a W Q QP s h (F8.k2 W Q QP))
def F8.t4 (s : St) (h : AH) (C0 C1 : KT) : Prop :=
  pNil (s.tm 6) fun t10 =>
  pFld (some 1) t10 fun t11 =>
  lLd (some false) (some 1) t11 h fun t12 _ =>
  (strArg (s.tm 5) = false) ∧ pLen (s.tm 5) fun t14 =>
  pBin Try.prog .lss 3 false t12 t14 fun t15 =>
  C1 ⟨puts s.tm [(23, (s.tm 6)), (24, t10), (25, t11), (26, t12), (27, (s.tm 5)), (28, t14), (29, t15)], s.ds⟩ h
def F8.k4 (W : Nat → Prop) (Q : Post) (QP : PPost) (s : St) (h : AH) : Prop := F8.t4 s h (F8.k2 W Q QP) (F8.k3 W Q QP)
theorem F8.k4_a (C0 C1 : KT) : aw Try.prog 36 W F8.pl (Code.at F8.code [1, 1, 1, 1, 1, 0, 0, 0, 0, 0]) (thenQ (C1) (thenQ (C0) (Q))) QP s h = F8.t4 s h C0 C1 := by kernel_rfl
theorem F8.k4_ok : aw Try.prog 36 W F8.pl (Code.at F8.code [1, 1, 1, 1, 1, 0, 0, 0, 0]) (thenQ (F8.k2 W Q QP) (Q)) QP s h = F8.k4 W Q QP s h := nd_seq (a := (Code.at F8.code [1, 1, 1, 1, 1, 0, 0, 0, 0, 0])) (b := (Code.at F8.code [1, 1, 1, 1, 1, 0, 0, 0, 0, 1])) (by kernel_rfl) (F8.k3_ok W Q QP) (F8.k4_a W Q QP s h (F8.k2 W Q QP) (F8.k3 W Q QP))
theorem F8.o2 : aw Try.prog 36 W F8.pl (Code.at F8.code [1, 1, 1, 1, 1, 0, 0, 0]) (Q) QP s h = F8.k4 W Q QP s h := nd_seq (a := (Code.at F8.code [1, 1, 1, 1, 1, 0, 0, 0, 0])) (b := (Code.at F8.code [1, 1, 1, 1, 1, 0, 0, 0, 1])) (by kernel_rfl) (F8.o1 W Q QP) (F8.k4_ok W Q QP s h)
noncomputable def F8.c1 : Code := (Code.at F8.code [1, 1, 1, 1, 1, 0, 0, 0])
theorem F8.l1 : aw Try.prog 36 W F8.pl F8.c1 Q QP s h = F8.k4 W Q QP s h := F8.o2 W Q QP s h
def F8.k5 (W : Nat → Prop) (Q : Post) (QP : PPost) (s : St) (h : AH) : Prop := aLoop (aw Try.prog 36 W F8.pl F8.c1) (blockQ 0 (thenQ (F8.k1 W Q QP) (Q))) QP s h
theorem F8.k5_ok : aw Try.prog 36 W F8.pl (Code.at F8.code [1, 1, 1, 1, 1, 0, 0]) (blockQ 0 (thenQ (F8.k1 W Q QP) (Q))) QP s h = F8.k5 W Q QP s h := nd_loop (a := F8.c1) (by kernel_rfl)
theorem F8.o3 : aw Try.prog 36 W F8.pl (Code.at F8.code [1, 1, 1, 1, 1, 0]) (thenQ (F8.k1 W Q QP) (Q)) QP s h = F8.k5 W Q QP s h := nd_block (a := (Code.at F8.code [1, 1, 1, 1, 1, 0, 0])) (by kernel_rfl) (F8.k5_ok W Q QP s h)
theorem F8.o4 : aw Try.prog 36 W F8.pl (Code.at F8.code [1, 1, 1, 1, 1]) (Q) QP s h = F8.k5 W Q QP s h := nd_seq (a := (Code.at F8.code [1, 1, 1, 1, 1, 0])) (b := (Code.at F8.code [1, 1, 1, 1, 1, 1])) (by kernel_rfl) (F8.k1_ok W Q QP) (F8.o3 W Q QP s h)
def F8.t6 (s : St) (h : AH) (C0 : KT) : Prop :=
  (strArg (s.tm 0) = true) ∧ pLen (s.tm 0) fun t16 =>
  pBld (some ([.slice none 0 0, .int .i64 0, .int .i64 0, .slice none 0 0], .inl [(0, 1), (1, 1), (2, 1), (3, 1)])) [(0, (s.tm 5)), (2, t16)] fun t17 =>
  eBox 4 51 t17 h fun t18 h19 =>
  C0 ⟨puts s.tm [(18, (s.tm 5)), (19, (s.tm 0)), (20, t16), (21, t17), (22, t18), (6, t18)], s.ds⟩ h19
def F8.k6 (W : Nat → Prop) (Q : Post) (QP : PPost) (s : St) (h : AH) : Prop := F8.t6 s h (F8.k5 W Q QP)
theorem F8.k6_a (C0 : KT) : aw Try.prog 36 W F8.pl (Code.at F8.code [1, 1, 1, 1, 0]) (thenQ (C0) (Q)) QP s h = F8.t6 s h C0 := by kernel_rfl
theorem F8.k6_ok : aw Try.prog 36 W F8.pl (Code.at F8.code [1, 1, 1, 1]) (Q) QP s h = F8.k6 W Q QP s h := nd_seq (a := (Code.at F8.code [1, 1, 1, 1, 0])) (b := (Code.at F8.code [1, 1, 1, 1, 1])) (by kernel_rfl) (F8.o4 W Q QP) (F8.k6_a W Q QP s h (F8.k5 W Q QP))
def F8.t7 (s : St) (h : AH) (C0 : KT) : Prop :=
  aDef (.fn (.func 13) [] [(s.tm 2), (s.tm 3), (s.tm 4)]) [] s.ds fun d20 =>
  C0 ⟨puts s.tm [(17, (.fn (.func 13) [] [(s.tm 2), (s.tm 3), (s.tm 4)]))], d20⟩ h
def F8.k7 (W : Nat → Prop) (Q : Post) (QP : PPost) (s : St) (h : AH) : Prop := F8.t7 s h (F8.k6 W Q QP)
theorem F8.k7_a (C0 : KT) : aw Try.prog 36 W F8.pl (Code.at F8.code [1, 1, 1, 0]) (thenQ (C0) (Q)) QP s h = F8.t7 s h C0 := by kernel_rfl
theorem F8.k7_ok : aw Try.prog 36 W F8.pl (Code.at F8.code [1, 1, 1]) (Q) QP s h = F8.k7 W Q QP s h := nd_seq (a := (Code.at F8.code [1, 1, 1, 0])) (b := (Code.at F8.code [1, 1, 1, 1])) (by kernel_rfl) (F8.k6_ok W Q QP) (F8.k7_a W Q QP s h (F8.k6 W Q QP))
def F8.t8 (Q : Post) (s : St) (h : AH) (C0 : KT) : Prop :=
  Q .ret s h
def F8.k8 (W : Nat → Prop) (Q : Post) (QP : PPost) (s : St) (h : AH) : Prop := F8.t8 Q s h (F8.k7 W Q QP)
theorem F8.k8_a (C0 : KT) : aw Try.prog 36 W F8.pl (Code.at F8.code [1, 1, 0, 1, 0, 1]) (thenQ (C0) (Q)) QP s h = F8.t8 Q s h C0 := by kernel_rfl
theorem F8.k8_ok : aw Try.prog 36 W F8.pl (Code.at F8.code [1, 1, 0, 1, 0, 1]) (thenQ (F8.k7 W Q QP) (Q)) QP s h = F8.k8 W Q QP s h := (F8.k8_a W Q QP s h (F8.k7 W Q QP))
def F8.t9 (W : Nat → Prop) (s : St) (h : AH) (C0 C1 : KT) : Prop :=
  ∃ Hd : Nat → Nat, (∀ i ∈ [0, 1], h.obj (Hd i) ≠ none) ∧ (
  lLd (some false) (some 1) (s.tm 3) h fun t21 i22 =>
  (i22 = Hd 0) ∧ (
  lLd (some false) (some 1) (s.tm 4) h fun t23 i24 =>
  (i24 = Hd 1) ∧ (
  eStore (some 1) (s.tm 2) (.sc (.slice none 0 0)) h (banL W Hd [0, 1]) fun h25 =>
  eStore (some 1) (s.tm 3) t21 h25 (banL W Hd [1]) fun h26 =>
  eStore (some 1) (s.tm 4) t23 h26 W fun h27 =>
  C1 ⟨puts s.tm [(15, t21), (16, t23)], s.ds⟩ h27)))
def F8.k9 (W : Nat → Prop) (Q : Post) (QP : PPost) (s : St) (h : AH) : Prop := F8.t9 W s h (F8.k7 W Q QP) (F8.k8 W Q QP)
theorem F8.k9_a (C0 C1 : KT) : aw Try.prog 36 W F8.pl (Code.at F8.code [1, 1, 0, 1, 0, 0]) (thenQ (C1) (thenQ (C0) (Q))) QP s h = F8.t9 W s h C0 C1 := by kernel_rfl
theorem F8.k9_ok : aw Try.prog 36 W F8.pl (Code.at F8.code [1, 1, 0, 1, 0, 0]) (thenQ (F8.k8 W Q QP) (thenQ (F8.k7 W Q QP) (Q))) QP s h = F8.k9 W Q QP s h := (F8.k9_a W Q QP s h (F8.k7 W Q QP) (F8.k8 W Q QP))
theorem F8.o5 : aw Try.prog 36 W F8.pl (Code.at F8.code [1, 1, 0, 1, 0]) (thenQ (F8.k7 W Q QP) (Q)) QP s h = F8.k9 W Q QP s h := nd_seq (a := (Code.at F8.code [1, 1, 0, 1, 0, 0])) (b := (Code.at F8.code [1, 1, 0, 1, 0, 1])) (by kernel_rfl) (F8.k8_ok W Q QP) (F8.k9_ok W Q QP s h)
def F8.t10 (s : St) (h : AH) (C0 C1 : KT) : Prop :=
  aIf (s.tm 14) (
  C1 s h) (
  C0 s h)
def F8.k10 (W : Nat → Prop) (Q : Post) (QP : PPost) (s : St) (h : AH) : Prop := F8.t10 s h (F8.k7 W Q QP) (F8.k9 W Q QP)
theorem F8.k10_a (C0 C1 : KT) : aIf (aev s (.tmp 14)) (C1 s h) (aw Try.prog 36 W F8.pl (Code.at F8.code [1, 1, 0, 1, 1]) (thenQ (C0) (Q)) QP s h) = F8.t10 s h C0 C1 := by kernel_rfl
theorem F8.k10_ok : aw Try.prog 36 W F8.pl (Code.at F8.code [1, 1, 0, 1]) (thenQ (F8.k7 W Q QP) (Q)) QP s h = F8.k10 W Q QP s h := nd_cond (a := (Code.at F8.code [1, 1, 0, 1, 0])) (b := (Code.at F8.code [1, 1, 0, 1, 1])) (by kernel_rfl) (F8.o5 W Q QP s h) rfl (F8.k10_a W Q QP s h (F8.k7 W Q QP) (F8.k9 W Q QP))
def F8.t11 (s : St) (h : AH) (C0 C1 : KT) : Prop :=
  lLd (some false) (some 1) (s.tm 4) h fun t28 _ =>
  pBin Try.prog .neq 26 true t28 (.sc (.int .i64 0)) fun t30 =>
  C0 ⟨puts s.tm [(13, t28), (14, t30)], s.ds⟩ h
def F8.k11 (W : Nat → Prop) (Q : Post) (QP : PPost) (s : St) (h : AH) : Prop := F8.t11 s h (F8.k10 W Q QP) (F8.k7 W Q QP)
theorem F8.k11_a (C0 C1 : KT) : aw Try.prog 36 W F8.pl (Code.at F8.code [1, 1, 0, 0]) (thenQ (C0) (thenQ (C1) (Q))) QP s h = F8.t11 s h C0 C1 := by kernel_rfl
theorem F8.k11_ok : aw Try.prog 36 W F8.pl (Code.at F8.code [1, 1, 0]) (thenQ (F8.k7 W Q QP) (Q)) QP s h = F8.k11 W Q QP s h := nd_seq (a := (Code.at F8.code [1, 1, 0, 0])) (b := (Code.at F8.code [1, 1, 0, 1])) (by kernel_rfl) (F8.k10_ok W Q QP) (F8.k11_a W Q QP s h (F8.k10 W Q QP) (F8.k7 W Q QP))
theorem F8.o6 : aw Try.prog 36 W F8.pl (Code.at F8.code [1, 1]) (Q) QP s h = F8.k11 W Q QP s h := nd_seq (a := (Code.at F8.code [1, 1, 0])) (b := (Code.at F8.code [1, 1, 1])) (by kernel_rfl) (F8.k7_ok W Q QP) (F8.k11_ok W Q QP s h)
def F8.t12 (W : Nat → Prop) (QP : PPost) (s : St) (h : AH) (C0 : KT) : Prop :=
  aCall Try.prog W 10 [(s.tm 0)] h (fun t31 h32 =>
  pExt t31 0 fun t33 =>
  pExt t31 1 fun t34 =>
  pExt t31 2 fun t35 =>
  eStore (some 1) (s.tm 3) t34 h32 W fun h36 =>
  eStore (some 1) (s.tm 4) t35 h36 W fun h37 =>
  C0 ⟨puts s.tm [(8, (s.tm 0)), (9, t31), (7, t31), (10, t33), (11, t34), (12, t35), (5, t33)], s.ds⟩ h37) (QP s.ds)
def F8.k12 (W : Nat → Prop) (Q : Post) (QP : PPost) (s : St) (h : AH) : Prop := F8.t12 W QP s h (F8.k11 W Q QP)
theorem F8.k12_a (C0 : KT) : aw Try.prog 36 W F8.pl (Code.at F8.code [1, 0]) (thenQ (C0) (Q)) QP s h = F8.t12 W QP s h C0 := by kernel_rfl
theorem F8.k12_ok : aw Try.prog 36 W F8.pl (Code.at F8.code [1]) (Q) QP s h = F8.k12 W Q QP s h := nd_seq (a := (Code.at F8.code [1, 0])) (b := (Code.at F8.code [1, 1])) (by kernel_rfl) (F8.o6 W Q QP) (F8.k12_a W Q QP s h (F8.k11 W Q QP))
def F8.t13 (s : St) (h : AH) (C0 : KT) : Prop :=
  eAlloc (some [.slice none 0 0]) 1 23 h fun t38 h39 =>
  eAlloc (some [.int .i64 0]) 1 3 h39 fun t40 h41 =>
  eAlloc (some [.int .i64 0]) 1 26 h41 fun t42 h43 =>
  C0 ⟨puts s.tm [(2, t38), (3, t40), (4, t42)], s.ds⟩ h43
def F8.k13 (W : Nat → Prop) (Q : Post) (QP : PPost) (s : St) (h : AH) : Prop := F8.t13 s h (F8.k12 W Q QP)
theorem F8.k13_a (C0 : KT) : aw Try.prog 36 W F8.pl (Code.at F8.code [0]) (thenQ (C0) (Q)) QP s h = F8.t13 s h C0 := by kernel_rfl
theorem F8.k13_ok : aw Try.prog 36 W F8.pl (Code.at F8.code []) (Q) QP s h = F8.k13 W Q QP s h := nd_seq (a := (Code.at F8.code [0])) (b := (Code.at F8.code [1])) (by kernel_rfl) (F8.k12_ok W Q QP) (F8.k13_a W Q QP s h (F8.k12 W Q QP))
end
theorem F8.calls {x0 : AV} {h : AH} {M : Nat → Prop} {R : AE → AH → Prop} (hp : F8.k13 (fun id => M id ∨ h.next ≤ id) (bodyQ Try.prog [.cell 2 23, .cell 3 3, .cell 4 26] R) (bodyP R) (s0 [x0]) h) : ACalls Try.prog 8 [x0] h M R :=
  acalls_of Try.mixed Try.func8 rfl (Nat.le_of_ble_eq_true rfl) F8.ok (by rw [show Try.f8.ntmps = 36 from rfl, show Try.f8.results.toList = [.cell 2 23, .cell 3 3, .cell 4 26] from rfl]; exact Eq.mpr (F8.k13_ok _ _ _ _ _) hp)
attribute [simp] F8.k1 F8.t1 F8.k2 F8.t2 F8.k3 F8.t3 F8.k4 F8.t4 F8.k5 F8.k6 F8.t6 F8.k7 F8.t7 F8.k8 F8.t8 F8.k9 F8.t9 F8.k10 F8.t10 F8.k11 F8.t11 F8.k12 F8.t12 F8.k13 F8.t13
end Go.Proofs.Ythkkgbmjjpcfaaa

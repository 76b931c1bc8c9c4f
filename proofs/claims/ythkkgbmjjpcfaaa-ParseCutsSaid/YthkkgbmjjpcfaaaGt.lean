/- Bodies of the law and of parse.Parse, written out for the table; printed by a program of this session. No condition. -/
import Derived.Test.YthkkgbmjjpcfaaaGl
namespace Go.Proofs.Ythkkgbmjjpcfaaa
open Go.Ab

/-! cubit/cubitlaw10.ParseCuts -/
section
variable (W : Nat → Prop) (Q : Post) (QP : PPost) (s : St) (h : AH)
noncomputable def F5.code : Code := Try.f5.body.getD .skip
def F5.g1 : Grps := [(none, [(0, false), (1, false), (2, false), (3, false)]), (some (3, true), [(4, false), (5, false), (6, false), (7, false), (8, false), (9, false)]), (none, [(10, false)])]
def F5.g2 : Grps := [(none, [(0, false), (1, false), (2, false), (3, false)]), (some (3, true), [(4, false), (5, false), (6, false)]), (none, [(7, false)])]
def F5.g3 : Grps := [(none, [(0, false), (1, false), (2, false), (3, false), (4, false), (5, false), (6, false), (7, false), (8, false), (9, false)]), (some (9, true), [(10, false), (11, false), (12, false), (13, false), (14, false), (15, false), (16, false), (17, false), (18, false), (19, false)]), (none, [(20, false)])]
def F5.g4 : Grps := [(none, [(0, false), (1, false), (2, false), (3, false)]), (some (3, false), [(4, false), (5, false), (6, false), (7, false), (8, false), (9, false), (10, false), (11, false)]), (none, [(12, false), (13, false)]), (some (13, false), [(14, false), (15, false), (16, false)]), (none, [(17, false), (18, false)]), (some (18, false), [(19, false), (20, false), (21, false), (22, false), (23, false)]), (none, [(24, false), (25, false)]), (some (25, false), [(26, false), (27, false), (28, false)]), (some (28, true), [(29, false), (30, false), (31, false), (32, false), (33, false), (34, false), (35, false), (36, false), (37, false)]), (some (25, false), [(38, false)]), (none, [(39, false)])]
def F5.g5 : Grps := [(none, [(0, false), (1, false), (2, false)]), (some (2, false), [(3, false), (4, false), (5, false)]), (none, [(6, false)])]
def F5.pl : Plans := [(4, ⟨F5.g5, false, []⟩), (9, ⟨F5.g4, false, []⟩), (23, ⟨F5.g3, false, []⟩), (25, ⟨[(none, [(0, false), (1, false), (2, false), (3, false), (4, false), (5, false), (6, false), (7, false), (8, false), (9, false), (10, false), (11, false), (12, false), (13, false), (14, false), (15, false), (16, false), (17, false), (18, false), (19, false)])], false, []⟩), (32, ⟨F5.g2, false, []⟩), (33, ⟨F5.g1, false, []⟩)]
theorem F5.ok : okCode F5.pl F5.code = true := by kernel_rfl
def F5.t1 (W : Nat → Prop) (Q : Post) (QP : PPost) (s : St) (h : AH) : Prop :=
  aCall Try.prog W 9 [(s.tm 14), (s.tm 17), (.sc (.bool false))] h (fun t1 h2 =>
  Q .ret ⟨puts s.tm [(195, (s.tm 14)), (196, (s.tm 17)), (197, t1), (4, t1)], s.ds⟩ h2) (QP s.ds)
def F5.k1 (W : Nat → Prop) (Q : Post) (QP : PPost) (s : St) (h : AH) : Prop := F5.t1 W Q QP s h
theorem F5.k1_a : aw Try.prog 198 W F5.pl (Code.at F5.code [1, 1, 1, 1, 1, 1, 1, 1, 1, 1, 1, 1, 1, 1, 1, 1, 0]) (thenQ (aw Try.prog 198 W F5.pl (Code.at F5.code [1, 1, 1, 1, 1, 1, 1, 1, 1, 1, 1, 1, 1, 1, 1, 1, 1]) (Q) QP) (Q)) QP s h = F5.t1 W Q QP s h := by kernel_rfl
theorem F5.k1_ok : aw Try.prog 198 W F5.pl (Code.at F5.code [1, 1, 1, 1, 1, 1, 1, 1, 1, 1, 1, 1, 1, 1, 1, 1]) (Q) QP s h = F5.k1 W Q QP s h := nd_seq (a := (Code.at F5.code [1, 1, 1, 1, 1, 1, 1, 1, 1, 1, 1, 1, 1, 1, 1, 1, 0])) (b := (Code.at F5.code [1, 1, 1, 1, 1, 1, 1, 1, 1, 1, 1, 1, 1, 1, 1, 1, 1])) (by kernel_rfl) (fun _ _ => rfl) (F5.k1_a W Q QP s h)
def F5.t2 (Q : Post) (s : St) (h : AH) : Prop :=
  pBin Try.prog .add 3 true (s.tm 159) (.sc (.int .i64 1)) fun t3 =>
  Q .normal ⟨puts s.tm [(194, t3), (159, t3)], s.ds⟩ h
def F5.k2 (W : Nat → Prop) (Q : Post) (QP : PPost) (s : St) (h : AH) : Prop := F5.t2 Q s h
theorem F5.k2_a : aw Try.prog 198 W F5.pl (Code.at F5.code [1, 1, 1, 1, 1, 1, 1, 1, 1, 1, 1, 1, 1, 1, 1, 0, 1, 0, 0, 1, 1, 1]) (Q) QP s h = F5.t2 Q s h := by kernel_rfl
theorem F5.k2_ok : aw Try.prog 198 W F5.pl (Code.at F5.code [1, 1, 1, 1, 1, 1, 1, 1, 1, 1, 1, 1, 1, 1, 1, 0, 1, 0, 0, 1, 1, 1]) (Q) QP s h = F5.k2 W Q QP s h := (F5.k2_a W Q QP s h)
def F5.t3 (W : Nat → Prop) (s : St) (h : AH) (C0 : KT) : Prop :=
  lLd (some true) (some 6) (s.tm 19) h fun t4 _ =>
  eBSl (some (6, 36, [.string ⟨#[]⟩, .string ⟨#[]⟩, .slice none 0 0, .int .i64 0, .int .i64 0, .int .i64 0])) 1 [(0, t4)] h fun t6 h7 =>
  eApp (some (6, 80, 36)) (s.tm 17) t6 h7 W fun t8 h9 =>
  C0 ⟨puts s.tm [(190, (s.tm 17)), (191, t4), (192, t6), (193, t8), (17, t8)], s.ds⟩ h9
def F5.k3 (W : Nat → Prop) (Q : Post) (QP : PPost) (s : St) (h : AH) : Prop := F5.t3 W s h (F5.k2 W Q QP)
theorem F5.k3_a (C0 : KT) : aw Try.prog 198 W F5.pl (Code.at F5.code [1, 1, 1, 1, 1, 1, 1, 1, 1, 1, 1, 1, 1, 1, 1, 0, 1, 0, 0, 1, 1, 0, 0, 1, 1, 1]) (blockQ 5 (thenQ (C0) (Q))) QP s h = F5.t3 W s h C0 := by kernel_rfl
theorem F5.k3_ok : aw Try.prog 198 W F5.pl (Code.at F5.code [1, 1, 1, 1, 1, 1, 1, 1, 1, 1, 1, 1, 1, 1, 1, 0, 1, 0, 0, 1, 1, 0, 0, 1, 1, 1]) (blockQ 5 (thenQ (F5.k2 W Q QP) (Q))) QP s h = F5.k3 W Q QP s h := (F5.k3_a W Q QP s h (F5.k2 W Q QP))
def F5.t4 (W : Nat → Prop) (s : St) (h : AH) (C0 C1 : KT) : Prop :=
  aIf (s.tm 182) (
  pFld (some 4) (s.tm 19) fun t10 =>
  lLd (some false) (some 1) t10 h fun t11 _ =>
  pBin Try.prog .sub 3 false (s.tm 11) (s.tm 10) fun t13 =>
  pBin Try.prog .sub 3 false t11 t13 fun t14 =>
  pFld (some 4) (s.tm 19) fun t15 =>
  eStore (some 1) t15 t14 h W fun h16 =>
  C1 ⟨puts s.tm [(183, t10), (184, t11), (185, (s.tm 11)), (186, (s.tm 10)), (187, t13), (188, t14), (189, t15)], s.ds⟩ h16) (
  C1 s h)
def F5.k4 (W : Nat → Prop) (Q : Post) (QP : PPost) (s : St) (h : AH) : Prop := F5.t4 W s h (F5.k2 W Q QP) (F5.k3 W Q QP)
theorem F5.k4_a (C0 C1 : KT) : aIf (aev s (.tmp 182)) (aw Try.prog 198 W F5.pl (Code.at F5.code [1, 1, 1, 1, 1, 1, 1, 1, 1, 1, 1, 1, 1, 1, 1, 0, 1, 0, 0, 1, 1, 0, 0, 1, 1, 0, 1, 0]) (thenQ (C1) (blockQ 5 (thenQ (C0) (Q)))) QP s h) (aw Try.prog 198 W F5.pl (Code.at F5.code [1, 1, 1, 1, 1, 1, 1, 1, 1, 1, 1, 1, 1, 1, 1, 0, 1, 0, 0, 1, 1, 0, 0, 1, 1, 0, 1, 1]) (thenQ (C1) (blockQ 5 (thenQ (C0) (Q)))) QP s h) = F5.t4 W s h C0 C1 := by kernel_rfl
theorem F5.k4_ok : aw Try.prog 198 W F5.pl (Code.at F5.code [1, 1, 1, 1, 1, 1, 1, 1, 1, 1, 1, 1, 1, 1, 1, 0, 1, 0, 0, 1, 1, 0, 0, 1, 1, 0, 1]) (thenQ (F5.k3 W Q QP) (blockQ 5 (thenQ (F5.k2 W Q QP) (Q)))) QP s h = F5.k4 W Q QP s h := nd_cond (a := (Code.at F5.code [1, 1, 1, 1, 1, 1, 1, 1, 1, 1, 1, 1, 1, 1, 1, 0, 1, 0, 0, 1, 1, 0, 0, 1, 1, 0, 1, 0])) (b := (Code.at F5.code [1, 1, 1, 1, 1, 1, 1, 1, 1, 1, 1, 1, 1, 1, 1, 0, 1, 0, 0, 1, 1, 0, 0, 1, 1, 0, 1, 1])) (by kernel_rfl) rfl rfl (F5.k4_a W Q QP s h (F5.k2 W Q QP) (F5.k3 W Q QP))
def F5.t5 (s : St) (h : AH) (C0 C1 C2 : KT) : Prop :=
  pPick (s.tm 175) (s.tm 181) (.sc (.bool false)) fun t17 =>
  C2 ⟨puts s.tm [(182, t17)], s.ds⟩ h
def F5.k5 (W : Nat → Prop) (Q : Post) (QP : PPost) (s : St) (h : AH) : Prop := F5.t5 s h (F5.k2 W Q QP) (F5.k3 W Q QP) (F5.k4 W Q QP)
theorem F5.k5_a (C0 C1 C2 : KT) : evI Try.prog 198 (fun _ => W) nobody QP (regOps (Code.at F5.code [1, 1, 1, 1, 1, 1, 1, 1, 1, 1, 1, 1, 1, 1, 1, 0, 1, 0, 0, 1, 1, 0, 0, 1, 1, 0, 0])) (isAt F5.g1 2) ((thenQ (C2) (thenQ (C1) (blockQ 5 (thenQ (C0) (Q))))) .normal) s h = F5.t5 s h C0 C1 C2 := by kernel_rfl
theorem F5.k5_ok : evG Try.prog 198 (fun _ => W) nobody QP (regOps (Code.at F5.code [1, 1, 1, 1, 1, 1, 1, 1, 1, 1, 1, 1, 1, 1, 1, 0, 1, 0, 0, 1, 1, 0, 0, 1, 1, 0, 0])) (F5.g1.drop 2) ((thenQ (F5.k4 W Q QP) (thenQ (F5.k3 W Q QP) (blockQ 5 (thenQ (F5.k2 W Q QP) (Q))))) .normal) s h = F5.k5 W Q QP s h := nd_g (is := isAt F5.g1 2) (rest := F5.g1.drop 3) (by kernel_rfl) (fun _ _ => rfl) (F5.k5_a W Q QP s h (F5.k2 W Q QP) (F5.k3 W Q QP) (F5.k4 W Q QP))
def F5.t6 (s : St) (h : AH) (C0 : KT) : Prop :=
  aIg true (s.tm 175) (
  pFld (some 4) (s.tm 19) fun t18 =>
  lLd (some false) (some 1) t18 h fun t19 _ =>
  pBin Try.prog .add 3 false (s.tm 18) t19 fun t21 =>
  pBin Try.prog .geq 3 false t21 (s.tm 10) fun t22 =>
  C0 ⟨puts s.tm [(176, (s.tm 18)), (177, t18), (178, t19), (179, t21), (180, (s.tm 10)), (181, t22)], s.ds⟩ h) (
  C0 ⟨puts s.tm [(176, noA), (177, noA), (178, noA), (179, noA), (180, noA), (181, noA)], s.ds⟩ h)
def F5.k6 (W : Nat → Prop) (Q : Post) (QP : PPost) (s : St) (h : AH) : Prop := F5.t6 s h (F5.k5 W Q QP)
theorem F5.k6_a (C0 : KT) : aIg true (s.tm 175) (evI Try.prog 198 (fun _ => W) nobody QP (regOps (Code.at F5.code [1, 1, 1, 1, 1, 1, 1, 1, 1, 1, 1, 1, 1, 1, 1, 0, 1, 0, 0, 1, 1, 0, 0, 1, 1, 0, 0])) (isAt F5.g1 1) (C0) s h) ((C0) (skI 198 (regOps (Code.at F5.code [1, 1, 1, 1, 1, 1, 1, 1, 1, 1, 1, 1, 1, 1, 1, 0, 1, 0, 0, 1, 1, 0, 0, 1, 1, 0, 0])) (isAt F5.g1 1) s) h) = F5.t6 s h C0 := by kernel_rfl
theorem F5.k6_ok : evG Try.prog 198 (fun _ => W) nobody QP (regOps (Code.at F5.code [1, 1, 1, 1, 1, 1, 1, 1, 1, 1, 1, 1, 1, 1, 1, 0, 1, 0, 0, 1, 1, 0, 0, 1, 1, 0, 0])) (F5.g1.drop 1) ((thenQ (F5.k4 W Q QP) (thenQ (F5.k3 W Q QP) (blockQ 5 (thenQ (F5.k2 W Q QP) (Q))))) .normal) s h = F5.k6 W Q QP s h := nd_gw (j := 3) (is := isAt F5.g1 1) (rest := F5.g1.drop 2) (by kernel_rfl) (d := 175) (by kernel_rfl) (F5.k5_ok W Q QP) (F5.k6_a W QP s h (F5.k5 W Q QP))
def F5.t7 (s : St) (h : AH) (C0 : KT) : Prop :=
  pBin Try.prog .lss 3 false (s.tm 18) (s.tm 10) fun t23 =>
  C0 ⟨puts s.tm [(172, (s.tm 18)), (173, (s.tm 10)), (174, t23), (175, t23)], s.ds⟩ h
def F5.k7 (W : Nat → Prop) (Q : Post) (QP : PPost) (s : St) (h : AH) : Prop := F5.t7 s h (F5.k6 W Q QP)
theorem F5.k7_a (C0 : KT) : evI Try.prog 198 (fun _ => W) nobody QP (regOps (Code.at F5.code [1, 1, 1, 1, 1, 1, 1, 1, 1, 1, 1, 1, 1, 1, 1, 0, 1, 0, 0, 1, 1, 0, 0, 1, 1, 0, 0])) (isAt F5.g1 0) (C0) s h = F5.t7 s h C0 := by kernel_rfl
theorem F5.k7_ok : evG Try.prog 198 (fun _ => W) nobody QP (regOps (Code.at F5.code [1, 1, 1, 1, 1, 1, 1, 1, 1, 1, 1, 1, 1, 1, 1, 0, 1, 0, 0, 1, 1, 0, 0, 1, 1, 0, 0])) (F5.g1.drop 0) ((thenQ (F5.k4 W Q QP) (thenQ (F5.k3 W Q QP) (blockQ 5 (thenQ (F5.k2 W Q QP) (Q))))) .normal) s h = F5.k7 W Q QP s h := nd_g (is := isAt F5.g1 0) (rest := F5.g1.drop 1) (by kernel_rfl) (F5.k6_ok W Q QP) (F5.k7_a W QP s h (F5.k6 W Q QP))
theorem F5.o1 : aw Try.prog 198 W F5.pl (Code.at F5.code [1, 1, 1, 1, 1, 1, 1, 1, 1, 1, 1, 1, 1, 1, 1, 0, 1, 0, 0, 1, 1, 0, 0, 1, 1, 0, 0]) (thenQ (F5.k4 W Q QP) (thenQ (F5.k3 W Q QP) (blockQ 5 (thenQ (F5.k2 W Q QP) (Q))))) QP s h = F5.k7 W Q QP s h := nd_groups (id := 33) (draw := false) (ops := (regOps (Code.at F5.code [1, 1, 1, 1, 1, 1, 1, 1, 1, 1, 1, 1, 1, 1, 1, 0, 1, 0, 0, 1, 1, 0, 0, 1, 1, 0, 0]))) (gs := F5.g1.drop 0) (by kernel_rfl) (by kernel_rfl) (F5.k7_ok W Q QP s h)
theorem F5.o2 : aw Try.prog 198 W F5.pl (Code.at F5.code [1, 1, 1, 1, 1, 1, 1, 1, 1, 1, 1, 1, 1, 1, 1, 0, 1, 0, 0, 1, 1, 0, 0, 1, 1, 0]) (thenQ (F5.k3 W Q QP) (blockQ 5 (thenQ (F5.k2 W Q QP) (Q)))) QP s h = F5.k7 W Q QP s h := nd_seq (a := (Code.at F5.code [1, 1, 1, 1, 1, 1, 1, 1, 1, 1, 1, 1, 1, 1, 1, 0, 1, 0, 0, 1, 1, 0, 0, 1, 1, 0, 0])) (b := (Code.at F5.code [1, 1, 1, 1, 1, 1, 1, 1, 1, 1, 1, 1, 1, 1, 1, 0, 1, 0, 0, 1, 1, 0, 0, 1, 1, 0, 1])) (by kernel_rfl) (F5.k4_ok W Q QP) (F5.o1 W Q QP s h)
theorem F5.o3 : aw Try.prog 198 W F5.pl (Code.at F5.code [1, 1, 1, 1, 1, 1, 1, 1, 1, 1, 1, 1, 1, 1, 1, 0, 1, 0, 0, 1, 1, 0, 0, 1, 1]) (blockQ 5 (thenQ (F5.k2 W Q QP) (Q))) QP s h = F5.k7 W Q QP s h := nd_seq (a := (Code.at F5.code [1, 1, 1, 1, 1, 1, 1, 1, 1, 1, 1, 1, 1, 1, 1, 0, 1, 0, 0, 1, 1, 0, 0, 1, 1, 0])) (b := (Code.at F5.code [1, 1, 1, 1, 1, 1, 1, 1, 1, 1, 1, 1, 1, 1, 1, 0, 1, 0, 0, 1, 1, 0, 0, 1, 1, 1])) (by kernel_rfl) (F5.k3_ok W Q QP) (F5.o2 W Q QP s h)
def F5.t8 (s : St) (h : AH) (C0 C1 : KT) : Prop :=
  aIf (s.tm 171) (
  C0 s h) (
  C1 s h)
def F5.k8 (W : Nat → Prop) (Q : Post) (QP : PPost) (s : St) (h : AH) : Prop := F5.t8 s h (F5.k2 W Q QP) (F5.k7 W Q QP)
theorem F5.k8_a (C0 C1 : KT) : aIf (aev s (.tmp 171)) (aw Try.prog 198 W F5.pl (Code.at F5.code [1, 1, 1, 1, 1, 1, 1, 1, 1, 1, 1, 1, 1, 1, 1, 0, 1, 0, 0, 1, 1, 0, 0, 1, 0, 1, 0]) (thenQ (C1) (blockQ 5 (thenQ (C0) (Q)))) QP s h) (aw Try.prog 198 W F5.pl (Code.at F5.code [1, 1, 1, 1, 1, 1, 1, 1, 1, 1, 1, 1, 1, 1, 1, 0, 1, 0, 0, 1, 1, 0, 0, 1, 0, 1, 1]) (thenQ (C1) (blockQ 5 (thenQ (C0) (Q)))) QP s h) = F5.t8 s h C0 C1 := by kernel_rfl
theorem F5.k8_ok : aw Try.prog 198 W F5.pl (Code.at F5.code [1, 1, 1, 1, 1, 1, 1, 1, 1, 1, 1, 1, 1, 1, 1, 0, 1, 0, 0, 1, 1, 0, 0, 1, 0, 1]) (thenQ (F5.k7 W Q QP) (blockQ 5 (thenQ (F5.k2 W Q QP) (Q)))) QP s h = F5.k8 W Q QP s h := nd_cond (a := (Code.at F5.code [1, 1, 1, 1, 1, 1, 1, 1, 1, 1, 1, 1, 1, 1, 1, 0, 1, 0, 0, 1, 1, 0, 0, 1, 0, 1, 0])) (b := (Code.at F5.code [1, 1, 1, 1, 1, 1, 1, 1, 1, 1, 1, 1, 1, 1, 1, 0, 1, 0, 0, 1, 1, 0, 0, 1, 0, 1, 1])) (by kernel_rfl) rfl rfl (F5.k8_a W Q QP s h (F5.k2 W Q QP) (F5.k7 W Q QP))
def F5.t9 (s : St) (h : AH) (C0 C1 C2 : KT) : Prop :=
  pPick (s.tm 167) (s.tm 170) (.sc (.bool false)) fun t24 =>
  C2 ⟨puts s.tm [(171, t24)], s.ds⟩ h
def F5.k9 (W : Nat → Prop) (Q : Post) (QP : PPost) (s : St) (h : AH) : Prop := F5.t9 s h (F5.k2 W Q QP) (F5.k7 W Q QP) (F5.k8 W Q QP)
theorem F5.k9_a (C0 C1 C2 : KT) : evI Try.prog 198 (fun _ => W) nobody QP (regOps (Code.at F5.code [1, 1, 1, 1, 1, 1, 1, 1, 1, 1, 1, 1, 1, 1, 1, 0, 1, 0, 0, 1, 1, 0, 0, 1, 0, 0])) (isAt F5.g2 2) ((thenQ (C2) (thenQ (C1) (blockQ 5 (thenQ (C0) (Q))))) .normal) s h = F5.t9 s h C0 C1 C2 := by kernel_rfl
theorem F5.k9_ok : evG Try.prog 198 (fun _ => W) nobody QP (regOps (Code.at F5.code [1, 1, 1, 1, 1, 1, 1, 1, 1, 1, 1, 1, 1, 1, 1, 0, 1, 0, 0, 1, 1, 0, 0, 1, 0, 0])) (F5.g2.drop 2) ((thenQ (F5.k8 W Q QP) (thenQ (F5.k7 W Q QP) (blockQ 5 (thenQ (F5.k2 W Q QP) (Q))))) .normal) s h = F5.k9 W Q QP s h := nd_g (is := isAt F5.g2 2) (rest := F5.g2.drop 3) (by kernel_rfl) (fun _ _ => rfl) (F5.k9_a W Q QP s h (F5.k2 W Q QP) (F5.k7 W Q QP) (F5.k8 W Q QP))
def F5.t10 (s : St) (h : AH) (C0 : KT) : Prop :=
  aIg true (s.tm 167) (
  pBin Try.prog .lss 3 false (s.tm 18) (s.tm 11) fun t25 =>
  C0 ⟨puts s.tm [(168, (s.tm 18)), (169, (s.tm 11)), (170, t25)], s.ds⟩ h) (
  C0 ⟨puts s.tm [(168, noA), (169, noA), (170, noA)], s.ds⟩ h)
def F5.k10 (W : Nat → Prop) (Q : Post) (QP : PPost) (s : St) (h : AH) : Prop := F5.t10 s h (F5.k9 W Q QP)
theorem F5.k10_a (C0 : KT) : aIg true (s.tm 167) (evI Try.prog 198 (fun _ => W) nobody QP (regOps (Code.at F5.code [1, 1, 1, 1, 1, 1, 1, 1, 1, 1, 1, 1, 1, 1, 1, 0, 1, 0, 0, 1, 1, 0, 0, 1, 0, 0])) (isAt F5.g2 1) (C0) s h) ((C0) (skI 198 (regOps (Code.at F5.code [1, 1, 1, 1, 1, 1, 1, 1, 1, 1, 1, 1, 1, 1, 1, 0, 1, 0, 0, 1, 1, 0, 0, 1, 0, 0])) (isAt F5.g2 1) s) h) = F5.t10 s h C0 := by kernel_rfl
theorem F5.k10_ok : evG Try.prog 198 (fun _ => W) nobody QP (regOps (Code.at F5.code [1, 1, 1, 1, 1, 1, 1, 1, 1, 1, 1, 1, 1, 1, 1, 0, 1, 0, 0, 1, 1, 0, 0, 1, 0, 0])) (F5.g2.drop 1) ((thenQ (F5.k8 W Q QP) (thenQ (F5.k7 W Q QP) (blockQ 5 (thenQ (F5.k2 W Q QP) (Q))))) .normal) s h = F5.k10 W Q QP s h := nd_gw (j := 3) (is := isAt F5.g2 1) (rest := F5.g2.drop 2) (by kernel_rfl) (d := 167) (by kernel_rfl) (F5.k9_ok W Q QP) (F5.k10_a W QP s h (F5.k9 W Q QP))
def F5.t11 (s : St) (h : AH) (C0 : KT) : Prop :=
  pBin Try.prog .geq 3 false (s.tm 18) (s.tm 10) fun t26 =>
  C0 ⟨puts s.tm [(164, (s.tm 18)), (165, (s.tm 10)), (166, t26), (167, t26)], s.ds⟩ h
def F5.k11 (W : Nat → Prop) (Q : Post) (QP : PPost) (s : St) (h : AH) : Prop := F5.t11 s h (F5.k10 W Q QP)
theorem F5.k11_a (C0 : KT) : evI Try.prog 198 (fun _ => W) nobody QP (regOps (Code.at F5.code [1, 1, 1, 1, 1, 1, 1, 1, 1, 1, 1, 1, 1, 1, 1, 0, 1, 0, 0, 1, 1, 0, 0, 1, 0, 0])) (isAt F5.g2 0) (C0) s h = F5.t11 s h C0 := by kernel_rfl
theorem F5.k11_ok : evG Try.prog 198 (fun _ => W) nobody QP (regOps (Code.at F5.code [1, 1, 1, 1, 1, 1, 1, 1, 1, 1, 1, 1, 1, 1, 1, 0, 1, 0, 0, 1, 1, 0, 0, 1, 0, 0])) (F5.g2.drop 0) ((thenQ (F5.k8 W Q QP) (thenQ (F5.k7 W Q QP) (blockQ 5 (thenQ (F5.k2 W Q QP) (Q))))) .normal) s h = F5.k11 W Q QP s h := nd_g (is := isAt F5.g2 0) (rest := F5.g2.drop 1) (by kernel_rfl) (F5.k10_ok W Q QP) (F5.k11_a W QP s h (F5.k10 W Q QP))
theorem F5.o4 : aw Try.prog 198 W F5.pl (Code.at F5.code [1, 1, 1, 1, 1, 1, 1, 1, 1, 1, 1, 1, 1, 1, 1, 0, 1, 0, 0, 1, 1, 0, 0, 1, 0, 0]) (thenQ (F5.k8 W Q QP) (thenQ (F5.k7 W Q QP) (blockQ 5 (thenQ (F5.k2 W Q QP) (Q))))) QP s h = F5.k11 W Q QP s h := nd_groups (id := 32) (draw := false) (ops := (regOps (Code.at F5.code [1, 1, 1, 1, 1, 1, 1, 1, 1, 1, 1, 1, 1, 1, 1, 0, 1, 0, 0, 1, 1, 0, 0, 1, 0, 0]))) (gs := F5.g2.drop 0) (by kernel_rfl) (by kernel_rfl) (F5.k11_ok W Q QP s h)
theorem F5.o5 : aw Try.prog 198 W F5.pl (Code.at F5.code [1, 1, 1, 1, 1, 1, 1, 1, 1, 1, 1, 1, 1, 1, 1, 0, 1, 0, 0, 1, 1, 0, 0, 1, 0]) (thenQ (F5.k7 W Q QP) (blockQ 5 (thenQ (F5.k2 W Q QP) (Q)))) QP s h = F5.k11 W Q QP s h := nd_seq (a := (Code.at F5.code [1, 1, 1, 1, 1, 1, 1, 1, 1, 1, 1, 1, 1, 1, 1, 0, 1, 0, 0, 1, 1, 0, 0, 1, 0, 0])) (b := (Code.at F5.code [1, 1, 1, 1, 1, 1, 1, 1, 1, 1, 1, 1, 1, 1, 1, 0, 1, 0, 0, 1, 1, 0, 0, 1, 0, 1])) (by kernel_rfl) (F5.k8_ok W Q QP) (F5.o4 W Q QP s h)
theorem F5.o6 : aw Try.prog 198 W F5.pl (Code.at F5.code [1, 1, 1, 1, 1, 1, 1, 1, 1, 1, 1, 1, 1, 1, 1, 0, 1, 0, 0, 1, 1, 0, 0, 1]) (blockQ 5 (thenQ (F5.k2 W Q QP) (Q))) QP s h = F5.k11 W Q QP s h := nd_seq (a := (Code.at F5.code [1, 1, 1, 1, 1, 1, 1, 1, 1, 1, 1, 1, 1, 1, 1, 0, 1, 0, 0, 1, 1, 0, 0, 1, 0])) (b := (Code.at F5.code [1, 1, 1, 1, 1, 1, 1, 1, 1, 1, 1, 1, 1, 1, 1, 0, 1, 0, 0, 1, 1, 0, 0, 1, 1])) (by kernel_rfl) (F5.o3 W Q QP) (F5.o5 W Q QP s h)
def F5.t12 (W : Nat → Prop) (s : St) (h : AH) (C0 C1 : KT) : Prop :=
  pIxA (some (6, none)) (s.tm 157) (s.tm 159) fun t27 =>
  lLd (some true) (some 6) t27 h fun t28 _ =>
  eAlloc (some [.string ⟨#[]⟩, .string ⟨#[]⟩, .slice none 0 0, .int .i64 0, .int .i64 0, .int .i64 0]) 6 36 h fun t30 h31 =>
  eStore (some 6) t30 t28 h31 W fun h32 =>
  C0 ⟨puts s.tm [(161, (s.tm 159)), (162, t27), (163, t28), (19, t30), (18, (s.tm 159))], s.ds⟩ h32
def F5.k12 (W : Nat → Prop) (Q : Post) (QP : PPost) (s : St) (h : AH) : Prop := F5.t12 W s h (F5.k11 W Q QP) (F5.k2 W Q QP)
theorem F5.k12_a (C0 C1 : KT) : aw Try.prog 198 W F5.pl (Code.at F5.code [1, 1, 1, 1, 1, 1, 1, 1, 1, 1, 1, 1, 1, 1, 1, 0, 1, 0, 0, 1, 1, 0, 0, 0]) (thenQ (C0) (blockQ 5 (thenQ (C1) (Q)))) QP s h = F5.t12 W s h C0 C1 := by kernel_rfl
theorem F5.k12_ok : aw Try.prog 198 W F5.pl (Code.at F5.code [1, 1, 1, 1, 1, 1, 1, 1, 1, 1, 1, 1, 1, 1, 1, 0, 1, 0, 0, 1, 1, 0, 0]) (blockQ 5 (thenQ (F5.k2 W Q QP) (Q))) QP s h = F5.k12 W Q QP s h := nd_seq (a := (Code.at F5.code [1, 1, 1, 1, 1, 1, 1, 1, 1, 1, 1, 1, 1, 1, 1, 0, 1, 0, 0, 1, 1, 0, 0, 0])) (b := (Code.at F5.code [1, 1, 1, 1, 1, 1, 1, 1, 1, 1, 1, 1, 1, 1, 1, 0, 1, 0, 0, 1, 1, 0, 0, 1])) (by kernel_rfl) (F5.o6 W Q QP) (F5.k12_a W Q QP s h (F5.k11 W Q QP) (F5.k2 W Q QP))
theorem F5.o7 : aw Try.prog 198 W F5.pl (Code.at F5.code [1, 1, 1, 1, 1, 1, 1, 1, 1, 1, 1, 1, 1, 1, 1, 0, 1, 0, 0, 1, 1, 0]) (thenQ (F5.k2 W Q QP) (Q)) QP s h = F5.k12 W Q QP s h := nd_block (a := (Code.at F5.code [1, 1, 1, 1, 1, 1, 1, 1, 1, 1, 1, 1, 1, 1, 1, 0, 1, 0, 0, 1, 1, 0, 0])) (by kernel_rfl) (F5.k12_ok W Q QP s h)
theorem F5.o8 : aw Try.prog 198 W F5.pl (Code.at F5.code [1, 1, 1, 1, 1, 1, 1, 1, 1, 1, 1, 1, 1, 1, 1, 0, 1, 0, 0, 1, 1]) (Q) QP s h = F5.k12 W Q QP s h := nd_seq (a := (Code.at F5.code [1, 1, 1, 1, 1, 1, 1, 1, 1, 1, 1, 1, 1, 1, 1, 0, 1, 0, 0, 1, 1, 0])) (b := (Code.at F5.code [1, 1, 1, 1, 1, 1, 1, 1, 1, 1, 1, 1, 1, 1, 1, 0, 1, 0, 0, 1, 1, 1])) (by kernel_rfl) (F5.k2_ok W Q QP) (F5.o7 W Q QP s h)
def F5.t13 (Q : Post) (s : St) (h : AH) (C0 : KT) : Prop :=
  aIf (s.tm 160) (
  C0 s h) (
  Q (.exit 4) s h)
def F5.k13 (W : Nat → Prop) (Q : Post) (QP : PPost) (s : St) (h : AH) : Prop := F5.t13 Q s h (F5.k12 W Q QP)
theorem F5.k13_a (C0 : KT) : aIf (aev s (.tmp 160)) (aw Try.prog 198 W F5.pl (Code.at F5.code [1, 1, 1, 1, 1, 1, 1, 1, 1, 1, 1, 1, 1, 1, 1, 0, 1, 0, 0, 1, 0, 0]) (thenQ (C0) (Q)) QP s h) (aw Try.prog 198 W F5.pl (Code.at F5.code [1, 1, 1, 1, 1, 1, 1, 1, 1, 1, 1, 1, 1, 1, 1, 0, 1, 0, 0, 1, 0, 1]) (thenQ (C0) (Q)) QP s h) = F5.t13 Q s h C0 := by kernel_rfl
theorem F5.k13_ok : aw Try.prog 198 W F5.pl (Code.at F5.code [1, 1, 1, 1, 1, 1, 1, 1, 1, 1, 1, 1, 1, 1, 1, 0, 1, 0, 0, 1, 0]) (thenQ (F5.k12 W Q QP) (Q)) QP s h = F5.k13 W Q QP s h := nd_cond (a := (Code.at F5.code [1, 1, 1, 1, 1, 1, 1, 1, 1, 1, 1, 1, 1, 1, 1, 0, 1, 0, 0, 1, 0, 0])) (b := (Code.at F5.code [1, 1, 1, 1, 1, 1, 1, 1, 1, 1, 1, 1, 1, 1, 1, 0, 1, 0, 0, 1, 0, 1])) (by kernel_rfl) rfl rfl (F5.k13_a W Q QP s h (F5.k12 W Q QP))
theorem F5.o9 : aw Try.prog 198 W F5.pl (Code.at F5.code [1, 1, 1, 1, 1, 1, 1, 1, 1, 1, 1, 1, 1, 1, 1, 0, 1, 0, 0, 1]) (Q) QP s h = F5.k13 W Q QP s h := nd_seq (a := (Code.at F5.code [1, 1, 1, 1, 1, 1, 1, 1, 1, 1, 1, 1, 1, 1, 1, 0, 1, 0, 0, 1, 0])) (b := (Code.at F5.code [1, 1, 1, 1, 1, 1, 1, 1, 1, 1, 1, 1, 1, 1, 1, 0, 1, 0, 0, 1, 1])) (by kernel_rfl) (F5.o8 W Q QP) (F5.k13_ok W Q QP s h)
def F5.t14 (s : St) (h : AH) (C0 : KT) : Prop :=
  pBin Try.prog .lss 3 false (s.tm 159) (s.tm 158) fun t33 =>
  C0 ⟨puts s.tm [(160, t33)], s.ds⟩ h
def F5.k14 (W : Nat → Prop) (Q : Post) (QP : PPost) (s : St) (h : AH) : Prop := F5.t14 s h (F5.k13 W Q QP)
theorem F5.k14_a (C0 : KT) : aw Try.prog 198 W F5.pl (Code.at F5.code [1, 1, 1, 1, 1, 1, 1, 1, 1, 1, 1, 1, 1, 1, 1, 0, 1, 0, 0, 0]) (thenQ (C0) (Q)) QP s h = F5.t14 s h C0 := by kernel_rfl
theorem F5.k14_ok : aw Try.prog 198 W F5.pl (Code.at F5.code [1, 1, 1, 1, 1, 1, 1, 1, 1, 1, 1, 1, 1, 1, 1, 0, 1, 0, 0]) (Q) QP s h = F5.k14 W Q QP s h := nd_seq (a := (Code.at F5.code [1, 1, 1, 1, 1, 1, 1, 1, 1, 1, 1, 1, 1, 1, 1, 0, 1, 0, 0, 0])) (b := (Code.at F5.code [1, 1, 1, 1, 1, 1, 1, 1, 1, 1, 1, 1, 1, 1, 1, 0, 1, 0, 0, 1])) (by kernel_rfl) (F5.o9 W Q QP) (F5.k14_a W Q QP s h (F5.k13 W Q QP))
noncomputable def F5.c1 : Code := (Code.at F5.code [1, 1, 1, 1, 1, 1, 1, 1, 1, 1, 1, 1, 1, 1, 1, 0, 1, 0, 0])
theorem F5.l1 : aw Try.prog 198 W F5.pl F5.c1 Q QP s h = F5.k14 W Q QP s h := F5.k14_ok W Q QP s h
def F5.k15 (W : Nat → Prop) (Q : Post) (QP : PPost) (s : St) (h : AH) : Prop := aLoop (aw Try.prog 198 W F5.pl F5.c1) (blockQ 4 (thenQ (F5.k1 W Q QP) (Q))) QP s h
theorem F5.k15_ok : aw Try.prog 198 W F5.pl (Code.at F5.code [1, 1, 1, 1, 1, 1, 1, 1, 1, 1, 1, 1, 1, 1, 1, 0, 1, 0]) (blockQ 4 (thenQ (F5.k1 W Q QP) (Q))) QP s h = F5.k15 W Q QP s h := nd_loop (a := F5.c1) (by kernel_rfl)
theorem F5.o10 : aw Try.prog 198 W F5.pl (Code.at F5.code [1, 1, 1, 1, 1, 1, 1, 1, 1, 1, 1, 1, 1, 1, 1, 0, 1]) (thenQ (F5.k1 W Q QP) (Q)) QP s h = F5.k15 W Q QP s h := nd_block (a := (Code.at F5.code [1, 1, 1, 1, 1, 1, 1, 1, 1, 1, 1, 1, 1, 1, 1, 0, 1, 0])) (by kernel_rfl) (F5.k15_ok W Q QP s h)
def F5.t16 (s : St) (h : AH) (C0 C1 : KT) : Prop :=
  (strArg (s.tm 5) = false) ∧ pLen (s.tm 5) fun t34 =>
  C1 ⟨puts s.tm [(157, (s.tm 5)), (158, t34), (159, (.sc (.int .i64 0)))], s.ds⟩ h
def F5.k16 (W : Nat → Prop) (Q : Post) (QP : PPost) (s : St) (h : AH) : Prop := F5.t16 s h (F5.k1 W Q QP) (F5.k15 W Q QP)
theorem F5.k16_a (C0 C1 : KT) : aw Try.prog 198 W F5.pl (Code.at F5.code [1, 1, 1, 1, 1, 1, 1, 1, 1, 1, 1, 1, 1, 1, 1, 0, 0]) (thenQ (C1) (thenQ (C0) (Q))) QP s h = F5.t16 s h C0 C1 := by kernel_rfl
theorem F5.k16_ok : aw Try.prog 198 W F5.pl (Code.at F5.code [1, 1, 1, 1, 1, 1, 1, 1, 1, 1, 1, 1, 1, 1, 1, 0]) (thenQ (F5.k1 W Q QP) (Q)) QP s h = F5.k16 W Q QP s h := nd_seq (a := (Code.at F5.code [1, 1, 1, 1, 1, 1, 1, 1, 1, 1, 1, 1, 1, 1, 1, 0, 0])) (b := (Code.at F5.code [1, 1, 1, 1, 1, 1, 1, 1, 1, 1, 1, 1, 1, 1, 1, 0, 1])) (by kernel_rfl) (F5.o10 W Q QP) (F5.k16_a W Q QP s h (F5.k1 W Q QP) (F5.k15 W Q QP))
theorem F5.o11 : aw Try.prog 198 W F5.pl (Code.at F5.code [1, 1, 1, 1, 1, 1, 1, 1, 1, 1, 1, 1, 1, 1, 1]) (Q) QP s h = F5.k16 W Q QP s h := nd_seq (a := (Code.at F5.code [1, 1, 1, 1, 1, 1, 1, 1, 1, 1, 1, 1, 1, 1, 1, 0])) (b := (Code.at F5.code [1, 1, 1, 1, 1, 1, 1, 1, 1, 1, 1, 1, 1, 1, 1, 1])) (by kernel_rfl) (F5.k1_ok W Q QP) (F5.k16_ok W Q QP s h)
def F5.t17 (s : St) (h : AH) (C0 : KT) : Prop :=
  C0 ⟨puts s.tm [(17, (.sc (.slice none 0 0)))], s.ds⟩ h
def F5.k17 (W : Nat → Prop) (Q : Post) (QP : PPost) (s : St) (h : AH) : Prop := F5.t17 s h (F5.k16 W Q QP)
theorem F5.k17_a (C0 : KT) : aw Try.prog 198 W F5.pl (Code.at F5.code [1, 1, 1, 1, 1, 1, 1, 1, 1, 1, 1, 1, 1, 1, 0]) (thenQ (C0) (Q)) QP s h = F5.t17 s h C0 := by kernel_rfl
theorem F5.k17_ok : aw Try.prog 198 W F5.pl (Code.at F5.code [1, 1, 1, 1, 1, 1, 1, 1, 1, 1, 1, 1, 1, 1]) (Q) QP s h = F5.k17 W Q QP s h := nd_seq (a := (Code.at F5.code [1, 1, 1, 1, 1, 1, 1, 1, 1, 1, 1, 1, 1, 1, 0])) (b := (Code.at F5.code [1, 1, 1, 1, 1, 1, 1, 1, 1, 1, 1, 1, 1, 1, 1])) (by kernel_rfl) (F5.o11 W Q QP) (F5.k17_a W Q QP s h (F5.k16 W Q QP))
def F5.t18 (Q : Post) (s : St) (h : AH) (C0 : KT) : Prop :=
  Q .ret ⟨puts s.tm [(4, (.sc (.bool false)))], s.ds⟩ h
def F5.k18 (W : Nat → Prop) (Q : Post) (QP : PPost) (s : St) (h : AH) : Prop := F5.t18 Q s h (F5.k17 W Q QP)
theorem F5.k18_a (C0 : KT) : aw Try.prog 198 W F5.pl (Code.at F5.code [1, 1, 1, 1, 1, 1, 1, 1, 1, 1, 1, 1, 1, 0, 1, 0, 0]) (thenQ (aw Try.prog 198 W F5.pl (Code.at F5.code [1, 1, 1, 1, 1, 1, 1, 1, 1, 1, 1, 1, 1, 0, 1, 0, 1]) (thenQ (C0) (Q)) QP) (thenQ (C0) (Q))) QP s h = F5.t18 Q s h C0 := by kernel_rfl
theorem F5.k18_ok : aw Try.prog 198 W F5.pl (Code.at F5.code [1, 1, 1, 1, 1, 1, 1, 1, 1, 1, 1, 1, 1, 0, 1, 0]) (thenQ (F5.k17 W Q QP) (Q)) QP s h = F5.k18 W Q QP s h := nd_seq (a := (Code.at F5.code [1, 1, 1, 1, 1, 1, 1, 1, 1, 1, 1, 1, 1, 0, 1, 0, 0])) (b := (Code.at F5.code [1, 1, 1, 1, 1, 1, 1, 1, 1, 1, 1, 1, 1, 0, 1, 0, 1])) (by kernel_rfl) (fun _ _ => rfl) (F5.k18_a W Q QP s h (F5.k17 W Q QP))
def F5.t19 (s : St) (h : AH) (C0 C1 : KT) : Prop :=
  aIf (s.tm 156) (
  C1 s h) (
  C0 s h)
def F5.k19 (W : Nat → Prop) (Q : Post) (QP : PPost) (s : St) (h : AH) : Prop := F5.t19 s h (F5.k17 W Q QP) (F5.k18 W Q QP)
theorem F5.k19_a (C0 C1 : KT) : aIf (aev s (.tmp 156)) (C1 s h) (aw Try.prog 198 W F5.pl (Code.at F5.code [1, 1, 1, 1, 1, 1, 1, 1, 1, 1, 1, 1, 1, 0, 1, 1]) (thenQ (C0) (Q)) QP s h) = F5.t19 s h C0 C1 := by kernel_rfl
theorem F5.k19_ok : aw Try.prog 198 W F5.pl (Code.at F5.code [1, 1, 1, 1, 1, 1, 1, 1, 1, 1, 1, 1, 1, 0, 1]) (thenQ (F5.k17 W Q QP) (Q)) QP s h = F5.k19 W Q QP s h := nd_cond (a := (Code.at F5.code [1, 1, 1, 1, 1, 1, 1, 1, 1, 1, 1, 1, 1, 0, 1, 0])) (b := (Code.at F5.code [1, 1, 1, 1, 1, 1, 1, 1, 1, 1, 1, 1, 1, 0, 1, 1])) (by kernel_rfl) (F5.k18_ok W Q QP s h) rfl (F5.k19_a W Q QP s h (F5.k17 W Q QP) (F5.k18 W Q QP))
def F5.t20 (s : St) (h : AH) (C0 C1 : KT) : Prop :=
  pBin Try.prog .neq 26 true (s.tm 16) (.sc (.int .i64 0)) fun t35 =>
  C1 ⟨puts s.tm [(155, (s.tm 16)), (156, t35)], s.ds⟩ h
def F5.k20 (W : Nat → Prop) (Q : Post) (QP : PPost) (s : St) (h : AH) : Prop := F5.t20 s h (F5.k17 W Q QP) (F5.k19 W Q QP)
theorem F5.k20_a (C0 C1 : KT) : aw Try.prog 198 W F5.pl (Code.at F5.code [1, 1, 1, 1, 1, 1, 1, 1, 1, 1, 1, 1, 1, 0, 0]) (thenQ (C1) (thenQ (C0) (Q))) QP s h = F5.t20 s h C0 C1 := by kernel_rfl
theorem F5.k20_ok : aw Try.prog 198 W F5.pl (Code.at F5.code [1, 1, 1, 1, 1, 1, 1, 1, 1, 1, 1, 1, 1, 0]) (thenQ (F5.k17 W Q QP) (Q)) QP s h = F5.k20 W Q QP s h := nd_seq (a := (Code.at F5.code [1, 1, 1, 1, 1, 1, 1, 1, 1, 1, 1, 1, 1, 0, 0])) (b := (Code.at F5.code [1, 1, 1, 1, 1, 1, 1, 1, 1, 1, 1, 1, 1, 0, 1])) (by kernel_rfl) (F5.k19_ok W Q QP) (F5.k20_a W Q QP s h (F5.k17 W Q QP) (F5.k19 W Q QP))
theorem F5.o12 : aw Try.prog 198 W F5.pl (Code.at F5.code [1, 1, 1, 1, 1, 1, 1, 1, 1, 1, 1, 1, 1]) (Q) QP s h = F5.k20 W Q QP s h := nd_seq (a := (Code.at F5.code [1, 1, 1, 1, 1, 1, 1, 1, 1, 1, 1, 1, 1, 0])) (b := (Code.at F5.code [1, 1, 1, 1, 1, 1, 1, 1, 1, 1, 1, 1, 1, 1])) (by kernel_rfl) (F5.k17_ok W Q QP) (F5.k20_ok W Q QP s h)
def F5.t21 (W : Nat → Prop) (QP : PPost) (s : St) (h : AH) (C0 : KT) : Prop :=
  pIxA (some (6, none)) (s.tm 5) (s.tm 10) fun t36 =>
  pFld (some 5) t36 fun t37 =>
  lLd (some false) (some 1) t37 h fun t38 _ =>
  pSlS (s.tm 0) none (some t38) fun t40 =>
  pBin Try.prog .add 9 true t40 (.sc (.string ⟨#[32]⟩)) fun t41 =>
  pSlS (s.tm 0) (some (s.tm 12)) none fun t42 =>
  pBin Try.prog .add 9 false t41 t42 fun t43 =>
  aCall Try.prog W 8 [t43] h (fun t44 h45 =>
  pExt t44 0 fun t46 =>
  pExt t44 1 fun t47 =>
  pExt t44 2 fun t48 =>
  C0 ⟨puts s.tm [(139, (s.tm 0)), (140, (s.tm 5)), (141, (s.tm 10)), (142, t36), (143, t37), (144, t38), (145, t40), (146, t41), (147, (s.tm 0)), (148, (s.tm 12)), (149, t42), (150, t43), (151, t44), (138, t44), (152, t46), (153, t47), (154, t48), (14, t46), (15, t47), (16, t48)], s.ds⟩ h45) (QP s.ds)
def F5.k21 (W : Nat → Prop) (Q : Post) (QP : PPost) (s : St) (h : AH) : Prop := F5.t21 W QP s h (F5.k20 W Q QP)
theorem F5.k21_a (C0 : KT) : aw Try.prog 198 W F5.pl (Code.at F5.code [1, 1, 1, 1, 1, 1, 1, 1, 1, 1, 1, 1, 0]) (thenQ (C0) (Q)) QP s h = F5.t21 W QP s h C0 := by kernel_rfl
theorem F5.k21_ok : aw Try.prog 198 W F5.pl (Code.at F5.code [1, 1, 1, 1, 1, 1, 1, 1, 1, 1, 1, 1]) (Q) QP s h = F5.k21 W Q QP s h := nd_seq (a := (Code.at F5.code [1, 1, 1, 1, 1, 1, 1, 1, 1, 1, 1, 1, 0])) (b := (Code.at F5.code [1, 1, 1, 1, 1, 1, 1, 1, 1, 1, 1, 1, 1])) (by kernel_rfl) (F5.o12 W Q QP) (F5.k21_a W Q QP s h (F5.k20 W Q QP))
def F5.t22 (Q : Post) (s : St) (h : AH) : Prop :=
  pBin Try.prog .add 3 true (s.tm 13) (.sc (.int .i64 1)) fun t49 =>
  Q .normal ⟨puts s.tm [(115, (s.tm 13)), (116, t49), (13, t49)], s.ds⟩ h
def F5.k22 (W : Nat → Prop) (Q : Post) (QP : PPost) (s : St) (h : AH) : Prop := F5.t22 Q s h
theorem F5.k22_a : aw Try.prog 198 W F5.pl (Code.at F5.code [1, 1, 1, 1, 1, 1, 1, 1, 1, 1, 1, 0, 1, 0, 0, 1, 1]) (Q) QP s h = F5.t22 Q s h := by kernel_rfl
theorem F5.k22_ok : aw Try.prog 198 W F5.pl (Code.at F5.code [1, 1, 1, 1, 1, 1, 1, 1, 1, 1, 1, 0, 1, 0, 0, 1, 1]) (Q) QP s h = F5.k22 W Q QP s h := (F5.k22_a W Q QP s h)
def F5.t23 (Q : Post) (s : St) (h : AH) (C0 : KT) : Prop :=
  Q .ret ⟨puts s.tm [(4, (.sc (.bool true)))], s.ds⟩ h
def F5.k23 (W : Nat → Prop) (Q : Post) (QP : PPost) (s : St) (h : AH) : Prop := F5.t23 Q s h (F5.k22 W Q QP)
theorem F5.k23_a (C0 : KT) : aw Try.prog 198 W F5.pl (Code.at F5.code [1, 1, 1, 1, 1, 1, 1, 1, 1, 1, 1, 0, 1, 0, 0, 1, 0, 0, 1, 0, 0]) (thenQ (aw Try.prog 198 W F5.pl (Code.at F5.code [1, 1, 1, 1, 1, 1, 1, 1, 1, 1, 1, 0, 1, 0, 0, 1, 0, 0, 1, 0, 1]) (blockQ 3 (thenQ (C0) (Q))) QP) (blockQ 3 (thenQ (C0) (Q)))) QP s h = F5.t23 Q s h C0 := by kernel_rfl
theorem F5.k23_ok : aw Try.prog 198 W F5.pl (Code.at F5.code [1, 1, 1, 1, 1, 1, 1, 1, 1, 1, 1, 0, 1, 0, 0, 1, 0, 0, 1, 0]) (blockQ 3 (thenQ (F5.k22 W Q QP) (Q))) QP s h = F5.k23 W Q QP s h := nd_seq (a := (Code.at F5.code [1, 1, 1, 1, 1, 1, 1, 1, 1, 1, 1, 0, 1, 0, 0, 1, 0, 0, 1, 0, 0])) (b := (Code.at F5.code [1, 1, 1, 1, 1, 1, 1, 1, 1, 1, 1, 0, 1, 0, 0, 1, 0, 0, 1, 0, 1])) (by kernel_rfl) (fun _ _ => rfl) (F5.k23_a W Q QP s h (F5.k22 W Q QP))
def F5.t24 (s : St) (h : AH) (C0 C1 : KT) : Prop :=
  aIf (s.tm 137) (
  C1 s h) (
  C0 s h)
def F5.k24 (W : Nat → Prop) (Q : Post) (QP : PPost) (s : St) (h : AH) : Prop := F5.t24 s h (F5.k22 W Q QP) (F5.k23 W Q QP)
theorem F5.k24_a (C0 C1 : KT) : aIf (aev s (.tmp 137)) (C1 s h) (aw Try.prog 198 W F5.pl (Code.at F5.code [1, 1, 1, 1, 1, 1, 1, 1, 1, 1, 1, 0, 1, 0, 0, 1, 0, 0, 1, 1]) (blockQ 3 (thenQ (C0) (Q))) QP s h) = F5.t24 s h C0 C1 := by kernel_rfl
theorem F5.k24_ok : aw Try.prog 198 W F5.pl (Code.at F5.code [1, 1, 1, 1, 1, 1, 1, 1, 1, 1, 1, 0, 1, 0, 0, 1, 0, 0, 1]) (blockQ 3 (thenQ (F5.k22 W Q QP) (Q))) QP s h = F5.k24 W Q QP s h := nd_cond (a := (Code.at F5.code [1, 1, 1, 1, 1, 1, 1, 1, 1, 1, 1, 0, 1, 0, 0, 1, 0, 0, 1, 0])) (b := (Code.at F5.code [1, 1, 1, 1, 1, 1, 1, 1, 1, 1, 1, 0, 1, 0, 0, 1, 0, 0, 1, 1])) (by kernel_rfl) (F5.k23_ok W Q QP s h) rfl (F5.k24_a W Q QP s h (F5.k22 W Q QP) (F5.k23 W Q QP))
def F5.t25 (s : St) (h : AH) (C0 C1 : KT) : Prop :=
  pPick (s.tm 126) (s.tm 136) (.sc (.bool false)) fun t50 =>
  C1 ⟨puts s.tm [(137, t50)], s.ds⟩ h
def F5.k25 (W : Nat → Prop) (Q : Post) (QP : PPost) (s : St) (h : AH) : Prop := F5.t25 s h (F5.k22 W Q QP) (F5.k24 W Q QP)
theorem F5.k25_a (C0 C1 : KT) : evI Try.prog 198 (fun _ => W) nobody QP (regOps (Code.at F5.code [1, 1, 1, 1, 1, 1, 1, 1, 1, 1, 1, 0, 1, 0, 0, 1, 0, 0, 0])) (isAt F5.g3 2) ((thenQ (C1) (blockQ 3 (thenQ (C0) (Q)))) .normal) s h = F5.t25 s h C0 C1 := by kernel_rfl
theorem F5.k25_ok : evG Try.prog 198 (fun _ => W) nobody QP (regOps (Code.at F5.code [1, 1, 1, 1, 1, 1, 1, 1, 1, 1, 1, 0, 1, 0, 0, 1, 0, 0, 0])) (F5.g3.drop 2) ((thenQ (F5.k24 W Q QP) (blockQ 3 (thenQ (F5.k22 W Q QP) (Q)))) .normal) s h = F5.k25 W Q QP s h := nd_g (is := isAt F5.g3 2) (rest := F5.g3.drop 3) (by kernel_rfl) (fun _ _ => rfl) (F5.k25_a W Q QP s h (F5.k22 W Q QP) (F5.k24 W Q QP))
def F5.t26 (s : St) (h : AH) (C0 : KT) : Prop :=
  aIg true (s.tm 126) (
  pIxA (some (6, none)) (s.tm 5) (s.tm 13) fun t51 =>
  pFld (some 4) t51 fun t52 =>
  lLd (some false) (some 1) t52 h fun t53 _ =>
  pBin Try.prog .add 3 false (s.tm 13) t53 fun t55 =>
  pBin Try.prog .sub 3 true (s.tm 11) (.sc (.int .i64 1)) fun t56 =>
  pBin Try.prog .eql 3 false t55 t56 fun t57 =>
  C0 ⟨puts s.tm [(127, (s.tm 13)), (128, (s.tm 5)), (129, (s.tm 13)), (130, t51), (131, t52), (132, t53), (133, t55), (134, (s.tm 11)), (135, t56), (136, t57)], s.ds⟩ h) (
  C0 ⟨puts s.tm [(127, noA), (128, noA), (129, noA), (130, noA), (131, noA), (132, noA), (133, noA), (134, noA), (135, noA), (136, noA)], s.ds⟩ h)
def F5.k26 (W : Nat → Prop) (Q : Post) (QP : PPost) (s : St) (h : AH) : Prop := F5.t26 s h (F5.k25 W Q QP)
theorem F5.k26_a (C0 : KT) : aIg true (s.tm 126) (evI Try.prog 198 (fun _ => W) nobody QP (regOps (Code.at F5.code [1, 1, 1, 1, 1, 1, 1, 1, 1, 1, 1, 0, 1, 0, 0, 1, 0, 0, 0])) (isAt F5.g3 1) (C0) s h) ((C0) (skI 198 (regOps (Code.at F5.code [1, 1, 1, 1, 1, 1, 1, 1, 1, 1, 1, 0, 1, 0, 0, 1, 0, 0, 0])) (isAt F5.g3 1) s) h) = F5.t26 s h C0 := by kernel_rfl
theorem F5.k26_ok : evG Try.prog 198 (fun _ => W) nobody QP (regOps (Code.at F5.code [1, 1, 1, 1, 1, 1, 1, 1, 1, 1, 1, 0, 1, 0, 0, 1, 0, 0, 0])) (F5.g3.drop 1) ((thenQ (F5.k24 W Q QP) (blockQ 3 (thenQ (F5.k22 W Q QP) (Q)))) .normal) s h = F5.k26 W Q QP s h := nd_gw (j := 9) (is := isAt F5.g3 1) (rest := F5.g3.drop 2) (by kernel_rfl) (d := 126) (by kernel_rfl) (F5.k25_ok W Q QP) (F5.k26_a W QP s h (F5.k25 W Q QP))
def F5.t27 (s : St) (h : AH) (C0 : KT) : Prop :=
  pIxA (some (6, none)) (s.tm 5) (s.tm 13) fun t58 =>
  pFld (some 4) t58 fun t59 =>
  lLd (some false) (some 1) t59 h fun t60 _ =>
  pBin Try.prog .add 3 false (s.tm 13) t60 fun t62 =>
  pBin Try.prog .geq 3 false t62 (s.tm 10) fun t63 =>
  C0 ⟨puts s.tm [(117, (s.tm 13)), (118, (s.tm 5)), (119, (s.tm 13)), (120, t58), (121, t59), (122, t60), (123, t62), (124, (s.tm 10)), (125, t63), (126, t63)], s.ds⟩ h
def F5.k27 (W : Nat → Prop) (Q : Post) (QP : PPost) (s : St) (h : AH) : Prop := F5.t27 s h (F5.k26 W Q QP)
theorem F5.k27_a (C0 : KT) : evI Try.prog 198 (fun _ => W) nobody QP (regOps (Code.at F5.code [1, 1, 1, 1, 1, 1, 1, 1, 1, 1, 1, 0, 1, 0, 0, 1, 0, 0, 0])) (isAt F5.g3 0) (C0) s h = F5.t27 s h C0 := by kernel_rfl
theorem F5.k27_ok : evG Try.prog 198 (fun _ => W) nobody QP (regOps (Code.at F5.code [1, 1, 1, 1, 1, 1, 1, 1, 1, 1, 1, 0, 1, 0, 0, 1, 0, 0, 0])) (F5.g3.drop 0) ((thenQ (F5.k24 W Q QP) (blockQ 3 (thenQ (F5.k22 W Q QP) (Q)))) .normal) s h = F5.k27 W Q QP s h := nd_g (is := isAt F5.g3 0) (rest := F5.g3.drop 1) (by kernel_rfl) (F5.k26_ok W Q QP) (F5.k27_a W QP s h (F5.k26 W Q QP))
theorem F5.o13 : aw Try.prog 198 W F5.pl (Code.at F5.code [1, 1, 1, 1, 1, 1, 1, 1, 1, 1, 1, 0, 1, 0, 0, 1, 0, 0, 0]) (thenQ (F5.k24 W Q QP) (blockQ 3 (thenQ (F5.k22 W Q QP) (Q)))) QP s h = F5.k27 W Q QP s h := nd_groups (id := 23) (draw := false) (ops := (regOps (Code.at F5.code [1, 1, 1, 1, 1, 1, 1, 1, 1, 1, 1, 0, 1, 0, 0, 1, 0, 0, 0]))) (gs := F5.g3.drop 0) (by kernel_rfl) (by kernel_rfl) (F5.k27_ok W Q QP s h)
theorem F5.o14 : aw Try.prog 198 W F5.pl (Code.at F5.code [1, 1, 1, 1, 1, 1, 1, 1, 1, 1, 1, 0, 1, 0, 0, 1, 0, 0]) (blockQ 3 (thenQ (F5.k22 W Q QP) (Q))) QP s h = F5.k27 W Q QP s h := nd_seq (a := (Code.at F5.code [1, 1, 1, 1, 1, 1, 1, 1, 1, 1, 1, 0, 1, 0, 0, 1, 0, 0, 0])) (b := (Code.at F5.code [1, 1, 1, 1, 1, 1, 1, 1, 1, 1, 1, 0, 1, 0, 0, 1, 0, 0, 1])) (by kernel_rfl) (F5.k24_ok W Q QP) (F5.o13 W Q QP s h)
theorem F5.o15 : aw Try.prog 198 W F5.pl (Code.at F5.code [1, 1, 1, 1, 1, 1, 1, 1, 1, 1, 1, 0, 1, 0, 0, 1, 0]) (thenQ (F5.k22 W Q QP) (Q)) QP s h = F5.k27 W Q QP s h := nd_block (a := (Code.at F5.code [1, 1, 1, 1, 1, 1, 1, 1, 1, 1, 1, 0, 1, 0, 0, 1, 0, 0])) (by kernel_rfl) (F5.o14 W Q QP s h)
theorem F5.o16 : aw Try.prog 198 W F5.pl (Code.at F5.code [1, 1, 1, 1, 1, 1, 1, 1, 1, 1, 1, 0, 1, 0, 0, 1]) (Q) QP s h = F5.k27 W Q QP s h := nd_seq (a := (Code.at F5.code [1, 1, 1, 1, 1, 1, 1, 1, 1, 1, 1, 0, 1, 0, 0, 1, 0])) (b := (Code.at F5.code [1, 1, 1, 1, 1, 1, 1, 1, 1, 1, 1, 0, 1, 0, 0, 1, 1])) (by kernel_rfl) (F5.k22_ok W Q QP) (F5.o15 W Q QP s h)
def F5.t28 (Q : Post) (s : St) (h : AH) (C0 : KT) : Prop :=
  aIf (s.tm 114) (
  C0 s h) (
  Q (.exit 2) s h)
def F5.k28 (W : Nat → Prop) (Q : Post) (QP : PPost) (s : St) (h : AH) : Prop := F5.t28 Q s h (F5.k27 W Q QP)
theorem F5.k28_a (C0 : KT) : aIf (aev s (.tmp 114)) (aw Try.prog 198 W F5.pl (Code.at F5.code [1, 1, 1, 1, 1, 1, 1, 1, 1, 1, 1, 0, 1, 0, 0, 0, 1, 0]) (thenQ (C0) (Q)) QP s h) (aw Try.prog 198 W F5.pl (Code.at F5.code [1, 1, 1, 1, 1, 1, 1, 1, 1, 1, 1, 0, 1, 0, 0, 0, 1, 1]) (thenQ (C0) (Q)) QP s h) = F5.t28 Q s h C0 := by kernel_rfl
theorem F5.k28_ok : aw Try.prog 198 W F5.pl (Code.at F5.code [1, 1, 1, 1, 1, 1, 1, 1, 1, 1, 1, 0, 1, 0, 0, 0, 1]) (thenQ (F5.k27 W Q QP) (Q)) QP s h = F5.k28 W Q QP s h := nd_cond (a := (Code.at F5.code [1, 1, 1, 1, 1, 1, 1, 1, 1, 1, 1, 0, 1, 0, 0, 0, 1, 0])) (b := (Code.at F5.code [1, 1, 1, 1, 1, 1, 1, 1, 1, 1, 1, 0, 1, 0, 0, 0, 1, 1])) (by kernel_rfl) rfl rfl (F5.k28_a W Q QP s h (F5.k27 W Q QP))
def F5.t29 (s : St) (h : AH) (C0 C1 : KT) : Prop :=
  pBin Try.prog .lss 3 false (s.tm 13) (s.tm 10) fun t64 =>
  C1 ⟨puts s.tm [(112, (s.tm 13)), (113, (s.tm 10)), (114, t64)], s.ds⟩ h
def F5.k29 (W : Nat → Prop) (Q : Post) (QP : PPost) (s : St) (h : AH) : Prop := F5.t29 s h (F5.k27 W Q QP) (F5.k28 W Q QP)
theorem F5.k29_a (C0 C1 : KT) : aw Try.prog 198 W F5.pl (Code.at F5.code [1, 1, 1, 1, 1, 1, 1, 1, 1, 1, 1, 0, 1, 0, 0, 0, 0]) (thenQ (C1) (thenQ (C0) (Q))) QP s h = F5.t29 s h C0 C1 := by kernel_rfl
theorem F5.k29_ok : aw Try.prog 198 W F5.pl (Code.at F5.code [1, 1, 1, 1, 1, 1, 1, 1, 1, 1, 1, 0, 1, 0, 0, 0]) (thenQ (F5.k27 W Q QP) (Q)) QP s h = F5.k29 W Q QP s h := nd_seq (a := (Code.at F5.code [1, 1, 1, 1, 1, 1, 1, 1, 1, 1, 1, 0, 1, 0, 0, 0, 0])) (b := (Code.at F5.code [1, 1, 1, 1, 1, 1, 1, 1, 1, 1, 1, 0, 1, 0, 0, 0, 1])) (by kernel_rfl) (F5.k28_ok W Q QP) (F5.k29_a W Q QP s h (F5.k27 W Q QP) (F5.k28 W Q QP))
theorem F5.o17 : aw Try.prog 198 W F5.pl (Code.at F5.code [1, 1, 1, 1, 1, 1, 1, 1, 1, 1, 1, 0, 1, 0, 0]) (Q) QP s h = F5.k29 W Q QP s h := nd_seq (a := (Code.at F5.code [1, 1, 1, 1, 1, 1, 1, 1, 1, 1, 1, 0, 1, 0, 0, 0])) (b := (Code.at F5.code [1, 1, 1, 1, 1, 1, 1, 1, 1, 1, 1, 0, 1, 0, 0, 1])) (by kernel_rfl) (F5.o16 W Q QP) (F5.k29_ok W Q QP s h)
noncomputable def F5.c2 : Code := (Code.at F5.code [1, 1, 1, 1, 1, 1, 1, 1, 1, 1, 1, 0, 1, 0, 0])
theorem F5.l2 : aw Try.prog 198 W F5.pl F5.c2 Q QP s h = F5.k29 W Q QP s h := F5.o17 W Q QP s h
def F5.k30 (W : Nat → Prop) (Q : Post) (QP : PPost) (s : St) (h : AH) : Prop := aLoop (aw Try.prog 198 W F5.pl F5.c2) (blockQ 2 (thenQ (F5.k21 W Q QP) (Q))) QP s h
theorem F5.k30_ok : aw Try.prog 198 W F5.pl (Code.at F5.code [1, 1, 1, 1, 1, 1, 1, 1, 1, 1, 1, 0, 1, 0]) (blockQ 2 (thenQ (F5.k21 W Q QP) (Q))) QP s h = F5.k30 W Q QP s h := nd_loop (a := F5.c2) (by kernel_rfl)
theorem F5.o18 : aw Try.prog 198 W F5.pl (Code.at F5.code [1, 1, 1, 1, 1, 1, 1, 1, 1, 1, 1, 0, 1]) (thenQ (F5.k21 W Q QP) (Q)) QP s h = F5.k30 W Q QP s h := nd_block (a := (Code.at F5.code [1, 1, 1, 1, 1, 1, 1, 1, 1, 1, 1, 0, 1, 0])) (by kernel_rfl) (F5.k30_ok W Q QP s h)
def F5.t31 (s : St) (h : AH) (C0 C1 : KT) : Prop :=
  C1 ⟨puts s.tm [(13, (.sc (.int .i64 0)))], s.ds⟩ h
def F5.k31 (W : Nat → Prop) (Q : Post) (QP : PPost) (s : St) (h : AH) : Prop := F5.t31 s h (F5.k21 W Q QP) (F5.k30 W Q QP)
theorem F5.k31_a (C0 C1 : KT) : aw Try.prog 198 W F5.pl (Code.at F5.code [1, 1, 1, 1, 1, 1, 1, 1, 1, 1, 1, 0, 0]) (thenQ (C1) (thenQ (C0) (Q))) QP s h = F5.t31 s h C0 C1 := by kernel_rfl
theorem F5.k31_ok : aw Try.prog 198 W F5.pl (Code.at F5.code [1, 1, 1, 1, 1, 1, 1, 1, 1, 1, 1, 0]) (thenQ (F5.k21 W Q QP) (Q)) QP s h = F5.k31 W Q QP s h := nd_seq (a := (Code.at F5.code [1, 1, 1, 1, 1, 1, 1, 1, 1, 1, 1, 0, 0])) (b := (Code.at F5.code [1, 1, 1, 1, 1, 1, 1, 1, 1, 1, 1, 0, 1])) (by kernel_rfl) (F5.o18 W Q QP) (F5.k31_a W Q QP s h (F5.k21 W Q QP) (F5.k30 W Q QP))
theorem F5.o19 : aw Try.prog 198 W F5.pl (Code.at F5.code [1, 1, 1, 1, 1, 1, 1, 1, 1, 1, 1]) (Q) QP s h = F5.k31 W Q QP s h := nd_seq (a := (Code.at F5.code [1, 1, 1, 1, 1, 1, 1, 1, 1, 1, 1, 0])) (b := (Code.at F5.code [1, 1, 1, 1, 1, 1, 1, 1, 1, 1, 1, 1])) (by kernel_rfl) (F5.k21_ok W Q QP) (F5.k31_ok W Q QP s h)
def F5.t32 (s : St) (h : AH) (C0 : KT) : Prop :=
  aIf (s.tm 106) (
  pIxA (some (6, none)) (s.tm 5) (s.tm 11) fun t65 =>
  pFld (some 5) t65 fun t66 =>
  lLd (some false) (some 1) t66 h fun t67 _ =>
  C0 ⟨puts s.tm [(107, (s.tm 5)), (108, (s.tm 11)), (109, t65), (110, t66), (111, t67), (12, t67)], s.ds⟩ h) (
  C0 s h)
def F5.k32 (W : Nat → Prop) (Q : Post) (QP : PPost) (s : St) (h : AH) : Prop := F5.t32 s h (F5.k31 W Q QP)
theorem F5.k32_a (C0 : KT) : aIf (aev s (.tmp 106)) (aw Try.prog 198 W F5.pl (Code.at F5.code [1, 1, 1, 1, 1, 1, 1, 1, 1, 1, 0, 1, 0]) (thenQ (C0) (Q)) QP s h) (aw Try.prog 198 W F5.pl (Code.at F5.code [1, 1, 1, 1, 1, 1, 1, 1, 1, 1, 0, 1, 1]) (thenQ (C0) (Q)) QP s h) = F5.t32 s h C0 := by kernel_rfl
theorem F5.k32_ok : aw Try.prog 198 W F5.pl (Code.at F5.code [1, 1, 1, 1, 1, 1, 1, 1, 1, 1, 0, 1]) (thenQ (F5.k31 W Q QP) (Q)) QP s h = F5.k32 W Q QP s h := nd_cond (a := (Code.at F5.code [1, 1, 1, 1, 1, 1, 1, 1, 1, 1, 0, 1, 0])) (b := (Code.at F5.code [1, 1, 1, 1, 1, 1, 1, 1, 1, 1, 0, 1, 1])) (by kernel_rfl) rfl rfl (F5.k32_a W Q QP s h (F5.k31 W Q QP))
def F5.t33 (s : St) (h : AH) (C0 C1 : KT) : Prop :=
  (strArg (s.tm 5) = false) ∧ pLen (s.tm 5) fun t69 =>
  pBin Try.prog .lss 3 false (s.tm 11) t69 fun t70 =>
  C1 ⟨puts s.tm [(103, (s.tm 11)), (104, (s.tm 5)), (105, t69), (106, t70)], s.ds⟩ h
def F5.k33 (W : Nat → Prop) (Q : Post) (QP : PPost) (s : St) (h : AH) : Prop := F5.t33 s h (F5.k31 W Q QP) (F5.k32 W Q QP)
theorem F5.k33_a (C0 C1 : KT) : aw Try.prog 198 W F5.pl (Code.at F5.code [1, 1, 1, 1, 1, 1, 1, 1, 1, 1, 0, 0]) (thenQ (C1) (thenQ (C0) (Q))) QP s h = F5.t33 s h C0 C1 := by kernel_rfl
theorem F5.k33_ok : aw Try.prog 198 W F5.pl (Code.at F5.code [1, 1, 1, 1, 1, 1, 1, 1, 1, 1, 0]) (thenQ (F5.k31 W Q QP) (Q)) QP s h = F5.k33 W Q QP s h := nd_seq (a := (Code.at F5.code [1, 1, 1, 1, 1, 1, 1, 1, 1, 1, 0, 0])) (b := (Code.at F5.code [1, 1, 1, 1, 1, 1, 1, 1, 1, 1, 0, 1])) (by kernel_rfl) (F5.k32_ok W Q QP) (F5.k33_a W Q QP s h (F5.k31 W Q QP) (F5.k32 W Q QP))
theorem F5.o20 : aw Try.prog 198 W F5.pl (Code.at F5.code [1, 1, 1, 1, 1, 1, 1, 1, 1, 1]) (Q) QP s h = F5.k33 W Q QP s h := nd_seq (a := (Code.at F5.code [1, 1, 1, 1, 1, 1, 1, 1, 1, 1, 0])) (b := (Code.at F5.code [1, 1, 1, 1, 1, 1, 1, 1, 1, 1, 1])) (by kernel_rfl) (F5.o19 W Q QP) (F5.k33_ok W Q QP s h)
def F5.t34 (s : St) (h : AH) (C0 : KT) : Prop :=
  (strArg (s.tm 0) = true) ∧ pLen (s.tm 0) fun t71 =>
  C0 ⟨puts s.tm [(101, (s.tm 0)), (102, t71), (12, t71)], s.ds⟩ h
def F5.k34 (W : Nat → Prop) (Q : Post) (QP : PPost) (s : St) (h : AH) : Prop := F5.t34 s h (F5.k33 W Q QP)
theorem F5.k34_a (C0 : KT) : aw Try.prog 198 W F5.pl (Code.at F5.code [1, 1, 1, 1, 1, 1, 1, 1, 1, 0]) (thenQ (C0) (Q)) QP s h = F5.t34 s h C0 := by kernel_rfl
theorem F5.k34_ok : aw Try.prog 198 W F5.pl (Code.at F5.code [1, 1, 1, 1, 1, 1, 1, 1, 1]) (Q) QP s h = F5.k34 W Q QP s h := nd_seq (a := (Code.at F5.code [1, 1, 1, 1, 1, 1, 1, 1, 1, 0])) (b := (Code.at F5.code [1, 1, 1, 1, 1, 1, 1, 1, 1, 1])) (by kernel_rfl) (F5.o20 W Q QP) (F5.k34_a W Q QP s h (F5.k33 W Q QP))
def F5.t35 (s : St) (h : AH) (C0 : KT) : Prop :=
  pBin Try.prog .add 3 true (s.tm 10) (.sc (.int .i64 1)) fun t72 =>
  pIxA (some (6, none)) (s.tm 5) (s.tm 10) fun t73 =>
  pFld (some 4) t73 fun t74 =>
  lLd (some false) (some 1) t74 h fun t75 _ =>
  pBin Try.prog .add 3 false t72 t75 fun t77 =>
  C0 ⟨puts s.tm [(93, (s.tm 10)), (94, t72), (95, (s.tm 5)), (96, (s.tm 10)), (97, t73), (98, t74), (99, t75), (100, t77), (11, t77)], s.ds⟩ h
def F5.k35 (W : Nat → Prop) (Q : Post) (QP : PPost) (s : St) (h : AH) : Prop := F5.t35 s h (F5.k34 W Q QP)
theorem F5.k35_a (C0 : KT) : aw Try.prog 198 W F5.pl (Code.at F5.code [1, 1, 1, 1, 1, 1, 1, 1, 0]) (thenQ (C0) (Q)) QP s h = F5.t35 s h C0 := by kernel_rfl
theorem F5.k35_ok : aw Try.prog 198 W F5.pl (Code.at F5.code [1, 1, 1, 1, 1, 1, 1, 1]) (Q) QP s h = F5.k35 W Q QP s h := nd_seq (a := (Code.at F5.code [1, 1, 1, 1, 1, 1, 1, 1, 0])) (b := (Code.at F5.code [1, 1, 1, 1, 1, 1, 1, 1, 1])) (by kernel_rfl) (F5.k34_ok W Q QP) (F5.k35_a W Q QP s h (F5.k34 W Q QP))
def F5.t36 (s : St) (h : AH) (C0 : KT) : Prop :=
  (strArg (s.tm 5) = false) ∧ pLen (s.tm 5) fun t78 =>
  pBin Try.prog .rem 3 false (s.tm 10) t78 fun t79 =>
  C0 ⟨puts s.tm [(89, (s.tm 10)), (90, (s.tm 5)), (91, t78), (92, t79), (10, t79)], s.ds⟩ h
def F5.k36 (W : Nat → Prop) (Q : Post) (QP : PPost) (s : St) (h : AH) : Prop := F5.t36 s h (F5.k35 W Q QP)
theorem F5.k36_a (C0 : KT) : aw Try.prog 198 W F5.pl (Code.at F5.code [1, 1, 1, 1, 1, 1, 1, 0]) (thenQ (C0) (Q)) QP s h = F5.t36 s h C0 := by kernel_rfl
theorem F5.k36_ok : aw Try.prog 198 W F5.pl (Code.at F5.code [1, 1, 1, 1, 1, 1, 1]) (Q) QP s h = F5.k36 W Q QP s h := nd_seq (a := (Code.at F5.code [1, 1, 1, 1, 1, 1, 1, 0])) (b := (Code.at F5.code [1, 1, 1, 1, 1, 1, 1, 1])) (by kernel_rfl) (F5.k35_ok W Q QP) (F5.k36_a W Q QP s h (F5.k35 W Q QP))
def F5.t37 (s : St) (h : AH) (C0 : KT) : Prop :=
  aIf (s.tm 85) (
  pBin Try.prog .add 3 true (s.tm 10) (.sc (.int .i64 1)) fun t80 =>
  pUn .neg t80 fun t81 =>
  C0 ⟨puts s.tm [(86, (s.tm 10)), (87, t80), (88, t81), (10, t81)], s.ds⟩ h) (
  C0 s h)
def F5.k37 (W : Nat → Prop) (Q : Post) (QP : PPost) (s : St) (h : AH) : Prop := F5.t37 s h (F5.k36 W Q QP)
theorem F5.k37_a (C0 : KT) : aIf (aev s (.tmp 85)) (aw Try.prog 198 W F5.pl (Code.at F5.code [1, 1, 1, 1, 1, 1, 0, 1, 0]) (thenQ (C0) (Q)) QP s h) (aw Try.prog 198 W F5.pl (Code.at F5.code [1, 1, 1, 1, 1, 1, 0, 1, 1]) (thenQ (C0) (Q)) QP s h) = F5.t37 s h C0 := by kernel_rfl
theorem F5.k37_ok : aw Try.prog 198 W F5.pl (Code.at F5.code [1, 1, 1, 1, 1, 1, 0, 1]) (thenQ (F5.k36 W Q QP) (Q)) QP s h = F5.k37 W Q QP s h := nd_cond (a := (Code.at F5.code [1, 1, 1, 1, 1, 1, 0, 1, 0])) (b := (Code.at F5.code [1, 1, 1, 1, 1, 1, 0, 1, 1])) (by kernel_rfl) rfl rfl (F5.k37_a W Q QP s h (F5.k36 W Q QP))
def F5.t38 (s : St) (h : AH) (C0 C1 : KT) : Prop :=
  pBin Try.prog .lss 3 true (s.tm 10) (.sc (.int .i64 0)) fun t82 =>
  C1 ⟨puts s.tm [(84, (s.tm 10)), (85, t82)], s.ds⟩ h
def F5.k38 (W : Nat → Prop) (Q : Post) (QP : PPost) (s : St) (h : AH) : Prop := F5.t38 s h (F5.k36 W Q QP) (F5.k37 W Q QP)
theorem F5.k38_a (C0 C1 : KT) : aw Try.prog 198 W F5.pl (Code.at F5.code [1, 1, 1, 1, 1, 1, 0, 0]) (thenQ (C1) (thenQ (C0) (Q))) QP s h = F5.t38 s h C0 C1 := by kernel_rfl
theorem F5.k38_ok : aw Try.prog 198 W F5.pl (Code.at F5.code [1, 1, 1, 1, 1, 1, 0]) (thenQ (F5.k36 W Q QP) (Q)) QP s h = F5.k38 W Q QP s h := nd_seq (a := (Code.at F5.code [1, 1, 1, 1, 1, 1, 0, 0])) (b := (Code.at F5.code [1, 1, 1, 1, 1, 1, 0, 1])) (by kernel_rfl) (F5.k37_ok W Q QP) (F5.k38_a W Q QP s h (F5.k36 W Q QP) (F5.k37 W Q QP))
theorem F5.o21 : aw Try.prog 198 W F5.pl (Code.at F5.code [1, 1, 1, 1, 1, 1]) (Q) QP s h = F5.k38 W Q QP s h := nd_seq (a := (Code.at F5.code [1, 1, 1, 1, 1, 1, 0])) (b := (Code.at F5.code [1, 1, 1, 1, 1, 1, 1])) (by kernel_rfl) (F5.k36_ok W Q QP) (F5.k38_ok W Q QP s h)
def F5.t39 (s : St) (h : AH) (C0 : KT) : Prop :=
  C0 ⟨puts s.tm [(83, (s.tm 1)), (10, (s.tm 1))], s.ds⟩ h
def F5.k39 (W : Nat → Prop) (Q : Post) (QP : PPost) (s : St) (h : AH) : Prop := F5.t39 s h (F5.k38 W Q QP)
theorem F5.k39_a (C0 : KT) : aw Try.prog 198 W F5.pl (Code.at F5.code [1, 1, 1, 1, 1, 0]) (thenQ (C0) (Q)) QP s h = F5.t39 s h C0 := by kernel_rfl
theorem F5.k39_ok : aw Try.prog 198 W F5.pl (Code.at F5.code [1, 1, 1, 1, 1]) (Q) QP s h = F5.k39 W Q QP s h := nd_seq (a := (Code.at F5.code [1, 1, 1, 1, 1, 0])) (b := (Code.at F5.code [1, 1, 1, 1, 1, 1])) (by kernel_rfl) (F5.o21 W Q QP) (F5.k39_a W Q QP s h (F5.k38 W Q QP))
def F5.t40 (Q : Post) (s : St) (h : AH) : Prop :=
  pBin Try.prog .add 3 true (s.tm 37) (.sc (.int .i64 1)) fun t83 =>
  Q .normal ⟨puts s.tm [(82, t83), (37, t83)], s.ds⟩ h
def F5.k40 (W : Nat → Prop) (Q : Post) (QP : PPost) (s : St) (h : AH) : Prop := F5.t40 Q s h
theorem F5.k40_a : aw Try.prog 198 W F5.pl (Code.at F5.code [1, 1, 1, 1, 0, 1, 0, 0, 1, 1, 1]) (Q) QP s h = F5.t40 Q s h := by kernel_rfl
theorem F5.k40_ok : aw Try.prog 198 W F5.pl (Code.at F5.code [1, 1, 1, 1, 0, 1, 0, 0, 1, 1, 1]) (Q) QP s h = F5.k40 W Q QP s h := (F5.k40_a W Q QP s h)
def F5.t41 (Q : Post) (s : St) (h : AH) (C0 : KT) : Prop :=
  Q .ret ⟨puts s.tm [(4, (.sc (.bool false)))], s.ds⟩ h
def F5.k41 (W : Nat → Prop) (Q : Post) (QP : PPost) (s : St) (h : AH) : Prop := F5.t41 Q s h (F5.k40 W Q QP)
theorem F5.k41_a (C0 : KT) : aw Try.prog 198 W F5.pl (Code.at F5.code [1, 1, 1, 1, 0, 1, 0, 0, 1, 1, 0, 0, 1, 1, 0, 0]) (thenQ (aw Try.prog 198 W F5.pl (Code.at F5.code [1, 1, 1, 1, 0, 1, 0, 0, 1, 1, 0, 0, 1, 1, 0, 1]) (blockQ 1 (thenQ (C0) (Q))) QP) (blockQ 1 (thenQ (C0) (Q)))) QP s h = F5.t41 Q s h C0 := by kernel_rfl
theorem F5.k41_ok : aw Try.prog 198 W F5.pl (Code.at F5.code [1, 1, 1, 1, 0, 1, 0, 0, 1, 1, 0, 0, 1, 1, 0]) (blockQ 1 (thenQ (F5.k40 W Q QP) (Q))) QP s h = F5.k41 W Q QP s h := nd_seq (a := (Code.at F5.code [1, 1, 1, 1, 0, 1, 0, 0, 1, 1, 0, 0, 1, 1, 0, 0])) (b := (Code.at F5.code [1, 1, 1, 1, 0, 1, 0, 0, 1, 1, 0, 0, 1, 1, 0, 1])) (by kernel_rfl) (fun _ _ => rfl) (F5.k41_a W Q QP s h (F5.k40 W Q QP))
def F5.t42 (s : St) (h : AH) (C0 C1 : KT) : Prop :=
  aIf (s.tm 81) (
  C1 s h) (
  C0 s h)
def F5.k42 (W : Nat → Prop) (Q : Post) (QP : PPost) (s : St) (h : AH) : Prop := F5.t42 s h (F5.k40 W Q QP) (F5.k41 W Q QP)
theorem F5.k42_a (C0 C1 : KT) : aIf (aev s (.tmp 81)) (C1 s h) (aw Try.prog 198 W F5.pl (Code.at F5.code [1, 1, 1, 1, 0, 1, 0, 0, 1, 1, 0, 0, 1, 1, 1]) (blockQ 1 (thenQ (C0) (Q))) QP s h) = F5.t42 s h C0 C1 := by kernel_rfl
theorem F5.k42_ok : aw Try.prog 198 W F5.pl (Code.at F5.code [1, 1, 1, 1, 0, 1, 0, 0, 1, 1, 0, 0, 1, 1]) (blockQ 1 (thenQ (F5.k40 W Q QP) (Q))) QP s h = F5.k42 W Q QP s h := nd_cond (a := (Code.at F5.code [1, 1, 1, 1, 0, 1, 0, 0, 1, 1, 0, 0, 1, 1, 0])) (b := (Code.at F5.code [1, 1, 1, 1, 0, 1, 0, 0, 1, 1, 0, 0, 1, 1, 1])) (by kernel_rfl) (F5.k41_ok W Q QP s h) rfl (F5.k42_a W Q QP s h (F5.k40 W Q QP) (F5.k41 W Q QP))
def F5.t43 (s : St) (h : AH) (C0 C1 : KT) : Prop :=
  pPick (s.tm 67) (.sc (.bool true)) (s.tm 80) fun t84 =>
  C1 ⟨puts s.tm [(81, t84)], s.ds⟩ h
def F5.k43 (W : Nat → Prop) (Q : Post) (QP : PPost) (s : St) (h : AH) : Prop := F5.t43 s h (F5.k40 W Q QP) (F5.k42 W Q QP)
theorem F5.k43_a (C0 C1 : KT) : evI Try.prog 198 (fun _ => W) nobody QP (regOps (Code.at F5.code [1, 1, 1, 1, 0, 1, 0, 0, 1, 1, 0, 0, 1, 0])) (isAt F5.g4 10) ((thenQ (C1) (blockQ 1 (thenQ (C0) (Q)))) .normal) s h = F5.t43 s h C0 C1 := by kernel_rfl
theorem F5.k43_ok : evG Try.prog 198 (fun _ => W) nobody QP (regOps (Code.at F5.code [1, 1, 1, 1, 0, 1, 0, 0, 1, 1, 0, 0, 1, 0])) (F5.g4.drop 10) ((thenQ (F5.k42 W Q QP) (blockQ 1 (thenQ (F5.k40 W Q QP) (Q)))) .normal) s h = F5.k43 W Q QP s h := nd_g (is := isAt F5.g4 10) (rest := F5.g4.drop 11) (by kernel_rfl) (fun _ _ => rfl) (F5.k43_a W Q QP s h (F5.k40 W Q QP) (F5.k42 W Q QP))
def F5.t44 (s : St) (h : AH) (C0 : KT) : Prop :=
  aIg false (s.tm 67) (
  pPick (s.tm 70) (s.tm 79) (.sc (.bool false)) fun t85 =>
  C0 ⟨puts s.tm [(80, t85)], s.ds⟩ h) (
  C0 ⟨puts s.tm [(80, noA)], s.ds⟩ h)
def F5.k44 (W : Nat → Prop) (Q : Post) (QP : PPost) (s : St) (h : AH) : Prop := F5.t44 s h (F5.k43 W Q QP)
theorem F5.k44_a (C0 : KT) : aIg false (s.tm 67) (evI Try.prog 198 (fun _ => W) nobody QP (regOps (Code.at F5.code [1, 1, 1, 1, 0, 1, 0, 0, 1, 1, 0, 0, 1, 0])) (isAt F5.g4 9) (C0) s h) ((C0) (skI 198 (regOps (Code.at F5.code [1, 1, 1, 1, 0, 1, 0, 0, 1, 1, 0, 0, 1, 0])) (isAt F5.g4 9) s) h) = F5.t44 s h C0 := by kernel_rfl
theorem F5.k44_ok : evG Try.prog 198 (fun _ => W) nobody QP (regOps (Code.at F5.code [1, 1, 1, 1, 0, 1, 0, 0, 1, 1, 0, 0, 1, 0])) (F5.g4.drop 9) ((thenQ (F5.k42 W Q QP) (blockQ 1 (thenQ (F5.k40 W Q QP) (Q)))) .normal) s h = F5.k44 W Q QP s h := nd_gw (j := 25) (is := isAt F5.g4 9) (rest := F5.g4.drop 10) (by kernel_rfl) (d := 67) (by kernel_rfl) (F5.k43_ok W Q QP) (F5.k44_a W QP s h (F5.k43 W Q QP))
def F5.t45 (s : St) (h : AH) (C0 : KT) : Prop :=
  aIg true (s.tm 70) (
  pFld (some 5) (s.tm 9) fun t86 =>
  lLd (some false) (some 1) t86 h fun t87 _ =>
  pBin Try.prog .sub 3 true (s.tm 8) (.sc (.int .i64 1)) fun t89 =>
  pIxA (some (6, none)) (s.tm 5) t89 fun t90 =>
  pFld (some 5) t90 fun t91 =>
  lLd (some false) (some 1) t91 h fun t92 _ =>
  pBin Try.prog .leq 3 false t87 t92 fun t94 =>
  C0 ⟨puts s.tm [(71, t86), (72, t87), (73, (s.tm 5)), (74, (s.tm 8)), (75, t89), (76, t90), (77, t91), (78, t92), (79, t94)], s.ds⟩ h) (
  C0 ⟨puts s.tm [(71, noA), (72, noA), (73, noA), (74, noA), (75, noA), (76, noA), (77, noA), (78, noA), (79, noA)], s.ds⟩ h)
def F5.k45 (W : Nat → Prop) (Q : Post) (QP : PPost) (s : St) (h : AH) : Prop := F5.t45 s h (F5.k44 W Q QP)
theorem F5.k45_a (C0 : KT) : aIg true (s.tm 70) (evI Try.prog 198 (fun _ => W) nobody QP (regOps (Code.at F5.code [1, 1, 1, 1, 0, 1, 0, 0, 1, 1, 0, 0, 1, 0])) (isAt F5.g4 8) (C0) s h) ((C0) (skI 198 (regOps (Code.at F5.code [1, 1, 1, 1, 0, 1, 0, 0, 1, 1, 0, 0, 1, 0])) (isAt F5.g4 8) s) h) = F5.t45 s h C0 := by kernel_rfl
theorem F5.k45_ok : evG Try.prog 198 (fun _ => W) nobody QP (regOps (Code.at F5.code [1, 1, 1, 1, 0, 1, 0, 0, 1, 1, 0, 0, 1, 0])) (F5.g4.drop 8) ((thenQ (F5.k42 W Q QP) (blockQ 1 (thenQ (F5.k40 W Q QP) (Q)))) .normal) s h = F5.k45 W Q QP s h := nd_gw (j := 28) (is := isAt F5.g4 8) (rest := F5.g4.drop 9) (by kernel_rfl) (d := 70) (by kernel_rfl) (F5.k44_ok W Q QP) (F5.k45_a W QP s h (F5.k44 W Q QP))
def F5.t46 (s : St) (h : AH) (C0 : KT) : Prop :=
  aIg false (s.tm 67) (
  pBin Try.prog .gtr 3 true (s.tm 8) (.sc (.int .i64 0)) fun t95 =>
  C0 ⟨puts s.tm [(68, (s.tm 8)), (69, t95), (70, t95)], s.ds⟩ h) (
  C0 ⟨puts s.tm [(68, noA), (69, noA), (70, noA)], s.ds⟩ h)
def F5.k46 (W : Nat → Prop) (Q : Post) (QP : PPost) (s : St) (h : AH) : Prop := F5.t46 s h (F5.k45 W Q QP)
theorem F5.k46_a (C0 : KT) : aIg false (s.tm 67) (evI Try.prog 198 (fun _ => W) nobody QP (regOps (Code.at F5.code [1, 1, 1, 1, 0, 1, 0, 0, 1, 1, 0, 0, 1, 0])) (isAt F5.g4 7) (C0) s h) ((C0) (skI 198 (regOps (Code.at F5.code [1, 1, 1, 1, 0, 1, 0, 0, 1, 1, 0, 0, 1, 0])) (isAt F5.g4 7) s) h) = F5.t46 s h C0 := by kernel_rfl
theorem F5.k46_ok : evG Try.prog 198 (fun _ => W) nobody QP (regOps (Code.at F5.code [1, 1, 1, 1, 0, 1, 0, 0, 1, 1, 0, 0, 1, 0])) (F5.g4.drop 7) ((thenQ (F5.k42 W Q QP) (blockQ 1 (thenQ (F5.k40 W Q QP) (Q)))) .normal) s h = F5.k46 W Q QP s h := nd_gw (j := 25) (is := isAt F5.g4 7) (rest := F5.g4.drop 8) (by kernel_rfl) (d := 67) (by kernel_rfl) (F5.k45_ok W Q QP) (F5.k46_a W QP s h (F5.k45 W Q QP))
def F5.t47 (s : St) (h : AH) (C0 : KT) : Prop :=
  pPick (s.tm 60) (.sc (.bool true)) (s.tm 65) fun t96 =>
  C0 ⟨puts s.tm [(66, t96), (67, t96)], s.ds⟩ h
def F5.k47 (W : Nat → Prop) (Q : Post) (QP : PPost) (s : St) (h : AH) : Prop := F5.t47 s h (F5.k46 W Q QP)
theorem F5.k47_a (C0 : KT) : evI Try.prog 198 (fun _ => W) nobody QP (regOps (Code.at F5.code [1, 1, 1, 1, 0, 1, 0, 0, 1, 1, 0, 0, 1, 0])) (isAt F5.g4 6) (C0) s h = F5.t47 s h C0 := by kernel_rfl
theorem F5.k47_ok : evG Try.prog 198 (fun _ => W) nobody QP (regOps (Code.at F5.code [1, 1, 1, 1, 0, 1, 0, 0, 1, 1, 0, 0, 1, 0])) (F5.g4.drop 6) ((thenQ (F5.k42 W Q QP) (blockQ 1 (thenQ (F5.k40 W Q QP) (Q)))) .normal) s h = F5.k47 W Q QP s h := nd_g (is := isAt F5.g4 6) (rest := F5.g4.drop 7) (by kernel_rfl) (F5.k46_ok W Q QP) (F5.k47_a W QP s h (F5.k46 W Q QP))
def F5.t48 (s : St) (h : AH) (C0 : KT) : Prop :=
  aIg false (s.tm 60) (
  pFld (some 5) (s.tm 9) fun t97 =>
  lLd (some false) (some 1) t97 h fun t98 _ =>
  (strArg (s.tm 0) = true) ∧ pLen (s.tm 0) fun t100 =>
  pBin Try.prog .geq 3 false t98 t100 fun t101 =>
  C0 ⟨puts s.tm [(61, t97), (62, t98), (63, (s.tm 0)), (64, t100), (65, t101)], s.ds⟩ h) (
  C0 ⟨puts s.tm [(61, noA), (62, noA), (63, noA), (64, noA), (65, noA)], s.ds⟩ h)
def F5.k48 (W : Nat → Prop) (Q : Post) (QP : PPost) (s : St) (h : AH) : Prop := F5.t48 s h (F5.k47 W Q QP)
theorem F5.k48_a (C0 : KT) : aIg false (s.tm 60) (evI Try.prog 198 (fun _ => W) nobody QP (regOps (Code.at F5.code [1, 1, 1, 1, 0, 1, 0, 0, 1, 1, 0, 0, 1, 0])) (isAt F5.g4 5) (C0) s h) ((C0) (skI 198 (regOps (Code.at F5.code [1, 1, 1, 1, 0, 1, 0, 0, 1, 1, 0, 0, 1, 0])) (isAt F5.g4 5) s) h) = F5.t48 s h C0 := by kernel_rfl
theorem F5.k48_ok : evG Try.prog 198 (fun _ => W) nobody QP (regOps (Code.at F5.code [1, 1, 1, 1, 0, 1, 0, 0, 1, 1, 0, 0, 1, 0])) (F5.g4.drop 5) ((thenQ (F5.k42 W Q QP) (blockQ 1 (thenQ (F5.k40 W Q QP) (Q)))) .normal) s h = F5.k48 W Q QP s h := nd_gw (j := 18) (is := isAt F5.g4 5) (rest := F5.g4.drop 6) (by kernel_rfl) (d := 60) (by kernel_rfl) (F5.k47_ok W Q QP) (F5.k48_a W QP s h (F5.k47 W Q QP))
def F5.t49 (s : St) (h : AH) (C0 : KT) : Prop :=
  pPick (s.tm 55) (.sc (.bool true)) (s.tm 58) fun t102 =>
  C0 ⟨puts s.tm [(59, t102), (60, t102)], s.ds⟩ h
def F5.k49 (W : Nat → Prop) (Q : Post) (QP : PPost) (s : St) (h : AH) : Prop := F5.t49 s h (F5.k48 W Q QP)
theorem F5.k49_a (C0 : KT) : evI Try.prog 198 (fun _ => W) nobody QP (regOps (Code.at F5.code [1, 1, 1, 1, 0, 1, 0, 0, 1, 1, 0, 0, 1, 0])) (isAt F5.g4 4) (C0) s h = F5.t49 s h C0 := by kernel_rfl
theorem F5.k49_ok : evG Try.prog 198 (fun _ => W) nobody QP (regOps (Code.at F5.code [1, 1, 1, 1, 0, 1, 0, 0, 1, 1, 0, 0, 1, 0])) (F5.g4.drop 4) ((thenQ (F5.k42 W Q QP) (blockQ 1 (thenQ (F5.k40 W Q QP) (Q)))) .normal) s h = F5.k49 W Q QP s h := nd_g (is := isAt F5.g4 4) (rest := F5.g4.drop 5) (by kernel_rfl) (F5.k48_ok W Q QP) (F5.k49_a W QP s h (F5.k48 W Q QP))
def F5.t50 (s : St) (h : AH) (C0 : KT) : Prop :=
  aIg false (s.tm 55) (
  pFld (some 5) (s.tm 9) fun t103 =>
  lLd (some false) (some 1) t103 h fun t104 _ =>
  pBin Try.prog .lss 3 true t104 (.sc (.int .i64 0)) fun t106 =>
  C0 ⟨puts s.tm [(56, t103), (57, t104), (58, t106)], s.ds⟩ h) (
  C0 ⟨puts s.tm [(56, noA), (57, noA), (58, noA)], s.ds⟩ h)
def F5.k50 (W : Nat → Prop) (Q : Post) (QP : PPost) (s : St) (h : AH) : Prop := F5.t50 s h (F5.k49 W Q QP)
theorem F5.k50_a (C0 : KT) : aIg false (s.tm 55) (evI Try.prog 198 (fun _ => W) nobody QP (regOps (Code.at F5.code [1, 1, 1, 1, 0, 1, 0, 0, 1, 1, 0, 0, 1, 0])) (isAt F5.g4 3) (C0) s h) ((C0) (skI 198 (regOps (Code.at F5.code [1, 1, 1, 1, 0, 1, 0, 0, 1, 1, 0, 0, 1, 0])) (isAt F5.g4 3) s) h) = F5.t50 s h C0 := by kernel_rfl
theorem F5.k50_ok : evG Try.prog 198 (fun _ => W) nobody QP (regOps (Code.at F5.code [1, 1, 1, 1, 0, 1, 0, 0, 1, 1, 0, 0, 1, 0])) (F5.g4.drop 3) ((thenQ (F5.k42 W Q QP) (blockQ 1 (thenQ (F5.k40 W Q QP) (Q)))) .normal) s h = F5.k50 W Q QP s h := nd_gw (j := 13) (is := isAt F5.g4 3) (rest := F5.g4.drop 4) (by kernel_rfl) (d := 55) (by kernel_rfl) (F5.k49_ok W Q QP) (F5.k50_a W QP s h (F5.k49 W Q QP))
def F5.t51 (s : St) (h : AH) (C0 : KT) : Prop :=
  pPick (s.tm 45) (.sc (.bool true)) (s.tm 53) fun t107 =>
  C0 ⟨puts s.tm [(54, t107), (55, t107)], s.ds⟩ h
def F5.k51 (W : Nat → Prop) (Q : Post) (QP : PPost) (s : St) (h : AH) : Prop := F5.t51 s h (F5.k50 W Q QP)
theorem F5.k51_a (C0 : KT) : evI Try.prog 198 (fun _ => W) nobody QP (regOps (Code.at F5.code [1, 1, 1, 1, 0, 1, 0, 0, 1, 1, 0, 0, 1, 0])) (isAt F5.g4 2) (C0) s h = F5.t51 s h C0 := by kernel_rfl
theorem F5.k51_ok : evG Try.prog 198 (fun _ => W) nobody QP (regOps (Code.at F5.code [1, 1, 1, 1, 0, 1, 0, 0, 1, 1, 0, 0, 1, 0])) (F5.g4.drop 2) ((thenQ (F5.k42 W Q QP) (blockQ 1 (thenQ (F5.k40 W Q QP) (Q)))) .normal) s h = F5.k51 W Q QP s h := nd_g (is := isAt F5.g4 2) (rest := F5.g4.drop 3) (by kernel_rfl) (F5.k50_ok W Q QP) (F5.k51_a W QP s h (F5.k50 W Q QP))
def F5.t52 (s : St) (h : AH) (C0 : KT) : Prop :=
  aIg false (s.tm 45) (
  pFld (some 4) (s.tm 9) fun t108 =>
  lLd (some false) (some 1) t108 h fun t109 _ =>
  (strArg (s.tm 5) = false) ∧ pLen (s.tm 5) fun t111 =>
  pBin Try.prog .sub 3 false t111 (s.tm 8) fun t112 =>
  pBin Try.prog .sub 3 true t112 (.sc (.int .i64 1)) fun t113 =>
  pBin Try.prog .gtr 3 false t109 t113 fun t114 =>
  C0 ⟨puts s.tm [(46, t108), (47, t109), (48, (s.tm 5)), (49, t111), (50, (s.tm 8)), (51, t112), (52, t113), (53, t114)], s.ds⟩ h) (
  C0 ⟨puts s.tm [(46, noA), (47, noA), (48, noA), (49, noA), (50, noA), (51, noA), (52, noA), (53, noA)], s.ds⟩ h)
def F5.k52 (W : Nat → Prop) (Q : Post) (QP : PPost) (s : St) (h : AH) : Prop := F5.t52 s h (F5.k51 W Q QP)
theorem F5.k52_a (C0 : KT) : aIg false (s.tm 45) (evI Try.prog 198 (fun _ => W) nobody QP (regOps (Code.at F5.code [1, 1, 1, 1, 0, 1, 0, 0, 1, 1, 0, 0, 1, 0])) (isAt F5.g4 1) (C0) s h) ((C0) (skI 198 (regOps (Code.at F5.code [1, 1, 1, 1, 0, 1, 0, 0, 1, 1, 0, 0, 1, 0])) (isAt F5.g4 1) s) h) = F5.t52 s h C0 := by kernel_rfl
theorem F5.k52_ok : evG Try.prog 198 (fun _ => W) nobody QP (regOps (Code.at F5.code [1, 1, 1, 1, 0, 1, 0, 0, 1, 1, 0, 0, 1, 0])) (F5.g4.drop 1) ((thenQ (F5.k42 W Q QP) (blockQ 1 (thenQ (F5.k40 W Q QP) (Q)))) .normal) s h = F5.k52 W Q QP s h := nd_gw (j := 3) (is := isAt F5.g4 1) (rest := F5.g4.drop 2) (by kernel_rfl) (d := 45) (by kernel_rfl) (F5.k51_ok W Q QP) (F5.k52_a W QP s h (F5.k51 W Q QP))
def F5.t53 (s : St) (h : AH) (C0 : KT) : Prop :=
  pFld (some 4) (s.tm 9) fun t115 =>
  lLd (some false) (some 1) t115 h fun t116 _ =>
  pBin Try.prog .lss 3 true t116 (.sc (.int .i64 0)) fun t118 =>
  C0 ⟨puts s.tm [(42, t115), (43, t116), (44, t118), (45, t118)], s.ds⟩ h
def F5.k53 (W : Nat → Prop) (Q : Post) (QP : PPost) (s : St) (h : AH) : Prop := F5.t53 s h (F5.k52 W Q QP)
theorem F5.k53_a (C0 : KT) : evI Try.prog 198 (fun _ => W) nobody QP (regOps (Code.at F5.code [1, 1, 1, 1, 0, 1, 0, 0, 1, 1, 0, 0, 1, 0])) (isAt F5.g4 0) (C0) s h = F5.t53 s h C0 := by kernel_rfl
theorem F5.k53_ok : evG Try.prog 198 (fun _ => W) nobody QP (regOps (Code.at F5.code [1, 1, 1, 1, 0, 1, 0, 0, 1, 1, 0, 0, 1, 0])) (F5.g4.drop 0) ((thenQ (F5.k42 W Q QP) (blockQ 1 (thenQ (F5.k40 W Q QP) (Q)))) .normal) s h = F5.k53 W Q QP s h := nd_g (is := isAt F5.g4 0) (rest := F5.g4.drop 1) (by kernel_rfl) (F5.k52_ok W Q QP) (F5.k53_a W QP s h (F5.k52 W Q QP))
theorem F5.o22 : aw Try.prog 198 W F5.pl (Code.at F5.code [1, 1, 1, 1, 0, 1, 0, 0, 1, 1, 0, 0, 1, 0]) (thenQ (F5.k42 W Q QP) (blockQ 1 (thenQ (F5.k40 W Q QP) (Q)))) QP s h = F5.k53 W Q QP s h := nd_groups (id := 9) (draw := true) (ops := (regOps (Code.at F5.code [1, 1, 1, 1, 0, 1, 0, 0, 1, 1, 0, 0, 1, 0]))) (gs := F5.g4.drop 0) (by kernel_rfl) (by kernel_rfl) (F5.k53_ok W Q QP s h)
theorem F5.o23 : aw Try.prog 198 W F5.pl (Code.at F5.code [1, 1, 1, 1, 0, 1, 0, 0, 1, 1, 0, 0, 1]) (blockQ 1 (thenQ (F5.k40 W Q QP) (Q))) QP s h = F5.k53 W Q QP s h := nd_seq (a := (Code.at F5.code [1, 1, 1, 1, 0, 1, 0, 0, 1, 1, 0, 0, 1, 0])) (b := (Code.at F5.code [1, 1, 1, 1, 0, 1, 0, 0, 1, 1, 0, 0, 1, 1])) (by kernel_rfl) (F5.k42_ok W Q QP) (F5.o22 W Q QP s h)
def F5.t54 (W : Nat → Prop) (s : St) (h : AH) (C0 C1 : KT) : Prop :=
  pIxA (some (6, none)) (s.tm 35) (s.tm 37) fun t119 =>
  lLd (some true) (some 6) t119 h fun t120 _ =>
  eAlloc (some [.string ⟨#[]⟩, .string ⟨#[]⟩, .slice none 0 0, .int .i64 0, .int .i64 0, .int .i64 0]) 6 36 h fun t122 h123 =>
  eStore (some 6) t122 t120 h123 W fun h124 =>
  C1 ⟨puts s.tm [(39, (s.tm 37)), (40, t119), (41, t120), (9, t122), (8, (s.tm 37))], s.ds⟩ h124
def F5.k54 (W : Nat → Prop) (Q : Post) (QP : PPost) (s : St) (h : AH) : Prop := F5.t54 W s h (F5.k40 W Q QP) (F5.k53 W Q QP)
theorem F5.k54_a (C0 C1 : KT) : aw Try.prog 198 W F5.pl (Code.at F5.code [1, 1, 1, 1, 0, 1, 0, 0, 1, 1, 0, 0, 0]) (thenQ (C1) (blockQ 1 (thenQ (C0) (Q)))) QP s h = F5.t54 W s h C0 C1 := by kernel_rfl
theorem F5.k54_ok : aw Try.prog 198 W F5.pl (Code.at F5.code [1, 1, 1, 1, 0, 1, 0, 0, 1, 1, 0, 0]) (blockQ 1 (thenQ (F5.k40 W Q QP) (Q))) QP s h = F5.k54 W Q QP s h := nd_seq (a := (Code.at F5.code [1, 1, 1, 1, 0, 1, 0, 0, 1, 1, 0, 0, 0])) (b := (Code.at F5.code [1, 1, 1, 1, 0, 1, 0, 0, 1, 1, 0, 0, 1])) (by kernel_rfl) (F5.o23 W Q QP) (F5.k54_a W Q QP s h (F5.k40 W Q QP) (F5.k53 W Q QP))
theorem F5.o24 : aw Try.prog 198 W F5.pl (Code.at F5.code [1, 1, 1, 1, 0, 1, 0, 0, 1, 1, 0]) (thenQ (F5.k40 W Q QP) (Q)) QP s h = F5.k54 W Q QP s h := nd_block (a := (Code.at F5.code [1, 1, 1, 1, 0, 1, 0, 0, 1, 1, 0, 0])) (by kernel_rfl) (F5.k54_ok W Q QP s h)
theorem F5.o25 : aw Try.prog 198 W F5.pl (Code.at F5.code [1, 1, 1, 1, 0, 1, 0, 0, 1, 1]) (Q) QP s h = F5.k54 W Q QP s h := nd_seq (a := (Code.at F5.code [1, 1, 1, 1, 0, 1, 0, 0, 1, 1, 0])) (b := (Code.at F5.code [1, 1, 1, 1, 0, 1, 0, 0, 1, 1, 1])) (by kernel_rfl) (F5.k40_ok W Q QP) (F5.o24 W Q QP s h)
def F5.t55 (Q : Post) (s : St) (h : AH) (C0 : KT) : Prop :=
  aIf (s.tm 38) (
  C0 s h) (
  Q (.exit 0) s h)
def F5.k55 (W : Nat → Prop) (Q : Post) (QP : PPost) (s : St) (h : AH) : Prop := F5.t55 Q s h (F5.k54 W Q QP)
theorem F5.k55_a (C0 : KT) : aIf (aev s (.tmp 38)) (aw Try.prog 198 W F5.pl (Code.at F5.code [1, 1, 1, 1, 0, 1, 0, 0, 1, 0, 0]) (thenQ (C0) (Q)) QP s h) (aw Try.prog 198 W F5.pl (Code.at F5.code [1, 1, 1, 1, 0, 1, 0, 0, 1, 0, 1]) (thenQ (C0) (Q)) QP s h) = F5.t55 Q s h C0 := by kernel_rfl
theorem F5.k55_ok : aw Try.prog 198 W F5.pl (Code.at F5.code [1, 1, 1, 1, 0, 1, 0, 0, 1, 0]) (thenQ (F5.k54 W Q QP) (Q)) QP s h = F5.k55 W Q QP s h := nd_cond (a := (Code.at F5.code [1, 1, 1, 1, 0, 1, 0, 0, 1, 0, 0])) (b := (Code.at F5.code [1, 1, 1, 1, 0, 1, 0, 0, 1, 0, 1])) (by kernel_rfl) rfl rfl (F5.k55_a W Q QP s h (F5.k54 W Q QP))
theorem F5.o26 : aw Try.prog 198 W F5.pl (Code.at F5.code [1, 1, 1, 1, 0, 1, 0, 0, 1]) (Q) QP s h = F5.k55 W Q QP s h := nd_seq (a := (Code.at F5.code [1, 1, 1, 1, 0, 1, 0, 0, 1, 0])) (b := (Code.at F5.code [1, 1, 1, 1, 0, 1, 0, 0, 1, 1])) (by kernel_rfl) (F5.o25 W Q QP) (F5.k55_ok W Q QP s h)
def F5.t56 (s : St) (h : AH) (C0 : KT) : Prop :=
  pBin Try.prog .lss 3 false (s.tm 37) (s.tm 36) fun t125 =>
  C0 ⟨puts s.tm [(38, t125)], s.ds⟩ h
def F5.k56 (W : Nat → Prop) (Q : Post) (QP : PPost) (s : St) (h : AH) : Prop := F5.t56 s h (F5.k55 W Q QP)
theorem F5.k56_a (C0 : KT) : aw Try.prog 198 W F5.pl (Code.at F5.code [1, 1, 1, 1, 0, 1, 0, 0, 0]) (thenQ (C0) (Q)) QP s h = F5.t56 s h C0 := by kernel_rfl
theorem F5.k56_ok : aw Try.prog 198 W F5.pl (Code.at F5.code [1, 1, 1, 1, 0, 1, 0, 0]) (Q) QP s h = F5.k56 W Q QP s h := nd_seq (a := (Code.at F5.code [1, 1, 1, 1, 0, 1, 0, 0, 0])) (b := (Code.at F5.code [1, 1, 1, 1, 0, 1, 0, 0, 1])) (by kernel_rfl) (F5.o26 W Q QP) (F5.k56_a W Q QP s h (F5.k55 W Q QP))
noncomputable def F5.c3 : Code := (Code.at F5.code [1, 1, 1, 1, 0, 1, 0, 0])
theorem F5.l3 : aw Try.prog 198 W F5.pl F5.c3 Q QP s h = F5.k56 W Q QP s h := F5.k56_ok W Q QP s h
def F5.k57 (W : Nat → Prop) (Q : Post) (QP : PPost) (s : St) (h : AH) : Prop := aLoop (aw Try.prog 198 W F5.pl F5.c3) (blockQ 0 (thenQ (F5.k39 W Q QP) (Q))) QP s h
theorem F5.k57_ok : aw Try.prog 198 W F5.pl (Code.at F5.code [1, 1, 1, 1, 0, 1, 0]) (blockQ 0 (thenQ (F5.k39 W Q QP) (Q))) QP s h = F5.k57 W Q QP s h := nd_loop (a := F5.c3) (by kernel_rfl)
theorem F5.o27 : aw Try.prog 198 W F5.pl (Code.at F5.code [1, 1, 1, 1, 0, 1]) (thenQ (F5.k39 W Q QP) (Q)) QP s h = F5.k57 W Q QP s h := nd_block (a := (Code.at F5.code [1, 1, 1, 1, 0, 1, 0])) (by kernel_rfl) (F5.k57_ok W Q QP s h)
def F5.t58 (s : St) (h : AH) (C0 C1 : KT) : Prop :=
  (strArg (s.tm 5) = false) ∧ pLen (s.tm 5) fun t126 =>
  C1 ⟨puts s.tm [(35, (s.tm 5)), (36, t126), (37, (.sc (.int .i64 0)))], s.ds⟩ h
def F5.k58 (W : Nat → Prop) (Q : Post) (QP : PPost) (s : St) (h : AH) : Prop := F5.t58 s h (F5.k39 W Q QP) (F5.k57 W Q QP)
theorem F5.k58_a (C0 C1 : KT) : aw Try.prog 198 W F5.pl (Code.at F5.code [1, 1, 1, 1, 0, 0]) (thenQ (C1) (thenQ (C0) (Q))) QP s h = F5.t58 s h C0 C1 := by kernel_rfl
theorem F5.k58_ok : aw Try.prog 198 W F5.pl (Code.at F5.code [1, 1, 1, 1, 0]) (thenQ (F5.k39 W Q QP) (Q)) QP s h = F5.k58 W Q QP s h := nd_seq (a := (Code.at F5.code [1, 1, 1, 1, 0, 0])) (b := (Code.at F5.code [1, 1, 1, 1, 0, 1])) (by kernel_rfl) (F5.o27 W Q QP) (F5.k58_a W Q QP s h (F5.k39 W Q QP) (F5.k57 W Q QP))
theorem F5.o28 : aw Try.prog 198 W F5.pl (Code.at F5.code [1, 1, 1, 1]) (Q) QP s h = F5.k58 W Q QP s h := nd_seq (a := (Code.at F5.code [1, 1, 1, 1, 0])) (b := (Code.at F5.code [1, 1, 1, 1, 1])) (by kernel_rfl) (F5.k39_ok W Q QP) (F5.k58_ok W Q QP s h)
def F5.t59 (Q : Post) (s : St) (h : AH) (C0 : KT) : Prop :=
  Q .ret ⟨puts s.tm [(4, (.sc (.bool true)))], s.ds⟩ h
def F5.k59 (W : Nat → Prop) (Q : Post) (QP : PPost) (s : St) (h : AH) : Prop := F5.t59 Q s h (F5.k58 W Q QP)
theorem F5.k59_a (C0 : KT) : aw Try.prog 198 W F5.pl (Code.at F5.code [1, 1, 1, 0, 1, 0, 0]) (thenQ (aw Try.prog 198 W F5.pl (Code.at F5.code [1, 1, 1, 0, 1, 0, 1]) (thenQ (C0) (Q)) QP) (thenQ (C0) (Q))) QP s h = F5.t59 Q s h C0 := by kernel_rfl
theorem F5.k59_ok : aw Try.prog 198 W F5.pl (Code.at F5.code [1, 1, 1, 0, 1, 0]) (thenQ (F5.k58 W Q QP) (Q)) QP s h = F5.k59 W Q QP s h := nd_seq (a := (Code.at F5.code [1, 1, 1, 0, 1, 0, 0])) (b := (Code.at F5.code [1, 1, 1, 0, 1, 0, 1])) (by kernel_rfl) (fun _ _ => rfl) (F5.k59_a W Q QP s h (F5.k58 W Q QP))
def F5.t60 (s : St) (h : AH) (C0 C1 : KT) : Prop :=
  aIf (s.tm 34) (
  C1 s h) (
  C0 s h)
def F5.k60 (W : Nat → Prop) (Q : Post) (QP : PPost) (s : St) (h : AH) : Prop := F5.t60 s h (F5.k58 W Q QP) (F5.k59 W Q QP)
theorem F5.k60_a (C0 C1 : KT) : aIf (aev s (.tmp 34)) (C1 s h) (aw Try.prog 198 W F5.pl (Code.at F5.code [1, 1, 1, 0, 1, 1]) (thenQ (C0) (Q)) QP s h) = F5.t60 s h C0 C1 := by kernel_rfl
theorem F5.k60_ok : aw Try.prog 198 W F5.pl (Code.at F5.code [1, 1, 1, 0, 1]) (thenQ (F5.k58 W Q QP) (Q)) QP s h = F5.k60 W Q QP s h := nd_cond (a := (Code.at F5.code [1, 1, 1, 0, 1, 0])) (b := (Code.at F5.code [1, 1, 1, 0, 1, 1])) (by kernel_rfl) (F5.k59_ok W Q QP s h) rfl (F5.k60_a W Q QP s h (F5.k58 W Q QP) (F5.k59 W Q QP))
def F5.t61 (s : St) (h : AH) (C0 C1 : KT) : Prop :=
  pPick (s.tm 30) (.sc (.bool true)) (s.tm 33) fun t127 =>
  C1 ⟨puts s.tm [(34, t127)], s.ds⟩ h
def F5.k61 (W : Nat → Prop) (Q : Post) (QP : PPost) (s : St) (h : AH) : Prop := F5.t61 s h (F5.k58 W Q QP) (F5.k60 W Q QP)
theorem F5.k61_a (C0 C1 : KT) : evI Try.prog 198 (fun _ => W) nobody QP (regOps (Code.at F5.code [1, 1, 1, 0, 0])) (isAt F5.g5 2) ((thenQ (C1) (thenQ (C0) (Q))) .normal) s h = F5.t61 s h C0 C1 := by kernel_rfl
theorem F5.k61_ok : evG Try.prog 198 (fun _ => W) nobody QP (regOps (Code.at F5.code [1, 1, 1, 0, 0])) (F5.g5.drop 2) ((thenQ (F5.k60 W Q QP) (thenQ (F5.k58 W Q QP) (Q))) .normal) s h = F5.k61 W Q QP s h := nd_g (is := isAt F5.g5 2) (rest := F5.g5.drop 3) (by kernel_rfl) (fun _ _ => rfl) (F5.k61_a W Q QP s h (F5.k58 W Q QP) (F5.k60 W Q QP))
def F5.t62 (s : St) (h : AH) (C0 : KT) : Prop :=
  aIg false (s.tm 30) (
  (strArg (s.tm 5) = false) ∧ pLen (s.tm 5) fun t128 =>
  pBin Try.prog .eql 3 true t128 (.sc (.int .i64 0)) fun t129 =>
  C0 ⟨puts s.tm [(31, (s.tm 5)), (32, t128), (33, t129)], s.ds⟩ h) (
  C0 ⟨puts s.tm [(31, noA), (32, noA), (33, noA)], s.ds⟩ h)
def F5.k62 (W : Nat → Prop) (Q : Post) (QP : PPost) (s : St) (h : AH) : Prop := F5.t62 s h (F5.k61 W Q QP)
theorem F5.k62_a (C0 : KT) : aIg false (s.tm 30) (evI Try.prog 198 (fun _ => W) nobody QP (regOps (Code.at F5.code [1, 1, 1, 0, 0])) (isAt F5.g5 1) (C0) s h) ((C0) (skI 198 (regOps (Code.at F5.code [1, 1, 1, 0, 0])) (isAt F5.g5 1) s) h) = F5.t62 s h C0 := by kernel_rfl
theorem F5.k62_ok : evG Try.prog 198 (fun _ => W) nobody QP (regOps (Code.at F5.code [1, 1, 1, 0, 0])) (F5.g5.drop 1) ((thenQ (F5.k60 W Q QP) (thenQ (F5.k58 W Q QP) (Q))) .normal) s h = F5.k62 W Q QP s h := nd_gw (j := 2) (is := isAt F5.g5 1) (rest := F5.g5.drop 2) (by kernel_rfl) (d := 30) (by kernel_rfl) (F5.k61_ok W Q QP) (F5.k62_a W QP s h (F5.k61 W Q QP))
def F5.t63 (s : St) (h : AH) (C0 : KT) : Prop :=
  pBin Try.prog .neq 26 true (s.tm 7) (.sc (.int .i64 0)) fun t130 =>
  C0 ⟨puts s.tm [(28, (s.tm 7)), (29, t130), (30, t130)], s.ds⟩ h
def F5.k63 (W : Nat → Prop) (Q : Post) (QP : PPost) (s : St) (h : AH) : Prop := F5.t63 s h (F5.k62 W Q QP)
theorem F5.k63_a (C0 : KT) : evI Try.prog 198 (fun _ => W) nobody QP (regOps (Code.at F5.code [1, 1, 1, 0, 0])) (isAt F5.g5 0) (C0) s h = F5.t63 s h C0 := by kernel_rfl
theorem F5.k63_ok : evG Try.prog 198 (fun _ => W) nobody QP (regOps (Code.at F5.code [1, 1, 1, 0, 0])) (F5.g5.drop 0) ((thenQ (F5.k60 W Q QP) (thenQ (F5.k58 W Q QP) (Q))) .normal) s h = F5.k63 W Q QP s h := nd_g (is := isAt F5.g5 0) (rest := F5.g5.drop 1) (by kernel_rfl) (F5.k62_ok W Q QP) (F5.k63_a W QP s h (F5.k62 W Q QP))
theorem F5.o29 : aw Try.prog 198 W F5.pl (Code.at F5.code [1, 1, 1, 0, 0]) (thenQ (F5.k60 W Q QP) (thenQ (F5.k58 W Q QP) (Q))) QP s h = F5.k63 W Q QP s h := nd_groups (id := 4) (draw := false) (ops := (regOps (Code.at F5.code [1, 1, 1, 0, 0]))) (gs := F5.g5.drop 0) (by kernel_rfl) (by kernel_rfl) (F5.k63_ok W Q QP s h)
theorem F5.o30 : aw Try.prog 198 W F5.pl (Code.at F5.code [1, 1, 1, 0]) (thenQ (F5.k58 W Q QP) (Q)) QP s h = F5.k63 W Q QP s h := nd_seq (a := (Code.at F5.code [1, 1, 1, 0, 0])) (b := (Code.at F5.code [1, 1, 1, 0, 1])) (by kernel_rfl) (F5.k60_ok W Q QP) (F5.o29 W Q QP s h)
theorem F5.o31 : aw Try.prog 198 W F5.pl (Code.at F5.code [1, 1, 1]) (Q) QP s h = F5.k63 W Q QP s h := nd_seq (a := (Code.at F5.code [1, 1, 1, 0])) (b := (Code.at F5.code [1, 1, 1, 1])) (by kernel_rfl) (F5.o28 W Q QP) (F5.o30 W Q QP s h)
def F5.t64 (W : Nat → Prop) (QP : PPost) (s : St) (h : AH) (C0 : KT) : Prop :=
  aCall Try.prog W 8 [(s.tm 0)] h (fun t131 h132 =>
  pExt t131 0 fun t133 =>
  pExt t131 1 fun t134 =>
  pExt t131 2 fun t135 =>
  C0 ⟨puts s.tm [(23, (s.tm 0)), (24, t131), (22, t131), (25, t133), (26, t134), (27, t135), (5, t133), (6, t134), (7, t135)], s.ds⟩ h132) (QP s.ds)
def F5.k64 (W : Nat → Prop) (Q : Post) (QP : PPost) (s : St) (h : AH) : Prop := F5.t64 W QP s h (F5.k63 W Q QP)
theorem F5.k64_a (C0 : KT) : aw Try.prog 198 W F5.pl (Code.at F5.code [1, 1, 0]) (thenQ (C0) (Q)) QP s h = F5.t64 W QP s h C0 := by kernel_rfl
theorem F5.k64_ok : aw Try.prog 198 W F5.pl (Code.at F5.code [1, 1]) (Q) QP s h = F5.k64 W Q QP s h := nd_seq (a := (Code.at F5.code [1, 1, 0])) (b := (Code.at F5.code [1, 1, 1])) (by kernel_rfl) (F5.o31 W Q QP) (F5.k64_a W Q QP s h (F5.k63 W Q QP))
def F5.t65 (Q : Post) (s : St) (h : AH) (C0 : KT) : Prop :=
  Q .ret ⟨puts s.tm [(4, (.sc (.bool false)))], s.ds⟩ h
def F5.k65 (W : Nat → Prop) (Q : Post) (QP : PPost) (s : St) (h : AH) : Prop := F5.t65 Q s h (F5.k64 W Q QP)
theorem F5.k65_a (C0 : KT) : aw Try.prog 198 W F5.pl (Code.at F5.code [1, 0, 1, 0, 0]) (thenQ (aw Try.prog 198 W F5.pl (Code.at F5.code [1, 0, 1, 0, 1]) (thenQ (C0) (Q)) QP) (thenQ (C0) (Q))) QP s h = F5.t65 Q s h C0 := by kernel_rfl
theorem F5.k65_ok : aw Try.prog 198 W F5.pl (Code.at F5.code [1, 0, 1, 0]) (thenQ (F5.k64 W Q QP) (Q)) QP s h = F5.k65 W Q QP s h := nd_seq (a := (Code.at F5.code [1, 0, 1, 0, 0])) (b := (Code.at F5.code [1, 0, 1, 0, 1])) (by kernel_rfl) (fun _ _ => rfl) (F5.k65_a W Q QP s h (F5.k64 W Q QP))
def F5.t66 (s : St) (h : AH) (C0 C1 : KT) : Prop :=
  aIf (s.tm 21) (
  C1 s h) (
  C0 s h)
def F5.k66 (W : Nat → Prop) (Q : Post) (QP : PPost) (s : St) (h : AH) : Prop := F5.t66 s h (F5.k64 W Q QP) (F5.k65 W Q QP)
theorem F5.k66_a (C0 C1 : KT) : aIf (aev s (.tmp 21)) (C1 s h) (aw Try.prog 198 W F5.pl (Code.at F5.code [1, 0, 1, 1]) (thenQ (C0) (Q)) QP s h) = F5.t66 s h C0 C1 := by kernel_rfl
theorem F5.k66_ok : aw Try.prog 198 W F5.pl (Code.at F5.code [1, 0, 1]) (thenQ (F5.k64 W Q QP) (Q)) QP s h = F5.k66 W Q QP s h := nd_cond (a := (Code.at F5.code [1, 0, 1, 0])) (b := (Code.at F5.code [1, 0, 1, 1])) (by kernel_rfl) (F5.k65_ok W Q QP s h) rfl (F5.k66_a W Q QP s h (F5.k64 W Q QP) (F5.k65 W Q QP))
def F5.t67 (W : Nat → Prop) (QP : PPost) (s : St) (h : AH) (C0 C1 : KT) : Prop :=
  aCall Try.prog W 6 [] h (fun t136 h137 =>
  pUn .not t136 fun t138 =>
  C1 ⟨puts s.tm [(20, t136), (21, t138)], s.ds⟩ h137) (QP s.ds)
def F5.k67 (W : Nat → Prop) (Q : Post) (QP : PPost) (s : St) (h : AH) : Prop := F5.t67 W QP s h (F5.k64 W Q QP) (F5.k66 W Q QP)
theorem F5.k67_a (C0 C1 : KT) : aw Try.prog 198 W F5.pl (Code.at F5.code [1, 0, 0]) (thenQ (C1) (thenQ (C0) (Q))) QP s h = F5.t67 W QP s h C0 C1 := by kernel_rfl
theorem F5.k67_ok : aw Try.prog 198 W F5.pl (Code.at F5.code [1, 0]) (thenQ (F5.k64 W Q QP) (Q)) QP s h = F5.k67 W Q QP s h := nd_seq (a := (Code.at F5.code [1, 0, 0])) (b := (Code.at F5.code [1, 0, 1])) (by kernel_rfl) (F5.k66_ok W Q QP) (F5.k67_a W Q QP s h (F5.k64 W Q QP) (F5.k66 W Q QP))
theorem F5.o32 : aw Try.prog 198 W F5.pl (Code.at F5.code [1]) (Q) QP s h = F5.k67 W Q QP s h := nd_seq (a := (Code.at F5.code [1, 0])) (b := (Code.at F5.code [1, 1])) (by kernel_rfl) (F5.k64_ok W Q QP) (F5.k67_ok W Q QP s h)
def F5.t68 (s : St) (h : AH) (C0 : KT) : Prop :=
  C0 ⟨puts s.tm [(4, (.sc (.bool false)))], s.ds⟩ h
def F5.k68 (W : Nat → Prop) (Q : Post) (QP : PPost) (s : St) (h : AH) : Prop := F5.t68 s h (F5.k67 W Q QP)
theorem F5.k68_a (C0 : KT) : aw Try.prog 198 W F5.pl (Code.at F5.code [0]) (thenQ (C0) (Q)) QP s h = F5.t68 s h C0 := by kernel_rfl
theorem F5.k68_ok : aw Try.prog 198 W F5.pl (Code.at F5.code []) (Q) QP s h = F5.k68 W Q QP s h := nd_seq (a := (Code.at F5.code [0])) (b := (Code.at F5.code [1])) (by kernel_rfl) (F5.o32 W Q QP) (F5.k68_a W Q QP s h (F5.k67 W Q QP))
end
theorem F5.calls {x0 x1 : AV} {h : AH} {M : Nat → Prop} {R : AE → AH → Prop} (hp : F5.k68 (fun id => M id ∨ h.next ≤ id) (bodyQ Try.prog [.tmp 4] R) (bodyP R) (s0 [x0, x1]) h) : ACalls Try.prog 5 [x0, x1] h M R :=
  acalls_of Try.mixed Try.func5 rfl (Nat.le_of_ble_eq_true rfl) F5.ok (by rw [show Try.f5.ntmps = 198 from rfl, show Try.f5.results.toList = [.tmp 4] from rfl]; exact Eq.mpr (F5.k68_ok _ _ _ _ _) hp)
attribute [simp] F5.k1 F5.t1 F5.k2 F5.t2 F5.k3 F5.t3 F5.k4 F5.t4 F5.k5 F5.t5 F5.k6 F5.t6 F5.k7 F5.t7 F5.k8 F5.t8 F5.k9 F5.t9 F5.k10 F5.t10 F5.k11 F5.t11 F5.k12 F5.t12 F5.k13 F5.t13 F5.k14 F5.t14 F5.k15 F5.k16 F5.t16 F5.k17 F5.t17 F5.k18 F5.t18 F5.k19 F5.t19 F5.k20 F5.t20 F5.k21 F5.t21 F5.k22 F5.t22 F5.k23 F5.t23 F5.k24 F5.t24 F5.k25 F5.t25 F5.k26 F5.t26 F5.k27 F5.t27 F5.k28 F5.t28 F5.k29 F5.t29 F5.k30 F5.k31 F5.t31 F5.k32 F5.t32 F5.k33 F5.t33 F5.k34 F5.t34 F5.k35 F5.t35 F5.k36 F5.t36 F5.k37 F5.t37 F5.k38 F5.t38 F5.k39 F5.t39 F5.k40 F5.t40 F5.k41 F5.t41 F5.k42 F5.t42 F5.k43 F5.t43 F5.k44 F5.t44 F5.k45 F5.t45 F5.k46 F5.t46 F5.k47 F5.t47 F5.k48 F5.t48 F5.k49 F5.t49 F5.k50 F5.t50 F5.k51 F5.t51 F5.k52 F5.t52 F5.k53 F5.t53 F5.k54 F5.t54 F5.k55 F5.t55 F5.k56 F5.t56 F5.k57 F5.k58 F5.t58 F5.k59 F5.t59 F5.k60 F5.t60 F5.k61 F5.t61 F5.k62 F5.t62 F5.k63 F5.t63 F5.k64 F5.t64 F5.k65 F5.t65 F5.k66 F5.t66 F5.k67 F5.t67 F5.k68 F5.t68

/-! cubit/cubitlaw10.awake -/
section
variable (W : Nat → Prop) (Q : Post) (QP : PPost) (s : St) (h : AH)
noncomputable def F6.code : Code := Try.f6.body.getD .skip
def F6.g1 : Grps := [(none, [(0, false), (1, false), (2, false)]), (some (2, true), [(3, false), (4, false)]), (none, [(5, false), (6, false)]), (some (6, true), [(7, false), (8, false), (9, false)]), (none, [(10, false), (11, false)]), (some (11, true), [(12, false), (13, false), (14, false), (15, false), (16, false)]), (none, [(17, false), (18, false)]), (some (18, true), [(19, false), (20, false), (21, false), (22, false), (23, false)]), (none, [(24, false), (25, false)]), (some (25, true), [(26, false), (27, false), (28, false), (29, false), (30, false)]), (none, [(31, false), (32, false)]), (some (32, true), [(33, false), (34, false), (35, false), (36, false), (37, false), (38, false)]), (none, [(39, false), (40, false)]), (some (40, true), [(41, false), (42, false)]), (none, [(43, false), (44, false)]), (some (44, true), [(45, false), (46, false)]), (none, [(47, false), (48, false)])]
def F6.pl : Plans := [(3, ⟨F6.g1, false, []⟩)]
theorem F6.ok : okCode F6.pl F6.code = true := by kernel_rfl
def F6.t1 (Q : Post) (s : St) (h : AH) : Prop :=
  Q .ret s h
def F6.k1 (W : Nat → Prop) (Q : Post) (QP : PPost) (s : St) (h : AH) : Prop := F6.t1 Q s h
theorem F6.k1_a : aw Try.prog 65 W F6.pl (Code.at F6.code [1, 1, 1, 1]) (Q) QP s h = F6.t1 Q s h := by kernel_rfl
theorem F6.k1_ok : aw Try.prog 65 W F6.pl (Code.at F6.code [1, 1, 1, 1]) (Q) QP s h = F6.k1 W Q QP s h := (F6.k1_a W Q QP s h)
def F6.t2 (s : St) (h : AH) (C0 : KT) : Prop :=
  pPick (s.tm 61) (s.tm 63) (.sc (.bool false)) fun t1 =>
  C0 ⟨puts s.tm [(64, t1), (0, t1)], s.ds⟩ h
def F6.k2 (W : Nat → Prop) (Q : Post) (QP : PPost) (s : St) (h : AH) : Prop := F6.t2 s h (F6.k1 W Q QP)
theorem F6.k2_a (C0 : KT) : evI Try.prog 65 (fun _ => W) nobody QP (regOps (Code.at F6.code [1, 1, 1, 0])) (isAt F6.g1 16) ((thenQ (C0) (Q)) .normal) s h = F6.t2 s h C0 := by kernel_rfl
theorem F6.k2_ok : evG Try.prog 65 (fun _ => W) nobody QP (regOps (Code.at F6.code [1, 1, 1, 0])) (F6.g1.drop 16) ((thenQ (F6.k1 W Q QP) (Q)) .normal) s h = F6.k2 W Q QP s h := nd_g (is := isAt F6.g1 16) (rest := F6.g1.drop 17) (by kernel_rfl) (fun _ _ => rfl) (F6.k2_a W Q QP s h (F6.k1 W Q QP))
def F6.t3 (s : St) (h : AH) (C0 : KT) : Prop :=
  aIg true (s.tm 61) (
  pBin Try.prog .eql 3 true (s.tm 5) (.sc (.int .i64 6)) fun t2 =>
  C0 ⟨puts s.tm [(62, (s.tm 5)), (63, t2)], s.ds⟩ h) (
  C0 ⟨puts s.tm [(62, noA), (63, noA)], s.ds⟩ h)
def F6.k3 (W : Nat → Prop) (Q : Post) (QP : PPost) (s : St) (h : AH) : Prop := F6.t3 s h (F6.k2 W Q QP)
theorem F6.k3_a (C0 : KT) : aIg true (s.tm 61) (evI Try.prog 65 (fun _ => W) nobody QP (regOps (Code.at F6.code [1, 1, 1, 0])) (isAt F6.g1 15) (C0) s h) ((C0) (skI 65 (regOps (Code.at F6.code [1, 1, 1, 0])) (isAt F6.g1 15) s) h) = F6.t3 s h C0 := by kernel_rfl
theorem F6.k3_ok : evG Try.prog 65 (fun _ => W) nobody QP (regOps (Code.at F6.code [1, 1, 1, 0])) (F6.g1.drop 15) ((thenQ (F6.k1 W Q QP) (Q)) .normal) s h = F6.k3 W Q QP s h := nd_gw (j := 44) (is := isAt F6.g1 15) (rest := F6.g1.drop 16) (by kernel_rfl) (d := 61) (by kernel_rfl) (F6.k2_ok W Q QP) (F6.k3_a W QP s h (F6.k2 W Q QP))
def F6.t4 (s : St) (h : AH) (C0 : KT) : Prop :=
  pPick (s.tm 57) (s.tm 59) (.sc (.bool false)) fun t3 =>
  C0 ⟨puts s.tm [(60, t3), (61, t3)], s.ds⟩ h
def F6.k4 (W : Nat → Prop) (Q : Post) (QP : PPost) (s : St) (h : AH) : Prop := F6.t4 s h (F6.k3 W Q QP)
theorem F6.k4_a (C0 : KT) : evI Try.prog 65 (fun _ => W) nobody QP (regOps (Code.at F6.code [1, 1, 1, 0])) (isAt F6.g1 14) (C0) s h = F6.t4 s h C0 := by kernel_rfl
theorem F6.k4_ok : evG Try.prog 65 (fun _ => W) nobody QP (regOps (Code.at F6.code [1, 1, 1, 0])) (F6.g1.drop 14) ((thenQ (F6.k1 W Q QP) (Q)) .normal) s h = F6.k4 W Q QP s h := nd_g (is := isAt F6.g1 14) (rest := F6.g1.drop 15) (by kernel_rfl) (F6.k3_ok W Q QP) (F6.k4_a W QP s h (F6.k3 W Q QP))
def F6.t5 (s : St) (h : AH) (C0 : KT) : Prop :=
  aIg true (s.tm 57) (
  pBin Try.prog .eql 26 true (s.tm 6) (.sc (.int .i64 101)) fun t4 =>
  C0 ⟨puts s.tm [(58, (s.tm 6)), (59, t4)], s.ds⟩ h) (
  C0 ⟨puts s.tm [(58, noA), (59, noA)], s.ds⟩ h)
def F6.k5 (W : Nat → Prop) (Q : Post) (QP : PPost) (s : St) (h : AH) : Prop := F6.t5 s h (F6.k4 W Q QP)
theorem F6.k5_a (C0 : KT) : aIg true (s.tm 57) (evI Try.prog 65 (fun _ => W) nobody QP (regOps (Code.at F6.code [1, 1, 1, 0])) (isAt F6.g1 13) (C0) s h) ((C0) (skI 65 (regOps (Code.at F6.code [1, 1, 1, 0])) (isAt F6.g1 13) s) h) = F6.t5 s h C0 := by kernel_rfl
theorem F6.k5_ok : evG Try.prog 65 (fun _ => W) nobody QP (regOps (Code.at F6.code [1, 1, 1, 0])) (F6.g1.drop 13) ((thenQ (F6.k1 W Q QP) (Q)) .normal) s h = F6.k5 W Q QP s h := nd_gw (j := 40) (is := isAt F6.g1 13) (rest := F6.g1.drop 14) (by kernel_rfl) (d := 57) (by kernel_rfl) (F6.k4_ok W Q QP) (F6.k5_a W QP s h (F6.k4 W Q QP))
def F6.t6 (s : St) (h : AH) (C0 : KT) : Prop :=
  pPick (s.tm 49) (s.tm 55) (.sc (.bool false)) fun t5 =>
  C0 ⟨puts s.tm [(56, t5), (57, t5)], s.ds⟩ h
def F6.k6 (W : Nat → Prop) (Q : Post) (QP : PPost) (s : St) (h : AH) : Prop := F6.t6 s h (F6.k5 W Q QP)
theorem F6.k6_a (C0 : KT) : evI Try.prog 65 (fun _ => W) nobody QP (regOps (Code.at F6.code [1, 1, 1, 0])) (isAt F6.g1 12) (C0) s h = F6.t6 s h C0 := by kernel_rfl
theorem F6.k6_ok : evG Try.prog 65 (fun _ => W) nobody QP (regOps (Code.at F6.code [1, 1, 1, 0])) (F6.g1.drop 12) ((thenQ (F6.k1 W Q QP) (Q)) .normal) s h = F6.k6 W Q QP s h := nd_g (is := isAt F6.g1 12) (rest := F6.g1.drop 13) (by kernel_rfl) (F6.k5_ok W Q QP) (F6.k6_a W QP s h (F6.k5 W Q QP))
def F6.t7 (s : St) (h : AH) (C0 : KT) : Prop :=
  aIg true (s.tm 49) (
  pIxA (some (6, none)) (s.tm 1) (.sc (.int .i64 1)) fun t6 =>
  pFld (some 2) t6 fun t7 =>
  lLd (some false) (some 1) t7 h fun t8 _ =>
  (strArg t8 = false) ∧ pLen t8 fun t10 =>
  pBin Try.prog .eql 3 true t10 (.sc (.int .i64 1)) fun t11 =>
  C0 ⟨puts s.tm [(50, (s.tm 1)), (51, t6), (52, t7), (53, t8), (54, t10), (55, t11)], s.ds⟩ h) (
  C0 ⟨puts s.tm [(50, noA), (51, noA), (52, noA), (53, noA), (54, noA), (55, noA)], s.ds⟩ h)
def F6.k7 (W : Nat → Prop) (Q : Post) (QP : PPost) (s : St) (h : AH) : Prop := F6.t7 s h (F6.k6 W Q QP)
theorem F6.k7_a (C0 : KT) : aIg true (s.tm 49) (evI Try.prog 65 (fun _ => W) nobody QP (regOps (Code.at F6.code [1, 1, 1, 0])) (isAt F6.g1 11) (C0) s h) ((C0) (skI 65 (regOps (Code.at F6.code [1, 1, 1, 0])) (isAt F6.g1 11) s) h) = F6.t7 s h C0 := by kernel_rfl
theorem F6.k7_ok : evG Try.prog 65 (fun _ => W) nobody QP (regOps (Code.at F6.code [1, 1, 1, 0])) (F6.g1.drop 11) ((thenQ (F6.k1 W Q QP) (Q)) .normal) s h = F6.k7 W Q QP s h := nd_gw (j := 32) (is := isAt F6.g1 11) (rest := F6.g1.drop 12) (by kernel_rfl) (d := 49) (by kernel_rfl) (F6.k6_ok W Q QP) (F6.k7_a W QP s h (F6.k6 W Q QP))
def F6.t8 (s : St) (h : AH) (C0 : KT) : Prop :=
  pPick (s.tm 42) (s.tm 47) (.sc (.bool false)) fun t12 =>
  C0 ⟨puts s.tm [(48, t12), (49, t12)], s.ds⟩ h
def F6.k8 (W : Nat → Prop) (Q : Post) (QP : PPost) (s : St) (h : AH) : Prop := F6.t8 s h (F6.k7 W Q QP)
theorem F6.k8_a (C0 : KT) : evI Try.prog 65 (fun _ => W) nobody QP (regOps (Code.at F6.code [1, 1, 1, 0])) (isAt F6.g1 10) (C0) s h = F6.t8 s h C0 := by kernel_rfl
theorem F6.k8_ok : evG Try.prog 65 (fun _ => W) nobody QP (regOps (Code.at F6.code [1, 1, 1, 0])) (F6.g1.drop 10) ((thenQ (F6.k1 W Q QP) (Q)) .normal) s h = F6.k8 W Q QP s h := nd_g (is := isAt F6.g1 10) (rest := F6.g1.drop 11) (by kernel_rfl) (F6.k7_ok W Q QP) (F6.k8_a W QP s h (F6.k7 W Q QP))
def F6.t9 (s : St) (h : AH) (C0 : KT) : Prop :=
  aIg true (s.tm 42) (
  pIxA (some (6, none)) (s.tm 1) (.sc (.int .i64 1)) fun t13 =>
  pFld (some 5) t13 fun t14 =>
  lLd (some false) (some 1) t14 h fun t15 _ =>
  pBin Try.prog .eql 3 true t15 (.sc (.int .i64 12)) fun t17 =>
  C0 ⟨puts s.tm [(43, (s.tm 1)), (44, t13), (45, t14), (46, t15), (47, t17)], s.ds⟩ h) (
  C0 ⟨puts s.tm [(43, noA), (44, noA), (45, noA), (46, noA), (47, noA)], s.ds⟩ h)
def F6.k9 (W : Nat → Prop) (Q : Post) (QP : PPost) (s : St) (h : AH) : Prop := F6.t9 s h (F6.k8 W Q QP)
theorem F6.k9_a (C0 : KT) : aIg true (s.tm 42) (evI Try.prog 65 (fun _ => W) nobody QP (regOps (Code.at F6.code [1, 1, 1, 0])) (isAt F6.g1 9) (C0) s h) ((C0) (skI 65 (regOps (Code.at F6.code [1, 1, 1, 0])) (isAt F6.g1 9) s) h) = F6.t9 s h C0 := by kernel_rfl
theorem F6.k9_ok : evG Try.prog 65 (fun _ => W) nobody QP (regOps (Code.at F6.code [1, 1, 1, 0])) (F6.g1.drop 9) ((thenQ (F6.k1 W Q QP) (Q)) .normal) s h = F6.k9 W Q QP s h := nd_gw (j := 25) (is := isAt F6.g1 9) (rest := F6.g1.drop 10) (by kernel_rfl) (d := 42) (by kernel_rfl) (F6.k8_ok W Q QP) (F6.k9_a W QP s h (F6.k8 W Q QP))
def F6.t10 (s : St) (h : AH) (C0 : KT) : Prop :=
  pPick (s.tm 35) (s.tm 40) (.sc (.bool false)) fun t18 =>
  C0 ⟨puts s.tm [(41, t18), (42, t18)], s.ds⟩ h
def F6.k10 (W : Nat → Prop) (Q : Post) (QP : PPost) (s : St) (h : AH) : Prop := F6.t10 s h (F6.k9 W Q QP)
theorem F6.k10_a (C0 : KT) : evI Try.prog 65 (fun _ => W) nobody QP (regOps (Code.at F6.code [1, 1, 1, 0])) (isAt F6.g1 8) (C0) s h = F6.t10 s h C0 := by kernel_rfl
theorem F6.k10_ok : evG Try.prog 65 (fun _ => W) nobody QP (regOps (Code.at F6.code [1, 1, 1, 0])) (F6.g1.drop 8) ((thenQ (F6.k1 W Q QP) (Q)) .normal) s h = F6.k10 W Q QP s h := nd_g (is := isAt F6.g1 8) (rest := F6.g1.drop 9) (by kernel_rfl) (F6.k9_ok W Q QP) (F6.k10_a W QP s h (F6.k9 W Q QP))
def F6.t11 (s : St) (h : AH) (C0 : KT) : Prop :=
  aIg true (s.tm 35) (
  pIxA (some (6, none)) (s.tm 1) (.sc (.int .i64 1)) fun t19 =>
  pFld (some 1) t19 fun t20 =>
  lLd (some false) (some 1) t20 h fun t21 _ =>
  pBin Try.prog .eql 9 true t21 (.sc (.string ⟨#[104]⟩)) fun t23 =>
  C0 ⟨puts s.tm [(36, (s.tm 1)), (37, t19), (38, t20), (39, t21), (40, t23)], s.ds⟩ h) (
  C0 ⟨puts s.tm [(36, noA), (37, noA), (38, noA), (39, noA), (40, noA)], s.ds⟩ h)
def F6.k11 (W : Nat → Prop) (Q : Post) (QP : PPost) (s : St) (h : AH) : Prop := F6.t11 s h (F6.k10 W Q QP)
theorem F6.k11_a (C0 : KT) : aIg true (s.tm 35) (evI Try.prog 65 (fun _ => W) nobody QP (regOps (Code.at F6.code [1, 1, 1, 0])) (isAt F6.g1 7) (C0) s h) ((C0) (skI 65 (regOps (Code.at F6.code [1, 1, 1, 0])) (isAt F6.g1 7) s) h) = F6.t11 s h C0 := by kernel_rfl
theorem F6.k11_ok : evG Try.prog 65 (fun _ => W) nobody QP (regOps (Code.at F6.code [1, 1, 1, 0])) (F6.g1.drop 7) ((thenQ (F6.k1 W Q QP) (Q)) .normal) s h = F6.k11 W Q QP s h := nd_gw (j := 18) (is := isAt F6.g1 7) (rest := F6.g1.drop 8) (by kernel_rfl) (d := 35) (by kernel_rfl) (F6.k10_ok W Q QP) (F6.k11_a W QP s h (F6.k10 W Q QP))
def F6.t12 (s : St) (h : AH) (C0 : KT) : Prop :=
  pPick (s.tm 28) (s.tm 33) (.sc (.bool false)) fun t24 =>
  C0 ⟨puts s.tm [(34, t24), (35, t24)], s.ds⟩ h
def F6.k12 (W : Nat → Prop) (Q : Post) (QP : PPost) (s : St) (h : AH) : Prop := F6.t12 s h (F6.k11 W Q QP)
theorem F6.k12_a (C0 : KT) : evI Try.prog 65 (fun _ => W) nobody QP (regOps (Code.at F6.code [1, 1, 1, 0])) (isAt F6.g1 6) (C0) s h = F6.t12 s h C0 := by kernel_rfl
theorem F6.k12_ok : evG Try.prog 65 (fun _ => W) nobody QP (regOps (Code.at F6.code [1, 1, 1, 0])) (F6.g1.drop 6) ((thenQ (F6.k1 W Q QP) (Q)) .normal) s h = F6.k12 W Q QP s h := nd_g (is := isAt F6.g1 6) (rest := F6.g1.drop 7) (by kernel_rfl) (F6.k11_ok W Q QP) (F6.k12_a W QP s h (F6.k11 W Q QP))
def F6.t13 (s : St) (h : AH) (C0 : KT) : Prop :=
  aIg true (s.tm 28) (
  pIxA (some (6, none)) (s.tm 1) (.sc (.int .i64 0)) fun t25 =>
  pFld (some 3) t25 fun t26 =>
  lLd (some false) (some 1) t26 h fun t27 _ =>
  pBin Try.prog .eql 3 true t27 (.sc (.int .i64 2)) fun t29 =>
  C0 ⟨puts s.tm [(29, (s.tm 1)), (30, t25), (31, t26), (32, t27), (33, t29)], s.ds⟩ h) (
  C0 ⟨puts s.tm [(29, noA), (30, noA), (31, noA), (32, noA), (33, noA)], s.ds⟩ h)
def F6.k13 (W : Nat → Prop) (Q : Post) (QP : PPost) (s : St) (h : AH) : Prop := F6.t13 s h (F6.k12 W Q QP)
theorem F6.k13_a (C0 : KT) : aIg true (s.tm 28) (evI Try.prog 65 (fun _ => W) nobody QP (regOps (Code.at F6.code [1, 1, 1, 0])) (isAt F6.g1 5) (C0) s h) ((C0) (skI 65 (regOps (Code.at F6.code [1, 1, 1, 0])) (isAt F6.g1 5) s) h) = F6.t13 s h C0 := by kernel_rfl
theorem F6.k13_ok : evG Try.prog 65 (fun _ => W) nobody QP (regOps (Code.at F6.code [1, 1, 1, 0])) (F6.g1.drop 5) ((thenQ (F6.k1 W Q QP) (Q)) .normal) s h = F6.k13 W Q QP s h := nd_gw (j := 11) (is := isAt F6.g1 5) (rest := F6.g1.drop 6) (by kernel_rfl) (d := 28) (by kernel_rfl) (F6.k12_ok W Q QP) (F6.k13_a W QP s h (F6.k12 W Q QP))
def F6.t14 (s : St) (h : AH) (C0 : KT) : Prop :=
  pPick (s.tm 23) (s.tm 26) (.sc (.bool false)) fun t30 =>
  C0 ⟨puts s.tm [(27, t30), (28, t30)], s.ds⟩ h
def F6.k14 (W : Nat → Prop) (Q : Post) (QP : PPost) (s : St) (h : AH) : Prop := F6.t14 s h (F6.k13 W Q QP)
theorem F6.k14_a (C0 : KT) : evI Try.prog 65 (fun _ => W) nobody QP (regOps (Code.at F6.code [1, 1, 1, 0])) (isAt F6.g1 4) (C0) s h = F6.t14 s h C0 := by kernel_rfl
theorem F6.k14_ok : evG Try.prog 65 (fun _ => W) nobody QP (regOps (Code.at F6.code [1, 1, 1, 0])) (F6.g1.drop 4) ((thenQ (F6.k1 W Q QP) (Q)) .normal) s h = F6.k14 W Q QP s h := nd_g (is := isAt F6.g1 4) (rest := F6.g1.drop 5) (by kernel_rfl) (F6.k13_ok W Q QP) (F6.k14_a W QP s h (F6.k13 W Q QP))
def F6.t15 (s : St) (h : AH) (C0 : KT) : Prop :=
  aIg true (s.tm 23) (
  (strArg (s.tm 1) = false) ∧ pLen (s.tm 1) fun t31 =>
  pBin Try.prog .eql 3 true t31 (.sc (.int .i64 2)) fun t32 =>
  C0 ⟨puts s.tm [(24, (s.tm 1)), (25, t31), (26, t32)], s.ds⟩ h) (
  C0 ⟨puts s.tm [(24, noA), (25, noA), (26, noA)], s.ds⟩ h)
def F6.k15 (W : Nat → Prop) (Q : Post) (QP : PPost) (s : St) (h : AH) : Prop := F6.t15 s h (F6.k14 W Q QP)
theorem F6.k15_a (C0 : KT) : aIg true (s.tm 23) (evI Try.prog 65 (fun _ => W) nobody QP (regOps (Code.at F6.code [1, 1, 1, 0])) (isAt F6.g1 3) (C0) s h) ((C0) (skI 65 (regOps (Code.at F6.code [1, 1, 1, 0])) (isAt F6.g1 3) s) h) = F6.t15 s h C0 := by kernel_rfl
theorem F6.k15_ok : evG Try.prog 65 (fun _ => W) nobody QP (regOps (Code.at F6.code [1, 1, 1, 0])) (F6.g1.drop 3) ((thenQ (F6.k1 W Q QP) (Q)) .normal) s h = F6.k15 W Q QP s h := nd_gw (j := 6) (is := isAt F6.g1 3) (rest := F6.g1.drop 4) (by kernel_rfl) (d := 23) (by kernel_rfl) (F6.k14_ok W Q QP) (F6.k15_a W QP s h (F6.k14 W Q QP))
def F6.t16 (s : St) (h : AH) (C0 : KT) : Prop :=
  pPick (s.tm 19) (s.tm 21) (.sc (.bool false)) fun t33 =>
  C0 ⟨puts s.tm [(22, t33), (23, t33)], s.ds⟩ h
def F6.k16 (W : Nat → Prop) (Q : Post) (QP : PPost) (s : St) (h : AH) : Prop := F6.t16 s h (F6.k15 W Q QP)
theorem F6.k16_a (C0 : KT) : evI Try.prog 65 (fun _ => W) nobody QP (regOps (Code.at F6.code [1, 1, 1, 0])) (isAt F6.g1 2) (C0) s h = F6.t16 s h C0 := by kernel_rfl
theorem F6.k16_ok : evG Try.prog 65 (fun _ => W) nobody QP (regOps (Code.at F6.code [1, 1, 1, 0])) (F6.g1.drop 2) ((thenQ (F6.k1 W Q QP) (Q)) .normal) s h = F6.k16 W Q QP s h := nd_g (is := isAt F6.g1 2) (rest := F6.g1.drop 3) (by kernel_rfl) (F6.k15_ok W Q QP) (F6.k16_a W QP s h (F6.k15 W Q QP))
def F6.t17 (s : St) (h : AH) (C0 : KT) : Prop :=
  aIg true (s.tm 19) (
  pBin Try.prog .eql 3 true (s.tm 2) (.sc (.int .i64 0)) fun t34 =>
  C0 ⟨puts s.tm [(20, (s.tm 2)), (21, t34)], s.ds⟩ h) (
  C0 ⟨puts s.tm [(20, noA), (21, noA)], s.ds⟩ h)
def F6.k17 (W : Nat → Prop) (Q : Post) (QP : PPost) (s : St) (h : AH) : Prop := F6.t17 s h (F6.k16 W Q QP)
theorem F6.k17_a (C0 : KT) : aIg true (s.tm 19) (evI Try.prog 65 (fun _ => W) nobody QP (regOps (Code.at F6.code [1, 1, 1, 0])) (isAt F6.g1 1) (C0) s h) ((C0) (skI 65 (regOps (Code.at F6.code [1, 1, 1, 0])) (isAt F6.g1 1) s) h) = F6.t17 s h C0 := by kernel_rfl
theorem F6.k17_ok : evG Try.prog 65 (fun _ => W) nobody QP (regOps (Code.at F6.code [1, 1, 1, 0])) (F6.g1.drop 1) ((thenQ (F6.k1 W Q QP) (Q)) .normal) s h = F6.k17 W Q QP s h := nd_gw (j := 2) (is := isAt F6.g1 1) (rest := F6.g1.drop 2) (by kernel_rfl) (d := 19) (by kernel_rfl) (F6.k16_ok W Q QP) (F6.k17_a W QP s h (F6.k16 W Q QP))
def F6.t18 (s : St) (h : AH) (C0 : KT) : Prop :=
  pBin Try.prog .eql 26 true (s.tm 3) (.sc (.int .i64 0)) fun t35 =>
  C0 ⟨puts s.tm [(17, (s.tm 3)), (18, t35), (19, t35)], s.ds⟩ h
def F6.k18 (W : Nat → Prop) (Q : Post) (QP : PPost) (s : St) (h : AH) : Prop := F6.t18 s h (F6.k17 W Q QP)
theorem F6.k18_a (C0 : KT) : evI Try.prog 65 (fun _ => W) nobody QP (regOps (Code.at F6.code [1, 1, 1, 0])) (isAt F6.g1 0) (C0) s h = F6.t18 s h C0 := by kernel_rfl
theorem F6.k18_ok : evG Try.prog 65 (fun _ => W) nobody QP (regOps (Code.at F6.code [1, 1, 1, 0])) (F6.g1.drop 0) ((thenQ (F6.k1 W Q QP) (Q)) .normal) s h = F6.k18 W Q QP s h := nd_g (is := isAt F6.g1 0) (rest := F6.g1.drop 1) (by kernel_rfl) (F6.k17_ok W Q QP) (F6.k18_a W QP s h (F6.k17 W Q QP))
theorem F6.o1 : aw Try.prog 65 W F6.pl (Code.at F6.code [1, 1, 1, 0]) (thenQ (F6.k1 W Q QP) (Q)) QP s h = F6.k18 W Q QP s h := nd_groups (id := 3) (draw := false) (ops := (regOps (Code.at F6.code [1, 1, 1, 0]))) (gs := F6.g1.drop 0) (by kernel_rfl) (by kernel_rfl) (F6.k18_ok W Q QP s h)
theorem F6.o2 : aw Try.prog 65 W F6.pl (Code.at F6.code [1, 1, 1]) (Q) QP s h = F6.k18 W Q QP s h := nd_seq (a := (Code.at F6.code [1, 1, 1, 0])) (b := (Code.at F6.code [1, 1, 1, 1])) (by kernel_rfl) (F6.k1_ok W Q QP) (F6.o1 W Q QP s h)
def F6.t19 (W : Nat → Prop) (QP : PPost) (s : St) (h : AH) (C0 : KT) : Prop :=
  aCall Try.prog W 8 [(.sc (.string ⟨#[104, 32, 113, 91, 48, 93]⟩))] h (fun t36 h37 =>
  pExt t36 0 fun t38 =>
  pExt t36 1 fun t39 =>
  pExt t36 2 fun t40 =>
  C0 ⟨puts s.tm [(13, t36), (12, t36), (14, t38), (15, t39), (16, t40), (4, t38), (5, t39), (6, t40)], s.ds⟩ h37) (QP s.ds)
def F6.k19 (W : Nat → Prop) (Q : Post) (QP : PPost) (s : St) (h : AH) : Prop := F6.t19 W QP s h (F6.k18 W Q QP)
theorem F6.k19_a (C0 : KT) : aw Try.prog 65 W F6.pl (Code.at F6.code [1, 1, 0]) (thenQ (C0) (Q)) QP s h = F6.t19 W QP s h C0 := by kernel_rfl
theorem F6.k19_ok : aw Try.prog 65 W F6.pl (Code.at F6.code [1, 1]) (Q) QP s h = F6.k19 W Q QP s h := nd_seq (a := (Code.at F6.code [1, 1, 0])) (b := (Code.at F6.code [1, 1, 1])) (by kernel_rfl) (F6.o2 W Q QP) (F6.k19_a W Q QP s h (F6.k18 W Q QP))
def F6.t20 (W : Nat → Prop) (QP : PPost) (s : St) (h : AH) (C0 : KT) : Prop :=
  aCall Try.prog W 8 [(.sc (.string ⟨#[113, 117, 98, 105, 116, 115, 32, 113, 32, 50, 59, 32, 104, 32, 113, 91, 48, 93, 59]⟩))] h (fun t41 h42 =>
  pExt t41 0 fun t43 =>
  pExt t41 1 fun t44 =>
  pExt t41 2 fun t45 =>
  C0 ⟨puts s.tm [(8, t41), (7, t41), (9, t43), (10, t44), (11, t45), (1, t43), (2, t44), (3, t45)], s.ds⟩ h42) (QP s.ds)
def F6.k20 (W : Nat → Prop) (Q : Post) (QP : PPost) (s : St) (h : AH) : Prop := F6.t20 W QP s h (F6.k19 W Q QP)
theorem F6.k20_a (C0 : KT) : aw Try.prog 65 W F6.pl (Code.at F6.code [1, 0]) (thenQ (C0) (Q)) QP s h = F6.t20 W QP s h C0 := by kernel_rfl
theorem F6.k20_ok : aw Try.prog 65 W F6.pl (Code.at F6.code [1]) (Q) QP s h = F6.k20 W Q QP s h := nd_seq (a := (Code.at F6.code [1, 0])) (b := (Code.at F6.code [1, 1])) (by kernel_rfl) (F6.k19_ok W Q QP) (F6.k20_a W Q QP s h (F6.k19 W Q QP))
def F6.t21 (s : St) (h : AH) (C0 : KT) : Prop :=
  C0 ⟨puts s.tm [(0, (.sc (.bool false)))], s.ds⟩ h
def F6.k21 (W : Nat → Prop) (Q : Post) (QP : PPost) (s : St) (h : AH) : Prop := F6.t21 s h (F6.k20 W Q QP)
theorem F6.k21_a (C0 : KT) : aw Try.prog 65 W F6.pl (Code.at F6.code [0]) (thenQ (C0) (Q)) QP s h = F6.t21 s h C0 := by kernel_rfl
theorem F6.k21_ok : aw Try.prog 65 W F6.pl (Code.at F6.code []) (Q) QP s h = F6.k21 W Q QP s h := nd_seq (a := (Code.at F6.code [0])) (b := (Code.at F6.code [1])) (by kernel_rfl) (F6.k20_ok W Q QP) (F6.k21_a W Q QP s h (F6.k20 W Q QP))
end
theorem F6.calls {h : AH} {M : Nat → Prop} {R : AE → AH → Prop} (hp : F6.k21 (fun id => M id ∨ h.next ≤ id) (bodyQ Try.prog [.tmp 0] R) (bodyP R) (s0 []) h) : ACalls Try.prog 6 [] h M R :=
  acalls_of Try.mixed Try.func6 rfl (Nat.le_of_ble_eq_true rfl) F6.ok (by rw [show Try.f6.ntmps = 65 from rfl, show Try.f6.results.toList = [.tmp 0] from rfl]; exact Eq.mpr (F6.k21_ok _ _ _ _ _) hp)
attribute [simp] F6.k1 F6.t1 F6.k2 F6.t2 F6.k3 F6.t3 F6.k4 F6.t4 F6.k5 F6.t5 F6.k6 F6.t6 F6.k7 F6.t7 F6.k8 F6.t8 F6.k9 F6.t9 F6.k10 F6.t10 F6.k11 F6.t11 F6.k12 F6.t12 F6.k13 F6.t13 F6.k14 F6.t14 F6.k15 F6.t15 F6.k16 F6.t16 F6.k17 F6.t17 F6.k18 F6.t18 F6.k19 F6.t19 F6.k20 F6.t20 F6.k21 F6.t21

/-! cubit/parse.Parse -/
section
variable (W : Nat → Prop) (Q : Post) (QP : PPost) (s : St) (h : AH)
noncomputable def F8.code : Code := Try.f8.body.getD .skip
def F8.pl : Plans := [(3, ⟨[(none, [(0, true), (1, true), (2, false), (3, false), (4, false)])], true, []⟩)]
theorem F8.ok : okCode F8.pl F8.code = true := by kernel_rfl
def F8.t1 (W : Nat → Prop) (Q : Post) (s : St) (h : AH) : Prop :=
  pNil (s.tm 6) fun t1 =>
  pFld (some 3) t1 fun t2 =>
  lLd (some false) (some 1) t2 h fun t3 _ =>
  eStore (some 1) (s.tm 2) t3 h W fun h5 =>
  eStore (some 1) (s.tm 3) (.sc (.int .i64 0)) h5 W fun h6 =>
  eStore (some 1) (s.tm 4) (.sc (.int .i64 0)) h6 W fun h7 =>
  Q .ret ⟨puts s.tm [(32, (s.tm 6)), (33, t1), (34, t2), (35, t3)], s.ds⟩ h7
def F8.k1 (W : Nat → Prop) (Q : Post) (QP : PPost) (s : St) (h : AH) : Prop := F8.t1 W Q s h
theorem F8.k1_a : aw Try.prog 36 W F8.pl (Code.at F8.code [1, 1, 1, 1, 1, 1, 0]) (thenQ (aw Try.prog 36 W F8.pl (Code.at F8.code [1, 1, 1, 1, 1, 1, 1]) (Q) QP) (Q)) QP s h = F8.t1 W Q s h := by kernel_rfl
theorem F8.k1_ok : aw Try.prog 36 W F8.pl (Code.at F8.code [1, 1, 1, 1, 1, 1]) (Q) QP s h = F8.k1 W Q QP s h := nd_seq (a := (Code.at F8.code [1, 1, 1, 1, 1, 1, 0])) (b := (Code.at F8.code [1, 1, 1, 1, 1, 1, 1])) (by kernel_rfl) (fun _ _ => rfl) (F8.k1_a W Q QP s h)
def F8.t2 (W : Nat → Prop) (Q : Post) (QP : PPost) (s : St) (h : AH) : Prop :=
  aCall Try.prog W 14 [(s.tm 6), (.sc (.int .i64 0))] h (fun t8 h9 =>
  Q .normal ⟨puts s.tm [(30, (s.tm 6)), (31, t8)], s.ds⟩ h9) (QP s.ds)
def F8.k2 (W : Nat → Prop) (Q : Post) (QP : PPost) (s : St) (h : AH) : Prop := F8.t2 W Q QP s h
theorem F8.k2_a : aw Try.prog 36 W F8.pl (Code.at F8.code [1, 1, 1, 1, 1, 0, 0, 0, 1, 0]) (blockQ 1 (Q)) QP s h = F8.t2 W Q QP s h := by kernel_rfl
theorem F8.k2_ok : aw Try.prog 36 W F8.pl (Code.at F8.code [1, 1, 1, 1, 1, 0, 0, 0, 1, 0]) (blockQ 1 (Q)) QP s h = F8.k2 W Q QP s h := (F8.k2_a W Q QP s h)
theorem F8.o1 : aw Try.prog 36 W F8.pl (Code.at F8.code [1, 1, 1, 1, 1, 0, 0, 0, 1]) (Q) QP s h = F8.k2 W Q QP s h := nd_block (a := (Code.at F8.code [1, 1, 1, 1, 1, 0, 0, 0, 1, 0])) (by kernel_rfl) (F8.k2_ok W Q QP s h)
def F8.t3 (Q : Post) (s : St) (h : AH) (C0 : KT) : Prop :=
  aIf (s.tm 29) (
  C0 s h) (
  Q (.exit 0) s h)
def F8.k3 (W : Nat → Prop) (Q : Post) (QP : PPost) (s : St) (h : AH) : Prop := F8.t3 Q s h (F8.k2 W Q QP)
theorem F8.k3_a (C0 : KT) : aIf (aev s (.tmp 29)) (aw Try.prog 36 W F8.pl (Code.at F8.code [1, 1, 1, 1, 1, 0, 0, 0, 0, 1, 0]) (thenQ (C0) (Q)) QP s h) (aw Try.prog 36 W F8.pl (Code.at F8.code [1, 1, 1, 1, 1, 0, 0, 0, 0, 1, 1]) (thenQ (C0) (Q)) QP s h) = F8.t3 Q s h C0 := by kernel_rfl
theorem F8.k3_ok : aw Try.prog 36 W F8.pl (Code.at F8.code [1, 1, 1, 1, 1, 0, 0, 0, 0, 1]) (thenQ (F8.k2 W Q QP) (Q)) QP s h = F8.k3 W Q QP s h := nd_cond (a := (Code.at F8.code [1, 1, 1, 1, 1, 0, 0, 0, 0, 1, 0])) (b := (Code.at F8.code [1, 1, 1, 1, 1, 0, 0, 0, 0, 1, 1])) (by kernel_rfl) rfl rfl (F8.k3_a W Q QP s h (F8.k2 W Q QP))
def F8.t4 (s : St) (h : AH) (C0 C1 : KT) : Prop :=
  pNil (s.tm 6) fun t10 =>
  pFld (some 1) t10 fun t11 =>
  lLd (some false) (some 1) t11 h fun t12 _ =>
  (strArg (s.tm 5) = false) ∧ pLen (s.tm 5) fun t14 =>
  pBin Try.prog .lss 3 false t12 t14 fun t15 =>
  C1 ⟨puts s.tm [(23, (s.tm 6)), (24, t10), (25, t11), (26, t12), (27, (s.tm 5)), (28, t14), (29, t15)], s.ds⟩ h
def F8.k4 (W : Nat → Prop) (Q : Post) (QP : PPost) (s : St) (h : AH) : Prop := F8.t4 s h (F8.k2 W Q QP) (F8.k3 W Q QP)
theorem F8.k4_a (C0 C1 : KT) : aw Try.prog 36 W F8.pl (Code.at F8.code [1, 1, 1, 1, 1, 0, 0, 0, 0, 0]) (thenQ (C1) (thenQ (C0) (Q))) QP s h = F8.t4 s h C0 C1 := by kernel_rfl
theorem F8.k4_ok : aw Try.prog 36 W F8.pl (Code.at F8.code [1, 1, 1, 1, 1, 0, 0, 0, 0]) (thenQ (F8.k2 W Q QP) (Q)) QP s h = F8.k4 W Q QP s h := nd_seq (a := (Code.at F8.code [1, 1, 1, 1, 1, 0, 0, 0, 0, 0])) (b := (Code.at F8.code [1, 1, 1, 1, 1, 0, 0, 0, 0, 1])) (by kernel_rfl) (F8.k3_ok W Q QP) (F8.k4_a W Q QP s h (F8.k2 W Q QP) (F8.k3 W Q QP))
theorem F8.o2 : aw Try.prog 36 W F8.pl (Code.at F8.code [1, 1, 1, 1, 1, 0, 0, 0]) (Q) QP s h = F8.k4 W Q QP s h := nd_seq (a := (Code.at F8.code [1, 1, 1, 1, 1, 0, 0, 0, 0])) (b := (Code.at F8.code [1, 1, 1, 1, 1, 0, 0, 0, 1])) (by kernel_rfl) (F8.o1 W Q QP) (F8.k4_ok W Q QP s h)
noncomputable def F8.c1 : Code := (Code.at F8.code [1, 1, 1, 1, 1, 0, 0, 0])
theorem F8.l1 : aw Try.prog 36 W F8.pl F8.c1 Q QP s h = F8.k4 W Q QP s h := F8.o2 W Q QP s h
def F8.k5 (W : Nat → Prop) (Q : Post) (QP : PPost) (s : St) (h : AH) : Prop := aLoop (aw Try.prog 36 W F8.pl F8.c1) (blockQ 0 (thenQ (F8.k1 W Q QP) (Q))) QP s h
theorem F8.k5_ok : aw Try.prog 36 W F8.pl (Code.at F8.code [1, 1, 1, 1, 1, 0, 0]) (blockQ 0 (thenQ (F8.k1 W Q QP) (Q))) QP s h = F8.k5 W Q QP s h := nd_loop (a := F8.c1) (by kernel_rfl)
theorem F8.o3 : aw Try.prog 36 W F8.pl (Code.at F8.code [1, 1, 1, 1, 1, 0]) (thenQ (F8.k1 W Q QP) (Q)) QP s h = F8.k5 W Q QP s h := nd_block (a := (Code.at F8.code [1, 1, 1, 1, 1, 0, 0])) (by kernel_rfl) (F8.k5_ok W Q QP s h)
theorem F8.o4 : aw Try.prog 36 W F8.pl (Code.at F8.code [1, 1, 1, 1, 1]) (Q) QP s h = F8.k5 W Q QP s h := nd_seq (a := (Code.at F8.code [1, 1, 1, 1, 1, 0])) (b := (Code.at F8.code [1, 1, 1, 1, 1, 1])) (by kernel_rfl) (F8.k1_ok W Q QP) (F8.o3 W Q QP s h)
def F8.t6 (s : St) (h : AH) (C0 : KT) : Prop :=
  (strArg (s.tm 0) = true) ∧ pLen (s.tm 0) fun t16 =>
  pBld (some ([.slice none 0 0, .int .i64 0, .int .i64 0, .slice none 0 0], .inl [(0, 1), (1, 1), (2, 1), (3, 1)])) [(0, (s.tm 5)), (2, t16)] fun t17 =>
  eBox 4 51 t17 h fun t18 h19 =>
  C0 ⟨puts s.tm [(18, (s.tm 5)), (19, (s.tm 0)), (20, t16), (21, t17), (22, t18), (6, t18)], s.ds⟩ h19
def F8.k6 (W : Nat → Prop) (Q : Post) (QP : PPost) (s : St) (h : AH) : Prop := F8.t6 s h (F8.k5 W Q QP)
theorem F8.k6_a (C0 : KT) : aw Try.prog 36 W F8.pl (Code.at F8.code [1, 1, 1, 1, 0]) (thenQ (C0) (Q)) QP s h = F8.t6 s h C0 := by kernel_rfl
theorem F8.k6_ok : aw Try.prog 36 W F8.pl (Code.at F8.code [1, 1, 1, 1]) (Q) QP s h = F8.k6 W Q QP s h := nd_seq (a := (Code.at F8.code [1, 1, 1, 1, 0])) (b := (Code.at F8.code [1, 1, 1, 1, 1])) (by kernel_rfl) (F8.o4 W Q QP) (F8.k6_a W Q QP s h (F8.k5 W Q QP))
def F8.t7 (s : St) (h : AH) (C0 : KT) : Prop :=
  aDef (.fn (.func 13) [] [(s.tm 2), (s.tm 3), (s.tm 4)]) [] s.ds fun d20 =>
  C0 ⟨puts s.tm [(17, (.fn (.func 13) [] [(s.tm 2), (s.tm 3), (s.tm 4)]))], d20⟩ h
def F8.k7 (W : Nat → Prop) (Q : Post) (QP : PPost) (s : St) (h : AH) : Prop := F8.t7 s h (F8.k6 W Q QP)
theorem F8.k7_a (C0 : KT) : aw Try.prog 36 W F8.pl (Code.at F8.code [1, 1, 1, 0]) (thenQ (C0) (Q)) QP s h = F8.t7 s h C0 := by kernel_rfl
theorem F8.k7_ok : aw Try.prog 36 W F8.pl (Code.at F8.code [1, 1, 1]) (Q) QP s h = F8.k7 W Q QP s h := nd_seq (a := (Code.at F8.code [1, 1, 1, 0])) (b := (Code.at F8.code [1, 1, 1, 1])) (by kernel_rfl) (F8.k6_ok W Q QP) (F8.k7_a W Q QP s h (F8.k6 W Q QP))
def F8.t8 (Q : Post) (s : St) (h : AH) (C0 : KT) : Prop :=
  Q .ret s h
def F8.k8 (W : Nat → Prop) (Q : Post) (QP : PPost) (s : St) (h : AH) : Prop := F8.t8 Q s h (F8.k7 W Q QP)
theorem F8.k8_a (C0 : KT) : aw Try.prog 36 W F8.pl (Code.at F8.code [1, 1, 0, 1, 0, 1]) (thenQ (C0) (Q)) QP s h = F8.t8 Q s h C0 := by kernel_rfl
theorem F8.k8_ok : aw Try.prog 36 W F8.pl (Code.at F8.code [1, 1, 0, 1, 0, 1]) (thenQ (F8.k7 W Q QP) (Q)) QP s h = F8.k8 W Q QP s h := (F8.k8_a W Q QP s h (F8.k7 W Q QP))
def F8.t9 (W : Nat → Prop) (s : St) (h : AH) (C0 C1 : KT) : Prop :=
  ∃ Hd : Nat → Nat, (∀ i ∈ [0, 1], h.obj (Hd i) ≠ none) ∧ (
  lLd (some false) (some 1) (s.tm 3) h fun t21 i22 =>
  (i22 = Hd 0) ∧ (
  lLd (some false) (some 1) (s.tm 4) h fun t23 i24 =>
  (i24 = Hd 1) ∧ (
  eStore (some 1) (s.tm 2) (.sc (.slice none 0 0)) h (banL W Hd [0, 1]) fun h25 =>
  eStore (some 1) (s.tm 3) t21 h25 (banL W Hd [1]) fun h26 =>
  eStore (some 1) (s.tm 4) t23 h26 W fun h27 =>
  C1 ⟨puts s.tm [(15, t21), (16, t23)], s.ds⟩ h27)))
def F8.k9 (W : Nat → Prop) (Q : Post) (QP : PPost) (s : St) (h : AH) : Prop := F8.t9 W s h (F8.k7 W Q QP) (F8.k8 W Q QP)
theorem F8.k9_a (C0 C1 : KT) : aw Try.prog 36 W F8.pl (Code.at F8.code [1, 1, 0, 1, 0, 0]) (thenQ (C1) (thenQ (C0) (Q))) QP s h = F8.t9 W s h C0 C1 := by kernel_rfl
theorem F8.k9_ok : aw Try.prog 36 W F8.pl (Code.at F8.code [1, 1, 0, 1, 0, 0]) (thenQ (F8.k8 W Q QP) (thenQ (F8.k7 W Q QP) (Q))) QP s h = F8.k9 W Q QP s h := (F8.k9_a W Q QP s h (F8.k7 W Q QP) (F8.k8 W Q QP))
theorem F8.o5 : aw Try.prog 36 W F8.pl (Code.at F8.code [1, 1, 0, 1, 0]) (thenQ (F8.k7 W Q QP) (Q)) QP s h = F8.k9 W Q QP s h := nd_seq (a := (Code.at F8.code [1, 1, 0, 1, 0, 0])) (b := (Code.at F8.code [1, 1, 0, 1, 0, 1])) (by kernel_rfl) (F8.k8_ok W Q QP) (F8.k9_ok W Q QP s h)
def F8.t10 (s : St) (h : AH) (C0 C1 : KT) : Prop :=
  aIf (s.tm 14) (
  C1 s h) (
  C0 s h)
def F8.k10 (W : Nat → Prop) (Q : Post) (QP : PPost) (s : St) (h : AH) : Prop := F8.t10 s h (F8.k7 W Q QP) (F8.k9 W Q QP)
theorem F8.k10_a (C0 C1 : KT) : aIf (aev s (.tmp 14)) (C1 s h) (aw Try.prog 36 W F8.pl (Code.at F8.code [1, 1, 0, 1, 1]) (thenQ (C0) (Q)) QP s h) = F8.t10 s h C0 C1 := by kernel_rfl
theorem F8.k10_ok : aw Try.prog 36 W F8.pl (Code.at F8.code [1, 1, 0, 1]) (thenQ (F8.k7 W Q QP) (Q)) QP s h = F8.k10 W Q QP s h := nd_cond (a := (Code.at F8.code [1, 1, 0, 1, 0])) (b := (Code.at F8.code [1, 1, 0, 1, 1])) (by kernel_rfl) (F8.o5 W Q QP s h) rfl (F8.k10_a W Q QP s h (F8.k7 W Q QP) (F8.k9 W Q QP))
def F8.t11 (s : St) (h : AH) (C0 C1 : KT) : Prop :=
  lLd (some false) (some 1) (s.tm 4) h fun t28 _ =>
  pBin Try.prog .neq 26 true t28 (.sc (.int .i64 0)) fun t30 =>
  C0 ⟨puts s.tm [(13, t28), (14, t30)], s.ds⟩ h
def F8.k11 (W : Nat → Prop) (Q : Post) (QP : PPost) (s : St) (h : AH) : Prop := F8.t11 s h (F8.k10 W Q QP) (F8.k7 W Q QP)
theorem F8.k11_a (C0 C1 : KT) : aw Try.prog 36 W F8.pl (Code.at F8.code [1, 1, 0, 0]) (thenQ (C0) (thenQ (C1) (Q))) QP s h = F8.t11 s h C0 C1 := by kernel_rfl
theorem F8.k11_ok : aw Try.prog 36 W F8.pl (Code.at F8.code [1, 1, 0]) (thenQ (F8.k7 W Q QP) (Q)) QP s h = F8.k11 W Q QP s h := nd_seq (a := (Code.at F8.code [1, 1, 0, 0])) (b := (Code.at F8.code [1, 1, 0, 1])) (by kernel_rfl) (F8.k10_ok W Q QP) (F8.k11_a W Q QP s h (F8.k10 W Q QP) (F8.k7 W Q QP))
theorem F8.o6 : aw Try.prog 36 W F8.pl (Code.at F8.code [1, 1]) (Q) QP s h = F8.k11 W Q QP s h := nd_seq (a := (Code.at F8.code [1, 1, 0])) (b := (Code.at F8.code [1, 1, 1])) (by kernel_rfl) (F8.k7_ok W Q QP) (F8.k11_ok W Q QP s h)
def F8.t12 (W : Nat → Prop) (QP : PPost) (s : St) (h : AH) (C0 : KT) : Prop :=
  aCall Try.prog W 10 [(s.tm 0)] h (fun t31 h32 =>
  pExt t31 0 fun t33 =>
  pExt t31 1 fun t34 =>
  pExt t31 2 fun t35 =>
  eStore (some 1) (s.tm 3) t34 h32 W fun h36 =>
  eStore (some 1) (s.tm 4) t35 h36 W fun h37 =>
  C0 ⟨puts s.tm [(8, (s.tm 0)), (9, t31), (7, t31), (10, t33), (11, t34), (12, t35), (5, t33)], s.ds⟩ h37) (QP s.ds)
def F8.k12 (W : Nat → Prop) (Q : Post) (QP : PPost) (s : St) (h : AH) : Prop := F8.t12 W QP s h (F8.k11 W Q QP)
theorem F8.k12_a (C0 : KT) : aw Try.prog 36 W F8.pl (Code.at F8.code [1, 0]) (thenQ (C0) (Q)) QP s h = F8.t12 W QP s h C0 := by kernel_rfl
theorem F8.k12_ok : aw Try.prog 36 W F8.pl (Code.at F8.code [1]) (Q) QP s h = F8.k12 W Q QP s h := nd_seq (a := (Code.at F8.code [1, 0])) (b := (Code.at F8.code [1, 1])) (by kernel_rfl) (F8.o6 W Q QP) (F8.k12_a W Q QP s h (F8.k11 W Q QP))
def F8.t13 (s : St) (h : AH) (C0 : KT) : Prop :=
  eAlloc (some [.slice none 0 0]) 1 23 h fun t38 h39 =>
  eAlloc (some [.int .i64 0]) 1 3 h39 fun t40 h41 =>
  eAlloc (some [.int .i64 0]) 1 26 h41 fun t42 h43 =>
  C0 ⟨puts s.tm [(2, t38), (3, t40), (4, t42)], s.ds⟩ h43
def F8.k13 (W : Nat → Prop) (Q : Post) (QP : PPost) (s : St) (h : AH) : Prop := F8.t13 s h (F8.k12 W Q QP)
theorem F8.k13_a (C0 : KT) : aw Try.prog 36 W F8.pl (Code.at F8.code [0]) (thenQ (C0) (Q)) QP s h = F8.t13 s h C0 := by kernel_rfl
theorem F8.k13_ok : aw Try.prog 36 W F8.pl (Code.at F8.code []) (Q) QP s h = F8.k13 W Q QP s h := nd_seq (a := (Code.at F8.code [0])) (b := (Code.at F8.code [1])) (by kernel_rfl) (F8.k12_ok W Q QP) (F8.k13_a W Q QP s h (F8.k12 W Q QP))
end
theorem F8.calls {x0 : AV} {h : AH} {M : Nat → Prop} {R : AE → AH → Prop} (hp : F8.k13 (fun id => M id ∨ h.next ≤ id) (bodyQ Try.prog [.cell 2 23, .cell 3 3, .cell 4 26] R) (bodyP R) (s0 [x0]) h) : ACalls Try.prog 8 [x0] h M R :=
  acalls_of Try.mixed Try.func8 rfl (Nat.le_of_ble_eq_true rfl) F8.ok (by rw [show Try.f8.ntmps = 36 from rfl, show Try.f8.results.toList = [.cell 2 23, .cell 3 3, .cell 4 26] from rfl]; exact Eq.mpr (F8.k13_ok _ _ _ _ _) hp)
attribute [simp] F8.k1 F8.t1 F8.k2 F8.t2 F8.k3 F8.t3 F8.k4 F8.t4 F8.k5 F8.k6 F8.t6 F8.k7 F8.t7 F8.k8 F8.t8 F8.k9 F8.t9 F8.k10 F8.t10 F8.k11 F8.t11 F8.k12 F8.t12 F8.k13 F8.t13

/-! cubit/cubitlaw10.same -/
section
variable (W : Nat → Prop) (Q : Post) (QP : PPost) (s : St) (h : AH)
noncomputable def F9.code : Code := Try.f9.body.getD .skip
def F9.g1 : Grps := [(none, [(0, false), (1, false), (2, false), (3, false), (4, false), (5, false)]), (some (5, false), [(6, false), (7, false), (8, false), (9, false), (10, false)]), (none, [(11, false), (12, false)]), (some (12, false), [(13, false), (14, false), (15, false), (16, false), (17, false)]), (none, [(18, false), (19, false)]), (some (19, false), [(20, false), (21, false), (22, false), (23, false), (24, false)]), (none, [(25, false), (26, false)]), (some (26, false), [(27, false), (28, false)]), (some (28, true), [(29, false), (30, false), (31, false), (32, false), (33, false)]), (some (26, false), [(34, false)]), (none, [(35, false), (36, false)]), (some (36, false), [(37, false), (38, false), (39, false), (40, false), (41, false), (42, false), (43, false)]), (none, [(44, false)])]
def F9.pl : Plans := [(7, ⟨F9.g1, false, []⟩), (12, ⟨[(none, [(0, false), (1, false), (2, false), (3, false), (4, false), (5, false), (6, false)])], false, []⟩)]
theorem F9.ok : okCode F9.pl F9.code = true := by kernel_rfl
def F9.t1 (Q : Post) (s : St) (h : AH) : Prop :=
  Q .ret ⟨puts s.tm [(6, (.sc (.bool true)))], s.ds⟩ h
def F9.k1 (W : Nat → Prop) (Q : Post) (QP : PPost) (s : St) (h : AH) : Prop := F9.t1 Q s h
theorem F9.k1_a : aw Try.prog 90 W F9.pl (Code.at F9.code [1, 1, 1, 0]) (thenQ (aw Try.prog 90 W F9.pl (Code.at F9.code [1, 1, 1, 1]) (Q) QP) (Q)) QP s h = F9.t1 Q s h := by kernel_rfl
theorem F9.k1_ok : aw Try.prog 90 W F9.pl (Code.at F9.code [1, 1, 1]) (Q) QP s h = F9.k1 W Q QP s h := nd_seq (a := (Code.at F9.code [1, 1, 1, 0])) (b := (Code.at F9.code [1, 1, 1, 1])) (by kernel_rfl) (fun _ _ => rfl) (F9.k1_a W Q QP s h)
def F9.t2 (Q : Post) (s : St) (h : AH) : Prop :=
  pBin Try.prog .add 3 true (s.tm 19) (.sc (.int .i64 1)) fun t1 =>
  Q .normal ⟨puts s.tm [(89, t1), (19, t1)], s.ds⟩ h
def F9.k2 (W : Nat → Prop) (Q : Post) (QP : PPost) (s : St) (h : AH) : Prop := F9.t2 Q s h
theorem F9.k2_a : aw Try.prog 90 W F9.pl (Code.at F9.code [1, 1, 0, 1, 0, 0, 1, 1, 1]) (Q) QP s h = F9.t2 Q s h := by kernel_rfl
theorem F9.k2_ok : aw Try.prog 90 W F9.pl (Code.at F9.code [1, 1, 0, 1, 0, 0, 1, 1, 1]) (Q) QP s h = F9.k2 W Q QP s h := (F9.k2_a W Q QP s h)
def F9.t3 (Q : Post) (s : St) (h : AH) : Prop :=
  pBin Try.prog .add 3 true (s.tm 76) (.sc (.int .i64 1)) fun t2 =>
  Q .normal ⟨puts s.tm [(88, t2), (76, t2)], s.ds⟩ h
def F9.k3 (W : Nat → Prop) (Q : Post) (QP : PPost) (s : St) (h : AH) : Prop := F9.t3 Q s h
theorem F9.k3_a : aw Try.prog 90 W F9.pl (Code.at F9.code [1, 1, 0, 1, 0, 0, 1, 1, 0, 0, 1, 1, 1, 1, 0, 0, 1, 1, 1]) (Q) QP s h = F9.t3 Q s h := by kernel_rfl
theorem F9.k3_ok : aw Try.prog 90 W F9.pl (Code.at F9.code [1, 1, 0, 1, 0, 0, 1, 1, 0, 0, 1, 1, 1, 1, 0, 0, 1, 1, 1]) (Q) QP s h = F9.k3 W Q QP s h := (F9.k3_a W Q QP s h)
def F9.t4 (Q : Post) (s : St) (h : AH) (C0 : KT) : Prop :=
  Q .ret ⟨puts s.tm [(6, (.sc (.bool false)))], s.ds⟩ h
def F9.k4 (W : Nat → Prop) (Q : Post) (QP : PPost) (s : St) (h : AH) : Prop := F9.t4 Q s h (F9.k3 W Q QP)
theorem F9.k4_a (C0 : KT) : aw Try.prog 90 W F9.pl (Code.at F9.code [1, 1, 0, 1, 0, 0, 1, 1, 0, 0, 1, 1, 1, 1, 0, 0, 1, 1, 0, 0, 1, 1, 0, 0]) (thenQ (aw Try.prog 90 W F9.pl (Code.at F9.code [1, 1, 0, 1, 0, 0, 1, 1, 0, 0, 1, 1, 1, 1, 0, 0, 1, 1, 0, 0, 1, 1, 0, 1]) (blockQ 3 (thenQ (C0) (Q))) QP) (blockQ 3 (thenQ (C0) (Q)))) QP s h = F9.t4 Q s h C0 := by kernel_rfl
theorem F9.k4_ok : aw Try.prog 90 W F9.pl (Code.at F9.code [1, 1, 0, 1, 0, 0, 1, 1, 0, 0, 1, 1, 1, 1, 0, 0, 1, 1, 0, 0, 1, 1, 0]) (blockQ 3 (thenQ (F9.k3 W Q QP) (Q))) QP s h = F9.k4 W Q QP s h := nd_seq (a := (Code.at F9.code [1, 1, 0, 1, 0, 0, 1, 1, 0, 0, 1, 1, 1, 1, 0, 0, 1, 1, 0, 0, 1, 1, 0, 0])) (b := (Code.at F9.code [1, 1, 0, 1, 0, 0, 1, 1, 0, 0, 1, 1, 1, 1, 0, 0, 1, 1, 0, 0, 1, 1, 0, 1])) (by kernel_rfl) (fun _ _ => rfl) (F9.k4_a W Q QP s h (F9.k3 W Q QP))
def F9.t5 (s : St) (h : AH) (C0 C1 : KT) : Prop :=
  aIf (s.tm 87) (
  C1 s h) (
  C0 s h)
def F9.k5 (W : Nat → Prop) (Q : Post) (QP : PPost) (s : St) (h : AH) : Prop := F9.t5 s h (F9.k3 W Q QP) (F9.k4 W Q QP)
theorem F9.k5_a (C0 C1 : KT) : aIf (aev s (.tmp 87)) (C1 s h) (aw Try.prog 90 W F9.pl (Code.at F9.code [1, 1, 0, 1, 0, 0, 1, 1, 0, 0, 1, 1, 1, 1, 0, 0, 1, 1, 0, 0, 1, 1, 1]) (blockQ 3 (thenQ (C0) (Q))) QP s h) = F9.t5 s h C0 C1 := by kernel_rfl
theorem F9.k5_ok : aw Try.prog 90 W F9.pl (Code.at F9.code [1, 1, 0, 1, 0, 0, 1, 1, 0, 0, 1, 1, 1, 1, 0, 0, 1, 1, 0, 0, 1, 1]) (blockQ 3 (thenQ (F9.k3 W Q QP) (Q))) QP s h = F9.k5 W Q QP s h := nd_cond (a := (Code.at F9.code [1, 1, 0, 1, 0, 0, 1, 1, 0, 0, 1, 1, 1, 1, 0, 0, 1, 1, 0, 0, 1, 1, 0])) (b := (Code.at F9.code [1, 1, 0, 1, 0, 0, 1, 1, 0, 0, 1, 1, 1, 1, 0, 0, 1, 1, 0, 0, 1, 1, 1])) (by kernel_rfl) (F9.k4_ok W Q QP s h) rfl (F9.k5_a W Q QP s h (F9.k3 W Q QP) (F9.k4 W Q QP))
def F9.t6 (s : St) (h : AH) (C0 C1 : KT) : Prop :=
  lLd (some true) (some 2) (s.tm 11) h fun t3 _ =>
  pFld (some 2) (s.tm 9) fun t5 =>
  lLd (some false) (some 1) t5 h fun t6 _ =>
  pIxA (some (2, none)) t6 (s.tm 10) fun t8 =>
  lLd (some true) (some 2) t8 h fun t9 _ =>
  pBin Try.prog .neq 53 false t3 t9 fun t11 =>
  C1 ⟨puts s.tm [(81, t3), (82, t5), (83, t6), (84, (s.tm 10)), (85, t8), (86, t9), (87, t11)], s.ds⟩ h
def F9.k6 (W : Nat → Prop) (Q : Post) (QP : PPost) (s : St) (h : AH) : Prop := F9.t6 s h (F9.k3 W Q QP) (F9.k5 W Q QP)
theorem F9.k6_a (C0 C1 : KT) : aw Try.prog 90 W F9.pl (Code.at F9.code [1, 1, 0, 1, 0, 0, 1, 1, 0, 0, 1, 1, 1, 1, 0, 0, 1, 1, 0, 0, 1, 0]) (thenQ (C1) (blockQ 3 (thenQ (C0) (Q)))) QP s h = F9.t6 s h C0 C1 := by kernel_rfl
theorem F9.k6_ok : aw Try.prog 90 W F9.pl (Code.at F9.code [1, 1, 0, 1, 0, 0, 1, 1, 0, 0, 1, 1, 1, 1, 0, 0, 1, 1, 0, 0, 1]) (blockQ 3 (thenQ (F9.k3 W Q QP) (Q))) QP s h = F9.k6 W Q QP s h := nd_seq (a := (Code.at F9.code [1, 1, 0, 1, 0, 0, 1, 1, 0, 0, 1, 1, 1, 1, 0, 0, 1, 1, 0, 0, 1, 0])) (b := (Code.at F9.code [1, 1, 0, 1, 0, 0, 1, 1, 0, 0, 1, 1, 1, 1, 0, 0, 1, 1, 0, 0, 1, 1])) (by kernel_rfl) (F9.k5_ok W Q QP) (F9.k6_a W Q QP s h (F9.k3 W Q QP) (F9.k5 W Q QP))
def F9.t7 (W : Nat → Prop) (s : St) (h : AH) (C0 C1 : KT) : Prop :=
  pIxA (some (2, none)) (s.tm 74) (s.tm 76) fun t12 =>
  lLd (some true) (some 2) t12 h fun t13 _ =>
  eAlloc (some [.string ⟨#[]⟩, .int .i64 0]) 2 53 h fun t15 h16 =>
  eStore (some 2) t15 t13 h16 W fun h17 =>
  C1 ⟨puts s.tm [(78, (s.tm 76)), (79, t12), (80, t13), (11, t15), (10, (s.tm 76))], s.ds⟩ h17
def F9.k7 (W : Nat → Prop) (Q : Post) (QP : PPost) (s : St) (h : AH) : Prop := F9.t7 W s h (F9.k3 W Q QP) (F9.k6 W Q QP)
theorem F9.k7_a (C0 C1 : KT) : aw Try.prog 90 W F9.pl (Code.at F9.code [1, 1, 0, 1, 0, 0, 1, 1, 0, 0, 1, 1, 1, 1, 0, 0, 1, 1, 0, 0, 0]) (thenQ (C1) (blockQ 3 (thenQ (C0) (Q)))) QP s h = F9.t7 W s h C0 C1 := by kernel_rfl
theorem F9.k7_ok : aw Try.prog 90 W F9.pl (Code.at F9.code [1, 1, 0, 1, 0, 0, 1, 1, 0, 0, 1, 1, 1, 1, 0, 0, 1, 1, 0, 0]) (blockQ 3 (thenQ (F9.k3 W Q QP) (Q))) QP s h = F9.k7 W Q QP s h := nd_seq (a := (Code.at F9.code [1, 1, 0, 1, 0, 0, 1, 1, 0, 0, 1, 1, 1, 1, 0, 0, 1, 1, 0, 0, 0])) (b := (Code.at F9.code [1, 1, 0, 1, 0, 0, 1, 1, 0, 0, 1, 1, 1, 1, 0, 0, 1, 1, 0, 0, 1])) (by kernel_rfl) (F9.k6_ok W Q QP) (F9.k7_a W Q QP s h (F9.k3 W Q QP) (F9.k6 W Q QP))
theorem F9.o1 : aw Try.prog 90 W F9.pl (Code.at F9.code [1, 1, 0, 1, 0, 0, 1, 1, 0, 0, 1, 1, 1, 1, 0, 0, 1, 1, 0]) (thenQ (F9.k3 W Q QP) (Q)) QP s h = F9.k7 W Q QP s h := nd_block (a := (Code.at F9.code [1, 1, 0, 1, 0, 0, 1, 1, 0, 0, 1, 1, 1, 1, 0, 0, 1, 1, 0, 0])) (by kernel_rfl) (F9.k7_ok W Q QP s h)
theorem F9.o2 : aw Try.prog 90 W F9.pl (Code.at F9.code [1, 1, 0, 1, 0, 0, 1, 1, 0, 0, 1, 1, 1, 1, 0, 0, 1, 1]) (Q) QP s h = F9.k7 W Q QP s h := nd_seq (a := (Code.at F9.code [1, 1, 0, 1, 0, 0, 1, 1, 0, 0, 1, 1, 1, 1, 0, 0, 1, 1, 0])) (b := (Code.at F9.code [1, 1, 0, 1, 0, 0, 1, 1, 0, 0, 1, 1, 1, 1, 0, 0, 1, 1, 1])) (by kernel_rfl) (F9.k3_ok W Q QP) (F9.o1 W Q QP s h)
def F9.t8 (Q : Post) (s : St) (h : AH) (C0 : KT) : Prop :=
  aIf (s.tm 77) (
  C0 s h) (
  Q (.exit 2) s h)
def F9.k8 (W : Nat → Prop) (Q : Post) (QP : PPost) (s : St) (h : AH) : Prop := F9.t8 Q s h (F9.k7 W Q QP)
theorem F9.k8_a (C0 : KT) : aIf (aev s (.tmp 77)) (aw Try.prog 90 W F9.pl (Code.at F9.code [1, 1, 0, 1, 0, 0, 1, 1, 0, 0, 1, 1, 1, 1, 0, 0, 1, 0, 0]) (thenQ (C0) (Q)) QP s h) (aw Try.prog 90 W F9.pl (Code.at F9.code [1, 1, 0, 1, 0, 0, 1, 1, 0, 0, 1, 1, 1, 1, 0, 0, 1, 0, 1]) (thenQ (C0) (Q)) QP s h) = F9.t8 Q s h C0 := by kernel_rfl
theorem F9.k8_ok : aw Try.prog 90 W F9.pl (Code.at F9.code [1, 1, 0, 1, 0, 0, 1, 1, 0, 0, 1, 1, 1, 1, 0, 0, 1, 0]) (thenQ (F9.k7 W Q QP) (Q)) QP s h = F9.k8 W Q QP s h := nd_cond (a := (Code.at F9.code [1, 1, 0, 1, 0, 0, 1, 1, 0, 0, 1, 1, 1, 1, 0, 0, 1, 0, 0])) (b := (Code.at F9.code [1, 1, 0, 1, 0, 0, 1, 1, 0, 0, 1, 1, 1, 1, 0, 0, 1, 0, 1])) (by kernel_rfl) rfl rfl (F9.k8_a W Q QP s h (F9.k7 W Q QP))
theorem F9.o3 : aw Try.prog 90 W F9.pl (Code.at F9.code [1, 1, 0, 1, 0, 0, 1, 1, 0, 0, 1, 1, 1, 1, 0, 0, 1]) (Q) QP s h = F9.k8 W Q QP s h := nd_seq (a := (Code.at F9.code [1, 1, 0, 1, 0, 0, 1, 1, 0, 0, 1, 1, 1, 1, 0, 0, 1, 0])) (b := (Code.at F9.code [1, 1, 0, 1, 0, 0, 1, 1, 0, 0, 1, 1, 1, 1, 0, 0, 1, 1])) (by kernel_rfl) (F9.o2 W Q QP) (F9.k8_ok W Q QP s h)
def F9.t9 (s : St) (h : AH) (C0 : KT) : Prop :=
  pBin Try.prog .lss 3 false (s.tm 76) (s.tm 75) fun t18 =>
  C0 ⟨puts s.tm [(77, t18)], s.ds⟩ h
def F9.k9 (W : Nat → Prop) (Q : Post) (QP : PPost) (s : St) (h : AH) : Prop := F9.t9 s h (F9.k8 W Q QP)
theorem F9.k9_a (C0 : KT) : aw Try.prog 90 W F9.pl (Code.at F9.code [1, 1, 0, 1, 0, 0, 1, 1, 0, 0, 1, 1, 1, 1, 0, 0, 0]) (thenQ (C0) (Q)) QP s h = F9.t9 s h C0 := by kernel_rfl
theorem F9.k9_ok : aw Try.prog 90 W F9.pl (Code.at F9.code [1, 1, 0, 1, 0, 0, 1, 1, 0, 0, 1, 1, 1, 1, 0, 0]) (Q) QP s h = F9.k9 W Q QP s h := nd_seq (a := (Code.at F9.code [1, 1, 0, 1, 0, 0, 1, 1, 0, 0, 1, 1, 1, 1, 0, 0, 0])) (b := (Code.at F9.code [1, 1, 0, 1, 0, 0, 1, 1, 0, 0, 1, 1, 1, 1, 0, 0, 1])) (by kernel_rfl) (F9.o3 W Q QP) (F9.k9_a W Q QP s h (F9.k8 W Q QP))
noncomputable def F9.c2 : Code := (Code.at F9.code [1, 1, 0, 1, 0, 0, 1, 1, 0, 0, 1, 1, 1, 1, 0, 0])
theorem F9.l2 : aw Try.prog 90 W F9.pl F9.c2 Q QP s h = F9.k9 W Q QP s h := F9.k9_ok W Q QP s h
def F9.k10 (W : Nat → Prop) (Q : Post) (QP : PPost) (s : St) (h : AH) : Prop := aLoop (aw Try.prog 90 W F9.pl F9.c2) (blockQ 2 (blockQ 1 (thenQ (F9.k2 W Q QP) (Q)))) QP s h
theorem F9.k10_ok : aw Try.prog 90 W F9.pl (Code.at F9.code [1, 1, 0, 1, 0, 0, 1, 1, 0, 0, 1, 1, 1, 1, 0]) (blockQ 2 (blockQ 1 (thenQ (F9.k2 W Q QP) (Q)))) QP s h = F9.k10 W Q QP s h := nd_loop (a := F9.c2) (by kernel_rfl)
theorem F9.o4 : aw Try.prog 90 W F9.pl (Code.at F9.code [1, 1, 0, 1, 0, 0, 1, 1, 0, 0, 1, 1, 1, 1]) (blockQ 1 (thenQ (F9.k2 W Q QP) (Q))) QP s h = F9.k10 W Q QP s h := nd_block (a := (Code.at F9.code [1, 1, 0, 1, 0, 0, 1, 1, 0, 0, 1, 1, 1, 1, 0])) (by kernel_rfl) (F9.k10_ok W Q QP s h)
def F9.t11 (s : St) (h : AH) (C0 C1 : KT) : Prop :=
  pFld (some 2) (s.tm 8) fun t19 =>
  lLd (some false) (some 1) t19 h fun t20 _ =>
  (strArg t20 = false) ∧ pLen t20 fun t22 =>
  C0 ⟨puts s.tm [(73, t19), (74, t20), (75, t22), (76, (.sc (.int .i64 0)))], s.ds⟩ h
def F9.k11 (W : Nat → Prop) (Q : Post) (QP : PPost) (s : St) (h : AH) : Prop := F9.t11 s h (F9.k10 W Q QP) (F9.k2 W Q QP)
theorem F9.k11_a (C0 C1 : KT) : aw Try.prog 90 W F9.pl (Code.at F9.code [1, 1, 0, 1, 0, 0, 1, 1, 0, 0, 1, 1, 1, 0]) (thenQ (C0) (blockQ 1 (thenQ (C1) (Q)))) QP s h = F9.t11 s h C0 C1 := by kernel_rfl
theorem F9.k11_ok : aw Try.prog 90 W F9.pl (Code.at F9.code [1, 1, 0, 1, 0, 0, 1, 1, 0, 0, 1, 1, 1]) (blockQ 1 (thenQ (F9.k2 W Q QP) (Q))) QP s h = F9.k11 W Q QP s h := nd_seq (a := (Code.at F9.code [1, 1, 0, 1, 0, 0, 1, 1, 0, 0, 1, 1, 1, 0])) (b := (Code.at F9.code [1, 1, 0, 1, 0, 0, 1, 1, 0, 0, 1, 1, 1, 1])) (by kernel_rfl) (F9.o4 W Q QP) (F9.k11_a W Q QP s h (F9.k10 W Q QP) (F9.k2 W Q QP))
def F9.t12 (Q : Post) (s : St) (h : AH) (C0 C1 : KT) : Prop :=
  Q .ret ⟨puts s.tm [(6, (.sc (.bool false)))], s.ds⟩ h
def F9.k12 (W : Nat → Prop) (Q : Post) (QP : PPost) (s : St) (h : AH) : Prop := F9.t12 Q s h (F9.k11 W Q QP) (F9.k2 W Q QP)
theorem F9.k12_a (C0 C1 : KT) : aw Try.prog 90 W F9.pl (Code.at F9.code [1, 1, 0, 1, 0, 0, 1, 1, 0, 0, 1, 1, 0, 1, 0, 0]) (thenQ (aw Try.prog 90 W F9.pl (Code.at F9.code [1, 1, 0, 1, 0, 0, 1, 1, 0, 0, 1, 1, 0, 1, 0, 1]) (thenQ (C0) (blockQ 1 (thenQ (C1) (Q)))) QP) (thenQ (C0) (blockQ 1 (thenQ (C1) (Q))))) QP s h = F9.t12 Q s h C0 C1 := by kernel_rfl
theorem F9.k12_ok : aw Try.prog 90 W F9.pl (Code.at F9.code [1, 1, 0, 1, 0, 0, 1, 1, 0, 0, 1, 1, 0, 1, 0]) (thenQ (F9.k11 W Q QP) (blockQ 1 (thenQ (F9.k2 W Q QP) (Q)))) QP s h = F9.k12 W Q QP s h := nd_seq (a := (Code.at F9.code [1, 1, 0, 1, 0, 0, 1, 1, 0, 0, 1, 1, 0, 1, 0, 0])) (b := (Code.at F9.code [1, 1, 0, 1, 0, 0, 1, 1, 0, 0, 1, 1, 0, 1, 0, 1])) (by kernel_rfl) (fun _ _ => rfl) (F9.k12_a W Q QP s h (F9.k11 W Q QP) (F9.k2 W Q QP))
def F9.t13 (s : St) (h : AH) (C0 C1 C2 : KT) : Prop :=
  aIf (s.tm 72) (
  C1 s h) (
  C0 s h)
def F9.k13 (W : Nat → Prop) (Q : Post) (QP : PPost) (s : St) (h : AH) : Prop := F9.t13 s h (F9.k11 W Q QP) (F9.k12 W Q QP) (F9.k2 W Q QP)
theorem F9.k13_a (C0 C1 C2 : KT) : aIf (aev s (.tmp 72)) (C1 s h) (aw Try.prog 90 W F9.pl (Code.at F9.code [1, 1, 0, 1, 0, 0, 1, 1, 0, 0, 1, 1, 0, 1, 1]) (thenQ (C0) (blockQ 1 (thenQ (C2) (Q)))) QP s h) = F9.t13 s h C0 C1 C2 := by kernel_rfl
theorem F9.k13_ok : aw Try.prog 90 W F9.pl (Code.at F9.code [1, 1, 0, 1, 0, 0, 1, 1, 0, 0, 1, 1, 0, 1]) (thenQ (F9.k11 W Q QP) (blockQ 1 (thenQ (F9.k2 W Q QP) (Q)))) QP s h = F9.k13 W Q QP s h := nd_cond (a := (Code.at F9.code [1, 1, 0, 1, 0, 0, 1, 1, 0, 0, 1, 1, 0, 1, 0])) (b := (Code.at F9.code [1, 1, 0, 1, 0, 0, 1, 1, 0, 0, 1, 1, 0, 1, 1])) (by kernel_rfl) (F9.k12_ok W Q QP s h) rfl (F9.k13_a W Q QP s h (F9.k11 W Q QP) (F9.k12 W Q QP) (F9.k2 W Q QP))
def F9.t14 (s : St) (h : AH) (C0 C1 C2 : KT) : Prop :=
  pPick (s.tm 64) (.sc (.bool true)) (s.tm 71) fun t23 =>
  C1 ⟨puts s.tm [(72, t23)], s.ds⟩ h
def F9.k14 (W : Nat → Prop) (Q : Post) (QP : PPost) (s : St) (h : AH) : Prop := F9.t14 s h (F9.k11 W Q QP) (F9.k13 W Q QP) (F9.k2 W Q QP)
theorem F9.k14_a (C0 C1 C2 : KT) : evI Try.prog 90 (fun _ => W) nobody QP (regOps (Code.at F9.code [1, 1, 0, 1, 0, 0, 1, 1, 0, 0, 1, 1, 0, 0])) (isAt F9.g1 12) ((thenQ (C1) (thenQ (C0) (blockQ 1 (thenQ (C2) (Q))))) .normal) s h = F9.t14 s h C0 C1 C2 := by kernel_rfl
theorem F9.k14_ok : evG Try.prog 90 (fun _ => W) nobody QP (regOps (Code.at F9.code [1, 1, 0, 1, 0, 0, 1, 1, 0, 0, 1, 1, 0, 0])) (F9.g1.drop 12) ((thenQ (F9.k13 W Q QP) (thenQ (F9.k11 W Q QP) (blockQ 1 (thenQ (F9.k2 W Q QP) (Q))))) .normal) s h = F9.k14 W Q QP s h := nd_g (is := isAt F9.g1 12) (rest := F9.g1.drop 13) (by kernel_rfl) (fun _ _ => rfl) (F9.k14_a W Q QP s h (F9.k11 W Q QP) (F9.k13 W Q QP) (F9.k2 W Q QP))
def F9.t15 (s : St) (h : AH) (C0 : KT) : Prop :=
  aIg false (s.tm 64) (
  pFld (some 2) (s.tm 8) fun t24 =>
  lLd (some false) (some 1) t24 h fun t25 _ =>
  (strArg t25 = false) ∧ pLen t25 fun t27 =>
  pFld (some 2) (s.tm 9) fun t28 =>
  lLd (some false) (some 1) t28 h fun t29 _ =>
  (strArg t29 = false) ∧ pLen t29 fun t31 =>
  pBin Try.prog .neq 3 false t27 t31 fun t32 =>
  C0 ⟨puts s.tm [(65, t24), (66, t25), (67, t27), (68, t28), (69, t29), (70, t31), (71, t32)], s.ds⟩ h) (
  C0 ⟨puts s.tm [(65, noA), (66, noA), (67, noA), (68, noA), (69, noA), (70, noA), (71, noA)], s.ds⟩ h)
def F9.k15 (W : Nat → Prop) (Q : Post) (QP : PPost) (s : St) (h : AH) : Prop := F9.t15 s h (F9.k14 W Q QP)
theorem F9.k15_a (C0 : KT) : aIg false (s.tm 64) (evI Try.prog 90 (fun _ => W) nobody QP (regOps (Code.at F9.code [1, 1, 0, 1, 0, 0, 1, 1, 0, 0, 1, 1, 0, 0])) (isAt F9.g1 11) (C0) s h) ((C0) (skI 90 (regOps (Code.at F9.code [1, 1, 0, 1, 0, 0, 1, 1, 0, 0, 1, 1, 0, 0])) (isAt F9.g1 11) s) h) = F9.t15 s h C0 := by kernel_rfl
theorem F9.k15_ok : evG Try.prog 90 (fun _ => W) nobody QP (regOps (Code.at F9.code [1, 1, 0, 1, 0, 0, 1, 1, 0, 0, 1, 1, 0, 0])) (F9.g1.drop 11) ((thenQ (F9.k13 W Q QP) (thenQ (F9.k11 W Q QP) (blockQ 1 (thenQ (F9.k2 W Q QP) (Q))))) .normal) s h = F9.k15 W Q QP s h := nd_gw (j := 36) (is := isAt F9.g1 11) (rest := F9.g1.drop 12) (by kernel_rfl) (d := 64) (by kernel_rfl) (F9.k14_ok W Q QP) (F9.k15_a W QP s h (F9.k14 W Q QP))
def F9.t16 (s : St) (h : AH) (C0 : KT) : Prop :=
  pPick (s.tm 54) (.sc (.bool true)) (s.tm 62) fun t33 =>
  C0 ⟨puts s.tm [(63, t33), (64, t33)], s.ds⟩ h
def F9.k16 (W : Nat → Prop) (Q : Post) (QP : PPost) (s : St) (h : AH) : Prop := F9.t16 s h (F9.k15 W Q QP)
theorem F9.k16_a (C0 : KT) : evI Try.prog 90 (fun _ => W) nobody QP (regOps (Code.at F9.code [1, 1, 0, 1, 0, 0, 1, 1, 0, 0, 1, 1, 0, 0])) (isAt F9.g1 10) (C0) s h = F9.t16 s h C0 := by kernel_rfl
theorem F9.k16_ok : evG Try.prog 90 (fun _ => W) nobody QP (regOps (Code.at F9.code [1, 1, 0, 1, 0, 0, 1, 1, 0, 0, 1, 1, 0, 0])) (F9.g1.drop 10) ((thenQ (F9.k13 W Q QP) (thenQ (F9.k11 W Q QP) (blockQ 1 (thenQ (F9.k2 W Q QP) (Q))))) .normal) s h = F9.k16 W Q QP s h := nd_g (is := isAt F9.g1 10) (rest := F9.g1.drop 11) (by kernel_rfl) (F9.k15_ok W Q QP) (F9.k16_a W QP s h (F9.k15 W Q QP))
def F9.t17 (s : St) (h : AH) (C0 : KT) : Prop :=
  aIg false (s.tm 54) (
  pPick (s.tm 56) (s.tm 61) (.sc (.bool false)) fun t34 =>
  C0 ⟨puts s.tm [(62, t34)], s.ds⟩ h) (
  C0 ⟨puts s.tm [(62, noA)], s.ds⟩ h)
def F9.k17 (W : Nat → Prop) (Q : Post) (QP : PPost) (s : St) (h : AH) : Prop := F9.t17 s h (F9.k16 W Q QP)
theorem F9.k17_a (C0 : KT) : aIg false (s.tm 54) (evI Try.prog 90 (fun _ => W) nobody QP (regOps (Code.at F9.code [1, 1, 0, 1, 0, 0, 1, 1, 0, 0, 1, 1, 0, 0])) (isAt F9.g1 9) (C0) s h) ((C0) (skI 90 (regOps (Code.at F9.code [1, 1, 0, 1, 0, 0, 1, 1, 0, 0, 1, 1, 0, 0])) (isAt F9.g1 9) s) h) = F9.t17 s h C0 := by kernel_rfl
theorem F9.k17_ok : evG Try.prog 90 (fun _ => W) nobody QP (regOps (Code.at F9.code [1, 1, 0, 1, 0, 0, 1, 1, 0, 0, 1, 1, 0, 0])) (F9.g1.drop 9) ((thenQ (F9.k13 W Q QP) (thenQ (F9.k11 W Q QP) (blockQ 1 (thenQ (F9.k2 W Q QP) (Q))))) .normal) s h = F9.k17 W Q QP s h := nd_gw (j := 26) (is := isAt F9.g1 9) (rest := F9.g1.drop 10) (by kernel_rfl) (d := 54) (by kernel_rfl) (F9.k16_ok W Q QP) (F9.k17_a W QP s h (F9.k16 W Q QP))
def F9.t18 (s : St) (h : AH) (C0 : KT) : Prop :=
  aIg true (s.tm 56) (
  pFld (some 5) (s.tm 8) fun t35 =>
  lLd (some false) (some 1) t35 h fun t36 _ =>
  pFld (some 5) (s.tm 9) fun t38 =>
  lLd (some false) (some 1) t38 h fun t39 _ =>
  pBin Try.prog .neq 3 false t36 t39 fun t41 =>
  C0 ⟨puts s.tm [(57, t35), (58, t36), (59, t38), (60, t39), (61, t41)], s.ds⟩ h) (
  C0 ⟨puts s.tm [(57, noA), (58, noA), (59, noA), (60, noA), (61, noA)], s.ds⟩ h)
def F9.k18 (W : Nat → Prop) (Q : Post) (QP : PPost) (s : St) (h : AH) : Prop := F9.t18 s h (F9.k17 W Q QP)
theorem F9.k18_a (C0 : KT) : aIg true (s.tm 56) (evI Try.prog 90 (fun _ => W) nobody QP (regOps (Code.at F9.code [1, 1, 0, 1, 0, 0, 1, 1, 0, 0, 1, 1, 0, 0])) (isAt F9.g1 8) (C0) s h) ((C0) (skI 90 (regOps (Code.at F9.code [1, 1, 0, 1, 0, 0, 1, 1, 0, 0, 1, 1, 0, 0])) (isAt F9.g1 8) s) h) = F9.t18 s h C0 := by kernel_rfl
theorem F9.k18_ok : evG Try.prog 90 (fun _ => W) nobody QP (regOps (Code.at F9.code [1, 1, 0, 1, 0, 0, 1, 1, 0, 0, 1, 1, 0, 0])) (F9.g1.drop 8) ((thenQ (F9.k13 W Q QP) (thenQ (F9.k11 W Q QP) (blockQ 1 (thenQ (F9.k2 W Q QP) (Q))))) .normal) s h = F9.k18 W Q QP s h := nd_gw (j := 28) (is := isAt F9.g1 8) (rest := F9.g1.drop 9) (by kernel_rfl) (d := 56) (by kernel_rfl) (F9.k17_ok W Q QP) (F9.k18_a W QP s h (F9.k17 W Q QP))
def F9.t19 (s : St) (h : AH) (C0 : KT) : Prop :=
  aIg false (s.tm 54) (
  C0 ⟨puts s.tm [(55, (s.tm 2)), (56, (s.tm 2))], s.ds⟩ h) (
  C0 ⟨puts s.tm [(55, noA), (56, noA)], s.ds⟩ h)
def F9.k19 (W : Nat → Prop) (Q : Post) (QP : PPost) (s : St) (h : AH) : Prop := F9.t19 s h (F9.k18 W Q QP)
theorem F9.k19_a (C0 : KT) : aIg false (s.tm 54) (evI Try.prog 90 (fun _ => W) nobody QP (regOps (Code.at F9.code [1, 1, 0, 1, 0, 0, 1, 1, 0, 0, 1, 1, 0, 0])) (isAt F9.g1 7) (C0) s h) ((C0) (skI 90 (regOps (Code.at F9.code [1, 1, 0, 1, 0, 0, 1, 1, 0, 0, 1, 1, 0, 0])) (isAt F9.g1 7) s) h) = F9.t19 s h C0 := by kernel_rfl
theorem F9.k19_ok : evG Try.prog 90 (fun _ => W) nobody QP (regOps (Code.at F9.code [1, 1, 0, 1, 0, 0, 1, 1, 0, 0, 1, 1, 0, 0])) (F9.g1.drop 7) ((thenQ (F9.k13 W Q QP) (thenQ (F9.k11 W Q QP) (blockQ 1 (thenQ (F9.k2 W Q QP) (Q))))) .normal) s h = F9.k19 W Q QP s h := nd_gw (j := 26) (is := isAt F9.g1 7) (rest := F9.g1.drop 8) (by kernel_rfl) (d := 54) (by kernel_rfl) (F9.k18_ok W Q QP) (F9.k19_a W QP s h (F9.k18 W Q QP))
def F9.t20 (s : St) (h : AH) (C0 : KT) : Prop :=
  pPick (s.tm 47) (.sc (.bool true)) (s.tm 52) fun t42 =>
  C0 ⟨puts s.tm [(53, t42), (54, t42)], s.ds⟩ h
def F9.k20 (W : Nat → Prop) (Q : Post) (QP : PPost) (s : St) (h : AH) : Prop := F9.t20 s h (F9.k19 W Q QP)
theorem F9.k20_a (C0 : KT) : evI Try.prog 90 (fun _ => W) nobody QP (regOps (Code.at F9.code [1, 1, 0, 1, 0, 0, 1, 1, 0, 0, 1, 1, 0, 0])) (isAt F9.g1 6) (C0) s h = F9.t20 s h C0 := by kernel_rfl
theorem F9.k20_ok : evG Try.prog 90 (fun _ => W) nobody QP (regOps (Code.at F9.code [1, 1, 0, 1, 0, 0, 1, 1, 0, 0, 1, 1, 0, 0])) (F9.g1.drop 6) ((thenQ (F9.k13 W Q QP) (thenQ (F9.k11 W Q QP) (blockQ 1 (thenQ (F9.k2 W Q QP) (Q))))) .normal) s h = F9.k20 W Q QP s h := nd_g (is := isAt F9.g1 6) (rest := F9.g1.drop 7) (by kernel_rfl) (F9.k19_ok W Q QP) (F9.k20_a W QP s h (F9.k19 W Q QP))
def F9.t21 (s : St) (h : AH) (C0 : KT) : Prop :=
  aIg false (s.tm 47) (
  pFld (some 4) (s.tm 8) fun t43 =>
  lLd (some false) (some 1) t43 h fun t44 _ =>
  pFld (some 4) (s.tm 9) fun t46 =>
  lLd (some false) (some 1) t46 h fun t47 _ =>
  pBin Try.prog .neq 3 false t44 t47 fun t49 =>
  C0 ⟨puts s.tm [(48, t43), (49, t44), (50, t46), (51, t47), (52, t49)], s.ds⟩ h) (
  C0 ⟨puts s.tm [(48, noA), (49, noA), (50, noA), (51, noA), (52, noA)], s.ds⟩ h)
def F9.k21 (W : Nat → Prop) (Q : Post) (QP : PPost) (s : St) (h : AH) : Prop := F9.t21 s h (F9.k20 W Q QP)
theorem F9.k21_a (C0 : KT) : aIg false (s.tm 47) (evI Try.prog 90 (fun _ => W) nobody QP (regOps (Code.at F9.code [1, 1, 0, 1, 0, 0, 1, 1, 0, 0, 1, 1, 0, 0])) (isAt F9.g1 5) (C0) s h) ((C0) (skI 90 (regOps (Code.at F9.code [1, 1, 0, 1, 0, 0, 1, 1, 0, 0, 1, 1, 0, 0])) (isAt F9.g1 5) s) h) = F9.t21 s h C0 := by kernel_rfl
theorem F9.k21_ok : evG Try.prog 90 (fun _ => W) nobody QP (regOps (Code.at F9.code [1, 1, 0, 1, 0, 0, 1, 1, 0, 0, 1, 1, 0, 0])) (F9.g1.drop 5) ((thenQ (F9.k13 W Q QP) (thenQ (F9.k11 W Q QP) (blockQ 1 (thenQ (F9.k2 W Q QP) (Q))))) .normal) s h = F9.k21 W Q QP s h := nd_gw (j := 19) (is := isAt F9.g1 5) (rest := F9.g1.drop 6) (by kernel_rfl) (d := 47) (by kernel_rfl) (F9.k20_ok W Q QP) (F9.k21_a W QP s h (F9.k20 W Q QP))
def F9.t22 (s : St) (h : AH) (C0 : KT) : Prop :=
  pPick (s.tm 40) (.sc (.bool true)) (s.tm 45) fun t50 =>
  C0 ⟨puts s.tm [(46, t50), (47, t50)], s.ds⟩ h
def F9.k22 (W : Nat → Prop) (Q : Post) (QP : PPost) (s : St) (h : AH) : Prop := F9.t22 s h (F9.k21 W Q QP)
theorem F9.k22_a (C0 : KT) : evI Try.prog 90 (fun _ => W) nobody QP (regOps (Code.at F9.code [1, 1, 0, 1, 0, 0, 1, 1, 0, 0, 1, 1, 0, 0])) (isAt F9.g1 4) (C0) s h = F9.t22 s h C0 := by kernel_rfl
theorem F9.k22_ok : evG Try.prog 90 (fun _ => W) nobody QP (regOps (Code.at F9.code [1, 1, 0, 1, 0, 0, 1, 1, 0, 0, 1, 1, 0, 0])) (F9.g1.drop 4) ((thenQ (F9.k13 W Q QP) (thenQ (F9.k11 W Q QP) (blockQ 1 (thenQ (F9.k2 W Q QP) (Q))))) .normal) s h = F9.k22 W Q QP s h := nd_g (is := isAt F9.g1 4) (rest := F9.g1.drop 5) (by kernel_rfl) (F9.k21_ok W Q QP) (F9.k22_a W QP s h (F9.k21 W Q QP))
def F9.t23 (s : St) (h : AH) (C0 : KT) : Prop :=
  aIg false (s.tm 40) (
  pFld (some 3) (s.tm 8) fun t51 =>
  lLd (some false) (some 1) t51 h fun t52 _ =>
  pFld (some 3) (s.tm 9) fun t54 =>
  lLd (some false) (some 1) t54 h fun t55 _ =>
  pBin Try.prog .neq 3 false t52 t55 fun t57 =>
  C0 ⟨puts s.tm [(41, t51), (42, t52), (43, t54), (44, t55), (45, t57)], s.ds⟩ h) (
  C0 ⟨puts s.tm [(41, noA), (42, noA), (43, noA), (44, noA), (45, noA)], s.ds⟩ h)
def F9.k23 (W : Nat → Prop) (Q : Post) (QP : PPost) (s : St) (h : AH) : Prop := F9.t23 s h (F9.k22 W Q QP)
theorem F9.k23_a (C0 : KT) : aIg false (s.tm 40) (evI Try.prog 90 (fun _ => W) nobody QP (regOps (Code.at F9.code [1, 1, 0, 1, 0, 0, 1, 1, 0, 0, 1, 1, 0, 0])) (isAt F9.g1 3) (C0) s h) ((C0) (skI 90 (regOps (Code.at F9.code [1, 1, 0, 1, 0, 0, 1, 1, 0, 0, 1, 1, 0, 0])) (isAt F9.g1 3) s) h) = F9.t23 s h C0 := by kernel_rfl
theorem F9.k23_ok : evG Try.prog 90 (fun _ => W) nobody QP (regOps (Code.at F9.code [1, 1, 0, 1, 0, 0, 1, 1, 0, 0, 1, 1, 0, 0])) (F9.g1.drop 3) ((thenQ (F9.k13 W Q QP) (thenQ (F9.k11 W Q QP) (blockQ 1 (thenQ (F9.k2 W Q QP) (Q))))) .normal) s h = F9.k23 W Q QP s h := nd_gw (j := 12) (is := isAt F9.g1 3) (rest := F9.g1.drop 4) (by kernel_rfl) (d := 40) (by kernel_rfl) (F9.k22_ok W Q QP) (F9.k23_a W QP s h (F9.k22 W Q QP))
def F9.t24 (s : St) (h : AH) (C0 : KT) : Prop :=
  pPick (s.tm 33) (.sc (.bool true)) (s.tm 38) fun t58 =>
  C0 ⟨puts s.tm [(39, t58), (40, t58)], s.ds⟩ h
def F9.k24 (W : Nat → Prop) (Q : Post) (QP : PPost) (s : St) (h : AH) : Prop := F9.t24 s h (F9.k23 W Q QP)
theorem F9.k24_a (C0 : KT) : evI Try.prog 90 (fun _ => W) nobody QP (regOps (Code.at F9.code [1, 1, 0, 1, 0, 0, 1, 1, 0, 0, 1, 1, 0, 0])) (isAt F9.g1 2) (C0) s h = F9.t24 s h C0 := by kernel_rfl
theorem F9.k24_ok : evG Try.prog 90 (fun _ => W) nobody QP (regOps (Code.at F9.code [1, 1, 0, 1, 0, 0, 1, 1, 0, 0, 1, 1, 0, 0])) (F9.g1.drop 2) ((thenQ (F9.k13 W Q QP) (thenQ (F9.k11 W Q QP) (blockQ 1 (thenQ (F9.k2 W Q QP) (Q))))) .normal) s h = F9.k24 W Q QP s h := nd_g (is := isAt F9.g1 2) (rest := F9.g1.drop 3) (by kernel_rfl) (F9.k23_ok W Q QP) (F9.k24_a W QP s h (F9.k23 W Q QP))
def F9.t25 (s : St) (h : AH) (C0 : KT) : Prop :=
  aIg false (s.tm 33) (
  pFld (some 1) (s.tm 8) fun t59 =>
  lLd (some false) (some 1) t59 h fun t60 _ =>
  pFld (some 1) (s.tm 9) fun t62 =>
  lLd (some false) (some 1) t62 h fun t63 _ =>
  pBin Try.prog .neq 9 false t60 t63 fun t65 =>
  C0 ⟨puts s.tm [(34, t59), (35, t60), (36, t62), (37, t63), (38, t65)], s.ds⟩ h) (
  C0 ⟨puts s.tm [(34, noA), (35, noA), (36, noA), (37, noA), (38, noA)], s.ds⟩ h)
def F9.k25 (W : Nat → Prop) (Q : Post) (QP : PPost) (s : St) (h : AH) : Prop := F9.t25 s h (F9.k24 W Q QP)
theorem F9.k25_a (C0 : KT) : aIg false (s.tm 33) (evI Try.prog 90 (fun _ => W) nobody QP (regOps (Code.at F9.code [1, 1, 0, 1, 0, 0, 1, 1, 0, 0, 1, 1, 0, 0])) (isAt F9.g1 1) (C0) s h) ((C0) (skI 90 (regOps (Code.at F9.code [1, 1, 0, 1, 0, 0, 1, 1, 0, 0, 1, 1, 0, 0])) (isAt F9.g1 1) s) h) = F9.t25 s h C0 := by kernel_rfl
theorem F9.k25_ok : evG Try.prog 90 (fun _ => W) nobody QP (regOps (Code.at F9.code [1, 1, 0, 1, 0, 0, 1, 1, 0, 0, 1, 1, 0, 0])) (F9.g1.drop 1) ((thenQ (F9.k13 W Q QP) (thenQ (F9.k11 W Q QP) (blockQ 1 (thenQ (F9.k2 W Q QP) (Q))))) .normal) s h = F9.k25 W Q QP s h := nd_gw (j := 5) (is := isAt F9.g1 1) (rest := F9.g1.drop 2) (by kernel_rfl) (d := 33) (by kernel_rfl) (F9.k24_ok W Q QP) (F9.k25_a W QP s h (F9.k24 W Q QP))
def F9.t26 (s : St) (h : AH) (C0 : KT) : Prop :=
  pFld (some 0) (s.tm 8) fun t66 =>
  lLd (some false) (some 1) t66 h fun t67 _ =>
  pFld (some 0) (s.tm 9) fun t69 =>
  lLd (some false) (some 1) t69 h fun t70 _ =>
  pBin Try.prog .neq 9 false t67 t70 fun t72 =>
  C0 ⟨puts s.tm [(28, t66), (29, t67), (30, t69), (31, t70), (32, t72), (33, t72)], s.ds⟩ h
def F9.k26 (W : Nat → Prop) (Q : Post) (QP : PPost) (s : St) (h : AH) : Prop := F9.t26 s h (F9.k25 W Q QP)
theorem F9.k26_a (C0 : KT) : evI Try.prog 90 (fun _ => W) nobody QP (regOps (Code.at F9.code [1, 1, 0, 1, 0, 0, 1, 1, 0, 0, 1, 1, 0, 0])) (isAt F9.g1 0) (C0) s h = F9.t26 s h C0 := by kernel_rfl
theorem F9.k26_ok : evG Try.prog 90 (fun _ => W) nobody QP (regOps (Code.at F9.code [1, 1, 0, 1, 0, 0, 1, 1, 0, 0, 1, 1, 0, 0])) (F9.g1.drop 0) ((thenQ (F9.k13 W Q QP) (thenQ (F9.k11 W Q QP) (blockQ 1 (thenQ (F9.k2 W Q QP) (Q))))) .normal) s h = F9.k26 W Q QP s h := nd_g (is := isAt F9.g1 0) (rest := F9.g1.drop 1) (by kernel_rfl) (F9.k25_ok W Q QP) (F9.k26_a W QP s h (F9.k25 W Q QP))
theorem F9.o5 : aw Try.prog 90 W F9.pl (Code.at F9.code [1, 1, 0, 1, 0, 0, 1, 1, 0, 0, 1, 1, 0, 0]) (thenQ (F9.k13 W Q QP) (thenQ (F9.k11 W Q QP) (blockQ 1 (thenQ (F9.k2 W Q QP) (Q))))) QP s h = F9.k26 W Q QP s h := nd_groups (id := 7) (draw := false) (ops := (regOps (Code.at F9.code [1, 1, 0, 1, 0, 0, 1, 1, 0, 0, 1, 1, 0, 0]))) (gs := F9.g1.drop 0) (by kernel_rfl) (by kernel_rfl) (F9.k26_ok W Q QP s h)
theorem F9.o6 : aw Try.prog 90 W F9.pl (Code.at F9.code [1, 1, 0, 1, 0, 0, 1, 1, 0, 0, 1, 1, 0]) (thenQ (F9.k11 W Q QP) (blockQ 1 (thenQ (F9.k2 W Q QP) (Q)))) QP s h = F9.k26 W Q QP s h := nd_seq (a := (Code.at F9.code [1, 1, 0, 1, 0, 0, 1, 1, 0, 0, 1, 1, 0, 0])) (b := (Code.at F9.code [1, 1, 0, 1, 0, 0, 1, 1, 0, 0, 1, 1, 0, 1])) (by kernel_rfl) (F9.k13_ok W Q QP) (F9.o5 W Q QP s h)
theorem F9.o7 : aw Try.prog 90 W F9.pl (Code.at F9.code [1, 1, 0, 1, 0, 0, 1, 1, 0, 0, 1, 1]) (blockQ 1 (thenQ (F9.k2 W Q QP) (Q))) QP s h = F9.k26 W Q QP s h := nd_seq (a := (Code.at F9.code [1, 1, 0, 1, 0, 0, 1, 1, 0, 0, 1, 1, 0])) (b := (Code.at F9.code [1, 1, 0, 1, 0, 0, 1, 1, 0, 0, 1, 1, 1])) (by kernel_rfl) (F9.k11_ok W Q QP) (F9.o6 W Q QP s h)
def F9.t27 (W : Nat → Prop) (s : St) (h : AH) (C0 C1 : KT) : Prop :=
  pIxA (some (6, none)) (s.tm 1) (s.tm 7) fun t73 =>
  lLd (some true) (some 6) t73 h fun t74 _ =>
  eAlloc (some [.string ⟨#[]⟩, .string ⟨#[]⟩, .slice none 0 0, .int .i64 0, .int .i64 0, .int .i64 0]) 6 36 h fun t76 h77 =>
  eStore (some 6) t76 t74 h77 W fun h78 =>
  C1 ⟨puts s.tm [(24, (s.tm 1)), (25, (s.tm 7)), (26, t73), (27, t74), (9, t76)], s.ds⟩ h78
def F9.k27 (W : Nat → Prop) (Q : Post) (QP : PPost) (s : St) (h : AH) : Prop := F9.t27 W s h (F9.k2 W Q QP) (F9.k26 W Q QP)
theorem F9.k27_a (C0 C1 : KT) : aw Try.prog 90 W F9.pl (Code.at F9.code [1, 1, 0, 1, 0, 0, 1, 1, 0, 0, 1, 0]) (thenQ (C1) (blockQ 1 (thenQ (C0) (Q)))) QP s h = F9.t27 W s h C0 C1 := by kernel_rfl
theorem F9.k27_ok : aw Try.prog 90 W F9.pl (Code.at F9.code [1, 1, 0, 1, 0, 0, 1, 1, 0, 0, 1]) (blockQ 1 (thenQ (F9.k2 W Q QP) (Q))) QP s h = F9.k27 W Q QP s h := nd_seq (a := (Code.at F9.code [1, 1, 0, 1, 0, 0, 1, 1, 0, 0, 1, 0])) (b := (Code.at F9.code [1, 1, 0, 1, 0, 0, 1, 1, 0, 0, 1, 1])) (by kernel_rfl) (F9.o7 W Q QP) (F9.k27_a W Q QP s h (F9.k2 W Q QP) (F9.k26 W Q QP))
def F9.t28 (W : Nat → Prop) (s : St) (h : AH) (C0 C1 : KT) : Prop :=
  pIxA (some (6, none)) (s.tm 17) (s.tm 19) fun t79 =>
  lLd (some true) (some 6) t79 h fun t80 _ =>
  eAlloc (some [.string ⟨#[]⟩, .string ⟨#[]⟩, .slice none 0 0, .int .i64 0, .int .i64 0, .int .i64 0]) 6 36 h fun t82 h83 =>
  eStore (some 6) t82 t80 h83 W fun h84 =>
  C1 ⟨puts s.tm [(21, (s.tm 19)), (22, t79), (23, t80), (8, t82), (7, (s.tm 19))], s.ds⟩ h84
def F9.k28 (W : Nat → Prop) (Q : Post) (QP : PPost) (s : St) (h : AH) : Prop := F9.t28 W s h (F9.k2 W Q QP) (F9.k27 W Q QP)
theorem F9.k28_a (C0 C1 : KT) : aw Try.prog 90 W F9.pl (Code.at F9.code [1, 1, 0, 1, 0, 0, 1, 1, 0, 0, 0]) (thenQ (C1) (blockQ 1 (thenQ (C0) (Q)))) QP s h = F9.t28 W s h C0 C1 := by kernel_rfl
theorem F9.k28_ok : aw Try.prog 90 W F9.pl (Code.at F9.code [1, 1, 0, 1, 0, 0, 1, 1, 0, 0]) (blockQ 1 (thenQ (F9.k2 W Q QP) (Q))) QP s h = F9.k28 W Q QP s h := nd_seq (a := (Code.at F9.code [1, 1, 0, 1, 0, 0, 1, 1, 0, 0, 0])) (b := (Code.at F9.code [1, 1, 0, 1, 0, 0, 1, 1, 0, 0, 1])) (by kernel_rfl) (F9.k27_ok W Q QP) (F9.k28_a W Q QP s h (F9.k2 W Q QP) (F9.k27 W Q QP))
theorem F9.o8 : aw Try.prog 90 W F9.pl (Code.at F9.code [1, 1, 0, 1, 0, 0, 1, 1, 0]) (thenQ (F9.k2 W Q QP) (Q)) QP s h = F9.k28 W Q QP s h := nd_block (a := (Code.at F9.code [1, 1, 0, 1, 0, 0, 1, 1, 0, 0])) (by kernel_rfl) (F9.k28_ok W Q QP s h)
theorem F9.o9 : aw Try.prog 90 W F9.pl (Code.at F9.code [1, 1, 0, 1, 0, 0, 1, 1]) (Q) QP s h = F9.k28 W Q QP s h := nd_seq (a := (Code.at F9.code [1, 1, 0, 1, 0, 0, 1, 1, 0])) (b := (Code.at F9.code [1, 1, 0, 1, 0, 0, 1, 1, 1])) (by kernel_rfl) (F9.k2_ok W Q QP) (F9.o8 W Q QP s h)
def F9.t29 (Q : Post) (s : St) (h : AH) (C0 : KT) : Prop :=
  aIf (s.tm 20) (
  C0 s h) (
  Q (.exit 0) s h)
def F9.k29 (W : Nat → Prop) (Q : Post) (QP : PPost) (s : St) (h : AH) : Prop := F9.t29 Q s h (F9.k28 W Q QP)
theorem F9.k29_a (C0 : KT) : aIf (aev s (.tmp 20)) (aw Try.prog 90 W F9.pl (Code.at F9.code [1, 1, 0, 1, 0, 0, 1, 0, 0]) (thenQ (C0) (Q)) QP s h) (aw Try.prog 90 W F9.pl (Code.at F9.code [1, 1, 0, 1, 0, 0, 1, 0, 1]) (thenQ (C0) (Q)) QP s h) = F9.t29 Q s h C0 := by kernel_rfl
theorem F9.k29_ok : aw Try.prog 90 W F9.pl (Code.at F9.code [1, 1, 0, 1, 0, 0, 1, 0]) (thenQ (F9.k28 W Q QP) (Q)) QP s h = F9.k29 W Q QP s h := nd_cond (a := (Code.at F9.code [1, 1, 0, 1, 0, 0, 1, 0, 0])) (b := (Code.at F9.code [1, 1, 0, 1, 0, 0, 1, 0, 1])) (by kernel_rfl) rfl rfl (F9.k29_a W Q QP s h (F9.k28 W Q QP))
theorem F9.o10 : aw Try.prog 90 W F9.pl (Code.at F9.code [1, 1, 0, 1, 0, 0, 1]) (Q) QP s h = F9.k29 W Q QP s h := nd_seq (a := (Code.at F9.code [1, 1, 0, 1, 0, 0, 1, 0])) (b := (Code.at F9.code [1, 1, 0, 1, 0, 0, 1, 1])) (by kernel_rfl) (F9.o9 W Q QP) (F9.k29_ok W Q QP s h)
def F9.t30 (s : St) (h : AH) (C0 : KT) : Prop :=
  pBin Try.prog .lss 3 false (s.tm 19) (s.tm 18) fun t85 =>
  C0 ⟨puts s.tm [(20, t85)], s.ds⟩ h
def F9.k30 (W : Nat → Prop) (Q : Post) (QP : PPost) (s : St) (h : AH) : Prop := F9.t30 s h (F9.k29 W Q QP)
theorem F9.k30_a (C0 : KT) : aw Try.prog 90 W F9.pl (Code.at F9.code [1, 1, 0, 1, 0, 0, 0]) (thenQ (C0) (Q)) QP s h = F9.t30 s h C0 := by kernel_rfl
theorem F9.k30_ok : aw Try.prog 90 W F9.pl (Code.at F9.code [1, 1, 0, 1, 0, 0]) (Q) QP s h = F9.k30 W Q QP s h := nd_seq (a := (Code.at F9.code [1, 1, 0, 1, 0, 0, 0])) (b := (Code.at F9.code [1, 1, 0, 1, 0, 0, 1])) (by kernel_rfl) (F9.o10 W Q QP) (F9.k30_a W Q QP s h (F9.k29 W Q QP))
noncomputable def F9.c1 : Code := (Code.at F9.code [1, 1, 0, 1, 0, 0])
theorem F9.l1 : aw Try.prog 90 W F9.pl F9.c1 Q QP s h = F9.k30 W Q QP s h := F9.k30_ok W Q QP s h
def F9.k31 (W : Nat → Prop) (Q : Post) (QP : PPost) (s : St) (h : AH) : Prop := aLoop (aw Try.prog 90 W F9.pl F9.c1) (blockQ 0 (thenQ (F9.k1 W Q QP) (Q))) QP s h
theorem F9.k31_ok : aw Try.prog 90 W F9.pl (Code.at F9.code [1, 1, 0, 1, 0]) (blockQ 0 (thenQ (F9.k1 W Q QP) (Q))) QP s h = F9.k31 W Q QP s h := nd_loop (a := F9.c1) (by kernel_rfl)
theorem F9.o11 : aw Try.prog 90 W F9.pl (Code.at F9.code [1, 1, 0, 1]) (thenQ (F9.k1 W Q QP) (Q)) QP s h = F9.k31 W Q QP s h := nd_block (a := (Code.at F9.code [1, 1, 0, 1, 0])) (by kernel_rfl) (F9.k31_ok W Q QP s h)
def F9.t32 (s : St) (h : AH) (C0 C1 : KT) : Prop :=
  (strArg (s.tm 0) = false) ∧ pLen (s.tm 0) fun t86 =>
  C1 ⟨puts s.tm [(17, (s.tm 0)), (18, t86), (19, (.sc (.int .i64 0)))], s.ds⟩ h
def F9.k32 (W : Nat → Prop) (Q : Post) (QP : PPost) (s : St) (h : AH) : Prop := F9.t32 s h (F9.k1 W Q QP) (F9.k31 W Q QP)
theorem F9.k32_a (C0 C1 : KT) : aw Try.prog 90 W F9.pl (Code.at F9.code [1, 1, 0, 0]) (thenQ (C1) (thenQ (C0) (Q))) QP s h = F9.t32 s h C0 C1 := by kernel_rfl
theorem F9.k32_ok : aw Try.prog 90 W F9.pl (Code.at F9.code [1, 1, 0]) (thenQ (F9.k1 W Q QP) (Q)) QP s h = F9.k32 W Q QP s h := nd_seq (a := (Code.at F9.code [1, 1, 0, 0])) (b := (Code.at F9.code [1, 1, 0, 1])) (by kernel_rfl) (F9.o11 W Q QP) (F9.k32_a W Q QP s h (F9.k1 W Q QP) (F9.k31 W Q QP))
theorem F9.o12 : aw Try.prog 90 W F9.pl (Code.at F9.code [1, 1]) (Q) QP s h = F9.k32 W Q QP s h := nd_seq (a := (Code.at F9.code [1, 1, 0])) (b := (Code.at F9.code [1, 1, 1])) (by kernel_rfl) (F9.k1_ok W Q QP) (F9.k32_ok W Q QP s h)
def F9.t33 (Q : Post) (s : St) (h : AH) (C0 : KT) : Prop :=
  Q .ret ⟨puts s.tm [(6, (.sc (.bool false)))], s.ds⟩ h
def F9.k33 (W : Nat → Prop) (Q : Post) (QP : PPost) (s : St) (h : AH) : Prop := F9.t33 Q s h (F9.k32 W Q QP)
theorem F9.k33_a (C0 : KT) : aw Try.prog 90 W F9.pl (Code.at F9.code [1, 0, 1, 0, 0]) (thenQ (aw Try.prog 90 W F9.pl (Code.at F9.code [1, 0, 1, 0, 1]) (thenQ (C0) (Q)) QP) (thenQ (C0) (Q))) QP s h = F9.t33 Q s h C0 := by kernel_rfl
theorem F9.k33_ok : aw Try.prog 90 W F9.pl (Code.at F9.code [1, 0, 1, 0]) (thenQ (F9.k32 W Q QP) (Q)) QP s h = F9.k33 W Q QP s h := nd_seq (a := (Code.at F9.code [1, 0, 1, 0, 0])) (b := (Code.at F9.code [1, 0, 1, 0, 1])) (by kernel_rfl) (fun _ _ => rfl) (F9.k33_a W Q QP s h (F9.k32 W Q QP))
def F9.t34 (s : St) (h : AH) (C0 C1 : KT) : Prop :=
  aIf (s.tm 16) (
  C1 s h) (
  C0 s h)
def F9.k34 (W : Nat → Prop) (Q : Post) (QP : PPost) (s : St) (h : AH) : Prop := F9.t34 s h (F9.k32 W Q QP) (F9.k33 W Q QP)
theorem F9.k34_a (C0 C1 : KT) : aIf (aev s (.tmp 16)) (C1 s h) (aw Try.prog 90 W F9.pl (Code.at F9.code [1, 0, 1, 1]) (thenQ (C0) (Q)) QP s h) = F9.t34 s h C0 C1 := by kernel_rfl
theorem F9.k34_ok : aw Try.prog 90 W F9.pl (Code.at F9.code [1, 0, 1]) (thenQ (F9.k32 W Q QP) (Q)) QP s h = F9.k34 W Q QP s h := nd_cond (a := (Code.at F9.code [1, 0, 1, 0])) (b := (Code.at F9.code [1, 0, 1, 1])) (by kernel_rfl) (F9.k33_ok W Q QP s h) rfl (F9.k34_a W Q QP s h (F9.k32 W Q QP) (F9.k33 W Q QP))
def F9.t35 (s : St) (h : AH) (C0 C1 : KT) : Prop :=
  (strArg (s.tm 0) = false) ∧ pLen (s.tm 0) fun t87 =>
  (strArg (s.tm 1) = false) ∧ pLen (s.tm 1) fun t88 =>
  pBin Try.prog .neq 3 false t87 t88 fun t89 =>
  C1 ⟨puts s.tm [(12, (s.tm 0)), (13, t87), (14, (s.tm 1)), (15, t88), (16, t89)], s.ds⟩ h
def F9.k35 (W : Nat → Prop) (Q : Post) (QP : PPost) (s : St) (h : AH) : Prop := F9.t35 s h (F9.k32 W Q QP) (F9.k34 W Q QP)
theorem F9.k35_a (C0 C1 : KT) : aw Try.prog 90 W F9.pl (Code.at F9.code [1, 0, 0]) (thenQ (C1) (thenQ (C0) (Q))) QP s h = F9.t35 s h C0 C1 := by kernel_rfl
theorem F9.k35_ok : aw Try.prog 90 W F9.pl (Code.at F9.code [1, 0]) (thenQ (F9.k32 W Q QP) (Q)) QP s h = F9.k35 W Q QP s h := nd_seq (a := (Code.at F9.code [1, 0, 0])) (b := (Code.at F9.code [1, 0, 1])) (by kernel_rfl) (F9.k34_ok W Q QP) (F9.k35_a W Q QP s h (F9.k32 W Q QP) (F9.k34 W Q QP))
theorem F9.o13 : aw Try.prog 90 W F9.pl (Code.at F9.code [1]) (Q) QP s h = F9.k35 W Q QP s h := nd_seq (a := (Code.at F9.code [1, 0])) (b := (Code.at F9.code [1, 1])) (by kernel_rfl) (F9.o12 W Q QP) (F9.k35_ok W Q QP s h)
def F9.t36 (s : St) (h : AH) (C0 : KT) : Prop :=
  C0 ⟨puts s.tm [(6, (.sc (.bool false)))], s.ds⟩ h
def F9.k36 (W : Nat → Prop) (Q : Post) (QP : PPost) (s : St) (h : AH) : Prop := F9.t36 s h (F9.k35 W Q QP)
theorem F9.k36_a (C0 : KT) : aw Try.prog 90 W F9.pl (Code.at F9.code [0]) (thenQ (C0) (Q)) QP s h = F9.t36 s h C0 := by kernel_rfl
theorem F9.k36_ok : aw Try.prog 90 W F9.pl (Code.at F9.code []) (Q) QP s h = F9.k36 W Q QP s h := nd_seq (a := (Code.at F9.code [0])) (b := (Code.at F9.code [1])) (by kernel_rfl) (F9.o13 W Q QP) (F9.k36_a W Q QP s h (F9.k35 W Q QP))
end
theorem F9.calls {x0 x1 x2 : AV} {h : AH} {M : Nat → Prop} {R : AE → AH → Prop} (hp : F9.k36 (fun id => M id ∨ h.next ≤ id) (bodyQ Try.prog [.tmp 6] R) (bodyP R) (s0 [x0, x1, x2]) h) : ACalls Try.prog 9 [x0, x1, x2] h M R :=
  acalls_of Try.mixed Try.func9 rfl (Nat.le_of_ble_eq_true rfl) F9.ok (by rw [show Try.f9.ntmps = 90 from rfl, show Try.f9.results.toList = [.tmp 6] from rfl]; exact Eq.mpr (F9.k36_ok _ _ _ _ _) hp)
attribute [simp] F9.k1 F9.t1 F9.k2 F9.t2 F9.k3 F9.t3 F9.k4 F9.t4 F9.k5 F9.t5 F9.k6 F9.t6 F9.k7 F9.t7 F9.k8 F9.t8 F9.k9 F9.t9 F9.k10 F9.k11 F9.t11 F9.k12 F9.t12 F9.k13 F9.t13 F9.k14 F9.t14 F9.k15 F9.t15 F9.k16 F9.t16 F9.k17 F9.t17 F9.k18 F9.t18 F9.k19 F9.t19 F9.k20 F9.t20 F9.k21 F9.t21 F9.k22 F9.t22 F9.k23 F9.t23 F9.k24 F9.t24 F9.k25 F9.t25 F9.k26 F9.t26 F9.k27 F9.t27 F9.k28 F9.t28 F9.k29 F9.t29 F9.k30 F9.t30 F9.k31 F9.k32 F9.t32 F9.k33 F9.t33 F9.k34 F9.t34 F9.k35 F9.t35 F9.k36 F9.t36
end Go.Proofs.Ythkkgbmjjpcfaaa

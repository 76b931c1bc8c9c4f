/- Bodies of the law and of parse.Parse, written out for the table; printed by a program of this session. No condition. -/
import Derived.Test.YthkkgbmjjpcfaaaGl
namespace Go.Proofs.Ythkkgbmjjpcfaaa
open Go.Ab

/-! cubit/cubitlaw10.ParseTexts -/
section
variable (W : Nat → Prop) (Q : Post) (QP : PPost) (s : St) (h : AH)
noncomputable def F3.code : Code := Try.f3.body.getD .skip
def F3.g1 : Grps := [(none, [(0, false), (1, false), (2, false), (3, false)]), (some (3, true), [(4, false), (5, false), (6, false)]), (none, [(7, false), (8, false)]), (some (8, true), [(9, false), (10, false), (11, false)]), (none, [(12, false), (13, false)])]
def F3.pl : Plans := [(5, ⟨F3.g1, false, []⟩)]
theorem F3.ok : okCode F3.pl F3.code = true := by kernel_rfl
def F3.t1 (Q : Post) (s : St) (h : AH) : Prop :=
  Q .ret s h
def F3.k1 (W : Nat → Prop) (Q : Post) (QP : PPost) (s : St) (h : AH) : Prop := F3.t1 Q s h
theorem F3.k1_a : aw Try.prog 36 W F3.pl (Code.at F3.code [1, 1, 1, 1, 1]) (Q) QP s h = F3.t1 Q s h := by kernel_rfl
theorem F3.k1_ok : aw Try.prog 36 W F3.pl (Code.at F3.code [1, 1, 1, 1, 1]) (Q) QP s h = F3.k1 W Q QP s h := (F3.k1_a W Q QP s h)
def F3.t2 (s : St) (h : AH) (C0 : KT) : Prop :=
  pPick (s.tm 31) (s.tm 34) (.sc (.bool false)) fun t1 =>
  C0 ⟨puts s.tm [(35, t1), (2, t1)], s.ds⟩ h
def F3.k2 (W : Nat → Prop) (Q : Post) (QP : PPost) (s : St) (h : AH) : Prop := F3.t2 s h (F3.k1 W Q QP)
theorem F3.k2_a (C0 : KT) : evI Try.prog 36 (fun _ => W) nobody QP (regOps (Code.at F3.code [1, 1, 1, 1, 0])) (isAt F3.g1 4) ((thenQ (C0) (Q)) .normal) s h = F3.t2 s h C0 := by kernel_rfl
theorem F3.k2_ok : evG Try.prog 36 (fun _ => W) nobody QP (regOps (Code.at F3.code [1, 1, 1, 1, 0])) (F3.g1.drop 4) ((thenQ (F3.k1 W Q QP) (Q)) .normal) s h = F3.k2 W Q QP s h := nd_g (is := isAt F3.g1 4) (rest := F3.g1.drop 5) (by kernel_rfl) (fun _ _ => rfl) (F3.k2_a W Q QP s h (F3.k1 W Q QP))
def F3.t3 (s : St) (h : AH) (C0 : KT) : Prop :=
  aIg true (s.tm 31) (
  pBin Try.prog .eql 3 false (s.tm 8) (s.tm 5) fun t2 =>
  C0 ⟨puts s.tm [(32, (s.tm 8)), (33, (s.tm 5)), (34, t2)], s.ds⟩ h) (
  C0 ⟨puts s.tm [(32, noA), (33, noA), (34, noA)], s.ds⟩ h)
def F3.k3 (W : Nat → Prop) (Q : Post) (QP : PPost) (s : St) (h : AH) : Prop := F3.t3 s h (F3.k2 W Q QP)
theorem F3.k3_a (C0 : KT) : aIg true (s.tm 31) (evI Try.prog 36 (fun _ => W) nobody QP (regOps (Code.at F3.code [1, 1, 1, 1, 0])) (isAt F3.g1 3) (C0) s h) ((C0) (skI 36 (regOps (Code.at F3.code [1, 1, 1, 1, 0])) (isAt F3.g1 3) s) h) = F3.t3 s h C0 := by kernel_rfl
theorem F3.k3_ok : evG Try.prog 36 (fun _ => W) nobody QP (regOps (Code.at F3.code [1, 1, 1, 1, 0])) (F3.g1.drop 3) ((thenQ (F3.k1 W Q QP) (Q)) .normal) s h = F3.k3 W Q QP s h := nd_gw (j := 8) (is := isAt F3.g1 3) (rest := F3.g1.drop 4) (by kernel_rfl) (d := 31) (by kernel_rfl) (F3.k2_ok W Q QP) (F3.k3_a W QP s h (F3.k2 W Q QP))
def F3.t4 (s : St) (h : AH) (C0 : KT) : Prop :=
  pPick (s.tm 26) (s.tm 29) (.sc (.bool false)) fun t3 =>
  C0 ⟨puts s.tm [(30, t3), (31, t3)], s.ds⟩ h
def F3.k4 (W : Nat → Prop) (Q : Post) (QP : PPost) (s : St) (h : AH) : Prop := F3.t4 s h (F3.k3 W Q QP)
theorem F3.k4_a (C0 : KT) : evI Try.prog 36 (fun _ => W) nobody QP (regOps (Code.at F3.code [1, 1, 1, 1, 0])) (isAt F3.g1 2) (C0) s h = F3.t4 s h C0 := by kernel_rfl
theorem F3.k4_ok : evG Try.prog 36 (fun _ => W) nobody QP (regOps (Code.at F3.code [1, 1, 1, 1, 0])) (F3.g1.drop 2) ((thenQ (F3.k1 W Q QP) (Q)) .normal) s h = F3.k4 W Q QP s h := nd_g (is := isAt F3.g1 2) (rest := F3.g1.drop 3) (by kernel_rfl) (F3.k3_ok W Q QP) (F3.k4_a W QP s h (F3.k3 W Q QP))
def F3.t5 (s : St) (h : AH) (C0 : KT) : Prop :=
  aIg true (s.tm 26) (
  pBin Try.prog .eql 3 false (s.tm 7) (s.tm 4) fun t4 =>
  C0 ⟨puts s.tm [(27, (s.tm 7)), (28, (s.tm 4)), (29, t4)], s.ds⟩ h) (
  C0 ⟨puts s.tm [(27, noA), (28, noA), (29, noA)], s.ds⟩ h)
def F3.k5 (W : Nat → Prop) (Q : Post) (QP : PPost) (s : St) (h : AH) : Prop := F3.t5 s h (F3.k4 W Q QP)
theorem F3.k5_a (C0 : KT) : aIg true (s.tm 26) (evI Try.prog 36 (fun _ => W) nobody QP (regOps (Code.at F3.code [1, 1, 1, 1, 0])) (isAt F3.g1 1) (C0) s h) ((C0) (skI 36 (regOps (Code.at F3.code [1, 1, 1, 1, 0])) (isAt F3.g1 1) s) h) = F3.t5 s h C0 := by kernel_rfl
theorem F3.k5_ok : evG Try.prog 36 (fun _ => W) nobody QP (regOps (Code.at F3.code [1, 1, 1, 1, 0])) (F3.g1.drop 1) ((thenQ (F3.k1 W Q QP) (Q)) .normal) s h = F3.k5 W Q QP s h := nd_gw (j := 3) (is := isAt F3.g1 1) (rest := F3.g1.drop 2) (by kernel_rfl) (d := 26) (by kernel_rfl) (F3.k4_ok W Q QP) (F3.k5_a W QP s h (F3.k4 W Q QP))
def F3.t6 (W : Nat → Prop) (QP : PPost) (s : St) (h : AH) (C0 : KT) : Prop :=
  aCall Try.prog W 9 [(s.tm 6), (s.tm 3), (.sc (.bool true))] h (fun t5 h6 =>
  C0 ⟨puts s.tm [(23, (s.tm 6)), (24, (s.tm 3)), (25, t5), (26, t5)], s.ds⟩ h6) (QP s.ds)
def F3.k6 (W : Nat → Prop) (Q : Post) (QP : PPost) (s : St) (h : AH) : Prop := F3.t6 W QP s h (F3.k5 W Q QP)
theorem F3.k6_a (C0 : KT) : evI Try.prog 36 (fun _ => W) nobody QP (regOps (Code.at F3.code [1, 1, 1, 1, 0])) (isAt F3.g1 0) (C0) s h = F3.t6 W QP s h C0 := by kernel_rfl
theorem F3.k6_ok : evG Try.prog 36 (fun _ => W) nobody QP (regOps (Code.at F3.code [1, 1, 1, 1, 0])) (F3.g1.drop 0) ((thenQ (F3.k1 W Q QP) (Q)) .normal) s h = F3.k6 W Q QP s h := nd_g (is := isAt F3.g1 0) (rest := F3.g1.drop 1) (by kernel_rfl) (F3.k5_ok W Q QP) (F3.k6_a W QP s h (F3.k5 W Q QP))
theorem F3.o1 : aw Try.prog 36 W F3.pl (Code.at F3.code [1, 1, 1, 1, 0]) (thenQ (F3.k1 W Q QP) (Q)) QP s h = F3.k6 W Q QP s h := nd_groups (id := 5) (draw := false) (ops := (regOps (Code.at F3.code [1, 1, 1, 1, 0]))) (gs := F3.g1.drop 0) (by kernel_rfl) (by kernel_rfl) (F3.k6_ok W Q QP s h)
theorem F3.o2 : aw Try.prog 36 W F3.pl (Code.at F3.code [1, 1, 1, 1]) (Q) QP s h = F3.k6 W Q QP s h := nd_seq (a := (Code.at F3.code [1, 1, 1, 1, 0])) (b := (Code.at F3.code [1, 1, 1, 1, 1])) (by kernel_rfl) (F3.k1_ok W Q QP) (F3.o1 W Q QP s h)
def F3.t7 (W : Nat → Prop) (QP : PPost) (s : St) (h : AH) (C0 : KT) : Prop :=
  aCall Try.prog W 8 [(s.tm 0)] h (fun t7 h8 =>
  pExt t7 0 fun t9 =>
  pExt t7 1 fun t10 =>
  pExt t7 2 fun t11 =>
  C0 ⟨puts s.tm [(18, (s.tm 0)), (19, t7), (17, t7), (20, t9), (21, t10), (22, t11), (6, t9), (7, t10), (8, t11)], s.ds⟩ h8) (QP s.ds)
def F3.k7 (W : Nat → Prop) (Q : Post) (QP : PPost) (s : St) (h : AH) : Prop := F3.t7 W QP s h (F3.k6 W Q QP)
theorem F3.k7_a (C0 : KT) : aw Try.prog 36 W F3.pl (Code.at F3.code [1, 1, 1, 0]) (thenQ (C0) (Q)) QP s h = F3.t7 W QP s h C0 := by kernel_rfl
theorem F3.k7_ok : aw Try.prog 36 W F3.pl (Code.at F3.code [1, 1, 1]) (Q) QP s h = F3.k7 W Q QP s h := nd_seq (a := (Code.at F3.code [1, 1, 1, 0])) (b := (Code.at F3.code [1, 1, 1, 1])) (by kernel_rfl) (F3.o2 W Q QP) (F3.k7_a W Q QP s h (F3.k6 W Q QP))
def F3.t8 (W : Nat → Prop) (QP : PPost) (s : St) (h : AH) (C0 : KT) : Prop :=
  aCall Try.prog W 7 [(s.tm 0)] h (fun t12 h13 =>
  pExt t12 0 fun t14 =>
  pExt t12 1 fun t15 =>
  pExt t12 2 fun t16 =>
  C0 ⟨puts s.tm [(12, (s.tm 0)), (13, t12), (11, t12), (14, t14), (15, t15), (16, t16), (3, t14), (4, t15), (5, t16)], s.ds⟩ h13) (QP s.ds)
def F3.k8 (W : Nat → Prop) (Q : Post) (QP : PPost) (s : St) (h : AH) : Prop := F3.t8 W QP s h (F3.k7 W Q QP)
theorem F3.k8_a (C0 : KT) : aw Try.prog 36 W F3.pl (Code.at F3.code [1, 1, 0]) (thenQ (C0) (Q)) QP s h = F3.t8 W QP s h C0 := by kernel_rfl
theorem F3.k8_ok : aw Try.prog 36 W F3.pl (Code.at F3.code [1, 1]) (Q) QP s h = F3.k8 W Q QP s h := nd_seq (a := (Code.at F3.code [1, 1, 0])) (b := (Code.at F3.code [1, 1, 1])) (by kernel_rfl) (F3.k7_ok W Q QP) (F3.k8_a W Q QP s h (F3.k7 W Q QP))
def F3.t9 (Q : Post) (s : St) (h : AH) (C0 : KT) : Prop :=
  Q .ret ⟨puts s.tm [(2, (.sc (.bool false)))], s.ds⟩ h
def F3.k9 (W : Nat → Prop) (Q : Post) (QP : PPost) (s : St) (h : AH) : Prop := F3.t9 Q s h (F3.k8 W Q QP)
theorem F3.k9_a (C0 : KT) : aw Try.prog 36 W F3.pl (Code.at F3.code [1, 0, 1, 0, 0]) (thenQ (aw Try.prog 36 W F3.pl (Code.at F3.code [1, 0, 1, 0, 1]) (thenQ (C0) (Q)) QP) (thenQ (C0) (Q))) QP s h = F3.t9 Q s h C0 := by kernel_rfl
theorem F3.k9_ok : aw Try.prog 36 W F3.pl (Code.at F3.code [1, 0, 1, 0]) (thenQ (F3.k8 W Q QP) (Q)) QP s h = F3.k9 W Q QP s h := nd_seq (a := (Code.at F3.code [1, 0, 1, 0, 0])) (b := (Code.at F3.code [1, 0, 1, 0, 1])) (by kernel_rfl) (fun _ _ => rfl) (F3.k9_a W Q QP s h (F3.k8 W Q QP))
def F3.t10 (s : St) (h : AH) (C0 C1 : KT) : Prop :=
  aIf (s.tm 10) (
  C1 s h) (
  C0 s h)
def F3.k10 (W : Nat → Prop) (Q : Post) (QP : PPost) (s : St) (h : AH) : Prop := F3.t10 s h (F3.k8 W Q QP) (F3.k9 W Q QP)
theorem F3.k10_a (C0 C1 : KT) : aIf (aev s (.tmp 10)) (C1 s h) (aw Try.prog 36 W F3.pl (Code.at F3.code [1, 0, 1, 1]) (thenQ (C0) (Q)) QP s h) = F3.t10 s h C0 C1 := by kernel_rfl
theorem F3.k10_ok : aw Try.prog 36 W F3.pl (Code.at F3.code [1, 0, 1]) (thenQ (F3.k8 W Q QP) (Q)) QP s h = F3.k10 W Q QP s h := nd_cond (a := (Code.at F3.code [1, 0, 1, 0])) (b := (Code.at F3.code [1, 0, 1, 1])) (by kernel_rfl) (F3.k9_ok W Q QP s h) rfl (F3.k10_a W Q QP s h (F3.k8 W Q QP) (F3.k9 W Q QP))
def F3.t11 (W : Nat → Prop) (QP : PPost) (s : St) (h : AH) (C0 C1 : KT) : Prop :=
  aCall Try.prog W 6 [] h (fun t17 h18 =>
  pUn .not t17 fun t19 =>
  C0 ⟨puts s.tm [(9, t17), (10, t19)], s.ds⟩ h18) (QP s.ds)
def F3.k11 (W : Nat → Prop) (Q : Post) (QP : PPost) (s : St) (h : AH) : Prop := F3.t11 W QP s h (F3.k10 W Q QP) (F3.k8 W Q QP)
theorem F3.k11_a (C0 C1 : KT) : aw Try.prog 36 W F3.pl (Code.at F3.code [1, 0, 0]) (thenQ (C0) (thenQ (C1) (Q))) QP s h = F3.t11 W QP s h C0 C1 := by kernel_rfl
theorem F3.k11_ok : aw Try.prog 36 W F3.pl (Code.at F3.code [1, 0]) (thenQ (F3.k8 W Q QP) (Q)) QP s h = F3.k11 W Q QP s h := nd_seq (a := (Code.at F3.code [1, 0, 0])) (b := (Code.at F3.code [1, 0, 1])) (by kernel_rfl) (F3.k10_ok W Q QP) (F3.k11_a W Q QP s h (F3.k10 W Q QP) (F3.k8 W Q QP))
theorem F3.o3 : aw Try.prog 36 W F3.pl (Code.at F3.code [1]) (Q) QP s h = F3.k11 W Q QP s h := nd_seq (a := (Code.at F3.code [1, 0])) (b := (Code.at F3.code [1, 1])) (by kernel_rfl) (F3.k8_ok W Q QP) (F3.k11_ok W Q QP s h)
def F3.t12 (s : St) (h : AH) (C0 : KT) : Prop :=
  C0 ⟨puts s.tm [(2, (.sc (.bool false)))], s.ds⟩ h
def F3.k12 (W : Nat → Prop) (Q : Post) (QP : PPost) (s : St) (h : AH) : Prop := F3.t12 s h (F3.k11 W Q QP)
theorem F3.k12_a (C0 : KT) : aw Try.prog 36 W F3.pl (Code.at F3.code [0]) (thenQ (C0) (Q)) QP s h = F3.t12 s h C0 := by kernel_rfl
theorem F3.k12_ok : aw Try.prog 36 W F3.pl (Code.at F3.code []) (Q) QP s h = F3.k12 W Q QP s h := nd_seq (a := (Code.at F3.code [0])) (b := (Code.at F3.code [1])) (by kernel_rfl) (F3.o3 W Q QP) (F3.k12_a W Q QP s h (F3.k11 W Q QP))
end
theorem F3.calls {x0 : AV} {h : AH} {M : Nat → Prop} {R : AE → AH → Prop} (hp : F3.k12 (fun id => M id ∨ h.next ≤ id) (bodyQ Try.prog [.tmp 2] R) (bodyP R) (s0 [x0]) h) : ACalls Try.prog 3 [x0] h M R :=
  acalls_of Try.mixed Try.func3 rfl (Nat.le_of_ble_eq_true rfl) F3.ok (by rw [show Try.f3.ntmps = 36 from rfl, show Try.f3.results.toList = [.tmp 2] from rfl]; exact Eq.mpr (F3.k12_ok _ _ _ _ _) hp)
attribute [simp] F3.k1 F3.t1 F3.k2 F3.t2 F3.k3 F3.t3 F3.k4 F3.t4 F3.k5 F3.t5 F3.k6 F3.t6 F3.k7 F3.t7 F3.k8 F3.t8 F3.k9 F3.t9 F3.k10 F3.t10 F3.k11 F3.t11 F3.k12 F3.t12

/-! cubit/cubitlaw10.awake -/
section
variable (W : Nat → Prop) (Q : Post) (QP : PPost) (s : St) (h : AH)
noncomputable def F6.code : Code := Try.f6.body.getD .skip
def F6.g1 : Grps := [(none, [(0, false), (1, false), (2, false)]), (some (2, true), [(3, false), (4, false)]), (none, [(5, false), (6, false)]), (some (6, true), [(7, false), (8, false), (9, false)]), (none, [(10, false), (11, false)]), (some (11, true), [(12, false), (13, false), (14, false), (15, false), (16, false)]), (none, [(17, false), (18, false)]), (some (18, true), [(19, false), (20, false), (21, false), (22, false), (23, false)]), (none, [(24, false), (25, false)]), (some (25, true), [(26, false), (27, false), (28, false), (29, false), (30, false)]), (none, [(31, false), (32, false)]), (some (32, true), [(33, false), (34, false), (35, false), (36, false), (37, false), (38, false)]), (none, [(39, false), (40, false)]), (some (40, true), [(41, false), (42, false)]), (none, [(43, false), (44, false)]), (some (44, true), [(45, false), (46, false)]), (none, [(47, false), (48, false)])]
def F6.pl : Plans := [(3, ⟨F6.g1, false, []⟩)]
theorem F6.ok : okCode F6.pl F6.code = true := by kernel_rfl
def F6.t1 (Q : Post) (s : St) (h : AH) : Prop :=
  Q .ret s h
def F6.k1 (W : Nat → Prop) (Q : Post) (QP : PPost) (s : St) (h : AH) : Prop := F6.t1 Q s h
theorem F6.k1_a : aw Try.prog 65 W F6.pl (Code.at F6.code [1, 1, 1, 1]) (Q) QP s h = F6.t1 Q s h := by kernel_rfl
theorem F6.k1_ok : aw Try.prog 65 W F6.pl (Code.at F6.code [1, 1, 1, 1]) (Q) QP s h = F6.k1 W Q QP s h := (F6.k1_a W Q QP s h)
def F6.t2 (s : St) (h : AH) (C0 : KT) : Prop :=
  pPick (s.tm 61) (s.tm 63) (.sc (.bool false)) fun t1 =>
  C0 ⟨puts s.tm [(64, t1), (0, t1)], s.ds⟩ h
def F6.k2 (W : Nat → Prop) (Q : Post) (QP : PPost) (s : St) (h : AH) : Prop := F6.t2 s h (F6.k1 W Q QP)
theorem F6.k2_a (C0 : KT) : evI Try.prog 65 (fun _ => W) nobody QP (regOps (Code.at F6.code [1, 1, 1, 0])) (isAt F6.g1 16) ((thenQ (C0) (Q)) .normal) s h = F6.t2 s h C0 := by kernel_rfl
theorem F6.k2_ok : evG Try.prog 65 (fun _ => W) nobody QP (regOps (Code.at F6.code [1, 1, 1, 0])) (F6.g1.drop 16) ((thenQ (F6.k1 W Q QP) (Q)) .normal) s h = F6.k2 W Q QP s h := nd_g (is := isAt F6.g1 16) (rest := F6.g1.drop 17) (by kernel_rfl) (fun _ _ => rfl) (F6.k2_a W Q QP s h (F6.k1 W Q QP))
def F6.t3 (s : St) (h : AH) (C0 : KT) : Prop :=
  aIg true (s.tm 61) (
  pBin Try.prog .eql 3 true (s.tm 5) (.sc (.int .i64 6)) fun t2 =>
  C0 ⟨puts s.tm [(62, (s.tm 5)), (63, t2)], s.ds⟩ h) (
  C0 ⟨puts s.tm [(62, noA), (63, noA)], s.ds⟩ h)
def F6.k3 (W : Nat → Prop) (Q : Post) (QP : PPost) (s : St) (h : AH) : Prop := F6.t3 s h (F6.k2 W Q QP)
theorem F6.k3_a (C0 : KT) : aIg true (s.tm 61) (evI Try.prog 65 (fun _ => W) nobody QP (regOps (Code.at F6.code [1, 1, 1, 0])) (isAt F6.g1 15) (C0) s h) ((C0) (skI 65 (regOps (Code.at F6.code [1, 1, 1, 0])) (isAt F6.g1 15) s) h) = F6.t3 s h C0 := by kernel_rfl
theorem F6.k3_ok : evG Try.prog 65 (fun _ => W) nobody QP (regOps (Code.at F6.code [1, 1, 1, 0])) (F6.g1.drop 15) ((thenQ (F6.k1 W Q QP) (Q)) .normal) s h = F6.k3 W Q QP s h := nd_gw (j := 44) (is := isAt F6.g1 15) (rest := F6.g1.drop 16) (by kernel_rfl) (d := 61) (by kernel_rfl) (F6.k2_ok W Q QP) (F6.k3_a W QP s h (F6.k2 W Q QP))
def F6.t4 (s : St) (h : AH) (C0 : KT) : Prop :=
  pPick (s.tm 57) (s.tm 59) (.sc (.bool false)) fun t3 =>
  C0 ⟨puts s.tm [(60, t3), (61, t3)], s.ds⟩ h
def F6.k4 (W : Nat → Prop) (Q : Post) (QP : PPost) (s : St) (h : AH) : Prop := F6.t4 s h (F6.k3 W Q QP)
theorem F6.k4_a (C0 : KT) : evI Try.prog 65 (fun _ => W) nobody QP (regOps (Code.at F6.code [1, 1, 1, 0])) (isAt F6.g1 14) (C0) s h = F6.t4 s h C0 := by kernel_rfl
theorem F6.k4_ok : evG Try.prog 65 (fun _ => W) nobody QP (regOps (Code.at F6.code [1, 1, 1, 0])) (F6.g1.drop 14) ((thenQ (F6.k1 W Q QP) (Q)) .normal) s h = F6.k4 W Q QP s h := nd_g (is := isAt F6.g1 14) (rest := F6.g1.drop 15) (by kernel_rfl) (F6.k3_ok W Q QP) (F6.k4_a W QP s h (F6.k3 W Q QP))
def F6.t5 (s : St) (h : AH) (C0 : KT) : Prop :=
  aIg true (s.tm 57) (
  pBin Try.prog .eql 26 true (s.tm 6) (.sc (.int .i64 101)) fun t4 =>
  C0 ⟨puts s.tm [(58, (s.tm 6)), (59, t4)], s.ds⟩ h) (
  C0 ⟨puts s.tm [(58, noA), (59, noA)], s.ds⟩ h)
def F6.k5 (W : Nat → Prop) (Q : Post) (QP : PPost) (s : St) (h : AH) : Prop := F6.t5 s h (F6.k4 W Q QP)
theorem F6.k5_a (C0 : KT) : aIg true (s.tm 57) (evI Try.prog 65 (fun _ => W) nobody QP (regOps (Code.at F6.code [1, 1, 1, 0])) (isAt F6.g1 13) (C0) s h) ((C0) (skI 65 (regOps (Code.at F6.code [1, 1, 1, 0])) (isAt F6.g1 13) s) h) = F6.t5 s h C0 := by kernel_rfl
theorem F6.k5_ok : evG Try.prog 65 (fun _ => W) nobody QP (regOps (Code.at F6.code [1, 1, 1, 0])) (F6.g1.drop 13) ((thenQ (F6.k1 W Q QP) (Q)) .normal) s h = F6.k5 W Q QP s h := nd_gw (j := 40) (is := isAt F6.g1 13) (rest := F6.g1.drop 14) (by kernel_rfl) (d := 57) (by kernel_rfl) (F6.k4_ok W Q QP) (F6.k5_a W QP s h (F6.k4 W Q QP))
def F6.t6 (s : St) (h : AH) (C0 : KT) : Prop :=
  pPick (s.tm 49) (s.tm 55) (.sc (.bool false)) fun t5 =>
  C0 ⟨puts s.tm [(56, t5), (57, t5)], s.ds⟩ h
def F6.k6 (W : Nat → Prop) (Q : Post) (QP : PPost) (s : St) (h : AH) : Prop := F6.t6 s h (F6.k5 W Q QP)
theorem F6.k6_a (C0 : KT) : evI Try.prog 65 (fun _ => W) nobody QP (regOps (Code.at F6.code [1, 1, 1, 0])) (isAt F6.g1 12) (C0) s h = F6.t6 s h C0 := by kernel_rfl
theorem F6.k6_ok : evG Try.prog 65 (fun _ => W) nobody QP (regOps (Code.at F6.code [1, 1, 1, 0])) (F6.g1.drop 12) ((thenQ (F6.k1 W Q QP) (Q)) .normal) s h = F6.k6 W Q QP s h := nd_g (is := isAt F6.g1 12) (rest := F6.g1.drop 13) (by kernel_rfl) (F6.k5_ok W Q QP) (F6.k6_a W QP s h (F6.k5 W Q QP))
def F6.t7 (s : St) (h : AH) (C0 : KT) : Prop :=
  aIg true (s.tm 49) (
  pIxA (some (6, none)) (s.tm 1) (.sc (.int .i64 1)) fun t6 =>
  pFld (some 2) t6 fun t7 =>
  lLd (some false) (some 1) t7 h fun t8 _ =>
  (strArg t8 = false) ∧ pLen t8 fun t10 =>
  pBin Try.prog .eql 3 true t10 (.sc (.int .i64 1)) fun t11 =>
  C0 ⟨puts s.tm [(50, (s.tm 1)), (51, t6), (52, t7), (53, t8), (54, t10), (55, t11)], s.ds⟩ h) (
  C0 ⟨puts s.tm [(50, noA), (51, noA), (52, noA), (53, noA), (54, noA), (55, noA)], s.ds⟩ h)
def F6.k7 (W : Nat → Prop) (Q : Post) (QP : PPost) (s : St) (h : AH) : Prop := F6.t7 s h (F6.k6 W Q QP)
theorem F6.k7_a (C0 : KT) : aIg true (s.tm 49) (evI Try.prog 65 (fun _ => W) nobody QP (regOps (Code.at F6.code [1, 1, 1, 0])) (isAt F6.g1 11) (C0) s h) ((C0) (skI 65 (regOps (Code.at F6.code [1, 1, 1, 0])) (isAt F6.g1 11) s) h) = F6.t7 s h C0 := by kernel_rfl
theorem F6.k7_ok : evG Try.prog 65 (fun _ => W) nobody QP (regOps (Code.at F6.code [1, 1, 1, 0])) (F6.g1.drop 11) ((thenQ (F6.k1 W Q QP) (Q)) .normal) s h = F6.k7 W Q QP s h := nd_gw (j := 32) (is := isAt F6.g1 11) (rest := F6.g1.drop 12) (by kernel_rfl) (d := 49) (by kernel_rfl) (F6.k6_ok W Q QP) (F6.k7_a W QP s h (F6.k6 W Q QP))
def F6.t8 (s : St) (h : AH) (C0 : KT) : Prop :=
  pPick (s.tm 42) (s.tm 47) (.sc (.bool false)) fun t12 =>
  C0 ⟨puts s.tm [(48, t12), (49, t12)], s.ds⟩ h
def F6.k8 (W : Nat → Prop) (Q : Post) (QP : PPost) (s : St) (h : AH) : Prop := F6.t8 s h (F6.k7 W Q QP)
theorem F6.k8_a (C0 : KT) : evI Try.prog 65 (fun _ => W) nobody QP (regOps (Code.at F6.code [1, 1, 1, 0])) (isAt F6.g1 10) (C0) s h = F6.t8 s h C0 := by kernel_rfl
theorem F6.k8_ok : evG Try.prog 65 (fun _ => W) nobody QP (regOps (Code.at F6.code [1, 1, 1, 0])) (F6.g1.drop 10) ((thenQ (F6.k1 W Q QP) (Q)) .normal) s h = F6.k8 W Q QP s h := nd_g (is := isAt F6.g1 10) (rest := F6.g1.drop 11) (by kernel_rfl) (F6.k7_ok W Q QP) (F6.k8_a W QP s h (F6.k7 W Q QP))
def F6.t9 (s : St) (h : AH) (C0 : KT) : Prop :=
  aIg true (s.tm 42) (
  pIxA (some (6, none)) (s.tm 1) (.sc (.int .i64 1)) fun t13 =>
  pFld (some 5) t13 fun t14 =>
  lLd (some false) (some 1) t14 h fun t15 _ =>
  pBin Try.prog .eql 3 true t15 (.sc (.int .i64 12)) fun t17 =>
  C0 ⟨puts s.tm [(43, (s.tm 1)), (44, t13), (45, t14), (46, t15), (47, t17)], s.ds⟩ h) (
  C0 ⟨puts s.tm [(43, noA), (44, noA), (45, noA), (46, noA), (47, noA)], s.ds⟩ h)
def F6.k9 (W : Nat → Prop) (Q : Post) (QP : PPost) (s : St) (h : AH) : Prop := F6.t9 s h (F6.k8 W Q QP)
theorem F6.k9_a (C0 : KT) : aIg true (s.tm 42) (evI Try.prog 65 (fun _ => W) nobody QP (regOps (Code.at F6.code [1, 1, 1, 0])) (isAt F6.g1 9) (C0) s h) ((C0) (skI 65 (regOps (Code.at F6.code [1, 1, 1, 0])) (isAt F6.g1 9) s) h) = F6.t9 s h C0 := by kernel_rfl
theorem F6.k9_ok : evG Try.prog 65 (fun _ => W) nobody QP (regOps (Code.at F6.code [1, 1, 1, 0])) (F6.g1.drop 9) ((thenQ (F6.k1 W Q QP) (Q)) .normal) s h = F6.k9 W Q QP s h := nd_gw (j := 25) (is := isAt F6.g1 9) (rest := F6.g1.drop 10) (by kernel_rfl) (d := 42) (by kernel_rfl) (F6.k8_ok W Q QP) (F6.k9_a W QP s h (F6.k8 W Q QP))
def F6.t10 (s : St) (h : AH) (C0 : KT) : Prop :=
  pPick (s.tm 35) (s.tm 40) (.sc (.bool false)) fun t18 =>
  C0 ⟨puts s.tm [(41, t18), (42, t18)], s.ds⟩ h
def F6.k10 (W : Nat → Prop) (Q : Post) (QP : PPost) (s : St) (h : AH) : Prop := F6.t10 s h (F6.k9 W Q QP)
theorem F6.k10_a (C0 : KT) : evI Try.prog 65 (fun _ => W) nobody QP (regOps (Code.at F6.code [1, 1, 1, 0])) (isAt F6.g1 8) (C0) s h = F6.t10 s h C0 := by kernel_rfl
theorem F6.k10_ok : evG Try.prog 65 (fun _ => W) nobody QP (regOps (Code.at F6.code [1, 1, 1, 0])) (F6.g1.drop 8) ((thenQ (F6.k1 W Q QP) (Q)) .normal) s h = F6.k10 W Q QP s h := nd_g (is := isAt F6.g1 8) (rest := F6.g1.drop 9) (by kernel_rfl) (F6.k9_ok W Q QP) (F6.k10_a W QP s h (F6.k9 W Q QP))
def F6.t11 (s : St) (h : AH) (C0 : KT) : Prop :=
  aIg true (s.tm 35) (
  pIxA (some (6, none)) (s.tm 1) (.sc (.int .i64 1)) fun t19 =>
  pFld (some 1) t19 fun t20 =>
  lLd (some false) (some 1) t20 h fun t21 _ =>
  pBin Try.prog .eql 9 true t21 (.sc (.string ⟨#[104]⟩)) fun t23 =>
  C0 ⟨puts s.tm [(36, (s.tm 1)), (37, t19), (38, t20), (39, t21), (40, t23)], s.ds⟩ h) (
  C0 ⟨puts s.tm [(36, noA), (37, noA), (38, noA), (39, noA), (40, noA)], s.ds⟩ h)
def F6.k11 (W : Nat → Prop) (Q : Post) (QP : PPost) (s : St) (h : AH) : Prop := F6.t11 s h (F6.k10 W Q QP)
theorem F6.k11_a (C0 : KT) : aIg true (s.tm 35) (evI Try.prog 65 (fun _ => W) nobody QP (regOps (Code.at F6.code [1, 1, 1, 0])) (isAt F6.g1 7) (C0) s h) ((C0) (skI 65 (regOps (Code.at F6.code [1, 1, 1, 0])) (isAt F6.g1 7) s) h) = F6.t11 s h C0 := by kernel_rfl
theorem F6.k11_ok : evG Try.prog 65 (fun _ => W) nobody QP (regOps (Code.at F6.code [1, 1, 1, 0])) (F6.g1.drop 7) ((thenQ (F6.k1 W Q QP) (Q)) .normal) s h = F6.k11 W Q QP s h := nd_gw (j := 18) (is := isAt F6.g1 7) (rest := F6.g1.drop 8) (by kernel_rfl) (d := 35) (by kernel_rfl) (F6.k10_ok W Q QP) (F6.k11_a W QP s h (F6.k10 W Q QP))
def F6.t12 (s : St) (h : AH) (C0 : KT) : Prop :=
  pPick (s.tm 28) (s.tm 33) (.sc (.bool false)) fun t24 =>
  C0 ⟨puts s.tm [(34, t24), (35, t24)], s.ds⟩ h
def F6.k12 (W : Nat → Prop) (Q : Post) (QP : PPost) (s : St) (h : AH) : Prop := F6.t12 s h (F6.k11 W Q QP)
theorem F6.k12_a (C0 : KT) : evI Try.prog 65 (fun _ => W) nobody QP (regOps (Code.at F6.code [1, 1, 1, 0])) (isAt F6.g1 6) (C0) s h = F6.t12 s h C0 := by kernel_rfl
theorem F6.k12_ok : evG Try.prog 65 (fun _ => W) nobody QP (regOps (Code.at F6.code [1, 1, 1, 0])) (F6.g1.drop 6) ((thenQ (F6.k1 W Q QP) (Q)) .normal) s h = F6.k12 W Q QP s h := nd_g (is := isAt F6.g1 6) (rest := F6.g1.drop 7) (by kernel_rfl) (F6.k11_ok W Q QP) (F6.k12_a W QP s h (F6.k11 W Q QP))
def F6.t13 (s : St) (h : AH) (C0 : KT) : Prop :=
  aIg true (s.tm 28) (
  pIxA (some (6, none)) (s.tm 1) (.sc (.int .i64 0)) fun t25 =>
  pFld (some 3) t25 fun t26 =>
  lLd (some false) (some 1) t26 h fun t27 _ =>
  pBin Try.prog .eql 3 true t27 (.sc (.int .i64 2)) fun t29 =>
  C0 ⟨puts s.tm [(29, (s.tm 1)), (30, t25), (31, t26), (32, t27), (33, t29)], s.ds⟩ h) (
  C0 ⟨puts s.tm [(29, noA), (30, noA), (31, noA), (32, noA), (33, noA)], s.ds⟩ h)
def F6.k13 (W : Nat → Prop) (Q : Post) (QP : PPost) (s : St) (h : AH) : Prop := F6.t13 s h (F6.k12 W Q QP)
theorem F6.k13_a (C0 : KT) : aIg true (s.tm 28) (evI Try.prog 65 (fun _ => W) nobody QP (regOps (Code.at F6.code [1, 1, 1, 0])) (isAt F6.g1 5) (C0) s h) ((C0) (skI 65 (regOps (Code.at F6.code [1, 1, 1, 0])) (isAt F6.g1 5) s) h) = F6.t13 s h C0 := by kernel_rfl
theorem F6.k13_ok : evG Try.prog 65 (fun _ => W) nobody QP (regOps (Code.at F6.code [1, 1, 1, 0])) (F6.g1.drop 5) ((thenQ (F6.k1 W Q QP) (Q)) .normal) s h = F6.k13 W Q QP s h := nd_gw (j := 11) (is := isAt F6.g1 5) (rest := F6.g1.drop 6) (by kernel_rfl) (d := 28) (by kernel_rfl) (F6.k12_ok W Q QP) (F6.k13_a W QP s h (F6.k12 W Q QP))
def F6.t14 (s : St) (h : AH) (C0 : KT) : Prop :=
  pPick (s.tm 23) (s.tm 26) (.sc (.bool false)) fun t30 =>
  C0 ⟨puts s.tm [(27, t30), (28, t30)], s.ds⟩ h
def F6.k14 (W : Nat → Prop) (Q : Post) (QP : PPost) (s : St) (h : AH) : Prop := F6.t14 s h (F6.k13 W Q QP)
theorem F6.k14_a (C0 : KT) : evI Try.prog 65 (fun _ => W) nobody QP (regOps (Code.at F6.code [1, 1, 1, 0])) (isAt F6.g1 4) (C0) s h = F6.t14 s h C0 := by kernel_rfl
theorem F6.k14_ok : evG Try.prog 65 (fun _ => W) nobody QP (regOps (Code.at F6.code [1, 1, 1, 0])) (F6.g1.drop 4) ((thenQ (F6.k1 W Q QP) (Q)) .normal) s h = F6.k14 W Q QP s h := nd_g (is := isAt F6.g1 4) (rest := F6.g1.drop 5) (by kernel_rfl) (F6.k13_ok W Q QP) (F6.k14_a W QP s h (F6.k13 W Q QP))
def F6.t15 (s : St) (h : AH) (C0 : KT) : Prop :=
  aIg true (s.tm 23) (
  (strArg (s.tm 1) = false) ∧ pLen (s.tm 1) fun t31 =>
  pBin Try.prog .eql 3 true t31 (.sc (.int .i64 2)) fun t32 =>
  C0 ⟨puts s.tm [(24, (s.tm 1)), (25, t31), (26, t32)], s.ds⟩ h) (
  C0 ⟨puts s.tm [(24, noA), (25, noA), (26, noA)], s.ds⟩ h)
def F6.k15 (W : Nat → Prop) (Q : Post) (QP : PPost) (s : St) (h : AH) : Prop := F6.t15 s h (F6.k14 W Q QP)
theorem F6.k15_a (C0 : KT) : aIg true (s.tm 23) (evI Try.prog 65 (fun _ => W) nobody QP (regOps (Code.at F6.code [1, 1, 1, 0])) (isAt F6.g1 3) (C0) s h) ((C0) (skI 65 (regOps (Code.at F6.code [1, 1, 1, 0])) (isAt F6.g1 3) s) h) = F6.t15 s h C0 := by kernel_rfl
theorem F6.k15_ok : evG Try.prog 65 (fun _ => W) nobody QP (regOps (Code.at F6.code [1, 1, 1, 0])) (F6.g1.drop 3) ((thenQ (F6.k1 W Q QP) (Q)) .normal) s h = F6.k15 W Q QP s h := nd_gw (j := 6) (is := isAt F6.g1 3) (rest := F6.g1.drop 4) (by kernel_rfl) (d := 23) (by kernel_rfl) (F6.k14_ok W Q QP) (F6.k15_a W QP s h (F6.k14 W Q QP))
def F6.t16 (s : St) (h : AH) (C0 : KT) : Prop :=
  pPick (s.tm 19) (s.tm 21) (.sc (.bool false)) fun t33 =>
  C0 ⟨puts s.tm [(22, t33), (23, t33)], s.ds⟩ h
def F6.k16 (W : Nat → Prop) (Q : Post) (QP : PPost) (s : St) (h : AH) : Prop := F6.t16 s h (F6.k15 W Q QP)
theorem F6.k16_a (C0 : KT) : evI Try.prog 65 (fun _ => W) nobody QP (regOps (Code.at F6.code [1, 1, 1, 0])) (isAt F6.g1 2) (C0) s h = F6.t16 s h C0 := by kernel_rfl
theorem F6.k16_ok : evG Try.prog 65 (fun _ => W) nobody QP (regOps (Code.at F6.code [1, 1, 1, 0])) (F6.g1.drop 2) ((thenQ (F6.k1 W Q QP) (Q)) .normal) s h = F6.k16 W Q QP s h := nd_g (is := isAt F6.g1 2) (rest := F6.g1.drop 3) (by kernel_rfl) (F6.k15_ok W Q QP) (F6.k16_a W QP s h (F6.k15 W Q QP))
def F6.t17 (s : St) (h : AH) (C0 : KT) : Prop :=
  aIg true (s.tm 19) (
  pBin Try.prog .eql 3 true (s.tm 2) (.sc (.int .i64 0)) fun t34 =>
  C0 ⟨puts s.tm [(20, (s.tm 2)), (21, t34)], s.ds⟩ h) (
  C0 ⟨puts s.tm [(20, noA), (21, noA)], s.ds⟩ h)
def F6.k17 (W : Nat → Prop) (Q : Post) (QP : PPost) (s : St) (h : AH) : Prop := F6.t17 s h (F6.k16 W Q QP)
theorem F6.k17_a (C0 : KT) : aIg true (s.tm 19) (evI Try.prog 65 (fun _ => W) nobody QP (regOps (Code.at F6.code [1, 1, 1, 0])) (isAt F6.g1 1) (C0) s h) ((C0) (skI 65 (regOps (Code.at F6.code [1, 1, 1, 0])) (isAt F6.g1 1) s) h) = F6.t17 s h C0 := by kernel_rfl
theorem F6.k17_ok : evG Try.prog 65 (fun _ => W) nobody QP (regOps (Code.at F6.code [1, 1, 1, 0])) (F6.g1.drop 1) ((thenQ (F6.k1 W Q QP) (Q)) .normal) s h = F6.k17 W Q QP s h := nd_gw (j := 2) (is := isAt F6.g1 1) (rest := F6.g1.drop 2) (by kernel_rfl) (d := 19) (by kernel_rfl) (F6.k16_ok W Q QP) (F6.k17_a W QP s h (F6.k16 W Q QP))
def F6.t18 (s : St) (h : AH) (C0 : KT) : Prop :=
  pBin Try.prog .eql 26 true (s.tm 3) (.sc (.int .i64 0)) fun t35 =>
  C0 ⟨puts s.tm [(17, (s.tm 3)), (18, t35), (19, t35)], s.ds⟩ h
def F6.k18 (W : Nat → Prop) (Q : Post) (QP : PPost) (s : St) (h : AH) : Prop := F6.t18 s h (F6.k17 W Q QP)
theorem F6.k18_a (C0 : KT) : evI Try.prog 65 (fun _ => W) nobody QP (regOps (Code.at F6.code [1, 1, 1, 0])) (isAt F6.g1 0) (C0) s h = F6.t18 s h C0 := by kernel_rfl
theorem F6.k18_ok : evG Try.prog 65 (fun _ => W) nobody QP (regOps (Code.at F6.code [1, 1, 1, 0])) (F6.g1.drop 0) ((thenQ (F6.k1 W Q QP) (Q)) .normal) s h = F6.k18 W Q QP s h := nd_g (is := isAt F6.g1 0) (rest := F6.g1.drop 1) (by kernel_rfl) (F6.k17_ok W Q QP) (F6.k18_a W QP s h (F6.k17 W Q QP))
theorem F6.o1 : aw Try.prog 65 W F6.pl (Code.at F6.code [1, 1, 1, 0]) (thenQ (F6.k1 W Q QP) (Q)) QP s h = F6.k18 W Q QP s h := nd_groups (id := 3) (draw := false) (ops := (regOps (Code.at F6.code [1, 1, 1, 0]))) (gs := F6.g1.drop 0) (by kernel_rfl) (by kernel_rfl) (F6.k18_ok W Q QP s h)
theorem F6.o2 : aw Try.prog 65 W F6.pl (Code.at F6.code [1, 1, 1]) (Q) QP s h = F6.k18 W Q QP s h := nd_seq (a := (Code.at F6.code [1, 1, 1, 0])) (b := (Code.at F6.code [1, 1, 1, 1])) (by kernel_rfl) (F6.k1_ok W Q QP) (F6.o1 W Q QP s h)
def F6.t19 (W : Nat → Prop) (QP : PPost) (s : St) (h : AH) (C0 : KT) : Prop :=
  aCall Try.prog W 8 [(.sc (.string ⟨#[104, 32, 113, 91, 48, 93]⟩))] h (fun t36 h37 =>
  pExt t36 0 fun t38 =>
  pExt t36 1 fun t39 =>
  pExt t36 2 fun t40 =>
  C0 ⟨puts s.tm [(13, t36), (12, t36), (14, t38), (15, t39), (16, t40), (4, t38), (5, t39), (6, t40)], s.ds⟩ h37) (QP s.ds)
def F6.k19 (W : Nat → Prop) (Q : Post) (QP : PPost) (s : St) (h : AH) : Prop := F6.t19 W QP s h (F6.k18 W Q QP)
theorem F6.k19_a (C0 : KT) : aw Try.prog 65 W F6.pl (Code.at F6.code [1, 1, 0]) (thenQ (C0) (Q)) QP s h = F6.t19 W QP s h C0 := by kernel_rfl
theorem F6.k19_ok : aw Try.prog 65 W F6.pl (Code.at F6.code [1, 1]) (Q) QP s h = F6.k19 W Q QP s h := nd_seq (a := (Code.at F6.code [1, 1, 0])) (b := (Code.at F6.code [1, 1, 1])) (by kernel_rfl) (F6.o2 W Q QP) (F6.k19_a W Q QP s h (F6.k18 W Q QP))
def F6.t20 (W : Nat → Prop) (QP : PPost) (s : St) (h : AH) (C0 : KT) : Prop :=
  aCall Try.prog W 8 [(.sc (.string ⟨#[113, 117, 98, 105, 116, 115, 32, 113, 32, 50, 59, 32, 104, 32, 113, 91, 48, 93, 59]⟩))] h (fun t41 h42 =>
  pExt t41 0 fun t43 =>
  pExt t41 1 fun t44 =>
  pExt t41 2 fun t45 =>
  C0 ⟨puts s.tm [(8, t41), (7, t41), (9, t43), (10, t44), (11, t45), (1, t43), (2, t44), (3, t45)], s.ds⟩ h42) (QP s.ds)
def F6.k20 (W : Nat → Prop) (Q : Post) (QP : PPost) (s : St) (h : AH) : Prop := F6.t20 W QP s h (F6.k19 W Q QP)
theorem F6.k20_a (C0 : KT) : aw Try.prog 65 W F6.pl (Code.at F6.code [1, 0]) (thenQ (C0) (Q)) QP s h = F6.t20 W QP s h C0 := by kernel_rfl
theorem F6.k20_ok : aw Try.prog 65 W F6.pl (Code.at F6.code [1]) (Q) QP s h = F6.k20 W Q QP s h := nd_seq (a := (Code.at F6.code [1, 0])) (b := (Code.at F6.code [1, 1])) (by kernel_rfl) (F6.k19_ok W Q QP) (F6.k20_a W Q QP s h (F6.k19 W Q QP))
def F6.t21 (s : St) (h : AH) (C0 : KT) : Prop :=
  C0 ⟨puts s.tm [(0, (.sc (.bool false)))], s.ds⟩ h
def F6.k21 (W : Nat → Prop) (Q : Post) (QP : PPost) (s : St) (h : AH) : Prop := F6.t21 s h (F6.k20 W Q QP)
theorem F6.k21_a (C0 : KT) : aw Try.prog 65 W F6.pl (Code.at F6.code [0]) (thenQ (C0) (Q)) QP s h = F6.t21 s h C0 := by kernel_rfl
theorem F6.k21_ok : aw Try.prog 65 W F6.pl (Code.at F6.code []) (Q) QP s h = F6.k21 W Q QP s h := nd_seq (a := (Code.at F6.code [0])) (b := (Code.at F6.code [1])) (by kernel_rfl) (F6.k20_ok W Q QP) (F6.k21_a W Q QP s h (F6.k20 W Q QP))
end
theorem F6.calls {h : AH} {M : Nat → Prop} {R : AE → AH → Prop} (hp : F6.k21 (fun id => M id ∨ h.next ≤ id) (bodyQ Try.prog [.tmp 0] R) (bodyP R) (s0 []) h) : ACalls Try.prog 6 [] h M R :=
  acalls_of Try.mixed Try.func6 rfl (Nat.le_of_ble_eq_true rfl) F6.ok (by rw [show Try.f6.ntmps = 65 from rfl, show Try.f6.results.toList = [.tmp 0] from rfl]; exact Eq.mpr (F6.k21_ok _ _ _ _ _) hp)
attribute [simp] F6.k1 F6.t1 F6.k2 F6.t2 F6.k3 F6.t3 F6.k4 F6.t4 F6.k5 F6.t5 F6.k6 F6.t6 F6.k7 F6.t7 F6.k8 F6.t8 F6.k9 F6.t9 F6.k10 F6.t10 F6.k11 F6.t11 F6.k12 F6.t12 F6.k13 F6.t13 F6.k14 F6.t14 F6.k15 F6.t15 F6.k16 F6.t16 F6.k17 F6.t17 F6.k18 F6.t18 F6.k19 F6.t19 F6.k20 F6.t20 F6.k21 F6.t21

/-! cubit/cubitref10.Parse -/
section
variable (W : Nat → Prop) (Q : Post) (QP : PPost) (s : St) (h : AH)
noncomputable def F7.code : Code := Try.f7.body.getD .skip
def F7.g1 : Grps := [(none, [(0, false), (1, false), (2, false), (3, false), (4, false), (5, false)]), (some (5, true), [(6, false), (7, false), (8, false), (9, false), (10, false), (11, false), (12, false), (13, false), (14, false), (15, false)]), (none, [(16, false)])]
def F7.pl : Plans := [(5, ⟨F7.g1, false, []⟩), (8, ⟨[(none, [(0, false), (1, false), (2, false), (3, false), (4, false), (5, false), (6, false), (7, false), (8, false), (9, false), (10, false)])], false, []⟩)]
theorem F7.ok : okCode F7.pl F7.code = true := by kernel_rfl
def F7.t1 (Q : Post) (s : St) (h : AH) : Prop :=
  pNil (s.tm 8) fun t1 =>
  pFld (some 5) t1 fun t2 =>
  lLd (some false) (some 1) t2 h fun t3 _ =>
  Q .ret ⟨puts s.tm [(56, (s.tm 8)), (57, t1), (58, t2), (59, t3), (2, t3), (3, (.sc (.int .i64 0))), (4, (.sc (.int .i64 0)))], s.ds⟩ h
def F7.k1 (W : Nat → Prop) (Q : Post) (QP : PPost) (s : St) (h : AH) : Prop := F7.t1 Q s h
theorem F7.k1_a : aw Try.prog 60 W F7.pl (Code.at F7.code [1, 1, 1, 1, 1, 1, 0]) (thenQ (aw Try.prog 60 W F7.pl (Code.at F7.code [1, 1, 1, 1, 1, 1, 1]) (Q) QP) (Q)) QP s h = F7.t1 Q s h := by kernel_rfl
theorem F7.k1_ok : aw Try.prog 60 W F7.pl (Code.at F7.code [1, 1, 1, 1, 1, 1]) (Q) QP s h = F7.k1 W Q QP s h := nd_seq (a := (Code.at F7.code [1, 1, 1, 1, 1, 1, 0])) (b := (Code.at F7.code [1, 1, 1, 1, 1, 1, 1])) (by kernel_rfl) (fun _ _ => rfl) (F7.k1_a W Q QP s h)
def F7.t2 (Q : Post) (s : St) (h : AH) (C0 : KT) : Prop :=
  pNil (s.tm 8) fun t5 =>
  pFld (some 4) t5 fun t6 =>
  lLd (some false) (some 1) t6 h fun t7 _ =>
  pNil (s.tm 8) fun t9 =>
  pFld (some 3) t9 fun t10 =>
  lLd (some false) (some 1) t10 h fun t11 _ =>
  Q .ret ⟨puts s.tm [(48, (s.tm 8)), (49, t5), (50, t6), (51, t7), (52, (s.tm 8)), (53, t9), (54, t10), (55, t11), (2, (.sc (.slice none 0 0))), (3, t7), (4, t11)], s.ds⟩ h
def F7.k2 (W : Nat → Prop) (Q : Post) (QP : PPost) (s : St) (h : AH) : Prop := F7.t2 Q s h (F7.k1 W Q QP)
theorem F7.k2_a (C0 : KT) : aw Try.prog 60 W F7.pl (Code.at F7.code [1, 1, 1, 1, 1, 0, 1, 0, 0]) (thenQ (aw Try.prog 60 W F7.pl (Code.at F7.code [1, 1, 1, 1, 1, 0, 1, 0, 1]) (thenQ (C0) (Q)) QP) (thenQ (C0) (Q))) QP s h = F7.t2 Q s h C0 := by kernel_rfl
theorem F7.k2_ok : aw Try.prog 60 W F7.pl (Code.at F7.code [1, 1, 1, 1, 1, 0, 1, 0]) (thenQ (F7.k1 W Q QP) (Q)) QP s h = F7.k2 W Q QP s h := nd_seq (a := (Code.at F7.code [1, 1, 1, 1, 1, 0, 1, 0, 0])) (b := (Code.at F7.code [1, 1, 1, 1, 1, 0, 1, 0, 1])) (by kernel_rfl) (fun _ _ => rfl) (F7.k2_a W Q QP s h (F7.k1 W Q QP))
def F7.t3 (s : St) (h : AH) (C0 C1 : KT) : Prop :=
  aIf (s.tm 47) (
  C1 s h) (
  C0 s h)
def F7.k3 (W : Nat → Prop) (Q : Post) (QP : PPost) (s : St) (h : AH) : Prop := F7.t3 s h (F7.k1 W Q QP) (F7.k2 W Q QP)
theorem F7.k3_a (C0 C1 : KT) : aIf (aev s (.tmp 47)) (C1 s h) (aw Try.prog 60 W F7.pl (Code.at F7.code [1, 1, 1, 1, 1, 0, 1, 1]) (thenQ (C0) (Q)) QP s h) = F7.t3 s h C0 C1 := by kernel_rfl
theorem F7.k3_ok : aw Try.prog 60 W F7.pl (Code.at F7.code [1, 1, 1, 1, 1, 0, 1]) (thenQ (F7.k1 W Q QP) (Q)) QP s h = F7.k3 W Q QP s h := nd_cond (a := (Code.at F7.code [1, 1, 1, 1, 1, 0, 1, 0])) (b := (Code.at F7.code [1, 1, 1, 1, 1, 0, 1, 1])) (by kernel_rfl) (F7.k2_ok W Q QP s h) rfl (F7.k3_a W Q QP s h (F7.k1 W Q QP) (F7.k2 W Q QP))
def F7.t4 (s : St) (h : AH) (C0 C1 : KT) : Prop :=
  pNil (s.tm 8) fun t13 =>
  pFld (some 3) t13 fun t14 =>
  lLd (some false) (some 1) t14 h fun t15 _ =>
  pBin Try.prog .neq 3 true t15 (.sc (.int .i64 0)) fun t17 =>
  C1 ⟨puts s.tm [(43, (s.tm 8)), (44, t13), (45, t14), (46, t15), (47, t17)], s.ds⟩ h
def F7.k4 (W : Nat → Prop) (Q : Post) (QP : PPost) (s : St) (h : AH) : Prop := F7.t4 s h (F7.k1 W Q QP) (F7.k3 W Q QP)
theorem F7.k4_a (C0 C1 : KT) : aw Try.prog 60 W F7.pl (Code.at F7.code [1, 1, 1, 1, 1, 0, 0]) (thenQ (C1) (thenQ (C0) (Q))) QP s h = F7.t4 s h C0 C1 := by kernel_rfl
theorem F7.k4_ok : aw Try.prog 60 W F7.pl (Code.at F7.code [1, 1, 1, 1, 1, 0]) (thenQ (F7.k1 W Q QP) (Q)) QP s h = F7.k4 W Q QP s h := nd_seq (a := (Code.at F7.code [1, 1, 1, 1, 1, 0, 0])) (b := (Code.at F7.code [1, 1, 1, 1, 1, 0, 1])) (by kernel_rfl) (F7.k3_ok W Q QP) (F7.k4_a W Q QP s h (F7.k1 W Q QP) (F7.k3 W Q QP))
theorem F7.o1 : aw Try.prog 60 W F7.pl (Code.at F7.code [1, 1, 1, 1, 1]) (Q) QP s h = F7.k4 W Q QP s h := nd_seq (a := (Code.at F7.code [1, 1, 1, 1, 1, 0])) (b := (Code.at F7.code [1, 1, 1, 1, 1, 1])) (by kernel_rfl) (F7.k1_ok W Q QP) (F7.k4_ok W Q QP s h)
def F7.t5 (W : Nat → Prop) (Q : Post) (QP : PPost) (s : St) (h : AH) : Prop :=
  aCall Try.prog W 12 [(s.tm 8), (.sc (.int .i64 0))] h (fun t18 h19 =>
  Q .normal ⟨puts s.tm [(41, (s.tm 8)), (42, t18)], s.ds⟩ h19) (QP s.ds)
def F7.k5 (W : Nat → Prop) (Q : Post) (QP : PPost) (s : St) (h : AH) : Prop := F7.t5 W Q QP s h
theorem F7.k5_a : aw Try.prog 60 W F7.pl (Code.at F7.code [1, 1, 1, 1, 0, 0, 0, 1, 0]) (blockQ 1 (Q)) QP s h = F7.t5 W Q QP s h := by kernel_rfl
theorem F7.k5_ok : aw Try.prog 60 W F7.pl (Code.at F7.code [1, 1, 1, 1, 0, 0, 0, 1, 0]) (blockQ 1 (Q)) QP s h = F7.k5 W Q QP s h := (F7.k5_a W Q QP s h)
theorem F7.o2 : aw Try.prog 60 W F7.pl (Code.at F7.code [1, 1, 1, 1, 0, 0, 0, 1]) (Q) QP s h = F7.k5 W Q QP s h := nd_block (a := (Code.at F7.code [1, 1, 1, 1, 0, 0, 0, 1, 0])) (by kernel_rfl) (F7.k5_ok W Q QP s h)
def F7.t6 (Q : Post) (s : St) (h : AH) (C0 : KT) : Prop :=
  aIf (s.tm 40) (
  C0 s h) (
  Q (.exit 0) s h)
def F7.k6 (W : Nat → Prop) (Q : Post) (QP : PPost) (s : St) (h : AH) : Prop := F7.t6 Q s h (F7.k5 W Q QP)
theorem F7.k6_a (C0 : KT) : aIf (aev s (.tmp 40)) (aw Try.prog 60 W F7.pl (Code.at F7.code [1, 1, 1, 1, 0, 0, 0, 0, 1, 0]) (thenQ (C0) (Q)) QP s h) (aw Try.prog 60 W F7.pl (Code.at F7.code [1, 1, 1, 1, 0, 0, 0, 0, 1, 1]) (thenQ (C0) (Q)) QP s h) = F7.t6 Q s h C0 := by kernel_rfl
theorem F7.k6_ok : aw Try.prog 60 W F7.pl (Code.at F7.code [1, 1, 1, 1, 0, 0, 0, 0, 1]) (thenQ (F7.k5 W Q QP) (Q)) QP s h = F7.k6 W Q QP s h := nd_cond (a := (Code.at F7.code [1, 1, 1, 1, 0, 0, 0, 0, 1, 0])) (b := (Code.at F7.code [1, 1, 1, 1, 0, 0, 0, 0, 1, 1])) (by kernel_rfl) rfl rfl (F7.k6_a W Q QP s h (F7.k5 W Q QP))
def F7.t7 (s : St) (h : AH) (C0 C1 : KT) : Prop :=
  pPick (s.tm 29) (s.tm 39) (.sc (.bool false)) fun t20 =>
  C1 ⟨puts s.tm [(40, t20)], s.ds⟩ h
def F7.k7 (W : Nat → Prop) (Q : Post) (QP : PPost) (s : St) (h : AH) : Prop := F7.t7 s h (F7.k5 W Q QP) (F7.k6 W Q QP)
theorem F7.k7_a (C0 C1 : KT) : evI Try.prog 60 (fun _ => W) nobody QP (regOps (Code.at F7.code [1, 1, 1, 1, 0, 0, 0, 0, 0])) (isAt F7.g1 2) ((thenQ (C1) (thenQ (C0) (Q))) .normal) s h = F7.t7 s h C0 C1 := by kernel_rfl
theorem F7.k7_ok : evG Try.prog 60 (fun _ => W) nobody QP (regOps (Code.at F7.code [1, 1, 1, 1, 0, 0, 0, 0, 0])) (F7.g1.drop 2) ((thenQ (F7.k6 W Q QP) (thenQ (F7.k5 W Q QP) (Q))) .normal) s h = F7.k7 W Q QP s h := nd_g (is := isAt F7.g1 2) (rest := F7.g1.drop 3) (by kernel_rfl) (fun _ _ => rfl) (F7.k7_a W Q QP s h (F7.k5 W Q QP) (F7.k6 W Q QP))
def F7.t8 (s : St) (h : AH) (C0 : KT) : Prop :=
  aIg true (s.tm 29) (
  pNil (s.tm 8) fun t21 =>
  pFld (some 1) t21 fun t22 =>
  lLd (some false) (some 1) t22 h fun t23 _ =>
  pNil (s.tm 8) fun t25 =>
  pFld (some 0) t25 fun t26 =>
  lLd (some false) (some 1) t26 h fun t27 _ =>
  (strArg t27 = false) ∧ pLen t27 fun t29 =>
  pBin Try.prog .lss 3 false t23 t29 fun t30 =>
  C0 ⟨puts s.tm [(30, (s.tm 8)), (31, t21), (32, t22), (33, t23), (34, (s.tm 8)), (35, t25), (36, t26), (37, t27), (38, t29), (39, t30)], s.ds⟩ h) (
  C0 ⟨puts s.tm [(30, noA), (31, noA), (32, noA), (33, noA), (34, noA), (35, noA), (36, noA), (37, noA), (38, noA), (39, noA)], s.ds⟩ h)
def F7.k8 (W : Nat → Prop) (Q : Post) (QP : PPost) (s : St) (h : AH) : Prop := F7.t8 s h (F7.k7 W Q QP)
theorem F7.k8_a (C0 : KT) : aIg true (s.tm 29) (evI Try.prog 60 (fun _ => W) nobody QP (regOps (Code.at F7.code [1, 1, 1, 1, 0, 0, 0, 0, 0])) (isAt F7.g1 1) (C0) s h) ((C0) (skI 60 (regOps (Code.at F7.code [1, 1, 1, 1, 0, 0, 0, 0, 0])) (isAt F7.g1 1) s) h) = F7.t8 s h C0 := by kernel_rfl
theorem F7.k8_ok : evG Try.prog 60 (fun _ => W) nobody QP (regOps (Code.at F7.code [1, 1, 1, 1, 0, 0, 0, 0, 0])) (F7.g1.drop 1) ((thenQ (F7.k6 W Q QP) (thenQ (F7.k5 W Q QP) (Q))) .normal) s h = F7.k8 W Q QP s h := nd_gw (j := 5) (is := isAt F7.g1 1) (rest := F7.g1.drop 2) (by kernel_rfl) (d := 29) (by kernel_rfl) (F7.k7_ok W Q QP) (F7.k8_a W QP s h (F7.k7 W Q QP))
def F7.t9 (s : St) (h : AH) (C0 : KT) : Prop :=
  pNil (s.tm 8) fun t31 =>
  pFld (some 3) t31 fun t32 =>
  lLd (some false) (some 1) t32 h fun t33 _ =>
  pBin Try.prog .eql 3 true t33 (.sc (.int .i64 0)) fun t35 =>
  C0 ⟨puts s.tm [(24, (s.tm 8)), (25, t31), (26, t32), (27, t33), (28, t35), (29, t35)], s.ds⟩ h
def F7.k9 (W : Nat → Prop) (Q : Post) (QP : PPost) (s : St) (h : AH) : Prop := F7.t9 s h (F7.k8 W Q QP)
theorem F7.k9_a (C0 : KT) : evI Try.prog 60 (fun _ => W) nobody QP (regOps (Code.at F7.code [1, 1, 1, 1, 0, 0, 0, 0, 0])) (isAt F7.g1 0) (C0) s h = F7.t9 s h C0 := by kernel_rfl
theorem F7.k9_ok : evG Try.prog 60 (fun _ => W) nobody QP (regOps (Code.at F7.code [1, 1, 1, 1, 0, 0, 0, 0, 0])) (F7.g1.drop 0) ((thenQ (F7.k6 W Q QP) (thenQ (F7.k5 W Q QP) (Q))) .normal) s h = F7.k9 W Q QP s h := nd_g (is := isAt F7.g1 0) (rest := F7.g1.drop 1) (by kernel_rfl) (F7.k8_ok W Q QP) (F7.k9_a W QP s h (F7.k8 W Q QP))
theorem F7.o3 : aw Try.prog 60 W F7.pl (Code.at F7.code [1, 1, 1, 1, 0, 0, 0, 0, 0]) (thenQ (F7.k6 W Q QP) (thenQ (F7.k5 W Q QP) (Q))) QP s h = F7.k9 W Q QP s h := nd_groups (id := 5) (draw := true) (ops := (regOps (Code.at F7.code [1, 1, 1, 1, 0, 0, 0, 0, 0]))) (gs := F7.g1.drop 0) (by kernel_rfl) (by kernel_rfl) (F7.k9_ok W Q QP s h)
theorem F7.o4 : aw Try.prog 60 W F7.pl (Code.at F7.code [1, 1, 1, 1, 0, 0, 0, 0]) (thenQ (F7.k5 W Q QP) (Q)) QP s h = F7.k9 W Q QP s h := nd_seq (a := (Code.at F7.code [1, 1, 1, 1, 0, 0, 0, 0, 0])) (b := (Code.at F7.code [1, 1, 1, 1, 0, 0, 0, 0, 1])) (by kernel_rfl) (F7.k6_ok W Q QP) (F7.o3 W Q QP s h)
theorem F7.o5 : aw Try.prog 60 W F7.pl (Code.at F7.code [1, 1, 1, 1, 0, 0, 0]) (Q) QP s h = F7.k9 W Q QP s h := nd_seq (a := (Code.at F7.code [1, 1, 1, 1, 0, 0, 0, 0])) (b := (Code.at F7.code [1, 1, 1, 1, 0, 0, 0, 1])) (by kernel_rfl) (F7.o2 W Q QP) (F7.o4 W Q QP s h)
noncomputable def F7.c1 : Code := (Code.at F7.code [1, 1, 1, 1, 0, 0, 0])
theorem F7.l1 : aw Try.prog 60 W F7.pl F7.c1 Q QP s h = F7.k9 W Q QP s h := F7.o5 W Q QP s h
def F7.k10 (W : Nat → Prop) (Q : Post) (QP : PPost) (s : St) (h : AH) : Prop := aLoop (aw Try.prog 60 W F7.pl F7.c1) (blockQ 0 (thenQ (F7.k4 W Q QP) (Q))) QP s h
theorem F7.k10_ok : aw Try.prog 60 W F7.pl (Code.at F7.code [1, 1, 1, 1, 0, 0]) (blockQ 0 (thenQ (F7.k4 W Q QP) (Q))) QP s h = F7.k10 W Q QP s h := nd_loop (a := F7.c1) (by kernel_rfl)
theorem F7.o6 : aw Try.prog 60 W F7.pl (Code.at F7.code [1, 1, 1, 1, 0]) (thenQ (F7.k4 W Q QP) (Q)) QP s h = F7.k10 W Q QP s h := nd_block (a := (Code.at F7.code [1, 1, 1, 1, 0, 0])) (by kernel_rfl) (F7.k10_ok W Q QP s h)
theorem F7.o7 : aw Try.prog 60 W F7.pl (Code.at F7.code [1, 1, 1, 1]) (Q) QP s h = F7.k10 W Q QP s h := nd_seq (a := (Code.at F7.code [1, 1, 1, 1, 0])) (b := (Code.at F7.code [1, 1, 1, 1, 1])) (by kernel_rfl) (F7.o1 W Q QP) (F7.o6 W Q QP s h)
def F7.t11 (s : St) (h : AH) (C0 : KT) : Prop :=
  (strArg (s.tm 0) = true) ∧ pLen (s.tm 0) fun t36 =>
  pBld (some ([.slice none 0 0, .int .i64 0, .int .i64 0, .int .i64 0, .int .i64 0, .slice none 0 0], .inl [(0, 1), (1, 1), (2, 1), (3, 1), (4, 1), (5, 1)])) [(0, (s.tm 5)), (2, t36)] fun t37 =>
  eBox 6 44 t37 h fun t38 h39 =>
  C0 ⟨puts s.tm [(19, (s.tm 5)), (20, (s.tm 0)), (21, t36), (22, t37), (23, t38), (8, t38)], s.ds⟩ h39
def F7.k11 (W : Nat → Prop) (Q : Post) (QP : PPost) (s : St) (h : AH) : Prop := F7.t11 s h (F7.k10 W Q QP)
theorem F7.k11_a (C0 : KT) : aw Try.prog 60 W F7.pl (Code.at F7.code [1, 1, 1, 0]) (thenQ (C0) (Q)) QP s h = F7.t11 s h C0 := by kernel_rfl
theorem F7.k11_ok : aw Try.prog 60 W F7.pl (Code.at F7.code [1, 1, 1]) (Q) QP s h = F7.k11 W Q QP s h := nd_seq (a := (Code.at F7.code [1, 1, 1, 0])) (b := (Code.at F7.code [1, 1, 1, 1])) (by kernel_rfl) (F7.o7 W Q QP) (F7.k11_a W Q QP s h (F7.k10 W Q QP))
def F7.t12 (Q : Post) (s : St) (h : AH) (C0 : KT) : Prop :=
  Q .ret ⟨puts s.tm [(17, (s.tm 6)), (18, (s.tm 7)), (2, (.sc (.slice none 0 0))), (3, (s.tm 6)), (4, (s.tm 7))], s.ds⟩ h
def F7.k12 (W : Nat → Prop) (Q : Post) (QP : PPost) (s : St) (h : AH) : Prop := F7.t12 Q s h (F7.k11 W Q QP)
theorem F7.k12_a (C0 : KT) : aw Try.prog 60 W F7.pl (Code.at F7.code [1, 1, 0, 1, 0, 0]) (thenQ (aw Try.prog 60 W F7.pl (Code.at F7.code [1, 1, 0, 1, 0, 1]) (thenQ (C0) (Q)) QP) (thenQ (C0) (Q))) QP s h = F7.t12 Q s h C0 := by kernel_rfl
theorem F7.k12_ok : aw Try.prog 60 W F7.pl (Code.at F7.code [1, 1, 0, 1, 0]) (thenQ (F7.k11 W Q QP) (Q)) QP s h = F7.k12 W Q QP s h := nd_seq (a := (Code.at F7.code [1, 1, 0, 1, 0, 0])) (b := (Code.at F7.code [1, 1, 0, 1, 0, 1])) (by kernel_rfl) (fun _ _ => rfl) (F7.k12_a W Q QP s h (F7.k11 W Q QP))
def F7.t13 (s : St) (h : AH) (C0 C1 : KT) : Prop :=
  aIf (s.tm 16) (
  C1 s h) (
  C0 s h)
def F7.k13 (W : Nat → Prop) (Q : Post) (QP : PPost) (s : St) (h : AH) : Prop := F7.t13 s h (F7.k11 W Q QP) (F7.k12 W Q QP)
theorem F7.k13_a (C0 C1 : KT) : aIf (aev s (.tmp 16)) (C1 s h) (aw Try.prog 60 W F7.pl (Code.at F7.code [1, 1, 0, 1, 1]) (thenQ (C0) (Q)) QP s h) = F7.t13 s h C0 C1 := by kernel_rfl
theorem F7.k13_ok : aw Try.prog 60 W F7.pl (Code.at F7.code [1, 1, 0, 1]) (thenQ (F7.k11 W Q QP) (Q)) QP s h = F7.k13 W Q QP s h := nd_cond (a := (Code.at F7.code [1, 1, 0, 1, 0])) (b := (Code.at F7.code [1, 1, 0, 1, 1])) (by kernel_rfl) (F7.k12_ok W Q QP s h) rfl (F7.k13_a W Q QP s h (F7.k11 W Q QP) (F7.k12 W Q QP))
def F7.t14 (s : St) (h : AH) (C0 C1 : KT) : Prop :=
  pBin Try.prog .neq 3 true (s.tm 7) (.sc (.int .i64 0)) fun t40 =>
  C1 ⟨puts s.tm [(15, (s.tm 7)), (16, t40)], s.ds⟩ h
def F7.k14 (W : Nat → Prop) (Q : Post) (QP : PPost) (s : St) (h : AH) : Prop := F7.t14 s h (F7.k11 W Q QP) (F7.k13 W Q QP)
theorem F7.k14_a (C0 C1 : KT) : aw Try.prog 60 W F7.pl (Code.at F7.code [1, 1, 0, 0]) (thenQ (C1) (thenQ (C0) (Q))) QP s h = F7.t14 s h C0 C1 := by kernel_rfl
theorem F7.k14_ok : aw Try.prog 60 W F7.pl (Code.at F7.code [1, 1, 0]) (thenQ (F7.k11 W Q QP) (Q)) QP s h = F7.k14 W Q QP s h := nd_seq (a := (Code.at F7.code [1, 1, 0, 0])) (b := (Code.at F7.code [1, 1, 0, 1])) (by kernel_rfl) (F7.k13_ok W Q QP) (F7.k14_a W Q QP s h (F7.k11 W Q QP) (F7.k13 W Q QP))
theorem F7.o8 : aw Try.prog 60 W F7.pl (Code.at F7.code [1, 1]) (Q) QP s h = F7.k14 W Q QP s h := nd_seq (a := (Code.at F7.code [1, 1, 0])) (b := (Code.at F7.code [1, 1, 1])) (by kernel_rfl) (F7.k11_ok W Q QP) (F7.k14_ok W Q QP s h)
def F7.t15 (W : Nat → Prop) (QP : PPost) (s : St) (h : AH) (C0 : KT) : Prop :=
  aCall Try.prog W 11 [(s.tm 0)] h (fun t41 h42 =>
  pExt t41 0 fun t43 =>
  pExt t41 1 fun t44 =>
  pExt t41 2 fun t45 =>
  C0 ⟨puts s.tm [(10, (s.tm 0)), (11, t41), (9, t41), (12, t43), (13, t44), (14, t45), (5, t43), (6, t44), (7, t45)], s.ds⟩ h42) (QP s.ds)
def F7.k15 (W : Nat → Prop) (Q : Post) (QP : PPost) (s : St) (h : AH) : Prop := F7.t15 W QP s h (F7.k14 W Q QP)
theorem F7.k15_a (C0 : KT) : aw Try.prog 60 W F7.pl (Code.at F7.code [1, 0]) (thenQ (C0) (Q)) QP s h = F7.t15 W QP s h C0 := by kernel_rfl
theorem F7.k15_ok : aw Try.prog 60 W F7.pl (Code.at F7.code [1]) (Q) QP s h = F7.k15 W Q QP s h := nd_seq (a := (Code.at F7.code [1, 0])) (b := (Code.at F7.code [1, 1])) (by kernel_rfl) (F7.o8 W Q QP) (F7.k15_a W Q QP s h (F7.k14 W Q QP))
def F7.t16 (s : St) (h : AH) (C0 : KT) : Prop :=
  C0 ⟨puts s.tm [(2, (.sc (.slice none 0 0))), (3, (.sc (.int .i64 0))), (4, (.sc (.int .i64 0)))], s.ds⟩ h
def F7.k16 (W : Nat → Prop) (Q : Post) (QP : PPost) (s : St) (h : AH) : Prop := F7.t16 s h (F7.k15 W Q QP)
theorem F7.k16_a (C0 : KT) : aw Try.prog 60 W F7.pl (Code.at F7.code [0]) (thenQ (C0) (Q)) QP s h = F7.t16 s h C0 := by kernel_rfl
theorem F7.k16_ok : aw Try.prog 60 W F7.pl (Code.at F7.code []) (Q) QP s h = F7.k16 W Q QP s h := nd_seq (a := (Code.at F7.code [0])) (b := (Code.at F7.code [1])) (by kernel_rfl) (F7.k15_ok W Q QP) (F7.k16_a W Q QP s h (F7.k15 W Q QP))
end
theorem F7.calls {x0 : AV} {h : AH} {M : Nat → Prop} {R : AE → AH → Prop} (hp : F7.k16 (fun id => M id ∨ h.next ≤ id) (bodyQ Try.prog [.tmp 2, .tmp 3, .tmp 4] R) (bodyP R) (s0 [x0]) h) : ACalls Try.prog 7 [x0] h M R :=
  acalls_of Try.mixed Try.func7 rfl (Nat.le_of_ble_eq_true rfl) F7.ok (by rw [show Try.f7.ntmps = 60 from rfl, show Try.f7.results.toList = [.tmp 2, .tmp 3, .tmp 4] from rfl]; exact Eq.mpr (F7.k16_ok _ _ _ _ _) hp)
attribute [simp] F7.k1 F7.t1 F7.k2 F7.t2 F7.k3 F7.t3 F7.k4 F7.t4 F7.k5 F7.t5 F7.k6 F7.t6 F7.k7 F7.t7 F7.k8 F7.t8 F7.k9 F7.t9 F7.k10 F7.k11 F7.t11 F7.k12 F7.t12 F7.k13 F7.t13 F7.k14 F7.t14 F7.k15 F7.t15 F7.k16 F7.t16

/-! cubit/parse.Parse -/
section
variable (W : Nat → Prop) (Q : Post) (QP : PPost) (s : St) (h : AH)
noncomputable def F8.code : Code := Try.f8.body.getD .skip
def F8.pl : Plans := [(3, ⟨[(none, [(0, true), (1, true), (2, false), (3, false), (4, false)])], true, []⟩)]
theorem F8.ok : okCode F8.pl F8.code = true := by kernel_rfl
def F8.t1 (W : Nat → Prop) (Q : Post) (s : St) (h : AH) : Prop :=
  pNil (s.tm 6) fun t1 =>
  pFld (some 3) t1 fun t2 =>
  lLd (some false) (some 1) t2 h fun t3 _ =>
  eStore (some 1) (s.tm 2) t3 h W fun h5 =>
  eStore (some 1) (s.tm 3) (.sc (.int .i64 0)) h5 W fun h6 =>
  eStore (some 1) (s.tm 4) (.sc (.int .i64 0)) h6 W fun h7 =>
  Q .ret ⟨puts s.tm [(32, (s.tm 6)), (33, t1), (34, t2), (35, t3)], s.ds⟩ h7
def F8.k1 (W : Nat → Prop) (Q : Post) (QP : PPost) (s : St) (h : AH) : Prop := F8.t1 W Q s h
theorem F8.k1_a : aw Try.prog 36 W F8.pl (Code.at F8.code [1, 1, 1, 1, 1, 1, 0]) (thenQ (aw Try.prog 36 W F8.pl (Code.at F8.code [1, 1, 1, 1, 1, 1, 1]) (Q) QP) (Q)) QP s h = F8.t1 W Q s h := by kernel_rfl
theorem F8.k1_ok : aw Try.prog 36 W F8.pl (Code.at F8.code [1, 1, 1, 1, 1, 1]) (Q) QP s h = F8.k1 W Q QP s h := nd_seq (a := (Code.at F8.code [1, 1, 1, 1, 1, 1, 0])) (b := (Code.at F8.code [1, 1, 1, 1, 1, 1, 1])) (by kernel_rfl) (fun _ _ => rfl) (F8.k1_a W Q QP s h)
def F8.t2 (W : Nat → Prop) (Q : Post) (QP : PPost) (s : St) (h : AH) : Prop :=
  aCall Try.prog W 14 [(s.tm 6), (.sc (.int .i64 0))] h (fun t8 h9 =>
  Q .normal ⟨puts s.tm [(30, (s.tm 6)), (31, t8)], s.ds⟩ h9) (QP s.ds)
def F8.k2 (W : Nat → Prop) (Q : Post) (QP : PPost) (s : St) (h : AH) : Prop := F8.t2 W Q QP s h
theorem F8.k2_a : aw Try.prog 36 W F8.pl (Code.at F8.code [1, 1, 1, 1, 1, 0, 0, 0, 1, 0]) (blockQ 1 (Q)) QP s h = F8.t2 W Q QP s h := by kernel_rfl
theorem F8.k2_ok : aw Try.prog 36 W F8.pl (Code.at F8.code [1, 1, 1, 1, 1, 0, 0, 0, 1, 0]) (blockQ 1 (Q)) QP s h = F8.k2 W Q QP s h := (F8.k2_a W Q QP s h)
theorem F8.o1 : aw Try.prog 36 W F8.pl (Code.at F8.code [1, 1, 1, 1, 1, 0, 0, 0, 1]) (Q) QP s h = F8.k2 W Q QP s h := nd_block (a := (Code.at F8.code [1, 1, 1, 1, 1, 0, 0, 0, 1, 0])) (by kernel_rfl) (F8.k2_ok W Q QP s h)
def F8.t3 (Q : Post) (s : St) (h : AH) (C0 : KT) : Prop :=
  aIf (s.tm 29) (
  C0 s h) (
  Q (.exit 0) s h)
def F8.k3 (W : Nat → Prop) (Q : Post) (QP : PPost) (s : St) (h : AH) : Prop := F8.t3 Q s h (F8.k2 W Q QP)
theorem F8.k3_a (C0 : KT) : aIf (aev s (.tmp 29)) (aw Try.prog 36 W F8.pl (Code.at F8.code [1, 1, 1, 1, 1, 0, 0, 0, 0, 1, 0]) (thenQ (C0) (Q)) QP s h) (aw Try.prog 36 W F8.pl (Code.at F8.code [1, 1, 1, 1, 1, 0, 0, 0, 0, 1, 1]) (thenQ (C0) (Q)) QP s h) = F8.t3 Q s h C0 := by kernel_rfl
theorem F8.k3_ok : aw Try.prog 36 W F8.pl (Code.at F8.code [1, 1, 1, 1, 1, 0, 0, 0, 0, 1]) (thenQ (F8.k2 W Q QP) (Q)) QP s h = F8.k3 W Q QP s h := nd_cond (a := (Code.at F8.code [1, 1, 1, 1, 1, 0, 0, 0, 0, 1, 0])) (b := (Code.at F8.code [1, 1, 1, 1, 1, 0, 0, 0, 0, 1, 1])) (by kernel_rfl) rfl rfl (F8.k3_a W Q QP s h (F8.k2 W Q QP))
def F8.t4 (s : St) (h : AH) (C0 C1 : KT) : Prop :=
  pNil (s.tm 6) fun t10 =>
  pFld (some 1) t10 fun t11 =>
  lLd (some false) (some 1) t11 h fun t12 _ =>
  (strArg (s.tm 5) = false) ∧ pLen (s.tm 5) fun t14 =>
  pBin Try.prog .lss 3 false t12 t14 fun t15 =>
  C1 ⟨puts s.tm [(23, (s.tm 6)), (24, t10), (25, t11), (26, t12), (27, (s.tm 5)), (28, t14), (29, t15)], s.ds⟩ h
def F8.k4 (W : Nat → Prop) (Q : Post) (QP : PPost) (s : St) (h : AH) : Prop := F8.t4 s h (F8.k2 W Q QP) (F8.k3 W Q QP)
theorem F8.k4_a (C0 C1 : KT) : aw Try.prog 36 W F8.pl (Code.at F8.code [1, 1, 1, 1, 1, 0, 0, 0, 0, 0]) (thenQ (C1) (thenQ (C0) (Q))) QP s h = F8.t4 s h C0 C1 := by kernel_rfl
theorem F8.k4_ok : aw Try.prog 36 W F8.pl (Code.at F8.code [1, 1, 1, 1, 1, 0, 0, 0, 0]) (thenQ (F8.k2 W Q QP) (Q)) QP s h = F8.k4 W Q QP s h := nd_seq (a := (Code.at F8.code [1, 1, 1, 1, 1, 0, 0, 0, 0, 0])) (b := (Code.at F8.code [1, 1, 1, 1, 1, 0, 0, 0, 0, 1])) (by kernel_rfl) (F8.k3_ok W Q QP) (F8.k4_a W Q QP s h (F8.k2 W Q QP) (F8.k3 W Q QP))
theorem F8.o2 : aw Try.prog 36 W F8.pl (Code.at F8.code [1, 1, 1, 1, 1, 0, 0, 0]) (Q) QP s h = F8.k4 W Q QP s h := nd_seq (a := (Code.at F8.code [1, 1, 1, 1, 1, 0, 0, 0, 0])) (b := (Code.at F8.code [1, 1, 1, 1, 1, 0, 0, 0, 1])) (by kernel_rfl) (F8.o1 W Q QP) (F8.k4_ok W Q QP s h)
noncomputable def F8.c1 : Code := (Code.at F8.code [1, 1, 1, 1, 1, 0, 0, 0])
theorem F8.l1 : aw Try.prog 36 W F8.pl F8.c1 Q QP s h = F8.k4 W Q QP s h := F8.o2 W Q QP s h
def F8.k5 (W : Nat → Prop) (Q : Post) (QP : PPost) (s : St) (h : AH) : Prop := aLoop (aw Try.prog 36 W F8.pl F8.c1) (blockQ 0 (thenQ (F8.k1 W Q QP) (Q))) QP s h
theorem F8.k5_ok : aw Try.prog 36 W F8.pl (Code.at F8.code [1, 1, 1, 1, 1, 0, 0]) (blockQ 0 (thenQ (F8.k1 W Q QP) (Q))) QP s h = F8.k5 W Q QP s h := nd_loop (a := F8.c1) (by kernel_rfl)
theorem F8.o3 : aw Try.prog 36 W F8.pl (Code.at F8.code [1, 1, 1, 1, 1, 0]) (thenQ (F8.k1 W Q QP) (Q)) QP s h = F8.k5 W Q QP s h := nd_block (a := (Code.at F8.code [1, 1, 1, 1, 1, 0, 0])) (by kernel_rfl) (F8.k5_ok W Q QP s h)
theorem F8.o4 : aw Try.prog 36 W F8.pl (Code.at F8.code [1, 1, 1, 1, 1]) (Q) QP s h = F8.k5 W Q QP s h := nd_seq (a := (Code.at F8.code [1, 1, 1, 1, 1, 0])) (b := (Code.at F8.code [1, 1, 1, 1, 1, 1])) (by kernel_rfl) (F8.k1_ok W Q QP) (F8.o3 W Q QP s h)
def F8.t6 (s : St) (h : AH) (C0 : KT) : Prop :=
  (strArg (s.tm 0) = true) ∧ pLen (s.tm 0) fun t16 =>
  pBld (some ([.slice none 0 0, .int .i64 0, .int .i64 0, .slice none 0 0], .inl [(0, 1), (1, 1), (2, 1), (3, 1)])) [(0, (s.tm 5)), (2, t16)] fun t17 =>
  eBox 4 51 t17 h fun t18 h19 =>
  C0 ⟨puts s.tm [(18, (s.tm 5)), (19, (s.tm 0)), (20, t16), (21, t17), (22, t18), (6, t18)], s.ds⟩ h19
def F8.k6 (W : Nat → Prop) (Q : Post) (QP : PPost) (s : St) (h : AH) : Prop := F8.t6 s h (F8.k5 W Q QP)
theorem F8.k6_a (C0 : KT) : aw Try.prog 36 W F8.pl (Code.at F8.code [1, 1, 1, 1, 0]) (thenQ (C0) (Q)) QP s h = F8.t6 s h C0 := by kernel_rfl
theorem F8.k6_ok : aw Try.prog 36 W F8.pl (Code.at F8.code [1, 1, 1, 1]) (Q) QP s h = F8.k6 W Q QP s h := nd_seq (a := (Code.at F8.code [1, 1, 1, 1, 0])) (b := (Code.at F8.code [1, 1, 1, 1, 1])) (by kernel_rfl) (F8.o4 W Q QP) (F8.k6_a W Q QP s h (F8.k5 W Q QP))
def F8.t7 (s : St) (h : AH) (C0 : KT) : Prop :=
  aDef (.fn (.func 13) [] [(s.tm 2), (s.tm 3), (s.tm 4)]) [] s.ds fun d20 =>
  C0 ⟨puts s.tm [(17, (.fn (.func 13) [] [(s.tm 2), (s.tm 3), (s.tm 4)]))], d20⟩ h
def F8.k7 (W : Nat → Prop) (Q : Post) (QP : PPost) (s : St) (h : AH) : Prop := F8.t7 s h (F8.k6 W Q QP)
theorem F8.k7_a (C0 : KT) : aw Try.prog 36 W F8.pl (Code.at F8.code [1, 1, 1, 0]) (thenQ (C0) (Q)) QP s h = F8.t7 s h C0 := by kernel_rfl
theorem F8.k7_ok : aw Try.prog 36 W F8.pl (Code.at F8.code [1, 1, 1]) (Q) QP s h = F8.k7 W Q QP s h := nd_seq (a := (Code.at F8.code [1, 1, 1, 0])) (b := (Code.at F8.code [1, 1, 1, 1])) (by kernel_rfl) (F8.k6_ok W Q QP) (F8.k7_a W Q QP s h (F8.k6 W Q QP))
def F8.t8 (Q : Post) (s : St) (h : AH) (C0 : KT) : Prop :=
  Q .ret s h
def F8.k8 (W : Nat → Prop) (Q : Post) (QP : PPost) (s : St) (h : AH) : Prop := F8.t8 Q s h (F8.k7 W Q QP)
theorem F8.k8_a (C0 : KT) : aw Try.prog 36 W F8.pl (Code.at F8.code [1, 1, 0, 1, 0, 1]) (thenQ (C0) (Q)) QP s h = F8.t8 Q s h C0 := by kernel_rfl
theorem F8.k8_ok : aw Try.prog 36 W F8.pl (Code.at F8.code [1, 1, 0, 1, 0, 1]) (thenQ (F8.k7 W Q QP) (Q)) QP s h = F8.k8 W Q QP s h := (F8.k8_a W Q QP s h (F8.k7 W Q QP))
def F8.t9 (W : Nat → Prop) (s : St) (h : AH) (C0 C1 : KT) : Prop :=
  ∃ Hd : Nat → Nat, (∀ i ∈ [0, 1], h.obj (Hd i) ≠ none) ∧ (
  lLd (some false) (some 1) (s.tm 3) h fun t21 i22 =>
  (i22 = Hd 0) ∧ (
  lLd (some false) (some 1) (s.tm 4) h fun t23 i24 =>
  (i24 = Hd 1) ∧ (
  eStore (some 1) (s.tm 2) (.sc (.slice none 0 0)) h (banL W Hd [0, 1]) fun h25 =>
  eStore (some 1) (s.tm 3) t21 h25 (banL W Hd [1]) fun h26 =>
  eStore (some 1) (s.tm 4) t23 h26 W fun h27 =>
  C1 ⟨puts s.tm [(15, t21), (16, t23)], s.ds⟩ h27)))
def F8.k9 (W : Nat → Prop) (Q : Post) (QP : PPost) (s : St) (h : AH) : Prop := F8.t9 W s h (F8.k7 W Q QP) (F8.k8 W Q QP)
theorem F8.k9_a (C0 C1 : KT) : aw Try.prog 36 W F8.pl (Code.at F8.code [1, 1, 0, 1, 0, 0]) (thenQ (C1) (thenQ (C0) (Q))) QP s h = F8.t9 W s h C0 C1 := by kernel_rfl
theorem F8.k9_ok : aw Try.prog 36 W F8.pl (Code.at F8.code [1, 1, 0, 1, 0, 0]) (thenQ (F8.k8 W Q QP) (thenQ (F8.k7 W Q QP) (Q))) QP s h = F8.k9 W Q QP s h := (F8.k9_a W Q QP s h (F8.k7 W Q QP) (F8.k8 W Q QP))
theorem F8.o5 : aw Try.prog 36 W F8.pl (Code.at F8.code [1, 1, 0, 1, 0]) (thenQ (F8.k7 W Q QP) (Q)) QP s h = F8.k9 W Q QP s h := nd_seq (a := (Code.at F8.code [1, 1, 0, 1, 0, 0])) (b := (Code.at F8.code [1, 1, 0, 1, 0, 1])) (by kernel_rfl) (F8.k8_ok W Q QP) (F8.k9_ok W Q QP s h)
def F8.t10 (s : St) (h : AH) (C0 C1 : KT) : Prop :=
  aIf (s.tm 14) (
  C1 s h) (
  C0 s h)
def F8.k10 (W : Nat → Prop) (Q : Post) (QP : PPost) (s : St) (h : AH) : Prop := F8.t10 s h (F8.k7 W Q QP) (F8.k9 W Q QP)
theorem F8.k10_a (C0 C1 : KT) : aIf (aev s (.tmp 14)) (C1 s h) (aw Try.prog 36 W F8.pl (Code.at F8.code [1, 1, 0, 1, 1]) (thenQ (C0) (Q)) QP s h) = F8.t10 s h C0 C1 := by kernel_rfl
theorem F8.k10_ok : aw Try.prog 36 W F8.pl (Code.at F8.code [1, 1, 0, 1]) (thenQ (F8.k7 W Q QP) (Q)) QP s h = F8.k10 W Q QP s h := nd_cond (a := (Code.at F8.code [1, 1, 0, 1, 0])) (b := (Code.at F8.code [1, 1, 0, 1, 1])) (by kernel_rfl) (F8.o5 W Q QP s h) rfl (F8.k10_a W Q QP s h (F8.k7 W Q QP) (F8.k9 W Q QP))
def F8.t11 (s : St) (h : AH) (C0 C1 : KT) : Prop :=
  lLd (some false) (some 1) (s.tm 4) h fun t28 _ =>
  pBin Try.prog .neq 26 true t28 (.sc (.int .i64 0)) fun t30 =>
  C0 ⟨puts s.tm [(13, t28), (14, t30)], s.ds⟩ h
def F8.k11 (W : Nat → Prop) (Q : Post) (QP : PPost) (s : St) (h : AH) : Prop := F8.t11 s h (F8.k10 W Q QP) (F8.k7 W Q QP)
theorem F8.k11_a (C0 C1 : KT) : aw Try.prog 36 W F8.pl (Code.at F8.code [1, 1, 0, 0]) (thenQ (C0) (thenQ (C1) (Q))) QP s h = F8.t11 s h C0 C1 := by kernel_rfl
theorem F8.k11_ok : aw Try.prog 36 W F8.pl (Code.at F8.code [1, 1, 0]) (thenQ (F8.k7 W Q QP) (Q)) QP s h = F8.k11 W Q QP s h := nd_seq (a := (Code.at F8.code [1, 1, 0, 0])) (b := (Code.at F8.code [1, 1, 0, 1])) (by kernel_rfl) (F8.k10_ok W Q QP) (F8.k11_a W Q QP s h (F8.k10 W Q QP) (F8.k7 W Q QP))
theorem F8.o6 : aw Try.prog 36 W F8.pl (Code.at F8.code [1, 1]) (Q) QP s h = F8.k11 W Q QP s h := nd_seq (a := (Code.at F8.code [1, 1, 0])) (b := (Code.at F8.code [1, 1, 1])) (by kernel_rfl) (F8.k7_ok W Q QP) (F8.k11_ok W Q QP s h)
def F8.t12 (W : Nat → Prop) (QP : PPost) (s : St) (h : AH) (C0 : KT) : Prop :=
  aCall Try.prog W 10 [(s.tm 0)] h (fun t31 h32 =>
  pExt t31 0 fun t33 =>
  pExt t31 1 fun t34 =>
  pExt t31 2 fun t35 =>
  eStore (some 1) (s.tm 3) t34 h32 W fun h36 =>
  eStore (some 1) (s.tm 4) t35 h36 W fun h37 =>
  C0 ⟨puts s.tm [(8, (s.tm 0)), (9, t31), (7, t31), (10, t33), (11, t34), (12, t35), (5, t33)], s.ds⟩ h37) (QP s.ds)
def F8.k12 (W : Nat → Prop) (Q : Post) (QP : PPost) (s : St) (h : AH) : Prop := F8.t12 W QP s h (F8.k11 W Q QP)
theorem F8.k12_a (C0 : KT) : aw Try.prog 36 W F8.pl (Code.at F8.code [1, 0]) (thenQ (C0) (Q)) QP s h = F8.t12 W QP s h C0 := by kernel_rfl
theorem F8.k12_ok : aw Try.prog 36 W F8.pl (Code.at F8.code [1]) (Q) QP s h = F8.k12 W Q QP s h := nd_seq (a := (Code.at F8.code [1, 0])) (b := (Code.at F8.code [1, 1])) (by kernel_rfl) (F8.o6 W Q QP) (F8.k12_a W Q QP s h (F8.k11 W Q QP))
def F8.t13 (s : St) (h : AH) (C0 : KT) : Prop :=
  eAlloc (some [.slice none 0 0]) 1 23 h fun t38 h39 =>
  eAlloc (some [.int .i64 0]) 1 3 h39 fun t40 h41 =>
  eAlloc (some [.int .i64 0]) 1 26 h41 fun t42 h43 =>
  C0 ⟨puts s.tm [(2, t38), (3, t40), (4, t42)], s.ds⟩ h43
def F8.k13 (W : Nat → Prop) (Q : Post) (QP : PPost) (s : St) (h : AH) : Prop := F8.t13 s h (F8.k12 W Q QP)
theorem F8.k13_a (C0 : KT) : aw Try.prog 36 W F8.pl (Code.at F8.code [0]) (thenQ (C0) (Q)) QP s h = F8.t13 s h C0 := by kernel_rfl
theorem F8.k13_ok : aw Try.prog 36 W F8.pl (Code.at F8.code []) (Q) QP s h = F8.k13 W Q QP s h := nd_seq (a := (Code.at F8.code [0])) (b := (Code.at F8.code [1])) (by kernel_rfl) (F8.k12_ok W Q QP) (F8.k13_a W Q QP s h (F8.k12 W Q QP))
end
theorem F8.calls {x0 : AV} {h : AH} {M : Nat → Prop} {R : AE → AH → Prop} (hp : F8.k13 (fun id => M id ∨ h.next ≤ id) (bodyQ Try.prog [.cell 2 23, .cell 3 3, .cell 4 26] R) (bodyP R) (s0 [x0]) h) : ACalls Try.prog 8 [x0] h M R :=
  acalls_of Try.mixed Try.func8 rfl (Nat.le_of_ble_eq_true rfl) F8.ok (by rw [show Try.f8.ntmps = 36 from rfl, show Try.f8.results.toList = [.cell 2 23, .cell 3 3, .cell 4 26] from rfl]; exact Eq.mpr (F8.k13_ok _ _ _ _ _) hp)
attribute [simp] F8.k1 F8.t1 F8.k2 F8.t2 F8.k3 F8.t3 F8.k4 F8.t4 F8.k5 F8.k6 F8.t6 F8.k7 F8.t7 F8.k8 F8.t8 F8.k9 F8.t9 F8.k10 F8.t10 F8.k11 F8.t11 F8.k12 F8.t12 F8.k13 F8.t13

/-! cubit/cubitlaw10.same -/
section
variable (W : Nat → Prop) (Q : Post) (QP : PPost) (s : St) (h : AH)
noncomputable def F9.code : Code := Try.f9.body.getD .skip
def F9.g1 : Grps := [(none, [(0, false), (1, false), (2, false), (3, false), (4, false), (5, false)]), (some (5, false), [(6, false), (7, false), (8, false), (9, false), (10, false)]), (none, [(11, false), (12, false)]), (some (12, false), [(13, false), (14, false), (15, false), (16, false), (17, false)]), (none, [(18, false), (19, false)]), (some (19, false), [(20, false), (21, false), (22, false), (23, false), (24, false)]), (none, [(25, false), (26, false)]), (some (26, false), [(27, false), (28, false)]), (some (28, true), [(29, false), (30, false), (31, false), (32, false), (33, false)]), (some (26, false), [(34, false)]), (none, [(35, false), (36, false)]), (some (36, false), [(37, false), (38, false), (39, false), (40, false), (41, false), (42, false), (43, false)]), (none, [(44, false)])]
def F9.pl : Plans := [(7, ⟨F9.g1, false, []⟩), (12, ⟨[(none, [(0, false), (1, false), (2, false), (3, false), (4, false), (5, false), (6, false)])], false, []⟩)]
theorem F9.ok : okCode F9.pl F9.code = true := by kernel_rfl
def F9.t1 (Q : Post) (s : St) (h : AH) : Prop :=
  Q .ret ⟨puts s.tm [(6, (.sc (.bool true)))], s.ds⟩ h
def F9.k1 (W : Nat → Prop) (Q : Post) (QP : PPost) (s : St) (h : AH) : Prop := F9.t1 Q s h
theorem F9.k1_a : aw Try.prog 90 W F9.pl (Code.at F9.code [1, 1, 1, 0]) (thenQ (aw Try.prog 90 W F9.pl (Code.at F9.code [1, 1, 1, 1]) (Q) QP) (Q)) QP s h = F9.t1 Q s h := by kernel_rfl
theorem F9.k1_ok : aw Try.prog 90 W F9.pl (Code.at F9.code [1, 1, 1]) (Q) QP s h = F9.k1 W Q QP s h := nd_seq (a := (Code.at F9.code [1, 1, 1, 0])) (b := (Code.at F9.code [1, 1, 1, 1])) (by kernel_rfl) (fun _ _ => rfl) (F9.k1_a W Q QP s h)
def F9.t2 (Q : Post) (s : St) (h : AH) : Prop :=
  pBin Try.prog .add 3 true (s.tm 19) (.sc (.int .i64 1)) fun t1 =>
  Q .normal ⟨puts s.tm [(89, t1), (19, t1)], s.ds⟩ h
def F9.k2 (W : Nat → Prop) (Q : Post) (QP : PPost) (s : St) (h : AH) : Prop := F9.t2 Q s h
theorem F9.k2_a : aw Try.prog 90 W F9.pl (Code.at F9.code [1, 1, 0, 1, 0, 0, 1, 1, 1]) (Q) QP s h = F9.t2 Q s h := by kernel_rfl
theorem F9.k2_ok : aw Try.prog 90 W F9.pl (Code.at F9.code [1, 1, 0, 1, 0, 0, 1, 1, 1]) (Q) QP s h = F9.k2 W Q QP s h := (F9.k2_a W Q QP s h)
def F9.t3 (Q : Post) (s : St) (h : AH) : Prop :=
  pBin Try.prog .add 3 true (s.tm 76) (.sc (.int .i64 1)) fun t2 =>
  Q .normal ⟨puts s.tm [(88, t2), (76, t2)], s.ds⟩ h
def F9.k3 (W : Nat → Prop) (Q : Post) (QP : PPost) (s : St) (h : AH) : Prop := F9.t3 Q s h
theorem F9.k3_a : aw Try.prog 90 W F9.pl (Code.at F9.code [1, 1, 0, 1, 0, 0, 1, 1, 0, 0, 1, 1, 1, 1, 0, 0, 1, 1, 1]) (Q) QP s h = F9.t3 Q s h := by kernel_rfl
theorem F9.k3_ok : aw Try.prog 90 W F9.pl (Code.at F9.code [1, 1, 0, 1, 0, 0, 1, 1, 0, 0, 1, 1, 1, 1, 0, 0, 1, 1, 1]) (Q) QP s h = F9.k3 W Q QP s h := (F9.k3_a W Q QP s h)
def F9.t4 (Q : Post) (s : St) (h : AH) (C0 : KT) : Prop :=
  Q .ret ⟨puts s.tm [(6, (.sc (.bool false)))], s.ds⟩ h
def F9.k4 (W : Nat → Prop) (Q : Post) (QP : PPost) (s : St) (h : AH) : Prop := F9.t4 Q s h (F9.k3 W Q QP)
theorem F9.k4_a (C0 : KT) : aw Try.prog 90 W F9.pl (Code.at F9.code [1, 1, 0, 1, 0, 0, 1, 1, 0, 0, 1, 1, 1, 1, 0, 0, 1, 1, 0, 0, 1, 1, 0, 0]) (thenQ (aw Try.prog 90 W F9.pl (Code.at F9.code [1, 1, 0, 1, 0, 0, 1, 1, 0, 0, 1, 1, 1, 1, 0, 0, 1, 1, 0, 0, 1, 1, 0, 1]) (blockQ 3 (thenQ (C0) (Q))) QP) (blockQ 3 (thenQ (C0) (Q)))) QP s h = F9.t4 Q s h C0 := by kernel_rfl
theorem F9.k4_ok : aw Try.prog 90 W F9.pl (Code.at F9.code [1, 1, 0, 1, 0, 0, 1, 1, 0, 0, 1, 1, 1, 1, 0, 0, 1, 1, 0, 0, 1, 1, 0]) (blockQ 3 (thenQ (F9.k3 W Q QP) (Q))) QP s h = F9.k4 W Q QP s h := nd_seq (a := (Code.at F9.code [1, 1, 0, 1, 0, 0, 1, 1, 0, 0, 1, 1, 1, 1, 0, 0, 1, 1, 0, 0, 1, 1, 0, 0])) (b := (Code.at F9.code [1, 1, 0, 1, 0, 0, 1, 1, 0, 0, 1, 1, 1, 1, 0, 0, 1, 1, 0, 0, 1, 1, 0, 1])) (by kernel_rfl) (fun _ _ => rfl) (F9.k4_a W Q QP s h (F9.k3 W Q QP))
def F9.t5 (s : St) (h : AH) (C0 C1 : KT) : Prop :=
  aIf (s.tm 87) (
  C1 s h) (
  C0 s h)
def F9.k5 (W : Nat → Prop) (Q : Post) (QP : PPost) (s : St) (h : AH) : Prop := F9.t5 s h (F9.k3 W Q QP) (F9.k4 W Q QP)
theorem F9.k5_a (C0 C1 : KT) : aIf (aev s (.tmp 87)) (C1 s h) (aw Try.prog 90 W F9.pl (Code.at F9.code [1, 1, 0, 1, 0, 0, 1, 1, 0, 0, 1, 1, 1, 1, 0, 0, 1, 1, 0, 0, 1, 1, 1]) (blockQ 3 (thenQ (C0) (Q))) QP s h) = F9.t5 s h C0 C1 := by kernel_rfl
theorem F9.k5_ok : aw Try.prog 90 W F9.pl (Code.at F9.code [1, 1, 0, 1, 0, 0, 1, 1, 0, 0, 1, 1, 1, 1, 0, 0, 1, 1, 0, 0, 1, 1]) (blockQ 3 (thenQ (F9.k3 W Q QP) (Q))) QP s h = F9.k5 W Q QP s h := nd_cond (a := (Code.at F9.code [1, 1, 0, 1, 0, 0, 1, 1, 0, 0, 1, 1, 1, 1, 0, 0, 1, 1, 0, 0, 1, 1, 0])) (b := (Code.at F9.code [1, 1, 0, 1, 0, 0, 1, 1, 0, 0, 1, 1, 1, 1, 0, 0, 1, 1, 0, 0, 1, 1, 1])) (by kernel_rfl) (F9.k4_ok W Q QP s h) rfl (F9.k5_a W Q QP s h (F9.k3 W Q QP) (F9.k4 W Q QP))
def F9.t6 (s : St) (h : AH) (C0 C1 : KT) : Prop :=
  lLd (some true) (some 2) (s.tm 11) h fun t3 _ =>
  pFld (some 2) (s.tm 9) fun t5 =>
  lLd (some false) (some 1) t5 h fun t6 _ =>
  pIxA (some (2, none)) t6 (s.tm 10) fun t8 =>
  lLd (some true) (some 2) t8 h fun t9 _ =>
  pBin Try.prog .neq 53 false t3 t9 fun t11 =>
  C1 ⟨puts s.tm [(81, t3), (82, t5), (83, t6), (84, (s.tm 10)), (85, t8), (86, t9), (87, t11)], s.ds⟩ h
def F9.k6 (W : Nat → Prop) (Q : Post) (QP : PPost) (s : St) (h : AH) : Prop := F9.t6 s h (F9.k3 W Q QP) (F9.k5 W Q QP)
theorem F9.k6_a (C0 C1 : KT) : aw Try.prog 90 W F9.pl (Code.at F9.code [1, 1, 0, 1, 0, 0, 1, 1, 0, 0, 1, 1, 1, 1, 0, 0, 1, 1, 0, 0, 1, 0]) (thenQ (C1) (blockQ 3 (thenQ (C0) (Q)))) QP s h = F9.t6 s h C0 C1 := by kernel_rfl
theorem F9.k6_ok : aw Try.prog 90 W F9.pl (Code.at F9.code [1, 1, 0, 1, 0, 0, 1, 1, 0, 0, 1, 1, 1, 1, 0, 0, 1, 1, 0, 0, 1]) (blockQ 3 (thenQ (F9.k3 W Q QP) (Q))) QP s h = F9.k6 W Q QP s h := nd_seq (a := (Code.at F9.code [1, 1, 0, 1, 0, 0, 1, 1, 0, 0, 1, 1, 1, 1, 0, 0, 1, 1, 0, 0, 1, 0])) (b := (Code.at F9.code [1, 1, 0, 1, 0, 0, 1, 1, 0, 0, 1, 1, 1, 1, 0, 0, 1, 1, 0, 0, 1, 1])) (by kernel_rfl) (F9.k5_ok W Q QP) (F9.k6_a W Q QP s h (F9.k3 W Q QP) (F9.k5 W Q QP))
def F9.t7 (W : Nat → Prop) (s : St) (h : AH) (C0 C1 : KT) : Prop :=
  pIxA (some (2, none)) (s.tm 74) (s.tm 76) fun t12 =>
  lLd (some true) (some 2) t12 h fun t13 _ =>
  eAlloc (some [.string ⟨#[]⟩, .int .i64 0]) 2 53 h fun t15 h16 =>
  eStore (some 2) t15 t13 h16 W fun h17 =>
  C1 ⟨puts s.tm [(78, (s.tm 76)), (79, t12), (80, t13), (11, t15), (10, (s.tm 76))], s.ds⟩ h17
def F9.k7 (W : Nat → Prop) (Q : Post) (QP : PPost) (s : St) (h : AH) : Prop := F9.t7 W s h (F9.k3 W Q QP) (F9.k6 W Q QP)
theorem F9.k7_a (C0 C1 : KT) : aw Try.prog 90 W F9.pl (Code.at F9.code [1, 1, 0, 1, 0, 0, 1, 1, 0, 0, 1, 1, 1, 1, 0, 0, 1, 1, 0, 0, 0]) (thenQ (C1) (blockQ 3 (thenQ (C0) (Q)))) QP s h = F9.t7 W s h C0 C1 := by kernel_rfl
theorem F9.k7_ok : aw Try.prog 90 W F9.pl (Code.at F9.code [1, 1, 0, 1, 0, 0, 1, 1, 0, 0, 1, 1, 1, 1, 0, 0, 1, 1, 0, 0]) (blockQ 3 (thenQ (F9.k3 W Q QP) (Q))) QP s h = F9.k7 W Q QP s h := nd_seq (a := (Code.at F9.code [1, 1, 0, 1, 0, 0, 1, 1, 0, 0, 1, 1, 1, 1, 0, 0, 1, 1, 0, 0, 0])) (b := (Code.at F9.code [1, 1, 0, 1, 0, 0, 1, 1, 0, 0, 1, 1, 1, 1, 0, 0, 1, 1, 0, 0, 1])) (by kernel_rfl) (F9.k6_ok W Q QP) (F9.k7_a W Q QP s h (F9.k3 W Q QP) (F9.k6 W Q QP))
theorem F9.o1 : aw Try.prog 90 W F9.pl (Code.at F9.code [1, 1, 0, 1, 0, 0, 1, 1, 0, 0, 1, 1, 1, 1, 0, 0, 1, 1, 0]) (thenQ (F9.k3 W Q QP) (Q)) QP s h = F9.k7 W Q QP s h := nd_block (a := (Code.at F9.code [1, 1, 0, 1, 0, 0, 1, 1, 0, 0, 1, 1, 1, 1, 0, 0, 1, 1, 0, 0])) (by kernel_rfl) (F9.k7_ok W Q QP s h)
theorem F9.o2 : aw Try.prog 90 W F9.pl (Code.at F9.code [1, 1, 0, 1, 0, 0, 1, 1, 0, 0, 1, 1, 1, 1, 0, 0, 1, 1]) (Q) QP s h = F9.k7 W Q QP s h := nd_seq (a := (Code.at F9.code [1, 1, 0, 1, 0, 0, 1, 1, 0, 0, 1, 1, 1, 1, 0, 0, 1, 1, 0])) (b := (Code.at F9.code [1, 1, 0, 1, 0, 0, 1, 1, 0, 0, 1, 1, 1, 1, 0, 0, 1, 1, 1])) (by kernel_rfl) (F9.k3_ok W Q QP) (F9.o1 W Q QP s h)
def F9.t8 (Q : Post) (s : St) (h : AH) (C0 : KT) : Prop :=
  aIf (s.tm 77) (
  C0 s h) (
  Q (.exit 2) s h)
def F9.k8 (W : Nat → Prop) (Q : Post) (QP : PPost) (s : St) (h : AH) : Prop := F9.t8 Q s h (F9.k7 W Q QP)
theorem F9.k8_a (C0 : KT) : aIf (aev s (.tmp 77)) (aw Try.prog 90 W F9.pl (Code.at F9.code [1, 1, 0, 1, 0, 0, 1, 1, 0, 0, 1, 1, 1, 1, 0, 0, 1, 0, 0]) (thenQ (C0) (Q)) QP s h) (aw Try.prog 90 W F9.pl (Code.at F9.code [1, 1, 0, 1, 0, 0, 1, 1, 0, 0, 1, 1, 1, 1, 0, 0, 1, 0, 1]) (thenQ (C0) (Q)) QP s h) = F9.t8 Q s h C0 := by kernel_rfl
theorem F9.k8_ok : aw Try.prog 90 W F9.pl (Code.at F9.code [1, 1, 0, 1, 0, 0, 1, 1, 0, 0, 1, 1, 1, 1, 0, 0, 1, 0]) (thenQ (F9.k7 W Q QP) (Q)) QP s h = F9.k8 W Q QP s h := nd_cond (a := (Code.at F9.code [1, 1, 0, 1, 0, 0, 1, 1, 0, 0, 1, 1, 1, 1, 0, 0, 1, 0, 0])) (b := (Code.at F9.code [1, 1, 0, 1, 0, 0, 1, 1, 0, 0, 1, 1, 1, 1, 0, 0, 1, 0, 1])) (by kernel_rfl) rfl rfl (F9.k8_a W Q QP s h (F9.k7 W Q QP))
theorem F9.o3 : aw Try.prog 90 W F9.pl (Code.at F9.code [1, 1, 0, 1, 0, 0, 1, 1, 0, 0, 1, 1, 1, 1, 0, 0, 1]) (Q) QP s h = F9.k8 W Q QP s h := nd_seq (a := (Code.at F9.code [1, 1, 0, 1, 0, 0, 1, 1, 0, 0, 1, 1, 1, 1, 0, 0, 1, 0])) (b := (Code.at F9.code [1, 1, 0, 1, 0, 0, 1, 1, 0, 0, 1, 1, 1, 1, 0, 0, 1, 1])) (by kernel_rfl) (F9.o2 W Q QP) (F9.k8_ok W Q QP s h)
def F9.t9 (s : St) (h : AH) (C0 : KT) : Prop :=
  pBin Try.prog .lss 3 false (s.tm 76) (s.tm 75) fun t18 =>
  C0 ⟨puts s.tm [(77, t18)], s.ds⟩ h
def F9.k9 (W : Nat → Prop) (Q : Post) (QP : PPost) (s : St) (h : AH) : Prop := F9.t9 s h (F9.k8 W Q QP)
theorem F9.k9_a (C0 : KT) : aw Try.prog 90 W F9.pl (Code.at F9.code [1, 1, 0, 1, 0, 0, 1, 1, 0, 0, 1, 1, 1, 1, 0, 0, 0]) (thenQ (C0) (Q)) QP s h = F9.t9 s h C0 := by kernel_rfl
theorem F9.k9_ok : aw Try.prog 90 W F9.pl (Code.at F9.code [1, 1, 0, 1, 0, 0, 1, 1, 0, 0, 1, 1, 1, 1, 0, 0]) (Q) QP s h = F9.k9 W Q QP s h := nd_seq (a := (Code.at F9.code [1, 1, 0, 1, 0, 0, 1, 1, 0, 0, 1, 1, 1, 1, 0, 0, 0])) (b := (Code.at F9.code [1, 1, 0, 1, 0, 0, 1, 1, 0, 0, 1, 1, 1, 1, 0, 0, 1])) (by kernel_rfl) (F9.o3 W Q QP) (F9.k9_a W Q QP s h (F9.k8 W Q QP))
noncomputable def F9.c2 : Code := (Code.at F9.code [1, 1, 0, 1, 0, 0, 1, 1, 0, 0, 1, 1, 1, 1, 0, 0])
theorem F9.l2 : aw Try.prog 90 W F9.pl F9.c2 Q QP s h = F9.k9 W Q QP s h := F9.k9_ok W Q QP s h
def F9.k10 (W : Nat → Prop) (Q : Post) (QP : PPost) (s : St) (h : AH) : Prop := aLoop (aw Try.prog 90 W F9.pl F9.c2) (blockQ 2 (blockQ 1 (thenQ (F9.k2 W Q QP) (Q)))) QP s h
theorem F9.k10_ok : aw Try.prog 90 W F9.pl (Code.at F9.code [1, 1, 0, 1, 0, 0, 1, 1, 0, 0, 1, 1, 1, 1, 0]) (blockQ 2 (blockQ 1 (thenQ (F9.k2 W Q QP) (Q)))) QP s h = F9.k10 W Q QP s h := nd_loop (a := F9.c2) (by kernel_rfl)
theorem F9.o4 : aw Try.prog 90 W F9.pl (Code.at F9.code [1, 1, 0, 1, 0, 0, 1, 1, 0, 0, 1, 1, 1, 1]) (blockQ 1 (thenQ (F9.k2 W Q QP) (Q))) QP s h = F9.k10 W Q QP s h := nd_block (a := (Code.at F9.code [1, 1, 0, 1, 0, 0, 1, 1, 0, 0, 1, 1, 1, 1, 0])) (by kernel_rfl) (F9.k10_ok W Q QP s h)
def F9.t11 (s : St) (h : AH) (C0 C1 : KT) : Prop :=
  pFld (some 2) (s.tm 8) fun t19 =>
  lLd (some false) (some 1) t19 h fun t20 _ =>
  (strArg t20 = false) ∧ pLen t20 fun t22 =>
  C0 ⟨puts s.tm [(73, t19), (74, t20), (75, t22), (76, (.sc (.int .i64 0)))], s.ds⟩ h
def F9.k11 (W : Nat → Prop) (Q : Post) (QP : PPost) (s : St) (h : AH) : Prop := F9.t11 s h (F9.k10 W Q QP) (F9.k2 W Q QP)
theorem F9.k11_a (C0 C1 : KT) : aw Try.prog 90 W F9.pl (Code.at F9.code [1, 1, 0, 1, 0, 0, 1, 1, 0, 0, 1, 1, 1, 0]) (thenQ (C0) (blockQ 1 (thenQ (C1) (Q)))) QP s h = F9.t11 s h C0 C1 := by kernel_rfl
theorem F9.k11_ok : aw Try.prog 90 W F9.pl (Code.at F9.code [1, 1, 0, 1, 0, 0, 1, 1, 0, 0, 1, 1, 1]) (blockQ 1 (thenQ (F9.k2 W Q QP) (Q))) QP s h = F9.k11 W Q QP s h := nd_seq (a := (Code.at F9.code [1, 1, 0, 1, 0, 0, 1, 1, 0, 0, 1, 1, 1, 0])) (b := (Code.at F9.code [1, 1, 0, 1, 0, 0, 1, 1, 0, 0, 1, 1, 1, 1])) (by kernel_rfl) (F9.o4 W Q QP) (F9.k11_a W Q QP s h (F9.k10 W Q QP) (F9.k2 W Q QP))
def F9.t12 (Q : Post) (s : St) (h : AH) (C0 C1 : KT) : Prop :=
  Q .ret ⟨puts s.tm [(6, (.sc (.bool false)))], s.ds⟩ h
def F9.k12 (W : Nat → Prop) (Q : Post) (QP : PPost) (s : St) (h : AH) : Prop := F9.t12 Q s h (F9.k11 W Q QP) (F9.k2 W Q QP)
theorem F9.k12_a (C0 C1 : KT) : aw Try.prog 90 W F9.pl (Code.at F9.code [1, 1, 0, 1, 0, 0, 1, 1, 0, 0, 1, 1, 0, 1, 0, 0]) (thenQ (aw Try.prog 90 W F9.pl (Code.at F9.code [1, 1, 0, 1, 0, 0, 1, 1, 0, 0, 1, 1, 0, 1, 0, 1]) (thenQ (C0) (blockQ 1 (thenQ (C1) (Q)))) QP) (thenQ (C0) (blockQ 1 (thenQ (C1) (Q))))) QP s h = F9.t12 Q s h C0 C1 := by kernel_rfl
theorem F9.k12_ok : aw Try.prog 90 W F9.pl (Code.at F9.code [1, 1, 0, 1, 0, 0, 1, 1, 0, 0, 1, 1, 0, 1, 0]) (thenQ (F9.k11 W Q QP) (blockQ 1 (thenQ (F9.k2 W Q QP) (Q)))) QP s h = F9.k12 W Q QP s h := nd_seq (a := (Code.at F9.code [1, 1, 0, 1, 0, 0, 1, 1, 0, 0, 1, 1, 0, 1, 0, 0])) (b := (Code.at F9.code [1, 1, 0, 1, 0, 0, 1, 1, 0, 0, 1, 1, 0, 1, 0, 1])) (by kernel_rfl) (fun _ _ => rfl) (F9.k12_a W Q QP s h (F9.k11 W Q QP) (F9.k2 W Q QP))
def F9.t13 (s : St) (h : AH) (C0 C1 C2 : KT) : Prop :=
  aIf (s.tm 72) (
  C1 s h) (
  C0 s h)
def F9.k13 (W : Nat → Prop) (Q : Post) (QP : PPost) (s : St) (h : AH) : Prop := F9.t13 s h (F9.k11 W Q QP) (F9.k12 W Q QP) (F9.k2 W Q QP)
theorem F9.k13_a (C0 C1 C2 : KT) : aIf (aev s (.tmp 72)) (C1 s h) (aw Try.prog 90 W F9.pl (Code.at F9.code [1, 1, 0, 1, 0, 0, 1, 1, 0, 0, 1, 1, 0, 1, 1]) (thenQ (C0) (blockQ 1 (thenQ (C2) (Q)))) QP s h) = F9.t13 s h C0 C1 C2 := by kernel_rfl
theorem F9.k13_ok : aw Try.prog 90 W F9.pl (Code.at F9.code [1, 1, 0, 1, 0, 0, 1, 1, 0, 0, 1, 1, 0, 1]) (thenQ (F9.k11 W Q QP) (blockQ 1 (thenQ (F9.k2 W Q QP) (Q)))) QP s h = F9.k13 W Q QP s h := nd_cond (a := (Code.at F9.code [1, 1, 0, 1, 0, 0, 1, 1, 0, 0, 1, 1, 0, 1, 0])) (b := (Code.at F9.code [1, 1, 0, 1, 0, 0, 1, 1, 0, 0, 1, 1, 0, 1, 1])) (by kernel_rfl) (F9.k12_ok W Q QP s h) rfl (F9.k13_a W Q QP s h (F9.k11 W Q QP) (F9.k12 W Q QP) (F9.k2 W Q QP))
def F9.t14 (s : St) (h : AH) (C0 C1 C2 : KT) : Prop :=
  pPick (s.tm 64) (.sc (.bool true)) (s.tm 71) fun t23 =>
  C1 ⟨puts s.tm [(72, t23)], s.ds⟩ h
def F9.k14 (W : Nat → Prop) (Q : Post) (QP : PPost) (s : St) (h : AH) : Prop := F9.t14 s h (F9.k11 W Q QP) (F9.k13 W Q QP) (F9.k2 W Q QP)
theorem F9.k14_a (C0 C1 C2 : KT) : evI Try.prog 90 (fun _ => W) nobody QP (regOps (Code.at F9.code [1, 1, 0, 1, 0, 0, 1, 1, 0, 0, 1, 1, 0, 0])) (isAt F9.g1 12) ((thenQ (C1) (thenQ (C0) (blockQ 1 (thenQ (C2) (Q))))) .normal) s h = F9.t14 s h C0 C1 C2 := by kernel_rfl
theorem F9.k14_ok : evG Try.prog 90 (fun _ => W) nobody QP (regOps (Code.at F9.code [1, 1, 0, 1, 0, 0, 1, 1, 0, 0, 1, 1, 0, 0])) (F9.g1.drop 12) ((thenQ (F9.k13 W Q QP) (thenQ (F9.k11 W Q QP) (blockQ 1 (thenQ (F9.k2 W Q QP) (Q))))) .normal) s h = F9.k14 W Q QP s h := nd_g (is := isAt F9.g1 12) (rest := F9.g1.drop 13) (by kernel_rfl) (fun _ _ => rfl) (F9.k14_a W Q QP s h (F9.k11 W Q QP) (F9.k13 W Q QP) (F9.k2 W Q QP))
def F9.t15 (s : St) (h : AH) (C0 : KT) : Prop :=
  aIg false (s.tm 64) (
  pFld (some 2) (s.tm 8) fun t24 =>
  lLd (some false) (some 1) t24 h fun t25 _ =>
  (strArg t25 = false) ∧ pLen t25 fun t27 =>
  pFld (some 2) (s.tm 9) fun t28 =>
  lLd (some false) (some 1) t28 h fun t29 _ =>
  (strArg t29 = false) ∧ pLen t29 fun t31 =>
  pBin Try.prog .neq 3 false t27 t31 fun t32 =>
  C0 ⟨puts s.tm [(65, t24), (66, t25), (67, t27), (68, t28), (69, t29), (70, t31), (71, t32)], s.ds⟩ h) (
  C0 ⟨puts s.tm [(65, noA), (66, noA), (67, noA), (68, noA), (69, noA), (70, noA), (71, noA)], s.ds⟩ h)
def F9.k15 (W : Nat → Prop) (Q : Post) (QP : PPost) (s : St) (h : AH) : Prop := F9.t15 s h (F9.k14 W Q QP)
theorem F9.k15_a (C0 : KT) : aIg false (s.tm 64) (evI Try.prog 90 (fun _ => W) nobody QP (regOps (Code.at F9.code [1, 1, 0, 1, 0, 0, 1, 1, 0, 0, 1, 1, 0, 0])) (isAt F9.g1 11) (C0) s h) ((C0) (skI 90 (regOps (Code.at F9.code [1, 1, 0, 1, 0, 0, 1, 1, 0, 0, 1, 1, 0, 0])) (isAt F9.g1 11) s) h) = F9.t15 s h C0 := by kernel_rfl
theorem F9.k15_ok : evG Try.prog 90 (fun _ => W) nobody QP (regOps (Code.at F9.code [1, 1, 0, 1, 0, 0, 1, 1, 0, 0, 1, 1, 0, 0])) (F9.g1.drop 11) ((thenQ (F9.k13 W Q QP) (thenQ (F9.k11 W Q QP) (blockQ 1 (thenQ (F9.k2 W Q QP) (Q))))) .normal) s h = F9.k15 W Q QP s h := nd_gw (j := 36) (is := isAt F9.g1 11) (rest := F9.g1.drop 12) (by kernel_rfl) (d := 64) (by kernel_rfl) (F9.k14_ok W Q QP) (F9.k15_a W QP s h (F9.k14 W Q QP))
def F9.t16 (s : St) (h : AH) (C0 : KT) : Prop :=
  pPick (s.tm 54) (.sc (.bool true)) (s.tm 62) fun t33 =>
  C0 ⟨puts s.tm [(63, t33), (64, t33)], s.ds⟩ h
def F9.k16 (W : Nat → Prop) (Q : Post) (QP : PPost) (s : St) (h : AH) : Prop := F9.t16 s h (F9.k15 W Q QP)
theorem F9.k16_a (C0 : KT) : evI Try.prog 90 (fun _ => W) nobody QP (regOps (Code.at F9.code [1, 1, 0, 1, 0, 0, 1, 1, 0, 0, 1, 1, 0, 0])) (isAt F9.g1 10) (C0) s h = F9.t16 s h C0 := by kernel_rfl
theorem F9.k16_ok : evG Try.prog 90 (fun _ => W) nobody QP (regOps (Code.at F9.code [1, 1, 0, 1, 0, 0, 1, 1, 0, 0, 1, 1, 0, 0])) (F9.g1.drop 10) ((thenQ (F9.k13 W Q QP) (thenQ (F9.k11 W Q QP) (blockQ 1 (thenQ (F9.k2 W Q QP) (Q))))) .normal) s h = F9.k16 W Q QP s h := nd_g (is := isAt F9.g1 10) (rest := F9.g1.drop 11) (by kernel_rfl) (F9.k15_ok W Q QP) (F9.k16_a W QP s h (F9.k15 W Q QP))
def F9.t17 (s : St) (h : AH) (C0 : KT) : Prop :=
  aIg false (s.tm 54) (
  pPick (s.tm 56) (s.tm 61) (.sc (.bool false)) fun t34 =>
  C0 ⟨puts s.tm [(62, t34)], s.ds⟩ h) (
  C0 ⟨puts s.tm [(62, noA)], s.ds⟩ h)
def F9.k17 (W : Nat → Prop) (Q : Post) (QP : PPost) (s : St) (h : AH) : Prop := F9.t17 s h (F9.k16 W Q QP)
theorem F9.k17_a (C0 : KT) : aIg false (s.tm 54) (evI Try.prog 90 (fun _ => W) nobody QP (regOps (Code.at F9.code [1, 1, 0, 1, 0, 0, 1, 1, 0, 0, 1, 1, 0, 0])) (isAt F9.g1 9) (C0) s h) ((C0) (skI 90 (regOps (Code.at F9.code [1, 1, 0, 1, 0, 0, 1, 1, 0, 0, 1, 1, 0, 0])) (isAt F9.g1 9) s) h) = F9.t17 s h C0 := by kernel_rfl
theorem F9.k17_ok : evG Try.prog 90 (fun _ => W) nobody QP (regOps (Code.at F9.code [1, 1, 0, 1, 0, 0, 1, 1, 0, 0, 1, 1, 0, 0])) (F9.g1.drop 9) ((thenQ (F9.k13 W Q QP) (thenQ (F9.k11 W Q QP) (blockQ 1 (thenQ (F9.k2 W Q QP) (Q))))) .normal) s h = F9.k17 W Q QP s h := nd_gw (j := 26) (is := isAt F9.g1 9) (rest := F9.g1.drop 10) (by kernel_rfl) (d := 54) (by kernel_rfl) (F9.k16_ok W Q QP) (F9.k17_a W QP s h (F9.k16 W Q QP))
def F9.t18 (s : St) (h : AH) (C0 : KT) : Prop :=
  aIg true (s.tm 56) (
  pFld (some 5) (s.tm 8) fun t35 =>
  lLd (some false) (some 1) t35 h fun t36 _ =>
  pFld (some 5) (s.tm 9) fun t38 =>
  lLd (some false) (some 1) t38 h fun t39 _ =>
  pBin Try.prog .neq 3 false t36 t39 fun t41 =>
  C0 ⟨puts s.tm [(57, t35), (58, t36), (59, t38), (60, t39), (61, t41)], s.ds⟩ h) (
  C0 ⟨puts s.tm [(57, noA), (58, noA), (59, noA), (60, noA), (61, noA)], s.ds⟩ h)
def F9.k18 (W : Nat → Prop) (Q : Post) (QP : PPost) (s : St) (h : AH) : Prop := F9.t18 s h (F9.k17 W Q QP)
theorem F9.k18_a (C0 : KT) : aIg true (s.tm 56) (evI Try.prog 90 (fun _ => W) nobody QP (regOps (Code.at F9.code [1, 1, 0, 1, 0, 0, 1, 1, 0, 0, 1, 1, 0, 0])) (isAt F9.g1 8) (C0) s h) ((C0) (skI 90 (regOps (Code.at F9.code [1, 1, 0, 1, 0, 0, 1, 1, 0, 0, 1, 1, 0, 0])) (isAt F9.g1 8) s) h) = F9.t18 s h C0 := by kernel_rfl
theorem F9.k18_ok : evG Try.prog 90 (fun _ => W) nobody QP (regOps (Code.at F9.code [1, 1, 0, 1, 0, 0, 1, 1, 0, 0, 1, 1, 0, 0])) (F9.g1.drop 8) ((thenQ (F9.k13 W Q QP) (thenQ (F9.k11 W Q QP) (blockQ 1 (thenQ (F9.k2 W Q QP) (Q))))) .normal) s h = F9.k18 W Q QP s h := nd_gw (j := 28) (is := isAt F9.g1 8) (rest := F9.g1.drop 9) (by kernel_rfl) (d := 56) (by kernel_rfl) (F9.k17_ok W Q QP) (F9.k18_a W QP s h (F9.k17 W Q QP))
def F9.t19 (s : St) (h : AH) (C0 : KT) : Prop :=
  aIg false (s.tm 54) (
  C0 ⟨puts s.tm [(55, (s.tm 2)), (56, (s.tm 2))], s.ds⟩ h) (
  C0 ⟨puts s.tm [(55, noA), (56, noA)], s.ds⟩ h)
def F9.k19 (W : Nat → Prop) (Q : Post) (QP : PPost) (s : St) (h : AH) : Prop := F9.t19 s h (F9.k18 W Q QP)
theorem F9.k19_a (C0 : KT) : aIg false (s.tm 54) (evI Try.prog 90 (fun _ => W) nobody QP (regOps (Code.at F9.code [1, 1, 0, 1, 0, 0, 1, 1, 0, 0, 1, 1, 0, 0])) (isAt F9.g1 7) (C0) s h) ((C0) (skI 90 (regOps (Code.at F9.code [1, 1, 0, 1, 0, 0, 1, 1, 0, 0, 1, 1, 0, 0])) (isAt F9.g1 7) s) h) = F9.t19 s h C0 := by kernel_rfl
theorem F9.k19_ok : evG Try.prog 90 (fun _ => W) nobody QP (regOps (Code.at F9.code [1, 1, 0, 1, 0, 0, 1, 1, 0, 0, 1, 1, 0, 0])) (F9.g1.drop 7) ((thenQ (F9.k13 W Q QP) (thenQ (F9.k11 W Q QP) (blockQ 1 (thenQ (F9.k2 W Q QP) (Q))))) .normal) s h = F9.k19 W Q QP s h := nd_gw (j := 26) (is := isAt F9.g1 7) (rest := F9.g1.drop 8) (by kernel_rfl) (d := 54) (by kernel_rfl) (F9.k18_ok W Q QP) (F9.k19_a W QP s h (F9.k18 W Q QP))
def F9.t20 (s : St) (h : AH) (C0 : KT) : Prop :=
  pPick (s.tm 47) (.sc (.bool true)) (s.tm 52) fun t42 =>
  C0 ⟨puts s.tm [(53, t42), (54, t42)], s.ds⟩ h
def F9.k20 (W : Nat → Prop) (Q : Post) (QP : PPost) (s : St) (h : AH) : Prop := F9.t20 s h (F9.k19 W Q QP)
theorem F9.k20_a (C0 : KT) : evI Try.prog 90 (fun _ => W) nobody QP (regOps (Code.at F9.code [1, 1, 0, 1, 0, 0, 1, 1, 0, 0, 1, 1, 0, 0])) (isAt F9.g1 6) (C0) s h = F9.t20 s h C0 := by kernel_rfl
theorem F9.k20_ok : evG Try.prog 90 (fun _ => W) nobody QP (regOps (Code.at F9.code [1, 1, 0, 1, 0, 0, 1, 1, 0, 0, 1, 1, 0, 0])) (F9.g1.drop 6) ((thenQ (F9.k13 W Q QP) (thenQ (F9.k11 W Q QP) (blockQ 1 (thenQ (F9.k2 W Q QP) (Q))))) .normal) s h = F9.k20 W Q QP s h := nd_g (is := isAt F9.g1 6) (rest := F9.g1.drop 7) (by kernel_rfl) (F9.k19_ok W Q QP) (F9.k20_a W QP s h (F9.k19 W Q QP))
def F9.t21 (s : St) (h : AH) (C0 : KT) : Prop :=
  aIg false (s.tm 47) (
  pFld (some 4) (s.tm 8) fun t43 =>
  lLd (some false) (some 1) t43 h fun t44 _ =>
  pFld (some 4) (s.tm 9) fun t46 =>
  lLd (some false) (some 1) t46 h fun t47 _ =>
  pBin Try.prog .neq 3 false t44 t47 fun t49 =>
  C0 ⟨puts s.tm [(48, t43), (49, t44), (50, t46), (51, t47), (52, t49)], s.ds⟩ h) (
  C0 ⟨puts s.tm [(48, noA), (49, noA), (50, noA), (51, noA), (52, noA)], s.ds⟩ h)
def F9.k21 (W : Nat → Prop) (Q : Post) (QP : PPost) (s : St) (h : AH) : Prop := F9.t21 s h (F9.k20 W Q QP)
theorem F9.k21_a (C0 : KT) : aIg false (s.tm 47) (evI Try.prog 90 (fun _ => W) nobody QP (regOps (Code.at F9.code [1, 1, 0, 1, 0, 0, 1, 1, 0, 0, 1, 1, 0, 0])) (isAt F9.g1 5) (C0) s h) ((C0) (skI 90 (regOps (Code.at F9.code [1, 1, 0, 1, 0, 0, 1, 1, 0, 0, 1, 1, 0, 0])) (isAt F9.g1 5) s) h) = F9.t21 s h C0 := by kernel_rfl
theorem F9.k21_ok : evG Try.prog 90 (fun _ => W) nobody QP (regOps (Code.at F9.code [1, 1, 0, 1, 0, 0, 1, 1, 0, 0, 1, 1, 0, 0])) (F9.g1.drop 5) ((thenQ (F9.k13 W Q QP) (thenQ (F9.k11 W Q QP) (blockQ 1 (thenQ (F9.k2 W Q QP) (Q))))) .normal) s h = F9.k21 W Q QP s h := nd_gw (j := 19) (is := isAt F9.g1 5) (rest := F9.g1.drop 6) (by kernel_rfl) (d := 47) (by kernel_rfl) (F9.k20_ok W Q QP) (F9.k21_a W QP s h (F9.k20 W Q QP))
def F9.t22 (s : St) (h : AH) (C0 : KT) : Prop :=
  pPick (s.tm 40) (.sc (.bool true)) (s.tm 45) fun t50 =>
  C0 ⟨puts s.tm [(46, t50), (47, t50)], s.ds⟩ h
def F9.k22 (W : Nat → Prop) (Q : Post) (QP : PPost) (s : St) (h : AH) : Prop := F9.t22 s h (F9.k21 W Q QP)
theorem F9.k22_a (C0 : KT) : evI Try.prog 90 (fun _ => W) nobody QP (regOps (Code.at F9.code [1, 1, 0, 1, 0, 0, 1, 1, 0, 0, 1, 1, 0, 0])) (isAt F9.g1 4) (C0) s h = F9.t22 s h C0 := by kernel_rfl
theorem F9.k22_ok : evG Try.prog 90 (fun _ => W) nobody QP (regOps (Code.at F9.code [1, 1, 0, 1, 0, 0, 1, 1, 0, 0, 1, 1, 0, 0])) (F9.g1.drop 4) ((thenQ (F9.k13 W Q QP) (thenQ (F9.k11 W Q QP) (blockQ 1 (thenQ (F9.k2 W Q QP) (Q))))) .normal) s h = F9.k22 W Q QP s h := nd_g (is := isAt F9.g1 4) (rest := F9.g1.drop 5) (by kernel_rfl) (F9.k21_ok W Q QP) (F9.k22_a W QP s h (F9.k21 W Q QP))
def F9.t23 (s : St) (h : AH) (C0 : KT) : Prop :=
  aIg false (s.tm 40) (
  pFld (some 3) (s.tm 8) fun t51 =>
  lLd (some false) (some 1) t51 h fun t52 _ =>
  pFld (some 3) (s.tm 9) fun t54 =>
  lLd (some false) (some 1) t54 h fun t55 _ =>
  pBin Try.prog .neq 3 false t52 t55 fun t57 =>
  C0 ⟨puts s.tm [(41, t51), (42, t52), (43, t54), (44, t55), (45, t57)], s.ds⟩ h) (
  C0 ⟨puts s.tm [(41, noA), (42, noA), (43, noA), (44, noA), (45, noA)], s.ds⟩ h)
def F9.k23 (W : Nat → Prop) (Q : Post) (QP : PPost) (s : St) (h : AH) : Prop := F9.t23 s h (F9.k22 W Q QP)
theorem F9.k23_a (C0 : KT) : aIg false (s.tm 40) (evI Try.prog 90 (fun _ => W) nobody QP (regOps (Code.at F9.code [1, 1, 0, 1, 0, 0, 1, 1, 0, 0, 1, 1, 0, 0])) (isAt F9.g1 3) (C0) s h) ((C0) (skI 90 (regOps (Code.at F9.code [1, 1, 0, 1, 0, 0, 1, 1, 0, 0, 1, 1, 0, 0])) (isAt F9.g1 3) s) h) = F9.t23 s h C0 := by kernel_rfl
theorem F9.k23_ok : evG Try.prog 90 (fun _ => W) nobody QP (regOps (Code.at F9.code [1, 1, 0, 1, 0, 0, 1, 1, 0, 0, 1, 1, 0, 0])) (F9.g1.drop 3) ((thenQ (F9.k13 W Q QP) (thenQ (F9.k11 W Q QP) (blockQ 1 (thenQ (F9.k2 W Q QP) (Q))))) .normal) s h = F9.k23 W Q QP s h := nd_gw (j := 12) (is := isAt F9.g1 3) (rest := F9.g1.drop 4) (by kernel_rfl) (d := 40) (by kernel_rfl) (F9.k22_ok W Q QP) (F9.k23_a W QP s h (F9.k22 W Q QP))
def F9.t24 (s : St) (h : AH) (C0 : KT) : Prop :=
  pPick (s.tm 33) (.sc (.bool true)) (s.tm 38) fun t58 =>
  C0 ⟨puts s.tm [(39, t58), (40, t58)], s.ds⟩ h
def F9.k24 (W : Nat → Prop) (Q : Post) (QP : PPost) (s : St) (h : AH) : Prop := F9.t24 s h (F9.k23 W Q QP)
theorem F9.k24_a (C0 : KT) : evI Try.prog 90 (fun _ => W) nobody QP (regOps (Code.at F9.code [1, 1, 0, 1, 0, 0, 1, 1, 0, 0, 1, 1, 0, 0])) (isAt F9.g1 2) (C0) s h = F9.t24 s h C0 := by kernel_rfl
theorem F9.k24_ok : evG Try.prog 90 (fun _ => W) nobody QP (regOps (Code.at F9.code [1, 1, 0, 1, 0, 0, 1, 1, 0, 0, 1, 1, 0, 0])) (F9.g1.drop 2) ((thenQ (F9.k13 W Q QP) (thenQ (F9.k11 W Q QP) (blockQ 1 (thenQ (F9.k2 W Q QP) (Q))))) .normal) s h = F9.k24 W Q QP s h := nd_g (is := isAt F9.g1 2) (rest := F9.g1.drop 3) (by kernel_rfl) (F9.k23_ok W Q QP) (F9.k24_a W QP s h (F9.k23 W Q QP))
def F9.t25 (s : St) (h : AH) (C0 : KT) : Prop :=
  aIg false (s.tm 33) (
  pFld (some 1) (s.tm 8) fun t59 =>
  lLd (some false) (some 1) t59 h fun t60 _ =>
  pFld (some 1) (s.tm 9) fun t62 =>
  lLd (some false) (some 1) t62 h fun t63 _ =>
  pBin Try.prog .neq 9 false t60 t63 fun t65 =>
  C0 ⟨puts s.tm [(34, t59), (35, t60), (36, t62), (37, t63), (38, t65)], s.ds⟩ h) (
  C0 ⟨puts s.tm [(34, noA), (35, noA), (36, noA), (37, noA), (38, noA)], s.ds⟩ h)
def F9.k25 (W : Nat → Prop) (Q : Post) (QP : PPost) (s : St) (h : AH) : Prop := F9.t25 s h (F9.k24 W Q QP)
theorem F9.k25_a (C0 : KT) : aIg false (s.tm 33) (evI Try.prog 90 (fun _ => W) nobody QP (regOps (Code.at F9.code [1, 1, 0, 1, 0, 0, 1, 1, 0, 0, 1, 1, 0, 0])) (isAt F9.g1 1) (C0) s h) ((C0) (skI 90 (regOps (Code.at F9.code [1, 1, 0, 1, 0, 0, 1, 1, 0, 0, 1, 1, 0, 0])) (isAt F9.g1 1) s) h) = F9.t25 s h C0 := by kernel_rfl
theorem F9.k25_ok : evG Try.prog 90 (fun _ => W) nobody QP (regOps (Code.at F9.code [1, 1, 0, 1, 0, 0, 1, 1, 0, 0, 1, 1, 0, 0])) (F9.g1.drop 1) ((thenQ (F9.k13 W Q QP) (thenQ (F9.k11 W Q QP) (blockQ 1 (thenQ (F9.k2 W Q QP) (Q))))) .normal) s h = F9.k25 W Q QP s h := nd_gw (j := 5) (is := isAt F9.g1 1) (rest := F9.g1.drop 2) (by kernel_rfl) (d := 33) (by kernel_rfl) (F9.k24_ok W Q QP) (F9.k25_a W QP s h (F9.k24 W Q QP))
def F9.t26 (s : St) (h : AH) (C0 : KT) : Prop :=
  pFld (some 0) (s.tm 8) fun t66 =>
  lLd (some false) (some 1) t66 h fun t67 _ =>
  pFld (some 0) (s.tm 9) fun t69 =>
  lLd (some false) (some 1) t69 h fun t70 _ =>
  pBin Try.prog .neq 9 false t67 t70 fun t72 =>
  C0 ⟨puts s.tm [(28, t66), (29, t67), (30, t69), (31, t70), (32, t72), (33, t72)], s.ds⟩ h
def F9.k26 (W : Nat → Prop) (Q : Post) (QP : PPost) (s : St) (h : AH) : Prop := F9.t26 s h (F9.k25 W Q QP)
theorem F9.k26_a (C0 : KT) : evI Try.prog 90 (fun _ => W) nobody QP (regOps (Code.at F9.code [1, 1, 0, 1, 0, 0, 1, 1, 0, 0, 1, 1, 0, 0])) (isAt F9.g1 0) (C0) s h = F9.t26 s h C0 := by kernel_rfl
theorem F9.k26_ok : evG Try.prog 90 (fun _ => W) nobody QP (regOps (Code.at F9.code [1, 1, 0, 1, 0, 0, 1, 1, 0, 0, 1, 1, 0, 0])) (F9.g1.drop 0) ((thenQ (F9.k13 W Q QP) (thenQ (F9.k11 W Q QP) (blockQ 1 (thenQ (F9.k2 W Q QP) (Q))))) .normal) s h = F9.k26 W Q QP s h := nd_g (is := isAt F9.g1 0) (rest := F9.g1.drop 1) (by kernel_rfl) (F9.k25_ok W Q QP) (F9.k26_a W QP s h (F9.k25 W Q QP))
theorem F9.o5 : aw Try.prog 90 W F9.pl (Code.at F9.code [1, 1, 0, 1, 0, 0, 1, 1, 0, 0, 1, 1, 0, 0]) (thenQ (F9.k13 W Q QP) (thenQ (F9.k11 W Q QP) (blockQ 1 (thenQ (F9.k2 W Q QP) (Q))))) QP s h = F9.k26 W Q QP s h := nd_groups (id := 7) (draw := false) (ops := (regOps (Code.at F9.code [1, 1, 0, 1, 0, 0, 1, 1, 0, 0, 1, 1, 0, 0]))) (gs := F9.g1.drop 0) (by kernel_rfl) (by kernel_rfl) (F9.k26_ok W Q QP s h)
theorem F9.o6 : aw Try.prog 90 W F9.pl (Code.at F9.code [1, 1, 0, 1, 0, 0, 1, 1, 0, 0, 1, 1, 0]) (thenQ (F9.k11 W Q QP) (blockQ 1 (thenQ (F9.k2 W Q QP) (Q)))) QP s h = F9.k26 W Q QP s h := nd_seq (a := (Code.at F9.code [1, 1, 0, 1, 0, 0, 1, 1, 0, 0, 1, 1, 0, 0])) (b := (Code.at F9.code [1, 1, 0, 1, 0, 0, 1, 1, 0, 0, 1, 1, 0, 1])) (by kernel_rfl) (F9.k13_ok W Q QP) (F9.o5 W Q QP s h)
theorem F9.o7 : aw Try.prog 90 W F9.pl (Code.at F9.code [1, 1, 0, 1, 0, 0, 1, 1, 0, 0, 1, 1]) (blockQ 1 (thenQ (F9.k2 W Q QP) (Q))) QP s h = F9.k26 W Q QP s h := nd_seq (a := (Code.at F9.code [1, 1, 0, 1, 0, 0, 1, 1, 0, 0, 1, 1, 0])) (b := (Code.at F9.code [1, 1, 0, 1, 0, 0, 1, 1, 0, 0, 1, 1, 1])) (by kernel_rfl) (F9.k11_ok W Q QP) (F9.o6 W Q QP s h)
def F9.t27 (W : Nat → Prop) (s : St) (h : AH) (C0 C1 : KT) : Prop :=
  pIxA (some (6, none)) (s.tm 1) (s.tm 7) fun t73 =>
  lLd (some true) (some 6) t73 h fun t74 _ =>
  eAlloc (some [.string ⟨#[]⟩, .string ⟨#[]⟩, .slice none 0 0, .int .i64 0, .int .i64 0, .int .i64 0]) 6 36 h fun t76 h77 =>
  eStore (some 6) t76 t74 h77 W fun h78 =>
  C1 ⟨puts s.tm [(24, (s.tm 1)), (25, (s.tm 7)), (26, t73), (27, t74), (9, t76)], s.ds⟩ h78
def F9.k27 (W : Nat → Prop) (Q : Post) (QP : PPost) (s : St) (h : AH) : Prop := F9.t27 W s h (F9.k2 W Q QP) (F9.k26 W Q QP)
theorem F9.k27_a (C0 C1 : KT) : aw Try.prog 90 W F9.pl (Code.at F9.code [1, 1, 0, 1, 0, 0, 1, 1, 0, 0, 1, 0]) (thenQ (C1) (blockQ 1 (thenQ (C0) (Q)))) QP s h = F9.t27 W s h C0 C1 := by kernel_rfl
theorem F9.k27_ok : aw Try.prog 90 W F9.pl (Code.at F9.code [1, 1, 0, 1, 0, 0, 1, 1, 0, 0, 1]) (blockQ 1 (thenQ (F9.k2 W Q QP) (Q))) QP s h = F9.k27 W Q QP s h := nd_seq (a := (Code.at F9.code [1, 1, 0, 1, 0, 0, 1, 1, 0, 0, 1, 0])) (b := (Code.at F9.code [1, 1, 0, 1, 0, 0, 1, 1, 0, 0, 1, 1])) (by kernel_rfl) (F9.o7 W Q QP) (F9.k27_a W Q QP s h (F9.k2 W Q QP) (F9.k26 W Q QP))
def F9.t28 (W : Nat → Prop) (s : St) (h : AH) (C0 C1 : KT) : Prop :=
  pIxA (some (6, none)) (s.tm 17) (s.tm 19) fun t79 =>
  lLd (some true) (some 6) t79 h fun t80 _ =>
  eAlloc (some [.string ⟨#[]⟩, .string ⟨#[]⟩, .slice none 0 0, .int .i64 0, .int .i64 0, .int .i64 0]) 6 36 h fun t82 h83 =>
  eStore (some 6) t82 t80 h83 W fun h84 =>
  C1 ⟨puts s.tm [(21, (s.tm 19)), (22, t79), (23, t80), (8, t82), (7, (s.tm 19))], s.ds⟩ h84
def F9.k28 (W : Nat → Prop) (Q : Post) (QP : PPost) (s : St) (h : AH) : Prop := F9.t28 W s h (F9.k2 W Q QP) (F9.k27 W Q QP)
theorem F9.k28_a (C0 C1 : KT) : aw Try.prog 90 W F9.pl (Code.at F9.code [1, 1, 0, 1, 0, 0, 1, 1, 0, 0, 0]) (thenQ (C1) (blockQ 1 (thenQ (C0) (Q)))) QP s h = F9.t28 W s h C0 C1 := by kernel_rfl
theorem F9.k28_ok : aw Try.prog 90 W F9.pl (Code.at F9.code [1, 1, 0, 1, 0, 0, 1, 1, 0, 0]) (blockQ 1 (thenQ (F9.k2 W Q QP) (Q))) QP s h = F9.k28 W Q QP s h := nd_seq (a := (Code.at F9.code [1, 1, 0, 1, 0, 0, 1, 1, 0, 0, 0])) (b := (Code.at F9.code [1, 1, 0, 1, 0, 0, 1, 1, 0, 0, 1])) (by kernel_rfl) (F9.k27_ok W Q QP) (F9.k28_a W Q QP s h (F9.k2 W Q QP) (F9.k27 W Q QP))
theorem F9.o8 : aw Try.prog 90 W F9.pl (Code.at F9.code [1, 1, 0, 1, 0, 0, 1, 1, 0]) (thenQ (F9.k2 W Q QP) (Q)) QP s h = F9.k28 W Q QP s h := nd_block (a := (Code.at F9.code [1, 1, 0, 1, 0, 0, 1, 1, 0, 0])) (by kernel_rfl) (F9.k28_ok W Q QP s h)
theorem F9.o9 : aw Try.prog 90 W F9.pl (Code.at F9.code [1, 1, 0, 1, 0, 0, 1, 1]) (Q) QP s h = F9.k28 W Q QP s h := nd_seq (a := (Code.at F9.code [1, 1, 0, 1, 0, 0, 1, 1, 0])) (b := (Code.at F9.code [1, 1, 0, 1, 0, 0, 1, 1, 1])) (by kernel_rfl) (F9.k2_ok W Q QP) (F9.o8 W Q QP s h)
def F9.t29 (Q : Post) (s : St) (h : AH) (C0 : KT) : Prop :=
  aIf (s.tm 20) (
  C0 s h) (
  Q (.exit 0) s h)
def F9.k29 (W : Nat → Prop) (Q : Post) (QP : PPost) (s : St) (h : AH) : Prop := F9.t29 Q s h (F9.k28 W Q QP)
theorem F9.k29_a (C0 : KT) : aIf (aev s (.tmp 20)) (aw Try.prog 90 W F9.pl (Code.at F9.code [1, 1, 0, 1, 0, 0, 1, 0, 0]) (thenQ (C0) (Q)) QP s h) (aw Try.prog 90 W F9.pl (Code.at F9.code [1, 1, 0, 1, 0, 0, 1, 0, 1]) (thenQ (C0) (Q)) QP s h) = F9.t29 Q s h C0 := by kernel_rfl
theorem F9.k29_ok : aw Try.prog 90 W F9.pl (Code.at F9.code [1, 1, 0, 1, 0, 0, 1, 0]) (thenQ (F9.k28 W Q QP) (Q)) QP s h = F9.k29 W Q QP s h := nd_cond (a := (Code.at F9.code [1, 1, 0, 1, 0, 0, 1, 0, 0])) (b := (Code.at F9.code [1, 1, 0, 1, 0, 0, 1, 0, 1])) (by kernel_rfl) rfl rfl (F9.k29_a W Q QP s h (F9.k28 W Q QP))
theorem F9.o10 : aw Try.prog 90 W F9.pl (Code.at F9.code [1, 1, 0, 1, 0, 0, 1]) (Q) QP s h = F9.k29 W Q QP s h := nd_seq (a := (Code.at F9.code [1, 1, 0, 1, 0, 0, 1, 0])) (b := (Code.at F9.code [1, 1, 0, 1, 0, 0, 1, 1])) (by kernel_rfl) (F9.o9 W Q QP) (F9.k29_ok W Q QP s h)
def F9.t30 (s : St) (h : AH) (C0 : KT) : Prop :=
  pBin Try.prog .lss 3 false (s.tm 19) (s.tm 18) fun t85 =>
  C0 ⟨puts s.tm [(20, t85)], s.ds⟩ h
def F9.k30 (W : Nat → Prop) (Q : Post) (QP : PPost) (s : St) (h : AH) : Prop := F9.t30 s h (F9.k29 W Q QP)
theorem F9.k30_a (C0 : KT) : aw Try.prog 90 W F9.pl (Code.at F9.code [1, 1, 0, 1, 0, 0, 0]) (thenQ (C0) (Q)) QP s h = F9.t30 s h C0 := by kernel_rfl
theorem F9.k30_ok : aw Try.prog 90 W F9.pl (Code.at F9.code [1, 1, 0, 1, 0, 0]) (Q) QP s h = F9.k30 W Q QP s h := nd_seq (a := (Code.at F9.code [1, 1, 0, 1, 0, 0, 0])) (b := (Code.at F9.code [1, 1, 0, 1, 0, 0, 1])) (by kernel_rfl) (F9.o10 W Q QP) (F9.k30_a W Q QP s h (F9.k29 W Q QP))
noncomputable def F9.c1 : Code := (Code.at F9.code [1, 1, 0, 1, 0, 0])
theorem F9.l1 : aw Try.prog 90 W F9.pl F9.c1 Q QP s h = F9.k30 W Q QP s h := F9.k30_ok W Q QP s h
def F9.k31 (W : Nat → Prop) (Q : Post) (QP : PPost) (s : St) (h : AH) : Prop := aLoop (aw Try.prog 90 W F9.pl F9.c1) (blockQ 0 (thenQ (F9.k1 W Q QP) (Q))) QP s h
theorem F9.k31_ok : aw Try.prog 90 W F9.pl (Code.at F9.code [1, 1, 0, 1, 0]) (blockQ 0 (thenQ (F9.k1 W Q QP) (Q))) QP s h = F9.k31 W Q QP s h := nd_loop (a := F9.c1) (by kernel_rfl)
theorem F9.o11 : aw Try.prog 90 W F9.pl (Code.at F9.code [1, 1, 0, 1]) (thenQ (F9.k1 W Q QP) (Q)) QP s h = F9.k31 W Q QP s h := nd_block (a := (Code.at F9.code [1, 1, 0, 1, 0])) (by kernel_rfl) (F9.k31_ok W Q QP s h)
def F9.t32 (s : St) (h : AH) (C0 C1 : KT) : Prop :=
  (strArg (s.tm 0) = false) ∧ pLen (s.tm 0) fun t86 =>
  C1 ⟨puts s.tm [(17, (s.tm 0)), (18, t86), (19, (.sc (.int .i64 0)))], s.ds⟩ h
def F9.k32 (W : Nat → Prop) (Q : Post) (QP : PPost) (s : St) (h : AH) : Prop := F9.t32 s h (F9.k1 W Q QP) (F9.k31 W Q QP)
theorem F9.k32_a (C0 C1 : KT) : aw Try.prog 90 W F9.pl (Code.at F9.code [1, 1, 0, 0]) (thenQ (C1) (thenQ (C0) (Q))) QP s h = F9.t32 s h C0 C1 := by kernel_rfl
theorem F9.k32_ok : aw Try.prog 90 W F9.pl (Code.at F9.code [1, 1, 0]) (thenQ (F9.k1 W Q QP) (Q)) QP s h = F9.k32 W Q QP s h := nd_seq (a := (Code.at F9.code [1, 1, 0, 0])) (b := (Code.at F9.code [1, 1, 0, 1])) (by kernel_rfl) (F9.o11 W Q QP) (F9.k32_a W Q QP s h (F9.k1 W Q QP) (F9.k31 W Q QP))
theorem F9.o12 : aw Try.prog 90 W F9.pl (Code.at F9.code [1, 1]) (Q) QP s h = F9.k32 W Q QP s h := nd_seq (a := (Code.at F9.code [1, 1, 0])) (b := (Code.at F9.code [1, 1, 1])) (by kernel_rfl) (F9.k1_ok W Q QP) (F9.k32_ok W Q QP s h)
def F9.t33 (Q : Post) (s : St) (h : AH) (C0 : KT) : Prop :=
  Q .ret ⟨puts s.tm [(6, (.sc (.bool false)))], s.ds⟩ h
def F9.k33 (W : Nat → Prop) (Q : Post) (QP : PPost) (s : St) (h : AH) : Prop := F9.t33 Q s h (F9.k32 W Q QP)
theorem F9.k33_a (C0 : KT) : aw Try.prog 90 W F9.pl (Code.at F9.code [1, 0, 1, 0, 0]) (thenQ (aw Try.prog 90 W F9.pl (Code.at F9.code [1, 0, 1, 0, 1]) (thenQ (C0) (Q)) QP) (thenQ (C0) (Q))) QP s h = F9.t33 Q s h C0 := by kernel_rfl
theorem F9.k33_ok : aw Try.prog 90 W F9.pl (Code.at F9.code [1, 0, 1, 0]) (thenQ (F9.k32 W Q QP) (Q)) QP s h = F9.k33 W Q QP s h := nd_seq (a := (Code.at F9.code [1, 0, 1, 0, 0])) (b := (Code.at F9.code [1, 0, 1, 0, 1])) (by kernel_rfl) (fun _ _ => rfl) (F9.k33_a W Q QP s h (F9.k32 W Q QP))
def F9.t34 (s : St) (h : AH) (C0 C1 : KT) : Prop :=
  aIf (s.tm 16) (
  C1 s h) (
  C0 s h)
def F9.k34 (W : Nat → Prop) (Q : Post) (QP : PPost) (s : St) (h : AH) : Prop := F9.t34 s h (F9.k32 W Q QP) (F9.k33 W Q QP)
theorem F9.k34_a (C0 C1 : KT) : aIf (aev s (.tmp 16)) (C1 s h) (aw Try.prog 90 W F9.pl (Code.at F9.code [1, 0, 1, 1]) (thenQ (C0) (Q)) QP s h) = F9.t34 s h C0 C1 := by kernel_rfl
theorem F9.k34_ok : aw Try.prog 90 W F9.pl (Code.at F9.code [1, 0, 1]) (thenQ (F9.k32 W Q QP) (Q)) QP s h = F9.k34 W Q QP s h := nd_cond (a := (Code.at F9.code [1, 0, 1, 0])) (b := (Code.at F9.code [1, 0, 1, 1])) (by kernel_rfl) (F9.k33_ok W Q QP s h) rfl (F9.k34_a W Q QP s h (F9.k32 W Q QP) (F9.k33 W Q QP))
def F9.t35 (s : St) (h : AH) (C0 C1 : KT) : Prop :=
  (strArg (s.tm 0) = false) ∧ pLen (s.tm 0) fun t87 =>
  (strArg (s.tm 1) = false) ∧ pLen (s.tm 1) fun t88 =>
  pBin Try.prog .neq 3 false t87 t88 fun t89 =>
  C1 ⟨puts s.tm [(12, (s.tm 0)), (13, t87), (14, (s.tm 1)), (15, t88), (16, t89)], s.ds⟩ h
def F9.k35 (W : Nat → Prop) (Q : Post) (QP : PPost) (s : St) (h : AH) : Prop := F9.t35 s h (F9.k32 W Q QP) (F9.k34 W Q QP)
theorem F9.k35_a (C0 C1 : KT) : aw Try.prog 90 W F9.pl (Code.at F9.code [1, 0, 0]) (thenQ (C1) (thenQ (C0) (Q))) QP s h = F9.t35 s h C0 C1 := by kernel_rfl
theorem F9.k35_ok : aw Try.prog 90 W F9.pl (Code.at F9.code [1, 0]) (thenQ (F9.k32 W Q QP) (Q)) QP s h = F9.k35 W Q QP s h := nd_seq (a := (Code.at F9.code [1, 0, 0])) (b := (Code.at F9.code [1, 0, 1])) (by kernel_rfl) (F9.k34_ok W Q QP) (F9.k35_a W Q QP s h (F9.k32 W Q QP) (F9.k34 W Q QP))
theorem F9.o13 : aw Try.prog 90 W F9.pl (Code.at F9.code [1]) (Q) QP s h = F9.k35 W Q QP s h := nd_seq (a := (Code.at F9.code [1, 0])) (b := (Code.at F9.code [1, 1])) (by kernel_rfl) (F9.o12 W Q QP) (F9.k35_ok W Q QP s h)
def F9.t36 (s : St) (h : AH) (C0 : KT) : Prop :=
  C0 ⟨puts s.tm [(6, (.sc (.bool false)))], s.ds⟩ h
def F9.k36 (W : Nat → Prop) (Q : Post) (QP : PPost) (s : St) (h : AH) : Prop := F9.t36 s h (F9.k35 W Q QP)
theorem F9.k36_a (C0 : KT) : aw Try.prog 90 W F9.pl (Code.at F9.code [0]) (thenQ (C0) (Q)) QP s h = F9.t36 s h C0 := by kernel_rfl
theorem F9.k36_ok : aw Try.prog 90 W F9.pl (Code.at F9.code []) (Q) QP s h = F9.k36 W Q QP s h := nd_seq (a := (Code.at F9.code [0])) (b := (Code.at F9.code [1])) (by kernel_rfl) (F9.o13 W Q QP) (F9.k36_a W Q QP s h (F9.k35 W Q QP))
end
theorem F9.calls {x0 x1 x2 : AV} {h : AH} {M : Nat → Prop} {R : AE → AH → Prop} (hp : F9.k36 (fun id => M id ∨ h.next ≤ id) (bodyQ Try.prog [.tmp 6] R) (bodyP R) (s0 [x0, x1, x2]) h) : ACalls Try.prog 9 [x0, x1, x2] h M R :=
  acalls_of Try.mixed Try.func9 rfl (Nat.le_of_ble_eq_true rfl) F9.ok (by rw [show Try.f9.ntmps = 90 from rfl, show Try.f9.results.toList = [.tmp 6] from rfl]; exact Eq.mpr (F9.k36_ok _ _ _ _ _) hp)
attribute [simp] F9.k1 F9.t1 F9.k2 F9.t2 F9.k3 F9.t3 F9.k4 F9.t4 F9.k5 F9.t5 F9.k6 F9.t6 F9.k7 F9.t7 F9.k8 F9.t8 F9.k9 F9.t9 F9.k10 F9.k11 F9.t11 F9.k12 F9.t12 F9.k13 F9.t13 F9.k14 F9.t14 F9.k15 F9.t15 F9.k16 F9.t16 F9.k17 F9.t17 F9.k18 F9.t18 F9.k19 F9.t19 F9.k20 F9.t20 F9.k21 F9.t21 F9.k22 F9.t22 F9.k23 F9.t23 F9.k24 F9.t24 F9.k25 F9.t25 F9.k26 F9.t26 F9.k27 F9.t27 F9.k28 F9.t28 F9.k29 F9.t29 F9.k30 F9.t30 F9.k31 F9.k32 F9.t32 F9.k33 F9.t33 F9.k34 F9.t34 F9.k35 F9.t35 F9.k36 F9.t36
end Go.Proofs.Ythkkgbmjjpcfaaa

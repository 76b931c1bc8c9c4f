/- Bodies of the small functions of the scanners, written out for the table; printed by a program of this session. No condition. -/
import Derived.Test.YthkkgbmjjpcfaaaProg
import Derived.Test.YthkkgbmjjpcfaaaAb2
namespace Go.Proofs.Ythkkgbmjjpcfaaa
open Go.Ab
theorem Try.mixed : Try.prog.follows .mixedOrders = true := by kernel_rfl

/-! cubit/lex.run -/
section
variable (W : Nat → Prop) (Q : Post) (QP : PPost) (s : St) (h : AH)
noncomputable def F15.code : Code := Try.f15.body.getD .skip
def F15.g1 : Grps := [(none, [(0, false), (1, false), (2, false), (3, false), (4, false)]), (some (4, true), [(5, false), (6, false), (7, false), (8, false), (9, false)]), (none, [(10, false)])]
def F15.pl : Plans := [(1, ⟨F15.g1, false, []⟩)]
theorem F15.ok : okCode F15.pl F15.code = true := by kernel_rfl
def F15.t1 (Q : Post) (s : St) (h : AH) : Prop :=
  Q .ret ⟨puts s.tm [(20, (s.tm 1)), (6, (s.tm 1))], s.ds⟩ h
def F15.k1 (W : Nat → Prop) (Q : Post) (QP : PPost) (s : St) (h : AH) : Prop := F15.t1 Q s h
theorem F15.k1_a : aw Try.prog 21 W F15.pl (Code.at F15.code [1, 1, 0]) (thenQ (aw Try.prog 21 W F15.pl (Code.at F15.code [1, 1, 1]) (Q) QP) (Q)) QP s h = F15.t1 Q s h := by kernel_rfl
theorem F15.k1_ok : aw Try.prog 21 W F15.pl (Code.at F15.code [1, 1]) (Q) QP s h = F15.k1 W Q QP s h := nd_seq (a := (Code.at F15.code [1, 1, 0])) (b := (Code.at F15.code [1, 1, 1])) (by kernel_rfl) (fun _ _ => rfl) (F15.k1_a W Q QP s h)
def F15.t2 (Q : Post) (s : St) (h : AH) : Prop :=
  pBin Try.prog .add 3 true (s.tm 1) (.sc (.int .i64 1)) fun t1 =>
  Q .normal ⟨puts s.tm [(18, (s.tm 1)), (19, t1), (1, t1)], s.ds⟩ h
def F15.k2 (W : Nat → Prop) (Q : Post) (QP : PPost) (s : St) (h : AH) : Prop := F15.t2 Q s h
theorem F15.k2_a : aw Try.prog 21 W F15.pl (Code.at F15.code [1, 0, 0, 0, 1, 0]) (blockQ 1 (Q)) QP s h = F15.t2 Q s h := by kernel_rfl
theorem F15.k2_ok : aw Try.prog 21 W F15.pl (Code.at F15.code [1, 0, 0, 0, 1, 0]) (blockQ 1 (Q)) QP s h = F15.k2 W Q QP s h := (F15.k2_a W Q QP s h)
theorem F15.o1 : aw Try.prog 21 W F15.pl (Code.at F15.code [1, 0, 0, 0, 1]) (Q) QP s h = F15.k2 W Q QP s h := nd_block (a := (Code.at F15.code [1, 0, 0, 0, 1, 0])) (by kernel_rfl) (F15.k2_ok W Q QP s h)
def F15.t3 (Q : Post) (s : St) (h : AH) (C0 : KT) : Prop :=
  aIf (s.tm 17) (
  C0 s h) (
  Q (.exit 0) s h)
def F15.k3 (W : Nat → Prop) (Q : Post) (QP : PPost) (s : St) (h : AH) : Prop := F15.t3 Q s h (F15.k2 W Q QP)
theorem F15.k3_a (C0 : KT) : aIf (aev s (.tmp 17)) (aw Try.prog 21 W F15.pl (Code.at F15.code [1, 0, 0, 0, 0, 1, 0]) (thenQ (C0) (Q)) QP s h) (aw Try.prog 21 W F15.pl (Code.at F15.code [1, 0, 0, 0, 0, 1, 1]) (thenQ (C0) (Q)) QP s h) = F15.t3 Q s h C0 := by kernel_rfl
theorem F15.k3_ok : aw Try.prog 21 W F15.pl (Code.at F15.code [1, 0, 0, 0, 0, 1]) (thenQ (F15.k2 W Q QP) (Q)) QP s h = F15.k3 W Q QP s h := nd_cond (a := (Code.at F15.code [1, 0, 0, 0, 0, 1, 0])) (b := (Code.at F15.code [1, 0, 0, 0, 0, 1, 1])) (by kernel_rfl) rfl rfl (F15.k3_a W Q QP s h (F15.k2 W Q QP))
def F15.t4 (s : St) (h : AH) (C0 C1 : KT) : Prop :=
  pPick (s.tm 11) (s.tm 16) (.sc (.bool false)) fun t2 =>
  C1 ⟨puts s.tm [(17, t2)], s.ds⟩ h
def F15.k4 (W : Nat → Prop) (Q : Post) (QP : PPost) (s : St) (h : AH) : Prop := F15.t4 s h (F15.k2 W Q QP) (F15.k3 W Q QP)
theorem F15.k4_a (C0 C1 : KT) : evI Try.prog 21 (fun _ => W) nobody QP (regOps (Code.at F15.code [1, 0, 0, 0, 0, 0])) (isAt F15.g1 2) ((thenQ (C1) (thenQ (C0) (Q))) .normal) s h = F15.t4 s h C0 C1 := by kernel_rfl
theorem F15.k4_ok : evG Try.prog 21 (fun _ => W) nobody QP (regOps (Code.at F15.code [1, 0, 0, 0, 0, 0])) (F15.g1.drop 2) ((thenQ (F15.k3 W Q QP) (thenQ (F15.k2 W Q QP) (Q))) .normal) s h = F15.k4 W Q QP s h := nd_g (is := isAt F15.g1 2) (rest := F15.g1.drop 3) (by kernel_rfl) (fun _ _ => rfl) (F15.k4_a W Q QP s h (F15.k2 W Q QP) (F15.k3 W Q QP))
def F15.t5 (W : Nat → Prop) (QP : PPost) (s : St) (h : AH) (C0 : KT) : Prop :=
  aIg true (s.tm 11) (
  pIxS true (s.tm 0) (s.tm 1) fun t3 =>
  aGo Try.prog W (s.tm 2) [t3] h (fun t4 h5 =>
  C0 ⟨puts s.tm [(12, (s.tm 2)), (13, (s.tm 0)), (14, (s.tm 1)), (15, t3), (16, t4)], s.ds⟩ h5) (QP s.ds)) (
  C0 ⟨puts s.tm [(12, noA), (13, noA), (14, noA), (15, noA), (16, noA)], s.ds⟩ h)
def F15.k5 (W : Nat → Prop) (Q : Post) (QP : PPost) (s : St) (h : AH) : Prop := F15.t5 W QP s h (F15.k4 W Q QP)
theorem F15.k5_a (C0 : KT) : aIg true (s.tm 11) (evI Try.prog 21 (fun _ => W) nobody QP (regOps (Code.at F15.code [1, 0, 0, 0, 0, 0])) (isAt F15.g1 1) (C0) s h) ((C0) (skI 21 (regOps (Code.at F15.code [1, 0, 0, 0, 0, 0])) (isAt F15.g1 1) s) h) = F15.t5 W QP s h C0 := by kernel_rfl
theorem F15.k5_ok : evG Try.prog 21 (fun _ => W) nobody QP (regOps (Code.at F15.code [1, 0, 0, 0, 0, 0])) (F15.g1.drop 1) ((thenQ (F15.k3 W Q QP) (thenQ (F15.k2 W Q QP) (Q))) .normal) s h = F15.k5 W Q QP s h := nd_gw (j := 4) (is := isAt F15.g1 1) (rest := F15.g1.drop 2) (by kernel_rfl) (d := 11) (by kernel_rfl) (F15.k4_ok W Q QP) (F15.k5_a W QP s h (F15.k4 W Q QP))
def F15.t6 (s : St) (h : AH) (C0 : KT) : Prop :=
  (strArg (s.tm 0) = true) ∧ pLen (s.tm 0) fun t6 =>
  pBin Try.prog .lss 3 false (s.tm 1) t6 fun t7 =>
  C0 ⟨puts s.tm [(7, (s.tm 1)), (8, (s.tm 0)), (9, t6), (10, t7), (11, t7)], s.ds⟩ h
def F15.k6 (W : Nat → Prop) (Q : Post) (QP : PPost) (s : St) (h : AH) : Prop := F15.t6 s h (F15.k5 W Q QP)
theorem F15.k6_a (C0 : KT) : evI Try.prog 21 (fun _ => W) nobody QP (regOps (Code.at F15.code [1, 0, 0, 0, 0, 0])) (isAt F15.g1 0) (C0) s h = F15.t6 s h C0 := by kernel_rfl
theorem F15.k6_ok : evG Try.prog 21 (fun _ => W) nobody QP (regOps (Code.at F15.code [1, 0, 0, 0, 0, 0])) (F15.g1.drop 0) ((thenQ (F15.k3 W Q QP) (thenQ (F15.k2 W Q QP) (Q))) .normal) s h = F15.k6 W Q QP s h := nd_g (is := isAt F15.g1 0) (rest := F15.g1.drop 1) (by kernel_rfl) (F15.k5_ok W Q QP) (F15.k6_a W QP s h (F15.k5 W Q QP))
theorem F15.o2 : aw Try.prog 21 W F15.pl (Code.at F15.code [1, 0, 0, 0, 0, 0]) (thenQ (F15.k3 W Q QP) (thenQ (F15.k2 W Q QP) (Q))) QP s h = F15.k6 W Q QP s h := nd_groups (id := 1) (draw := false) (ops := (regOps (Code.at F15.code [1, 0, 0, 0, 0, 0]))) (gs := F15.g1.drop 0) (by kernel_rfl) (by kernel_rfl) (F15.k6_ok W Q QP s h)
theorem F15.o3 : aw Try.prog 21 W F15.pl (Code.at F15.code [1, 0, 0, 0, 0]) (thenQ (F15.k2 W Q QP) (Q)) QP s h = F15.k6 W Q QP s h := nd_seq (a := (Code.at F15.code [1, 0, 0, 0, 0, 0])) (b := (Code.at F15.code [1, 0, 0, 0, 0, 1])) (by kernel_rfl) (F15.k3_ok W Q QP) (F15.o2 W Q QP s h)
theorem F15.o4 : aw Try.prog 21 W F15.pl (Code.at F15.code [1, 0, 0, 0]) (Q) QP s h = F15.k6 W Q QP s h := nd_seq (a := (Code.at F15.code [1, 0, 0, 0, 0])) (b := (Code.at F15.code [1, 0, 0, 0, 1])) (by kernel_rfl) (F15.o1 W Q QP) (F15.o3 W Q QP s h)
noncomputable def F15.c1 : Code := (Code.at F15.code [1, 0, 0, 0])
theorem F15.l1 : aw Try.prog 21 W F15.pl F15.c1 Q QP s h = F15.k6 W Q QP s h := F15.o4 W Q QP s h
def F15.k7 (W : Nat → Prop) (Q : Post) (QP : PPost) (s : St) (h : AH) : Prop := aLoop (aw Try.prog 21 W F15.pl F15.c1) (blockQ 0 (thenQ (F15.k1 W Q QP) (Q))) QP s h
theorem F15.k7_ok : aw Try.prog 21 W F15.pl (Code.at F15.code [1, 0, 0]) (blockQ 0 (thenQ (F15.k1 W Q QP) (Q))) QP s h = F15.k7 W Q QP s h := nd_loop (a := F15.c1) (by kernel_rfl)
theorem F15.o5 : aw Try.prog 21 W F15.pl (Code.at F15.code [1, 0]) (thenQ (F15.k1 W Q QP) (Q)) QP s h = F15.k7 W Q QP s h := nd_block (a := (Code.at F15.code [1, 0, 0])) (by kernel_rfl) (F15.k7_ok W Q QP s h)
theorem F15.o6 : aw Try.prog 21 W F15.pl (Code.at F15.code [1]) (Q) QP s h = F15.k7 W Q QP s h := nd_seq (a := (Code.at F15.code [1, 0])) (b := (Code.at F15.code [1, 1])) (by kernel_rfl) (F15.k1_ok W Q QP) (F15.o5 W Q QP s h)
def F15.t8 (s : St) (h : AH) (C0 : KT) : Prop :=
  C0 ⟨puts s.tm [(6, (.sc (.int .i64 0)))], s.ds⟩ h
def F15.k8 (W : Nat → Prop) (Q : Post) (QP : PPost) (s : St) (h : AH) : Prop := F15.t8 s h (F15.k7 W Q QP)
theorem F15.k8_a (C0 : KT) : aw Try.prog 21 W F15.pl (Code.at F15.code [0]) (thenQ (C0) (Q)) QP s h = F15.t8 s h C0 := by kernel_rfl
theorem F15.k8_ok : aw Try.prog 21 W F15.pl (Code.at F15.code []) (Q) QP s h = F15.k8 W Q QP s h := nd_seq (a := (Code.at F15.code [0])) (b := (Code.at F15.code [1])) (by kernel_rfl) (F15.o6 W Q QP) (F15.k8_a W Q QP s h (F15.k7 W Q QP))
end
theorem F15.calls {x0 x1 x2 : AV} {h : AH} {M : Nat → Prop} {R : AE → AH → Prop} (hp : F15.k8 (fun id => M id ∨ h.next ≤ id) (bodyQ Try.prog [.tmp 6] R) (bodyP R) (s0 [x0, x1, x2]) h) : ACalls Try.prog 15 [x0, x1, x2] h M R :=
  acalls_of Try.mixed Try.func15 rfl (Nat.le_of_ble_eq_true rfl) F15.ok (by rw [show Try.f15.ntmps = 21 from rfl, show Try.f15.results.toList = [.tmp 6] from rfl]; exact Eq.mpr (F15.k8_ok _ _ _ _ _) hp)
attribute [simp] F15.k1 F15.t1 F15.k2 F15.t2 F15.k3 F15.t3 F15.k4 F15.t4 F15.k5 F15.t5 F15.k6 F15.t6 F15.k7 F15.k8 F15.t8

/-! cubit/lex.Scan$1 -/
section
variable (W : Nat → Prop) (Q : Post) (QP : PPost) (s : St) (h : AH)
noncomputable def F16.code : Code := Try.f16.body.getD .skip
def F16.pl : Plans := []
theorem F16.ok : okCode F16.pl F16.code = true := by kernel_rfl
def F16.t1 (Q : Post) (s : St) (h : AH) : Prop :=
  pBin Try.prog .neq 5 true (s.tm 0) (.sc (.int .u8 10)) fun t1 =>
  Q .ret ⟨puts s.tm [(3, (s.tm 0)), (4, t1), (2, t1)], s.ds⟩ h
def F16.k1 (W : Nat → Prop) (Q : Post) (QP : PPost) (s : St) (h : AH) : Prop := F16.t1 Q s h
theorem F16.k1_a : aw Try.prog 5 W F16.pl (Code.at F16.code [1, 0]) (thenQ (aw Try.prog 5 W F16.pl (Code.at F16.code [1, 1]) (Q) QP) (Q)) QP s h = F16.t1 Q s h := by kernel_rfl
theorem F16.k1_ok : aw Try.prog 5 W F16.pl (Code.at F16.code [1]) (Q) QP s h = F16.k1 W Q QP s h := nd_seq (a := (Code.at F16.code [1, 0])) (b := (Code.at F16.code [1, 1])) (by kernel_rfl) (fun _ _ => rfl) (F16.k1_a W Q QP s h)
def F16.t2 (s : St) (h : AH) (C0 : KT) : Prop :=
  C0 ⟨puts s.tm [(2, (.sc (.bool false)))], s.ds⟩ h
def F16.k2 (W : Nat → Prop) (Q : Post) (QP : PPost) (s : St) (h : AH) : Prop := F16.t2 s h (F16.k1 W Q QP)
theorem F16.k2_a (C0 : KT) : aw Try.prog 5 W F16.pl (Code.at F16.code [0]) (thenQ (C0) (Q)) QP s h = F16.t2 s h C0 := by kernel_rfl
theorem F16.k2_ok : aw Try.prog 5 W F16.pl (Code.at F16.code []) (Q) QP s h = F16.k2 W Q QP s h := nd_seq (a := (Code.at F16.code [0])) (b := (Code.at F16.code [1])) (by kernel_rfl) (F16.k1_ok W Q QP) (F16.k2_a W Q QP s h (F16.k1 W Q QP))
end
theorem F16.calls {x0 : AV} {h : AH} {M : Nat → Prop} {R : AE → AH → Prop} (hp : F16.k2 (fun id => M id ∨ h.next ≤ id) (bodyQ Try.prog [.tmp 2] R) (bodyP R) (s0 [x0]) h) : ACalls Try.prog 16 [x0] h M R :=
  acalls_of Try.mixed Try.func16 rfl (Nat.le_of_ble_eq_true rfl) F16.ok (by rw [show Try.f16.ntmps = 5 from rfl, show Try.f16.results.toList = [.tmp 2] from rfl]; exact Eq.mpr (F16.k2_ok _ _ _ _ _) hp)
attribute [simp] F16.k1 F16.t1 F16.k2 F16.t2

/-! cubit/lex.letter -/
section
variable (W : Nat → Prop) (Q : Post) (QP : PPost) (s : St) (h : AH)
noncomputable def F17.code : Code := Try.f17.body.getD .skip
def F17.g1 : Grps := [(none, [(0, false), (1, false), (2, false)]), (some (2, true), [(3, false), (4, false)]), (none, [(5, false), (6, false)]), (some (6, false), [(7, false), (8, false), (9, false)]), (some (9, true), [(10, false), (11, false)]), (some (6, false), [(12, false)]), (none, [(13, false), (14, false)]), (some (14, false), [(15, false), (16, false)]), (none, [(17, false), (18, false)])]
def F17.pl : Plans := [(1, ⟨F17.g1, false, []⟩)]
theorem F17.ok : okCode F17.pl F17.code = true := by kernel_rfl
def F17.t1 (Q : Post) (s : St) (h : AH) : Prop :=
  Q .ret s h
def F17.k1 (W : Nat → Prop) (Q : Post) (QP : PPost) (s : St) (h : AH) : Prop := F17.t1 Q s h
theorem F17.k1_a : aw Try.prog 21 W F17.pl (Code.at F17.code [1, 1]) (Q) QP s h = F17.t1 Q s h := by kernel_rfl
theorem F17.k1_ok : aw Try.prog 21 W F17.pl (Code.at F17.code [1, 1]) (Q) QP s h = F17.k1 W Q QP s h := (F17.k1_a W Q QP s h)
def F17.t2 (s : St) (h : AH) (C0 : KT) : Prop :=
  pPick (s.tm 17) (.sc (.bool true)) (s.tm 19) fun t1 =>
  C0 ⟨puts s.tm [(20, t1), (2, t1)], s.ds⟩ h
def F17.k2 (W : Nat → Prop) (Q : Post) (QP : PPost) (s : St) (h : AH) : Prop := F17.t2 s h (F17.k1 W Q QP)
theorem F17.k2_a (C0 : KT) : evI Try.prog 21 (fun _ => W) nobody QP (regOps (Code.at F17.code [1, 0])) (isAt F17.g1 8) ((thenQ (C0) (Q)) .normal) s h = F17.t2 s h C0 := by kernel_rfl
theorem F17.k2_ok : evG Try.prog 21 (fun _ => W) nobody QP (regOps (Code.at F17.code [1, 0])) (F17.g1.drop 8) ((thenQ (F17.k1 W Q QP) (Q)) .normal) s h = F17.k2 W Q QP s h := nd_g (is := isAt F17.g1 8) (rest := F17.g1.drop 9) (by kernel_rfl) (fun _ _ => rfl) (F17.k2_a W Q QP s h (F17.k1 W Q QP))
def F17.t3 (s : St) (h : AH) (C0 : KT) : Prop :=
  aIg false (s.tm 17) (
  pBin Try.prog .eql 5 true (s.tm 0) (.sc (.int .u8 95)) fun t2 =>
  C0 ⟨puts s.tm [(18, (s.tm 0)), (19, t2)], s.ds⟩ h) (
  C0 ⟨puts s.tm [(18, noA), (19, noA)], s.ds⟩ h)
def F17.k3 (W : Nat → Prop) (Q : Post) (QP : PPost) (s : St) (h : AH) : Prop := F17.t3 s h (F17.k2 W Q QP)
theorem F17.k3_a (C0 : KT) : aIg false (s.tm 17) (evI Try.prog 21 (fun _ => W) nobody QP (regOps (Code.at F17.code [1, 0])) (isAt F17.g1 7) (C0) s h) ((C0) (skI 21 (regOps (Code.at F17.code [1, 0])) (isAt F17.g1 7) s) h) = F17.t3 s h C0 := by kernel_rfl
theorem F17.k3_ok : evG Try.prog 21 (fun _ => W) nobody QP (regOps (Code.at F17.code [1, 0])) (F17.g1.drop 7) ((thenQ (F17.k1 W Q QP) (Q)) .normal) s h = F17.k3 W Q QP s h := nd_gw (j := 14) (is := isAt F17.g1 7) (rest := F17.g1.drop 8) (by kernel_rfl) (d := 17) (by kernel_rfl) (F17.k2_ok W Q QP) (F17.k3_a W QP s h (F17.k2 W Q QP))
def F17.t4 (s : St) (h : AH) (C0 : KT) : Prop :=
  pPick (s.tm 9) (.sc (.bool true)) (s.tm 15) fun t3 =>
  C0 ⟨puts s.tm [(16, t3), (17, t3)], s.ds⟩ h
def F17.k4 (W : Nat → Prop) (Q : Post) (QP : PPost) (s : St) (h : AH) : Prop := F17.t4 s h (F17.k3 W Q QP)
theorem F17.k4_a (C0 : KT) : evI Try.prog 21 (fun _ => W) nobody QP (regOps (Code.at F17.code [1, 0])) (isAt F17.g1 6) (C0) s h = F17.t4 s h C0 := by kernel_rfl
theorem F17.k4_ok : evG Try.prog 21 (fun _ => W) nobody QP (regOps (Code.at F17.code [1, 0])) (F17.g1.drop 6) ((thenQ (F17.k1 W Q QP) (Q)) .normal) s h = F17.k4 W Q QP s h := nd_g (is := isAt F17.g1 6) (rest := F17.g1.drop 7) (by kernel_rfl) (F17.k3_ok W Q QP) (F17.k4_a W QP s h (F17.k3 W Q QP))
def F17.t5 (s : St) (h : AH) (C0 : KT) : Prop :=
  aIg false (s.tm 9) (
  pPick (s.tm 12) (s.tm 14) (.sc (.bool false)) fun t4 =>
  C0 ⟨puts s.tm [(15, t4)], s.ds⟩ h) (
  C0 ⟨puts s.tm [(15, noA)], s.ds⟩ h)
def F17.k5 (W : Nat → Prop) (Q : Post) (QP : PPost) (s : St) (h : AH) : Prop := F17.t5 s h (F17.k4 W Q QP)
theorem F17.k5_a (C0 : KT) : aIg false (s.tm 9) (evI Try.prog 21 (fun _ => W) nobody QP (regOps (Code.at F17.code [1, 0])) (isAt F17.g1 5) (C0) s h) ((C0) (skI 21 (regOps (Code.at F17.code [1, 0])) (isAt F17.g1 5) s) h) = F17.t5 s h C0 := by kernel_rfl
theorem F17.k5_ok : evG Try.prog 21 (fun _ => W) nobody QP (regOps (Code.at F17.code [1, 0])) (F17.g1.drop 5) ((thenQ (F17.k1 W Q QP) (Q)) .normal) s h = F17.k5 W Q QP s h := nd_gw (j := 6) (is := isAt F17.g1 5) (rest := F17.g1.drop 6) (by kernel_rfl) (d := 9) (by kernel_rfl) (F17.k4_ok W Q QP) (F17.k5_a W QP s h (F17.k4 W Q QP))
def F17.t6 (s : St) (h : AH) (C0 : KT) : Prop :=
  aIg true (s.tm 12) (
  pBin Try.prog .leq 5 true (s.tm 0) (.sc (.int .u8 90)) fun t5 =>
  C0 ⟨puts s.tm [(13, (s.tm 0)), (14, t5)], s.ds⟩ h) (
  C0 ⟨puts s.tm [(13, noA), (14, noA)], s.ds⟩ h)
def F17.k6 (W : Nat → Prop) (Q : Post) (QP : PPost) (s : St) (h : AH) : Prop := F17.t6 s h (F17.k5 W Q QP)
theorem F17.k6_a (C0 : KT) : aIg true (s.tm 12) (evI Try.prog 21 (fun _ => W) nobody QP (regOps (Code.at F17.code [1, 0])) (isAt F17.g1 4) (C0) s h) ((C0) (skI 21 (regOps (Code.at F17.code [1, 0])) (isAt F17.g1 4) s) h) = F17.t6 s h C0 := by kernel_rfl
theorem F17.k6_ok : evG Try.prog 21 (fun _ => W) nobody QP (regOps (Code.at F17.code [1, 0])) (F17.g1.drop 4) ((thenQ (F17.k1 W Q QP) (Q)) .normal) s h = F17.k6 W Q QP s h := nd_gw (j := 9) (is := isAt F17.g1 4) (rest := F17.g1.drop 5) (by kernel_rfl) (d := 12) (by kernel_rfl) (F17.k5_ok W Q QP) (F17.k6_a W QP s h (F17.k5 W Q QP))
def F17.t7 (s : St) (h : AH) (C0 : KT) : Prop :=
  aIg false (s.tm 9) (
  pBin Try.prog .geq 5 true (s.tm 0) (.sc (.int .u8 65)) fun t6 =>
  C0 ⟨puts s.tm [(10, (s.tm 0)), (11, t6), (12, t6)], s.ds⟩ h) (
  C0 ⟨puts s.tm [(10, noA), (11, noA), (12, noA)], s.ds⟩ h)
def F17.k7 (W : Nat → Prop) (Q : Post) (QP : PPost) (s : St) (h : AH) : Prop := F17.t7 s h (F17.k6 W Q QP)
theorem F17.k7_a (C0 : KT) : aIg false (s.tm 9) (evI Try.prog 21 (fun _ => W) nobody QP (regOps (Code.at F17.code [1, 0])) (isAt F17.g1 3) (C0) s h) ((C0) (skI 21 (regOps (Code.at F17.code [1, 0])) (isAt F17.g1 3) s) h) = F17.t7 s h C0 := by kernel_rfl
theorem F17.k7_ok : evG Try.prog 21 (fun _ => W) nobody QP (regOps (Code.at F17.code [1, 0])) (F17.g1.drop 3) ((thenQ (F17.k1 W Q QP) (Q)) .normal) s h = F17.k7 W Q QP s h := nd_gw (j := 6) (is := isAt F17.g1 3) (rest := F17.g1.drop 4) (by kernel_rfl) (d := 9) (by kernel_rfl) (F17.k6_ok W Q QP) (F17.k7_a W QP s h (F17.k6 W Q QP))
def F17.t8 (s : St) (h : AH) (C0 : KT) : Prop :=
  pPick (s.tm 5) (s.tm 7) (.sc (.bool false)) fun t7 =>
  C0 ⟨puts s.tm [(8, t7), (9, t7)], s.ds⟩ h
def F17.k8 (W : Nat → Prop) (Q : Post) (QP : PPost) (s : St) (h : AH) : Prop := F17.t8 s h (F17.k7 W Q QP)
theorem F17.k8_a (C0 : KT) : evI Try.prog 21 (fun _ => W) nobody QP (regOps (Code.at F17.code [1, 0])) (isAt F17.g1 2) (C0) s h = F17.t8 s h C0 := by kernel_rfl
theorem F17.k8_ok : evG Try.prog 21 (fun _ => W) nobody QP (regOps (Code.at F17.code [1, 0])) (F17.g1.drop 2) ((thenQ (F17.k1 W Q QP) (Q)) .normal) s h = F17.k8 W Q QP s h := nd_g (is := isAt F17.g1 2) (rest := F17.g1.drop 3) (by kernel_rfl) (F17.k7_ok W Q QP) (F17.k8_a W QP s h (F17.k7 W Q QP))
def F17.t9 (s : St) (h : AH) (C0 : KT) : Prop :=
  aIg true (s.tm 5) (
  pBin Try.prog .leq 5 true (s.tm 0) (.sc (.int .u8 122)) fun t8 =>
  C0 ⟨puts s.tm [(6, (s.tm 0)), (7, t8)], s.ds⟩ h) (
  C0 ⟨puts s.tm [(6, noA), (7, noA)], s.ds⟩ h)
def F17.k9 (W : Nat → Prop) (Q : Post) (QP : PPost) (s : St) (h : AH) : Prop := F17.t9 s h (F17.k8 W Q QP)
theorem F17.k9_a (C0 : KT) : aIg true (s.tm 5) (evI Try.prog 21 (fun _ => W) nobody QP (regOps (Code.at F17.code [1, 0])) (isAt F17.g1 1) (C0) s h) ((C0) (skI 21 (regOps (Code.at F17.code [1, 0])) (isAt F17.g1 1) s) h) = F17.t9 s h C0 := by kernel_rfl
theorem F17.k9_ok : evG Try.prog 21 (fun _ => W) nobody QP (regOps (Code.at F17.code [1, 0])) (F17.g1.drop 1) ((thenQ (F17.k1 W Q QP) (Q)) .normal) s h = F17.k9 W Q QP s h := nd_gw (j := 2) (is := isAt F17.g1 1) (rest := F17.g1.drop 2) (by kernel_rfl) (d := 5) (by kernel_rfl) (F17.k8_ok W Q QP) (F17.k9_a W QP s h (F17.k8 W Q QP))
def F17.t10 (s : St) (h : AH) (C0 : KT) : Prop :=
  pBin Try.prog .geq 5 true (s.tm 0) (.sc (.int .u8 97)) fun t9 =>
  C0 ⟨puts s.tm [(3, (s.tm 0)), (4, t9), (5, t9)], s.ds⟩ h
def F17.k10 (W : Nat → Prop) (Q : Post) (QP : PPost) (s : St) (h : AH) : Prop := F17.t10 s h (F17.k9 W Q QP)
theorem F17.k10_a (C0 : KT) : evI Try.prog 21 (fun _ => W) nobody QP (regOps (Code.at F17.code [1, 0])) (isAt F17.g1 0) (C0) s h = F17.t10 s h C0 := by kernel_rfl
theorem F17.k10_ok : evG Try.prog 21 (fun _ => W) nobody QP (regOps (Code.at F17.code [1, 0])) (F17.g1.drop 0) ((thenQ (F17.k1 W Q QP) (Q)) .normal) s h = F17.k10 W Q QP s h := nd_g (is := isAt F17.g1 0) (rest := F17.g1.drop 1) (by kernel_rfl) (F17.k9_ok W Q QP) (F17.k10_a W QP s h (F17.k9 W Q QP))
theorem F17.o1 : aw Try.prog 21 W F17.pl (Code.at F17.code [1, 0]) (thenQ (F17.k1 W Q QP) (Q)) QP s h = F17.k10 W Q QP s h := nd_groups (id := 1) (draw := false) (ops := (regOps (Code.at F17.code [1, 0]))) (gs := F17.g1.drop 0) (by kernel_rfl) (by kernel_rfl) (F17.k10_ok W Q QP s h)
theorem F17.o2 : aw Try.prog 21 W F17.pl (Code.at F17.code [1]) (Q) QP s h = F17.k10 W Q QP s h := nd_seq (a := (Code.at F17.code [1, 0])) (b := (Code.at F17.code [1, 1])) (by kernel_rfl) (F17.k1_ok W Q QP) (F17.o1 W Q QP s h)
def F17.t11 (s : St) (h : AH) (C0 : KT) : Prop :=
  C0 ⟨puts s.tm [(2, (.sc (.bool false)))], s.ds⟩ h
def F17.k11 (W : Nat → Prop) (Q : Post) (QP : PPost) (s : St) (h : AH) : Prop := F17.t11 s h (F17.k10 W Q QP)
theorem F17.k11_a (C0 : KT) : aw Try.prog 21 W F17.pl (Code.at F17.code [0]) (thenQ (C0) (Q)) QP s h = F17.t11 s h C0 := by kernel_rfl
theorem F17.k11_ok : aw Try.prog 21 W F17.pl (Code.at F17.code []) (Q) QP s h = F17.k11 W Q QP s h := nd_seq (a := (Code.at F17.code [0])) (b := (Code.at F17.code [1])) (by kernel_rfl) (F17.o2 W Q QP) (F17.k11_a W Q QP s h (F17.k10 W Q QP))
end
theorem F17.calls {x0 : AV} {h : AH} {M : Nat → Prop} {R : AE → AH → Prop} (hp : F17.k11 (fun id => M id ∨ h.next ≤ id) (bodyQ Try.prog [.tmp 2] R) (bodyP R) (s0 [x0]) h) : ACalls Try.prog 17 [x0] h M R :=
  acalls_of Try.mixed Try.func17 rfl (Nat.le_of_ble_eq_true rfl) F17.ok (by rw [show Try.f17.ntmps = 21 from rfl, show Try.f17.results.toList = [.tmp 2] from rfl]; exact Eq.mpr (F17.k11_ok _ _ _ _ _) hp)
attribute [simp] F17.k1 F17.t1 F17.k2 F17.t2 F17.k3 F17.t3 F17.k4 F17.t4 F17.k5 F17.t5 F17.k6 F17.t6 F17.k7 F17.t7 F17.k8 F17.t8 F17.k9 F17.t9 F17.k10 F17.t10 F17.k11 F17.t11

/-! cubit/lex.inName -/
section
variable (W : Nat → Prop) (Q : Post) (QP : PPost) (s : St) (h : AH)
noncomputable def F18.code : Code := Try.f18.body.getD .skip
def F18.g1 : Grps := [(none, [(0, false), (1, false), (2, false)]), (some (2, false), [(3, false), (4, false)]), (none, [(5, false), (6, false)])]
def F18.pl : Plans := [(1, ⟨F18.g1, false, []⟩)]
theorem F18.ok : okCode F18.pl F18.code = true := by kernel_rfl
def F18.t1 (Q : Post) (s : St) (h : AH) : Prop :=
  Q .ret s h
def F18.k1 (W : Nat → Prop) (Q : Post) (QP : PPost) (s : St) (h : AH) : Prop := F18.t1 Q s h
theorem F18.k1_a : aw Try.prog 9 W F18.pl (Code.at F18.code [1, 1]) (Q) QP s h = F18.t1 Q s h := by kernel_rfl
theorem F18.k1_ok : aw Try.prog 9 W F18.pl (Code.at F18.code [1, 1]) (Q) QP s h = F18.k1 W Q QP s h := (F18.k1_a W Q QP s h)
def F18.t2 (s : St) (h : AH) (C0 : KT) : Prop :=
  pPick (s.tm 5) (.sc (.bool true)) (s.tm 7) fun t1 =>
  C0 ⟨puts s.tm [(8, t1), (2, t1)], s.ds⟩ h
def F18.k2 (W : Nat → Prop) (Q : Post) (QP : PPost) (s : St) (h : AH) : Prop := F18.t2 s h (F18.k1 W Q QP)
theorem F18.k2_a (C0 : KT) : evI Try.prog 9 (fun _ => W) nobody QP (regOps (Code.at F18.code [1, 0])) (isAt F18.g1 2) ((thenQ (C0) (Q)) .normal) s h = F18.t2 s h C0 := by kernel_rfl
theorem F18.k2_ok : evG Try.prog 9 (fun _ => W) nobody QP (regOps (Code.at F18.code [1, 0])) (F18.g1.drop 2) ((thenQ (F18.k1 W Q QP) (Q)) .normal) s h = F18.k2 W Q QP s h := nd_g (is := isAt F18.g1 2) (rest := F18.g1.drop 3) (by kernel_rfl) (fun _ _ => rfl) (F18.k2_a W Q QP s h (F18.k1 W Q QP))
def F18.t3 (W : Nat → Prop) (QP : PPost) (s : St) (h : AH) (C0 : KT) : Prop :=
  aIg false (s.tm 5) (
  aCall Try.prog W 19 [(s.tm 0)] h (fun t2 h3 =>
  C0 ⟨puts s.tm [(6, (s.tm 0)), (7, t2)], s.ds⟩ h3) (QP s.ds)) (
  C0 ⟨puts s.tm [(6, noA), (7, noA)], s.ds⟩ h)
def F18.k3 (W : Nat → Prop) (Q : Post) (QP : PPost) (s : St) (h : AH) : Prop := F18.t3 W QP s h (F18.k2 W Q QP)
theorem F18.k3_a (C0 : KT) : aIg false (s.tm 5) (evI Try.prog 9 (fun _ => W) nobody QP (regOps (Code.at F18.code [1, 0])) (isAt F18.g1 1) (C0) s h) ((C0) (skI 9 (regOps (Code.at F18.code [1, 0])) (isAt F18.g1 1) s) h) = F18.t3 W QP s h C0 := by kernel_rfl
theorem F18.k3_ok : evG Try.prog 9 (fun _ => W) nobody QP (regOps (Code.at F18.code [1, 0])) (F18.g1.drop 1) ((thenQ (F18.k1 W Q QP) (Q)) .normal) s h = F18.k3 W Q QP s h := nd_gw (j := 2) (is := isAt F18.g1 1) (rest := F18.g1.drop 2) (by kernel_rfl) (d := 5) (by kernel_rfl) (F18.k2_ok W Q QP) (F18.k3_a W QP s h (F18.k2 W Q QP))
def F18.t4 (W : Nat → Prop) (QP : PPost) (s : St) (h : AH) (C0 : KT) : Prop :=
  aCall Try.prog W 17 [(s.tm 0)] h (fun t4 h5 =>
  C0 ⟨puts s.tm [(3, (s.tm 0)), (4, t4), (5, t4)], s.ds⟩ h5) (QP s.ds)
def F18.k4 (W : Nat → Prop) (Q : Post) (QP : PPost) (s : St) (h : AH) : Prop := F18.t4 W QP s h (F18.k3 W Q QP)
theorem F18.k4_a (C0 : KT) : evI Try.prog 9 (fun _ => W) nobody QP (regOps (Code.at F18.code [1, 0])) (isAt F18.g1 0) (C0) s h = F18.t4 W QP s h C0 := by kernel_rfl
theorem F18.k4_ok : evG Try.prog 9 (fun _ => W) nobody QP (regOps (Code.at F18.code [1, 0])) (F18.g1.drop 0) ((thenQ (F18.k1 W Q QP) (Q)) .normal) s h = F18.k4 W Q QP s h := nd_g (is := isAt F18.g1 0) (rest := F18.g1.drop 1) (by kernel_rfl) (F18.k3_ok W Q QP) (F18.k4_a W QP s h (F18.k3 W Q QP))
theorem F18.o1 : aw Try.prog 9 W F18.pl (Code.at F18.code [1, 0]) (thenQ (F18.k1 W Q QP) (Q)) QP s h = F18.k4 W Q QP s h := nd_groups (id := 1) (draw := false) (ops := (regOps (Code.at F18.code [1, 0]))) (gs := F18.g1.drop 0) (by kernel_rfl) (by kernel_rfl) (F18.k4_ok W Q QP s h)
theorem F18.o2 : aw Try.prog 9 W F18.pl (Code.at F18.code [1]) (Q) QP s h = F18.k4 W Q QP s h := nd_seq (a := (Code.at F18.code [1, 0])) (b := (Code.at F18.code [1, 1])) (by kernel_rfl) (F18.k1_ok W Q QP) (F18.o1 W Q QP s h)
def F18.t5 (s : St) (h : AH) (C0 : KT) : Prop :=
  C0 ⟨puts s.tm [(2, (.sc (.bool false)))], s.ds⟩ h
def F18.k5 (W : Nat → Prop) (Q : Post) (QP : PPost) (s : St) (h : AH) : Prop := F18.t5 s h (F18.k4 W Q QP)
theorem F18.k5_a (C0 : KT) : aw Try.prog 9 W F18.pl (Code.at F18.code [0]) (thenQ (C0) (Q)) QP s h = F18.t5 s h C0 := by kernel_rfl
theorem F18.k5_ok : aw Try.prog 9 W F18.pl (Code.at F18.code []) (Q) QP s h = F18.k5 W Q QP s h := nd_seq (a := (Code.at F18.code [0])) (b := (Code.at F18.code [1])) (by kernel_rfl) (F18.o2 W Q QP) (F18.k5_a W Q QP s h (F18.k4 W Q QP))
end
theorem F18.calls {x0 : AV} {h : AH} {M : Nat → Prop} {R : AE → AH → Prop} (hp : F18.k5 (fun id => M id ∨ h.next ≤ id) (bodyQ Try.prog [.tmp 2] R) (bodyP R) (s0 [x0]) h) : ACalls Try.prog 18 [x0] h M R :=
  acalls_of Try.mixed Try.func18 rfl (Nat.le_of_ble_eq_true rfl) F18.ok (by rw [show Try.f18.ntmps = 9 from rfl, show Try.f18.results.toList = [.tmp 2] from rfl]; exact Eq.mpr (F18.k5_ok _ _ _ _ _) hp)
attribute [simp] F18.k1 F18.t1 F18.k2 F18.t2 F18.k3 F18.t3 F18.k4 F18.t4 F18.k5 F18.t5

/-! cubit/lex.digit -/
section
variable (W : Nat → Prop) (Q : Post) (QP : PPost) (s : St) (h : AH)
noncomputable def F19.code : Code := Try.f19.body.getD .skip
def F19.g1 : Grps := [(none, [(0, false), (1, false), (2, false)]), (some (2, true), [(3, false), (4, false)]), (none, [(5, false), (6, false)])]
def F19.pl : Plans := [(1, ⟨F19.g1, false, []⟩)]
theorem F19.ok : okCode F19.pl F19.code = true := by kernel_rfl
def F19.t1 (Q : Post) (s : St) (h : AH) : Prop :=
  Q .ret s h
def F19.k1 (W : Nat → Prop) (Q : Post) (QP : PPost) (s : St) (h : AH) : Prop := F19.t1 Q s h
theorem F19.k1_a : aw Try.prog 9 W F19.pl (Code.at F19.code [1, 1]) (Q) QP s h = F19.t1 Q s h := by kernel_rfl
theorem F19.k1_ok : aw Try.prog 9 W F19.pl (Code.at F19.code [1, 1]) (Q) QP s h = F19.k1 W Q QP s h := (F19.k1_a W Q QP s h)
def F19.t2 (s : St) (h : AH) (C0 : KT) : Prop :=
  pPick (s.tm 5) (s.tm 7) (.sc (.bool false)) fun t1 =>
  C0 ⟨puts s.tm [(8, t1), (2, t1)], s.ds⟩ h
def F19.k2 (W : Nat → Prop) (Q : Post) (QP : PPost) (s : St) (h : AH) : Prop := F19.t2 s h (F19.k1 W Q QP)
theorem F19.k2_a (C0 : KT) : evI Try.prog 9 (fun _ => W) nobody QP (regOps (Code.at F19.code [1, 0])) (isAt F19.g1 2) ((thenQ (C0) (Q)) .normal) s h = F19.t2 s h C0 := by kernel_rfl
theorem F19.k2_ok : evG Try.prog 9 (fun _ => W) nobody QP (regOps (Code.at F19.code [1, 0])) (F19.g1.drop 2) ((thenQ (F19.k1 W Q QP) (Q)) .normal) s h = F19.k2 W Q QP s h := nd_g (is := isAt F19.g1 2) (rest := F19.g1.drop 3) (by kernel_rfl) (fun _ _ => rfl) (F19.k2_a W Q QP s h (F19.k1 W Q QP))
def F19.t3 (s : St) (h : AH) (C0 : KT) : Prop :=
  aIg true (s.tm 5) (
  pBin Try.prog .leq 5 true (s.tm 0) (.sc (.int .u8 57)) fun t2 =>
  C0 ⟨puts s.tm [(6, (s.tm 0)), (7, t2)], s.ds⟩ h) (
  C0 ⟨puts s.tm [(6, noA), (7, noA)], s.ds⟩ h)
def F19.k3 (W : Nat → Prop) (Q : Post) (QP : PPost) (s : St) (h : AH) : Prop := F19.t3 s h (F19.k2 W Q QP)
theorem F19.k3_a (C0 : KT) : aIg true (s.tm 5) (evI Try.prog 9 (fun _ => W) nobody QP (regOps (Code.at F19.code [1, 0])) (isAt F19.g1 1) (C0) s h) ((C0) (skI 9 (regOps (Code.at F19.code [1, 0])) (isAt F19.g1 1) s) h) = F19.t3 s h C0 := by kernel_rfl
theorem F19.k3_ok : evG Try.prog 9 (fun _ => W) nobody QP (regOps (Code.at F19.code [1, 0])) (F19.g1.drop 1) ((thenQ (F19.k1 W Q QP) (Q)) .normal) s h = F19.k3 W Q QP s h := nd_gw (j := 2) (is := isAt F19.g1 1) (rest := F19.g1.drop 2) (by kernel_rfl) (d := 5) (by kernel_rfl) (F19.k2_ok W Q QP) (F19.k3_a W QP s h (F19.k2 W Q QP))
def F19.t4 (s : St) (h : AH) (C0 : KT) : Prop :=
  pBin Try.prog .geq 5 true (s.tm 0) (.sc (.int .u8 48)) fun t3 =>
  C0 ⟨puts s.tm [(3, (s.tm 0)), (4, t3), (5, t3)], s.ds⟩ h
def F19.k4 (W : Nat → Prop) (Q : Post) (QP : PPost) (s : St) (h : AH) : Prop := F19.t4 s h (F19.k3 W Q QP)
theorem F19.k4_a (C0 : KT) : evI Try.prog 9 (fun _ => W) nobody QP (regOps (Code.at F19.code [1, 0])) (isAt F19.g1 0) (C0) s h = F19.t4 s h C0 := by kernel_rfl
theorem F19.k4_ok : evG Try.prog 9 (fun _ => W) nobody QP (regOps (Code.at F19.code [1, 0])) (F19.g1.drop 0) ((thenQ (F19.k1 W Q QP) (Q)) .normal) s h = F19.k4 W Q QP s h := nd_g (is := isAt F19.g1 0) (rest := F19.g1.drop 1) (by kernel_rfl) (F19.k3_ok W Q QP) (F19.k4_a W QP s h (F19.k3 W Q QP))
theorem F19.o1 : aw Try.prog 9 W F19.pl (Code.at F19.code [1, 0]) (thenQ (F19.k1 W Q QP) (Q)) QP s h = F19.k4 W Q QP s h := nd_groups (id := 1) (draw := false) (ops := (regOps (Code.at F19.code [1, 0]))) (gs := F19.g1.drop 0) (by kernel_rfl) (by kernel_rfl) (F19.k4_ok W Q QP s h)
theorem F19.o2 : aw Try.prog 9 W F19.pl (Code.at F19.code [1]) (Q) QP s h = F19.k4 W Q QP s h := nd_seq (a := (Code.at F19.code [1, 0])) (b := (Code.at F19.code [1, 1])) (by kernel_rfl) (F19.k1_ok W Q QP) (F19.o1 W Q QP s h)
def F19.t5 (s : St) (h : AH) (C0 : KT) : Prop :=
  C0 ⟨puts s.tm [(2, (.sc (.bool false)))], s.ds⟩ h
def F19.k5 (W : Nat → Prop) (Q : Post) (QP : PPost) (s : St) (h : AH) : Prop := F19.t5 s h (F19.k4 W Q QP)
theorem F19.k5_a (C0 : KT) : aw Try.prog 9 W F19.pl (Code.at F19.code [0]) (thenQ (C0) (Q)) QP s h = F19.t5 s h C0 := by kernel_rfl
theorem F19.k5_ok : aw Try.prog 9 W F19.pl (Code.at F19.code []) (Q) QP s h = F19.k5 W Q QP s h := nd_seq (a := (Code.at F19.code [0])) (b := (Code.at F19.code [1])) (by kernel_rfl) (F19.o2 W Q QP) (F19.k5_a W Q QP s h (F19.k4 W Q QP))
end
theorem F19.calls {x0 : AV} {h : AH} {M : Nat → Prop} {R : AE → AH → Prop} (hp : F19.k5 (fun id => M id ∨ h.next ≤ id) (bodyQ Try.prog [.tmp 2] R) (bodyP R) (s0 [x0]) h) : ACalls Try.prog 19 [x0] h M R :=
  acalls_of Try.mixed Try.func19 rfl (Nat.le_of_ble_eq_true rfl) F19.ok (by rw [show Try.f19.ntmps = 9 from rfl, show Try.f19.results.toList = [.tmp 2] from rfl]; exact Eq.mpr (F19.k5_ok _ _ _ _ _) hp)
attribute [simp] F19.k1 F19.t1 F19.k2 F19.t2 F19.k3 F19.t3 F19.k4 F19.t4 F19.k5 F19.t5

/-! strings.IndexByte -/
section
variable (W : Nat → Prop) (Q : Post) (QP : PPost) (s : St) (h : AH)
noncomputable def F20.code : Code := Try.f20.body.getD .skip
def F20.pl : Plans := []
theorem F20.ok : okCode F20.pl F20.code = true := by kernel_rfl
def F20.t1 (W : Nat → Prop) (Q : Post) (QP : PPost) (s : St) (h : AH) : Prop :=
  aCall Try.prog W 40 [(s.tm 0), (s.tm 1)] h (fun t1 h2 =>
  Q .ret ⟨puts s.tm [(5, (s.tm 0)), (6, (s.tm 1)), (7, t1), (4, t1)], s.ds⟩ h2) (QP s.ds)
def F20.k1 (W : Nat → Prop) (Q : Post) (QP : PPost) (s : St) (h : AH) : Prop := F20.t1 W Q QP s h
theorem F20.k1_a : aw Try.prog 8 W F20.pl (Code.at F20.code [1, 0]) (thenQ (aw Try.prog 8 W F20.pl (Code.at F20.code [1, 1]) (Q) QP) (Q)) QP s h = F20.t1 W Q QP s h := by kernel_rfl
theorem F20.k1_ok : aw Try.prog 8 W F20.pl (Code.at F20.code [1]) (Q) QP s h = F20.k1 W Q QP s h := nd_seq (a := (Code.at F20.code [1, 0])) (b := (Code.at F20.code [1, 1])) (by kernel_rfl) (fun _ _ => rfl) (F20.k1_a W Q QP s h)
def F20.t2 (s : St) (h : AH) (C0 : KT) : Prop :=
  C0 ⟨puts s.tm [(4, (.sc (.int .i64 0)))], s.ds⟩ h
def F20.k2 (W : Nat → Prop) (Q : Post) (QP : PPost) (s : St) (h : AH) : Prop := F20.t2 s h (F20.k1 W Q QP)
theorem F20.k2_a (C0 : KT) : aw Try.prog 8 W F20.pl (Code.at F20.code [0]) (thenQ (C0) (Q)) QP s h = F20.t2 s h C0 := by kernel_rfl
theorem F20.k2_ok : aw Try.prog 8 W F20.pl (Code.at F20.code []) (Q) QP s h = F20.k2 W Q QP s h := nd_seq (a := (Code.at F20.code [0])) (b := (Code.at F20.code [1])) (by kernel_rfl) (F20.k1_ok W Q QP) (F20.k2_a W Q QP s h (F20.k1 W Q QP))
end
theorem F20.calls {x0 x1 : AV} {h : AH} {M : Nat → Prop} {R : AE → AH → Prop} (hp : F20.k2 (fun id => M id ∨ h.next ≤ id) (bodyQ Try.prog [.tmp 4] R) (bodyP R) (s0 [x0, x1]) h) : ACalls Try.prog 20 [x0, x1] h M R :=
  acalls_of Try.mixed Try.func20 rfl (Nat.le_of_ble_eq_true rfl) F20.ok (by rw [show Try.f20.ntmps = 8 from rfl, show Try.f20.results.toList = [.tmp 4] from rfl]; exact Eq.mpr (F20.k2_ok _ _ _ _ _) hp)
attribute [simp] F20.k1 F20.t1 F20.k2 F20.t2

/-! cubit/cubitref09.blank -/
section
variable (W : Nat → Prop) (Q : Post) (QP : PPost) (s : St) (h : AH)
noncomputable def F21.code : Code := Try.f21.body.getD .skip
def F21.g1 : Grps := [(none, [(0, false), (1, false), (2, false)]), (some (2, false), [(3, false), (4, false)]), (none, [(5, false), (6, false)]), (some (6, false), [(7, false), (8, false)]), (none, [(9, false), (10, false)]), (some (10, false), [(11, false), (12, false)]), (none, [(13, false), (14, false)])]
def F21.pl : Plans := [(1, ⟨F21.g1, false, []⟩)]
theorem F21.ok : okCode F21.pl F21.code = true := by kernel_rfl
def F21.t1 (Q : Post) (s : St) (h : AH) : Prop :=
  Q .ret s h
def F21.k1 (W : Nat → Prop) (Q : Post) (QP : PPost) (s : St) (h : AH) : Prop := F21.t1 Q s h
theorem F21.k1_a : aw Try.prog 17 W F21.pl (Code.at F21.code [1, 1]) (Q) QP s h = F21.t1 Q s h := by kernel_rfl
theorem F21.k1_ok : aw Try.prog 17 W F21.pl (Code.at F21.code [1, 1]) (Q) QP s h = F21.k1 W Q QP s h := (F21.k1_a W Q QP s h)
def F21.t2 (s : St) (h : AH) (C0 : KT) : Prop :=
  pPick (s.tm 13) (.sc (.bool true)) (s.tm 15) fun t1 =>
  C0 ⟨puts s.tm [(16, t1), (2, t1)], s.ds⟩ h
def F21.k2 (W : Nat → Prop) (Q : Post) (QP : PPost) (s : St) (h : AH) : Prop := F21.t2 s h (F21.k1 W Q QP)
theorem F21.k2_a (C0 : KT) : evI Try.prog 17 (fun _ => W) nobody QP (regOps (Code.at F21.code [1, 0])) (isAt F21.g1 6) ((thenQ (C0) (Q)) .normal) s h = F21.t2 s h C0 := by kernel_rfl
theorem F21.k2_ok : evG Try.prog 17 (fun _ => W) nobody QP (regOps (Code.at F21.code [1, 0])) (F21.g1.drop 6) ((thenQ (F21.k1 W Q QP) (Q)) .normal) s h = F21.k2 W Q QP s h := nd_g (is := isAt F21.g1 6) (rest := F21.g1.drop 7) (by kernel_rfl) (fun _ _ => rfl) (F21.k2_a W Q QP s h (F21.k1 W Q QP))
def F21.t3 (s : St) (h : AH) (C0 : KT) : Prop :=
  aIg false (s.tm 13) (
  pBin Try.prog .eql 5 true (s.tm 0) (.sc (.int .u8 32)) fun t2 =>
  C0 ⟨puts s.tm [(14, (s.tm 0)), (15, t2)], s.ds⟩ h) (
  C0 ⟨puts s.tm [(14, noA), (15, noA)], s.ds⟩ h)
def F21.k3 (W : Nat → Prop) (Q : Post) (QP : PPost) (s : St) (h : AH) : Prop := F21.t3 s h (F21.k2 W Q QP)
theorem F21.k3_a (C0 : KT) : aIg false (s.tm 13) (evI Try.prog 17 (fun _ => W) nobody QP (regOps (Code.at F21.code [1, 0])) (isAt F21.g1 5) (C0) s h) ((C0) (skI 17 (regOps (Code.at F21.code [1, 0])) (isAt F21.g1 5) s) h) = F21.t3 s h C0 := by kernel_rfl
theorem F21.k3_ok : evG Try.prog 17 (fun _ => W) nobody QP (regOps (Code.at F21.code [1, 0])) (F21.g1.drop 5) ((thenQ (F21.k1 W Q QP) (Q)) .normal) s h = F21.k3 W Q QP s h := nd_gw (j := 10) (is := isAt F21.g1 5) (rest := F21.g1.drop 6) (by kernel_rfl) (d := 13) (by kernel_rfl) (F21.k2_ok W Q QP) (F21.k3_a W QP s h (F21.k2 W Q QP))
def F21.t4 (s : St) (h : AH) (C0 : KT) : Prop :=
  pPick (s.tm 9) (.sc (.bool true)) (s.tm 11) fun t3 =>
  C0 ⟨puts s.tm [(12, t3), (13, t3)], s.ds⟩ h
def F21.k4 (W : Nat → Prop) (Q : Post) (QP : PPost) (s : St) (h : AH) : Prop := F21.t4 s h (F21.k3 W Q QP)
theorem F21.k4_a (C0 : KT) : evI Try.prog 17 (fun _ => W) nobody QP (regOps (Code.at F21.code [1, 0])) (isAt F21.g1 4) (C0) s h = F21.t4 s h C0 := by kernel_rfl
theorem F21.k4_ok : evG Try.prog 17 (fun _ => W) nobody QP (regOps (Code.at F21.code [1, 0])) (F21.g1.drop 4) ((thenQ (F21.k1 W Q QP) (Q)) .normal) s h = F21.k4 W Q QP s h := nd_g (is := isAt F21.g1 4) (rest := F21.g1.drop 5) (by kernel_rfl) (F21.k3_ok W Q QP) (F21.k4_a W QP s h (F21.k3 W Q QP))
def F21.t5 (s : St) (h : AH) (C0 : KT) : Prop :=
  aIg false (s.tm 9) (
  pBin Try.prog .eql 5 true (s.tm 0) (.sc (.int .u8 13)) fun t4 =>
  C0 ⟨puts s.tm [(10, (s.tm 0)), (11, t4)], s.ds⟩ h) (
  C0 ⟨puts s.tm [(10, noA), (11, noA)], s.ds⟩ h)
def F21.k5 (W : Nat → Prop) (Q : Post) (QP : PPost) (s : St) (h : AH) : Prop := F21.t5 s h (F21.k4 W Q QP)
theorem F21.k5_a (C0 : KT) : aIg false (s.tm 9) (evI Try.prog 17 (fun _ => W) nobody QP (regOps (Code.at F21.code [1, 0])) (isAt F21.g1 3) (C0) s h) ((C0) (skI 17 (regOps (Code.at F21.code [1, 0])) (isAt F21.g1 3) s) h) = F21.t5 s h C0 := by kernel_rfl
theorem F21.k5_ok : evG Try.prog 17 (fun _ => W) nobody QP (regOps (Code.at F21.code [1, 0])) (F21.g1.drop 3) ((thenQ (F21.k1 W Q QP) (Q)) .normal) s h = F21.k5 W Q QP s h := nd_gw (j := 6) (is := isAt F21.g1 3) (rest := F21.g1.drop 4) (by kernel_rfl) (d := 9) (by kernel_rfl) (F21.k4_ok W Q QP) (F21.k5_a W QP s h (F21.k4 W Q QP))
def F21.t6 (s : St) (h : AH) (C0 : KT) : Prop :=
  pPick (s.tm 5) (.sc (.bool true)) (s.tm 7) fun t5 =>
  C0 ⟨puts s.tm [(8, t5), (9, t5)], s.ds⟩ h
def F21.k6 (W : Nat → Prop) (Q : Post) (QP : PPost) (s : St) (h : AH) : Prop := F21.t6 s h (F21.k5 W Q QP)
theorem F21.k6_a (C0 : KT) : evI Try.prog 17 (fun _ => W) nobody QP (regOps (Code.at F21.code [1, 0])) (isAt F21.g1 2) (C0) s h = F21.t6 s h C0 := by kernel_rfl
theorem F21.k6_ok : evG Try.prog 17 (fun _ => W) nobody QP (regOps (Code.at F21.code [1, 0])) (F21.g1.drop 2) ((thenQ (F21.k1 W Q QP) (Q)) .normal) s h = F21.k6 W Q QP s h := nd_g (is := isAt F21.g1 2) (rest := F21.g1.drop 3) (by kernel_rfl) (F21.k5_ok W Q QP) (F21.k6_a W QP s h (F21.k5 W Q QP))
def F21.t7 (s : St) (h : AH) (C0 : KT) : Prop :=
  aIg false (s.tm 5) (
  pBin Try.prog .eql 5 true (s.tm 0) (.sc (.int .u8 10)) fun t6 =>
  C0 ⟨puts s.tm [(6, (s.tm 0)), (7, t6)], s.ds⟩ h) (
  C0 ⟨puts s.tm [(6, noA), (7, noA)], s.ds⟩ h)
def F21.k7 (W : Nat → Prop) (Q : Post) (QP : PPost) (s : St) (h : AH) : Prop := F21.t7 s h (F21.k6 W Q QP)
theorem F21.k7_a (C0 : KT) : aIg false (s.tm 5) (evI Try.prog 17 (fun _ => W) nobody QP (regOps (Code.at F21.code [1, 0])) (isAt F21.g1 1) (C0) s h) ((C0) (skI 17 (regOps (Code.at F21.code [1, 0])) (isAt F21.g1 1) s) h) = F21.t7 s h C0 := by kernel_rfl
theorem F21.k7_ok : evG Try.prog 17 (fun _ => W) nobody QP (regOps (Code.at F21.code [1, 0])) (F21.g1.drop 1) ((thenQ (F21.k1 W Q QP) (Q)) .normal) s h = F21.k7 W Q QP s h := nd_gw (j := 2) (is := isAt F21.g1 1) (rest := F21.g1.drop 2) (by kernel_rfl) (d := 5) (by kernel_rfl) (F21.k6_ok W Q QP) (F21.k7_a W QP s h (F21.k6 W Q QP))
def F21.t8 (s : St) (h : AH) (C0 : KT) : Prop :=
  pBin Try.prog .eql 5 true (s.tm 0) (.sc (.int .u8 9)) fun t7 =>
  C0 ⟨puts s.tm [(3, (s.tm 0)), (4, t7), (5, t7)], s.ds⟩ h
def F21.k8 (W : Nat → Prop) (Q : Post) (QP : PPost) (s : St) (h : AH) : Prop := F21.t8 s h (F21.k7 W Q QP)
theorem F21.k8_a (C0 : KT) : evI Try.prog 17 (fun _ => W) nobody QP (regOps (Code.at F21.code [1, 0])) (isAt F21.g1 0) (C0) s h = F21.t8 s h C0 := by kernel_rfl
theorem F21.k8_ok : evG Try.prog 17 (fun _ => W) nobody QP (regOps (Code.at F21.code [1, 0])) (F21.g1.drop 0) ((thenQ (F21.k1 W Q QP) (Q)) .normal) s h = F21.k8 W Q QP s h := nd_g (is := isAt F21.g1 0) (rest := F21.g1.drop 1) (by kernel_rfl) (F21.k7_ok W Q QP) (F21.k8_a W QP s h (F21.k7 W Q QP))
theorem F21.o1 : aw Try.prog 17 W F21.pl (Code.at F21.code [1, 0]) (thenQ (F21.k1 W Q QP) (Q)) QP s h = F21.k8 W Q QP s h := nd_groups (id := 1) (draw := false) (ops := (regOps (Code.at F21.code [1, 0]))) (gs := F21.g1.drop 0) (by kernel_rfl) (by kernel_rfl) (F21.k8_ok W Q QP s h)
theorem F21.o2 : aw Try.prog 17 W F21.pl (Code.at F21.code [1]) (Q) QP s h = F21.k8 W Q QP s h := nd_seq (a := (Code.at F21.code [1, 0])) (b := (Code.at F21.code [1, 1])) (by kernel_rfl) (F21.k1_ok W Q QP) (F21.o1 W Q QP s h)
def F21.t9 (s : St) (h : AH) (C0 : KT) : Prop :=
  C0 ⟨puts s.tm [(2, (.sc (.bool false)))], s.ds⟩ h
def F21.k9 (W : Nat → Prop) (Q : Post) (QP : PPost) (s : St) (h : AH) : Prop := F21.t9 s h (F21.k8 W Q QP)
theorem F21.k9_a (C0 : KT) : aw Try.prog 17 W F21.pl (Code.at F21.code [0]) (thenQ (C0) (Q)) QP s h = F21.t9 s h C0 := by kernel_rfl
theorem F21.k9_ok : aw Try.prog 17 W F21.pl (Code.at F21.code []) (Q) QP s h = F21.k9 W Q QP s h := nd_seq (a := (Code.at F21.code [0])) (b := (Code.at F21.code [1])) (by kernel_rfl) (F21.o2 W Q QP) (F21.k9_a W Q QP s h (F21.k8 W Q QP))
end
theorem F21.calls {x0 : AV} {h : AH} {M : Nat → Prop} {R : AE → AH → Prop} (hp : F21.k9 (fun id => M id ∨ h.next ≤ id) (bodyQ Try.prog [.tmp 2] R) (bodyP R) (s0 [x0]) h) : ACalls Try.prog 21 [x0] h M R :=
  acalls_of Try.mixed Try.func21 rfl (Nat.le_of_ble_eq_true rfl) F21.ok (by rw [show Try.f21.ntmps = 17 from rfl, show Try.f21.results.toList = [.tmp 2] from rfl]; exact Eq.mpr (F21.k9_ok _ _ _ _ _) hp)
attribute [simp] F21.k1 F21.t1 F21.k2 F21.t2 F21.k3 F21.t3 F21.k4 F21.t4 F21.k5 F21.t5 F21.k6 F21.t6 F21.k7 F21.t7 F21.k8 F21.t8 F21.k9 F21.t9

/-! cubit/cubitref09.letter -/
section
variable (W : Nat → Prop) (Q : Post) (QP : PPost) (s : St) (h : AH)
noncomputable def F22.code : Code := Try.f22.body.getD .skip
def F22.g1 : Grps := [(none, [(0, false), (1, false), (2, false)]), (some (2, true), [(3, false), (4, false)]), (none, [(5, false), (6, false)]), (some (6, false), [(7, false), (8, false), (9, false)]), (some (9, true), [(10, false), (11, false)]), (some (6, false), [(12, false)]), (none, [(13, false), (14, false)]), (some (14, false), [(15, false), (16, false)]), (none, [(17, false), (18, false)])]
def F22.pl : Plans := [(1, ⟨F22.g1, false, []⟩)]
theorem F22.ok : okCode F22.pl F22.code = true := by kernel_rfl
def F22.t1 (Q : Post) (s : St) (h : AH) : Prop :=
  Q .ret s h
def F22.k1 (W : Nat → Prop) (Q : Post) (QP : PPost) (s : St) (h : AH) : Prop := F22.t1 Q s h
theorem F22.k1_a : aw Try.prog 21 W F22.pl (Code.at F22.code [1, 1]) (Q) QP s h = F22.t1 Q s h := by kernel_rfl
theorem F22.k1_ok : aw Try.prog 21 W F22.pl (Code.at F22.code [1, 1]) (Q) QP s h = F22.k1 W Q QP s h := (F22.k1_a W Q QP s h)
def F22.t2 (s : St) (h : AH) (C0 : KT) : Prop :=
  pPick (s.tm 17) (.sc (.bool true)) (s.tm 19) fun t1 =>
  C0 ⟨puts s.tm [(20, t1), (2, t1)], s.ds⟩ h
def F22.k2 (W : Nat → Prop) (Q : Post) (QP : PPost) (s : St) (h : AH) : Prop := F22.t2 s h (F22.k1 W Q QP)
theorem F22.k2_a (C0 : KT) : evI Try.prog 21 (fun _ => W) nobody QP (regOps (Code.at F22.code [1, 0])) (isAt F22.g1 8) ((thenQ (C0) (Q)) .normal) s h = F22.t2 s h C0 := by kernel_rfl
theorem F22.k2_ok : evG Try.prog 21 (fun _ => W) nobody QP (regOps (Code.at F22.code [1, 0])) (F22.g1.drop 8) ((thenQ (F22.k1 W Q QP) (Q)) .normal) s h = F22.k2 W Q QP s h := nd_g (is := isAt F22.g1 8) (rest := F22.g1.drop 9) (by kernel_rfl) (fun _ _ => rfl) (F22.k2_a W Q QP s h (F22.k1 W Q QP))
def F22.t3 (s : St) (h : AH) (C0 : KT) : Prop :=
  aIg false (s.tm 17) (
  pBin Try.prog .eql 5 true (s.tm 0) (.sc (.int .u8 95)) fun t2 =>
  C0 ⟨puts s.tm [(18, (s.tm 0)), (19, t2)], s.ds⟩ h) (
  C0 ⟨puts s.tm [(18, noA), (19, noA)], s.ds⟩ h)
def F22.k3 (W : Nat → Prop) (Q : Post) (QP : PPost) (s : St) (h : AH) : Prop := F22.t3 s h (F22.k2 W Q QP)
theorem F22.k3_a (C0 : KT) : aIg false (s.tm 17) (evI Try.prog 21 (fun _ => W) nobody QP (regOps (Code.at F22.code [1, 0])) (isAt F22.g1 7) (C0) s h) ((C0) (skI 21 (regOps (Code.at F22.code [1, 0])) (isAt F22.g1 7) s) h) = F22.t3 s h C0 := by kernel_rfl
theorem F22.k3_ok : evG Try.prog 21 (fun _ => W) nobody QP (regOps (Code.at F22.code [1, 0])) (F22.g1.drop 7) ((thenQ (F22.k1 W Q QP) (Q)) .normal) s h = F22.k3 W Q QP s h := nd_gw (j := 14) (is := isAt F22.g1 7) (rest := F22.g1.drop 8) (by kernel_rfl) (d := 17) (by kernel_rfl) (F22.k2_ok W Q QP) (F22.k3_a W QP s h (F22.k2 W Q QP))
def F22.t4 (s : St) (h : AH) (C0 : KT) : Prop :=
  pPick (s.tm 9) (.sc (.bool true)) (s.tm 15) fun t3 =>
  C0 ⟨puts s.tm [(16, t3), (17, t3)], s.ds⟩ h
def F22.k4 (W : Nat → Prop) (Q : Post) (QP : PPost) (s : St) (h : AH) : Prop := F22.t4 s h (F22.k3 W Q QP)
theorem F22.k4_a (C0 : KT) : evI Try.prog 21 (fun _ => W) nobody QP (regOps (Code.at F22.code [1, 0])) (isAt F22.g1 6) (C0) s h = F22.t4 s h C0 := by kernel_rfl
theorem F22.k4_ok : evG Try.prog 21 (fun _ => W) nobody QP (regOps (Code.at F22.code [1, 0])) (F22.g1.drop 6) ((thenQ (F22.k1 W Q QP) (Q)) .normal) s h = F22.k4 W Q QP s h := nd_g (is := isAt F22.g1 6) (rest := F22.g1.drop 7) (by kernel_rfl) (F22.k3_ok W Q QP) (F22.k4_a W QP s h (F22.k3 W Q QP))
def F22.t5 (s : St) (h : AH) (C0 : KT) : Prop :=
  aIg false (s.tm 9) (
  pPick (s.tm 12) (s.tm 14) (.sc (.bool false)) fun t4 =>
  C0 ⟨puts s.tm [(15, t4)], s.ds⟩ h) (
  C0 ⟨puts s.tm [(15, noA)], s.ds⟩ h)
def F22.k5 (W : Nat → Prop) (Q : Post) (QP : PPost) (s : St) (h : AH) : Prop := F22.t5 s h (F22.k4 W Q QP)
theorem F22.k5_a (C0 : KT) : aIg false (s.tm 9) (evI Try.prog 21 (fun _ => W) nobody QP (regOps (Code.at F22.code [1, 0])) (isAt F22.g1 5) (C0) s h) ((C0) (skI 21 (regOps (Code.at F22.code [1, 0])) (isAt F22.g1 5) s) h) = F22.t5 s h C0 := by kernel_rfl
theorem F22.k5_ok : evG Try.prog 21 (fun _ => W) nobody QP (regOps (Code.at F22.code [1, 0])) (F22.g1.drop 5) ((thenQ (F22.k1 W Q QP) (Q)) .normal) s h = F22.k5 W Q QP s h := nd_gw (j := 6) (is := isAt F22.g1 5) (rest := F22.g1.drop 6) (by kernel_rfl) (d := 9) (by kernel_rfl) (F22.k4_ok W Q QP) (F22.k5_a W QP s h (F22.k4 W Q QP))
def F22.t6 (s : St) (h : AH) (C0 : KT) : Prop :=
  aIg true (s.tm 12) (
  pBin Try.prog .leq 5 true (s.tm 0) (.sc (.int .u8 90)) fun t5 =>
  C0 ⟨puts s.tm [(13, (s.tm 0)), (14, t5)], s.ds⟩ h) (
  C0 ⟨puts s.tm [(13, noA), (14, noA)], s.ds⟩ h)
def F22.k6 (W : Nat → Prop) (Q : Post) (QP : PPost) (s : St) (h : AH) : Prop := F22.t6 s h (F22.k5 W Q QP)
theorem F22.k6_a (C0 : KT) : aIg true (s.tm 12) (evI Try.prog 21 (fun _ => W) nobody QP (regOps (Code.at F22.code [1, 0])) (isAt F22.g1 4) (C0) s h) ((C0) (skI 21 (regOps (Code.at F22.code [1, 0])) (isAt F22.g1 4) s) h) = F22.t6 s h C0 := by kernel_rfl
theorem F22.k6_ok : evG Try.prog 21 (fun _ => W) nobody QP (regOps (Code.at F22.code [1, 0])) (F22.g1.drop 4) ((thenQ (F22.k1 W Q QP) (Q)) .normal) s h = F22.k6 W Q QP s h := nd_gw (j := 9) (is := isAt F22.g1 4) (rest := F22.g1.drop 5) (by kernel_rfl) (d := 12) (by kernel_rfl) (F22.k5_ok W Q QP) (F22.k6_a W QP s h (F22.k5 W Q QP))
def F22.t7 (s : St) (h : AH) (C0 : KT) : Prop :=
  aIg false (s.tm 9) (
  pBin Try.prog .geq 5 true (s.tm 0) (.sc (.int .u8 65)) fun t6 =>
  C0 ⟨puts s.tm [(10, (s.tm 0)), (11, t6), (12, t6)], s.ds⟩ h) (
  C0 ⟨puts s.tm [(10, noA), (11, noA), (12, noA)], s.ds⟩ h)
def F22.k7 (W : Nat → Prop) (Q : Post) (QP : PPost) (s : St) (h : AH) : Prop := F22.t7 s h (F22.k6 W Q QP)
theorem F22.k7_a (C0 : KT) : aIg false (s.tm 9) (evI Try.prog 21 (fun _ => W) nobody QP (regOps (Code.at F22.code [1, 0])) (isAt F22.g1 3) (C0) s h) ((C0) (skI 21 (regOps (Code.at F22.code [1, 0])) (isAt F22.g1 3) s) h) = F22.t7 s h C0 := by kernel_rfl
theorem F22.k7_ok : evG Try.prog 21 (fun _ => W) nobody QP (regOps (Code.at F22.code [1, 0])) (F22.g1.drop 3) ((thenQ (F22.k1 W Q QP) (Q)) .normal) s h = F22.k7 W Q QP s h := nd_gw (j := 6) (is := isAt F22.g1 3) (rest := F22.g1.drop 4) (by kernel_rfl) (d := 9) (by kernel_rfl) (F22.k6_ok W Q QP) (F22.k7_a W QP s h (F22.k6 W Q QP))
def F22.t8 (s : St) (h : AH) (C0 : KT) : Prop :=
  pPick (s.tm 5) (s.tm 7) (.sc (.bool false)) fun t7 =>
  C0 ⟨puts s.tm [(8, t7), (9, t7)], s.ds⟩ h
def F22.k8 (W : Nat → Prop) (Q : Post) (QP : PPost) (s : St) (h : AH) : Prop := F22.t8 s h (F22.k7 W Q QP)
theorem F22.k8_a (C0 : KT) : evI Try.prog 21 (fun _ => W) nobody QP (regOps (Code.at F22.code [1, 0])) (isAt F22.g1 2) (C0) s h = F22.t8 s h C0 := by kernel_rfl
theorem F22.k8_ok : evG Try.prog 21 (fun _ => W) nobody QP (regOps (Code.at F22.code [1, 0])) (F22.g1.drop 2) ((thenQ (F22.k1 W Q QP) (Q)) .normal) s h = F22.k8 W Q QP s h := nd_g (is := isAt F22.g1 2) (rest := F22.g1.drop 3) (by kernel_rfl) (F22.k7_ok W Q QP) (F22.k8_a W QP s h (F22.k7 W Q QP))
def F22.t9 (s : St) (h : AH) (C0 : KT) : Prop :=
  aIg true (s.tm 5) (
  pBin Try.prog .leq 5 true (s.tm 0) (.sc (.int .u8 122)) fun t8 =>
  C0 ⟨puts s.tm [(6, (s.tm 0)), (7, t8)], s.ds⟩ h) (
  C0 ⟨puts s.tm [(6, noA), (7, noA)], s.ds⟩ h)
def F22.k9 (W : Nat → Prop) (Q : Post) (QP : PPost) (s : St) (h : AH) : Prop := F22.t9 s h (F22.k8 W Q QP)
theorem F22.k9_a (C0 : KT) : aIg true (s.tm 5) (evI Try.prog 21 (fun _ => W) nobody QP (regOps (Code.at F22.code [1, 0])) (isAt F22.g1 1) (C0) s h) ((C0) (skI 21 (regOps (Code.at F22.code [1, 0])) (isAt F22.g1 1) s) h) = F22.t9 s h C0 := by kernel_rfl
theorem F22.k9_ok : evG Try.prog 21 (fun _ => W) nobody QP (regOps (Code.at F22.code [1, 0])) (F22.g1.drop 1) ((thenQ (F22.k1 W Q QP) (Q)) .normal) s h = F22.k9 W Q QP s h := nd_gw (j := 2) (is := isAt F22.g1 1) (rest := F22.g1.drop 2) (by kernel_rfl) (d := 5) (by kernel_rfl) (F22.k8_ok W Q QP) (F22.k9_a W QP s h (F22.k8 W Q QP))
def F22.t10 (s : St) (h : AH) (C0 : KT) : Prop :=
  pBin Try.prog .geq 5 true (s.tm 0) (.sc (.int .u8 97)) fun t9 =>
  C0 ⟨puts s.tm [(3, (s.tm 0)), (4, t9), (5, t9)], s.ds⟩ h
def F22.k10 (W : Nat → Prop) (Q : Post) (QP : PPost) (s : St) (h : AH) : Prop := F22.t10 s h (F22.k9 W Q QP)
theorem F22.k10_a (C0 : KT) : evI Try.prog 21 (fun _ => W) nobody QP (regOps (Code.at F22.code [1, 0])) (isAt F22.g1 0) (C0) s h = F22.t10 s h C0 := by kernel_rfl
theorem F22.k10_ok : evG Try.prog 21 (fun _ => W) nobody QP (regOps (Code.at F22.code [1, 0])) (F22.g1.drop 0) ((thenQ (F22.k1 W Q QP) (Q)) .normal) s h = F22.k10 W Q QP s h := nd_g (is := isAt F22.g1 0) (rest := F22.g1.drop 1) (by kernel_rfl) (F22.k9_ok W Q QP) (F22.k10_a W QP s h (F22.k9 W Q QP))
theorem F22.o1 : aw Try.prog 21 W F22.pl (Code.at F22.code [1, 0]) (thenQ (F22.k1 W Q QP) (Q)) QP s h = F22.k10 W Q QP s h := nd_groups (id := 1) (draw := false) (ops := (regOps (Code.at F22.code [1, 0]))) (gs := F22.g1.drop 0) (by kernel_rfl) (by kernel_rfl) (F22.k10_ok W Q QP s h)
theorem F22.o2 : aw Try.prog 21 W F22.pl (Code.at F22.code [1]) (Q) QP s h = F22.k10 W Q QP s h := nd_seq (a := (Code.at F22.code [1, 0])) (b := (Code.at F22.code [1, 1])) (by kernel_rfl) (F22.k1_ok W Q QP) (F22.o1 W Q QP s h)
def F22.t11 (s : St) (h : AH) (C0 : KT) : Prop :=
  C0 ⟨puts s.tm [(2, (.sc (.bool false)))], s.ds⟩ h
def F22.k11 (W : Nat → Prop) (Q : Post) (QP : PPost) (s : St) (h : AH) : Prop := F22.t11 s h (F22.k10 W Q QP)
theorem F22.k11_a (C0 : KT) : aw Try.prog 21 W F22.pl (Code.at F22.code [0]) (thenQ (C0) (Q)) QP s h = F22.t11 s h C0 := by kernel_rfl
theorem F22.k11_ok : aw Try.prog 21 W F22.pl (Code.at F22.code []) (Q) QP s h = F22.k11 W Q QP s h := nd_seq (a := (Code.at F22.code [0])) (b := (Code.at F22.code [1])) (by kernel_rfl) (F22.o2 W Q QP) (F22.k11_a W Q QP s h (F22.k10 W Q QP))
end
theorem F22.calls {x0 : AV} {h : AH} {M : Nat → Prop} {R : AE → AH → Prop} (hp : F22.k11 (fun id => M id ∨ h.next ≤ id) (bodyQ Try.prog [.tmp 2] R) (bodyP R) (s0 [x0]) h) : ACalls Try.prog 22 [x0] h M R :=
  acalls_of Try.mixed Try.func22 rfl (Nat.le_of_ble_eq_true rfl) F22.ok (by rw [show Try.f22.ntmps = 21 from rfl, show Try.f22.results.toList = [.tmp 2] from rfl]; exact Eq.mpr (F22.k11_ok _ _ _ _ _) hp)
attribute [simp] F22.k1 F22.t1 F22.k2 F22.t2 F22.k3 F22.t3 F22.k4 F22.t4 F22.k5 F22.t5 F22.k6 F22.t6 F22.k7 F22.t7 F22.k8 F22.t8 F22.k9 F22.t9 F22.k10 F22.t10 F22.k11 F22.t11

/-! cubit/cubitref09.digit -/
section
variable (W : Nat → Prop) (Q : Post) (QP : PPost) (s : St) (h : AH)
noncomputable def F23.code : Code := Try.f23.body.getD .skip
def F23.g1 : Grps := [(none, [(0, false), (1, false), (2, false)]), (some (2, true), [(3, false), (4, false)]), (none, [(5, false), (6, false)])]
def F23.pl : Plans := [(1, ⟨F23.g1, false, []⟩)]
theorem F23.ok : okCode F23.pl F23.code = true := by kernel_rfl
def F23.t1 (Q : Post) (s : St) (h : AH) : Prop :=
  Q .ret s h
def F23.k1 (W : Nat → Prop) (Q : Post) (QP : PPost) (s : St) (h : AH) : Prop := F23.t1 Q s h
theorem F23.k1_a : aw Try.prog 9 W F23.pl (Code.at F23.code [1, 1]) (Q) QP s h = F23.t1 Q s h := by kernel_rfl
theorem F23.k1_ok : aw Try.prog 9 W F23.pl (Code.at F23.code [1, 1]) (Q) QP s h = F23.k1 W Q QP s h := (F23.k1_a W Q QP s h)
def F23.t2 (s : St) (h : AH) (C0 : KT) : Prop :=
  pPick (s.tm 5) (s.tm 7) (.sc (.bool false)) fun t1 =>
  C0 ⟨puts s.tm [(8, t1), (2, t1)], s.ds⟩ h
def F23.k2 (W : Nat → Prop) (Q : Post) (QP : PPost) (s : St) (h : AH) : Prop := F23.t2 s h (F23.k1 W Q QP)
theorem F23.k2_a (C0 : KT) : evI Try.prog 9 (fun _ => W) nobody QP (regOps (Code.at F23.code [1, 0])) (isAt F23.g1 2) ((thenQ (C0) (Q)) .normal) s h = F23.t2 s h C0 := by kernel_rfl
theorem F23.k2_ok : evG Try.prog 9 (fun _ => W) nobody QP (regOps (Code.at F23.code [1, 0])) (F23.g1.drop 2) ((thenQ (F23.k1 W Q QP) (Q)) .normal) s h = F23.k2 W Q QP s h := nd_g (is := isAt F23.g1 2) (rest := F23.g1.drop 3) (by kernel_rfl) (fun _ _ => rfl) (F23.k2_a W Q QP s h (F23.k1 W Q QP))
def F23.t3 (s : St) (h : AH) (C0 : KT) : Prop :=
  aIg true (s.tm 5) (
  pBin Try.prog .leq 5 true (s.tm 0) (.sc (.int .u8 57)) fun t2 =>
  C0 ⟨puts s.tm [(6, (s.tm 0)), (7, t2)], s.ds⟩ h) (
  C0 ⟨puts s.tm [(6, noA), (7, noA)], s.ds⟩ h)
def F23.k3 (W : Nat → Prop) (Q : Post) (QP : PPost) (s : St) (h : AH) : Prop := F23.t3 s h (F23.k2 W Q QP)
theorem F23.k3_a (C0 : KT) : aIg true (s.tm 5) (evI Try.prog 9 (fun _ => W) nobody QP (regOps (Code.at F23.code [1, 0])) (isAt F23.g1 1) (C0) s h) ((C0) (skI 9 (regOps (Code.at F23.code [1, 0])) (isAt F23.g1 1) s) h) = F23.t3 s h C0 := by kernel_rfl
theorem F23.k3_ok : evG Try.prog 9 (fun _ => W) nobody QP (regOps (Code.at F23.code [1, 0])) (F23.g1.drop 1) ((thenQ (F23.k1 W Q QP) (Q)) .normal) s h = F23.k3 W Q QP s h := nd_gw (j := 2) (is := isAt F23.g1 1) (rest := F23.g1.drop 2) (by kernel_rfl) (d := 5) (by kernel_rfl) (F23.k2_ok W Q QP) (F23.k3_a W QP s h (F23.k2 W Q QP))
def F23.t4 (s : St) (h : AH) (C0 : KT) : Prop :=
  pBin Try.prog .geq 5 true (s.tm 0) (.sc (.int .u8 48)) fun t3 =>
  C0 ⟨puts s.tm [(3, (s.tm 0)), (4, t3), (5, t3)], s.ds⟩ h
def F23.k4 (W : Nat → Prop) (Q : Post) (QP : PPost) (s : St) (h : AH) : Prop := F23.t4 s h (F23.k3 W Q QP)
theorem F23.k4_a (C0 : KT) : evI Try.prog 9 (fun _ => W) nobody QP (regOps (Code.at F23.code [1, 0])) (isAt F23.g1 0) (C0) s h = F23.t4 s h C0 := by kernel_rfl
theorem F23.k4_ok : evG Try.prog 9 (fun _ => W) nobody QP (regOps (Code.at F23.code [1, 0])) (F23.g1.drop 0) ((thenQ (F23.k1 W Q QP) (Q)) .normal) s h = F23.k4 W Q QP s h := nd_g (is := isAt F23.g1 0) (rest := F23.g1.drop 1) (by kernel_rfl) (F23.k3_ok W Q QP) (F23.k4_a W QP s h (F23.k3 W Q QP))
theorem F23.o1 : aw Try.prog 9 W F23.pl (Code.at F23.code [1, 0]) (thenQ (F23.k1 W Q QP) (Q)) QP s h = F23.k4 W Q QP s h := nd_groups (id := 1) (draw := false) (ops := (regOps (Code.at F23.code [1, 0]))) (gs := F23.g1.drop 0) (by kernel_rfl) (by kernel_rfl) (F23.k4_ok W Q QP s h)
theorem F23.o2 : aw Try.prog 9 W F23.pl (Code.at F23.code [1]) (Q) QP s h = F23.k4 W Q QP s h := nd_seq (a := (Code.at F23.code [1, 0])) (b := (Code.at F23.code [1, 1])) (by kernel_rfl) (F23.k1_ok W Q QP) (F23.o1 W Q QP s h)
def F23.t5 (s : St) (h : AH) (C0 : KT) : Prop :=
  C0 ⟨puts s.tm [(2, (.sc (.bool false)))], s.ds⟩ h
def F23.k5 (W : Nat → Prop) (Q : Post) (QP : PPost) (s : St) (h : AH) : Prop := F23.t5 s h (F23.k4 W Q QP)
theorem F23.k5_a (C0 : KT) : aw Try.prog 9 W F23.pl (Code.at F23.code [0]) (thenQ (C0) (Q)) QP s h = F23.t5 s h C0 := by kernel_rfl
theorem F23.k5_ok : aw Try.prog 9 W F23.pl (Code.at F23.code []) (Q) QP s h = F23.k5 W Q QP s h := nd_seq (a := (Code.at F23.code [0])) (b := (Code.at F23.code [1])) (by kernel_rfl) (F23.o2 W Q QP) (F23.k5_a W Q QP s h (F23.k4 W Q QP))
end
theorem F23.calls {x0 : AV} {h : AH} {M : Nat → Prop} {R : AE → AH → Prop} (hp : F23.k5 (fun id => M id ∨ h.next ≤ id) (bodyQ Try.prog [.tmp 2] R) (bodyP R) (s0 [x0]) h) : ACalls Try.prog 23 [x0] h M R :=
  acalls_of Try.mixed Try.func23 rfl (Nat.le_of_ble_eq_true rfl) F23.ok (by rw [show Try.f23.ntmps = 9 from rfl, show Try.f23.results.toList = [.tmp 2] from rfl]; exact Eq.mpr (F23.k5_ok _ _ _ _ _) hp)
attribute [simp] F23.k1 F23.t1 F23.k2 F23.t2 F23.k3 F23.t3 F23.k4 F23.t4 F23.k5 F23.t5

/-! cubit/cubitref09.isSign -/
section
variable (W : Nat → Prop) (Q : Post) (QP : PPost) (s : St) (h : AH)
noncomputable def F24.code : Code := Try.f24.body.getD .skip
def F24.g1 : Grps := [(none, [(0, false), (1, false), (2, false)]), (some (2, false), [(3, false), (4, false)]), (none, [(5, false), (6, false)]), (some (6, false), [(7, false), (8, false)]), (none, [(9, false), (10, false)]), (some (10, false), [(11, false), (12, false)]), (none, [(13, false), (14, false)]), (some (14, false), [(15, false), (16, false)]), (none, [(17, false), (18, false)]), (some (18, false), [(19, false), (20, false)]), (none, [(21, false), (22, false)])]
def F24.pl : Plans := [(1, ⟨F24.g1, false, []⟩)]
theorem F24.ok : okCode F24.pl F24.code = true := by kernel_rfl
def F24.t1 (Q : Post) (s : St) (h : AH) : Prop :=
  Q .ret s h
def F24.k1 (W : Nat → Prop) (Q : Post) (QP : PPost) (s : St) (h : AH) : Prop := F24.t1 Q s h
theorem F24.k1_a : aw Try.prog 25 W F24.pl (Code.at F24.code [1, 1]) (Q) QP s h = F24.t1 Q s h := by kernel_rfl
theorem F24.k1_ok : aw Try.prog 25 W F24.pl (Code.at F24.code [1, 1]) (Q) QP s h = F24.k1 W Q QP s h := (F24.k1_a W Q QP s h)
def F24.t2 (s : St) (h : AH) (C0 : KT) : Prop :=
  pPick (s.tm 21) (.sc (.bool true)) (s.tm 23) fun t1 =>
  C0 ⟨puts s.tm [(24, t1), (2, t1)], s.ds⟩ h
def F24.k2 (W : Nat → Prop) (Q : Post) (QP : PPost) (s : St) (h : AH) : Prop := F24.t2 s h (F24.k1 W Q QP)
theorem F24.k2_a (C0 : KT) : evI Try.prog 25 (fun _ => W) nobody QP (regOps (Code.at F24.code [1, 0])) (isAt F24.g1 10) ((thenQ (C0) (Q)) .normal) s h = F24.t2 s h C0 := by kernel_rfl
theorem F24.k2_ok : evG Try.prog 25 (fun _ => W) nobody QP (regOps (Code.at F24.code [1, 0])) (F24.g1.drop 10) ((thenQ (F24.k1 W Q QP) (Q)) .normal) s h = F24.k2 W Q QP s h := nd_g (is := isAt F24.g1 10) (rest := F24.g1.drop 11) (by kernel_rfl) (fun _ _ => rfl) (F24.k2_a W Q QP s h (F24.k1 W Q QP))
def F24.t3 (s : St) (h : AH) (C0 : KT) : Prop :=
  aIg false (s.tm 21) (
  pBin Try.prog .eql 5 true (s.tm 0) (.sc (.int .u8 44)) fun t2 =>
  C0 ⟨puts s.tm [(22, (s.tm 0)), (23, t2)], s.ds⟩ h) (
  C0 ⟨puts s.tm [(22, noA), (23, noA)], s.ds⟩ h)
def F24.k3 (W : Nat → Prop) (Q : Post) (QP : PPost) (s : St) (h : AH) : Prop := F24.t3 s h (F24.k2 W Q QP)
theorem F24.k3_a (C0 : KT) : aIg false (s.tm 21) (evI Try.prog 25 (fun _ => W) nobody QP (regOps (Code.at F24.code [1, 0])) (isAt F24.g1 9) (C0) s h) ((C0) (skI 25 (regOps (Code.at F24.code [1, 0])) (isAt F24.g1 9) s) h) = F24.t3 s h C0 := by kernel_rfl
theorem F24.k3_ok : evG Try.prog 25 (fun _ => W) nobody QP (regOps (Code.at F24.code [1, 0])) (F24.g1.drop 9) ((thenQ (F24.k1 W Q QP) (Q)) .normal) s h = F24.k3 W Q QP s h := nd_gw (j := 18) (is := isAt F24.g1 9) (rest := F24.g1.drop 10) (by kernel_rfl) (d := 21) (by kernel_rfl) (F24.k2_ok W Q QP) (F24.k3_a W QP s h (F24.k2 W Q QP))
def F24.t4 (s : St) (h : AH) (C0 : KT) : Prop :=
  pPick (s.tm 17) (.sc (.bool true)) (s.tm 19) fun t3 =>
  C0 ⟨puts s.tm [(20, t3), (21, t3)], s.ds⟩ h
def F24.k4 (W : Nat → Prop) (Q : Post) (QP : PPost) (s : St) (h : AH) : Prop := F24.t4 s h (F24.k3 W Q QP)
theorem F24.k4_a (C0 : KT) : evI Try.prog 25 (fun _ => W) nobody QP (regOps (Code.at F24.code [1, 0])) (isAt F24.g1 8) (C0) s h = F24.t4 s h C0 := by kernel_rfl
theorem F24.k4_ok : evG Try.prog 25 (fun _ => W) nobody QP (regOps (Code.at F24.code [1, 0])) (F24.g1.drop 8) ((thenQ (F24.k1 W Q QP) (Q)) .normal) s h = F24.k4 W Q QP s h := nd_g (is := isAt F24.g1 8) (rest := F24.g1.drop 9) (by kernel_rfl) (F24.k3_ok W Q QP) (F24.k4_a W QP s h (F24.k3 W Q QP))
def F24.t5 (s : St) (h : AH) (C0 : KT) : Prop :=
  aIg false (s.tm 17) (
  pBin Try.prog .eql 5 true (s.tm 0) (.sc (.int .u8 59)) fun t4 =>
  C0 ⟨puts s.tm [(18, (s.tm 0)), (19, t4)], s.ds⟩ h) (
  C0 ⟨puts s.tm [(18, noA), (19, noA)], s.ds⟩ h)
def F24.k5 (W : Nat → Prop) (Q : Post) (QP : PPost) (s : St) (h : AH) : Prop := F24.t5 s h (F24.k4 W Q QP)
theorem F24.k5_a (C0 : KT) : aIg false (s.tm 17) (evI Try.prog 25 (fun _ => W) nobody QP (regOps (Code.at F24.code [1, 0])) (isAt F24.g1 7) (C0) s h) ((C0) (skI 25 (regOps (Code.at F24.code [1, 0])) (isAt F24.g1 7) s) h) = F24.t5 s h C0 := by kernel_rfl
theorem F24.k5_ok : evG Try.prog 25 (fun _ => W) nobody QP (regOps (Code.at F24.code [1, 0])) (F24.g1.drop 7) ((thenQ (F24.k1 W Q QP) (Q)) .normal) s h = F24.k5 W Q QP s h := nd_gw (j := 14) (is := isAt F24.g1 7) (rest := F24.g1.drop 8) (by kernel_rfl) (d := 17) (by kernel_rfl) (F24.k4_ok W Q QP) (F24.k5_a W QP s h (F24.k4 W Q QP))
def F24.t6 (s : St) (h : AH) (C0 : KT) : Prop :=
  pPick (s.tm 13) (.sc (.bool true)) (s.tm 15) fun t5 =>
  C0 ⟨puts s.tm [(16, t5), (17, t5)], s.ds⟩ h
def F24.k6 (W : Nat → Prop) (Q : Post) (QP : PPost) (s : St) (h : AH) : Prop := F24.t6 s h (F24.k5 W Q QP)
theorem F24.k6_a (C0 : KT) : evI Try.prog 25 (fun _ => W) nobody QP (regOps (Code.at F24.code [1, 0])) (isAt F24.g1 6) (C0) s h = F24.t6 s h C0 := by kernel_rfl
theorem F24.k6_ok : evG Try.prog 25 (fun _ => W) nobody QP (regOps (Code.at F24.code [1, 0])) (F24.g1.drop 6) ((thenQ (F24.k1 W Q QP) (Q)) .normal) s h = F24.k6 W Q QP s h := nd_g (is := isAt F24.g1 6) (rest := F24.g1.drop 7) (by kernel_rfl) (F24.k5_ok W Q QP) (F24.k6_a W QP s h (F24.k5 W Q QP))
def F24.t7 (s : St) (h : AH) (C0 : KT) : Prop :=
  aIg false (s.tm 13) (
  pBin Try.prog .eql 5 true (s.tm 0) (.sc (.int .u8 93)) fun t6 =>
  C0 ⟨puts s.tm [(14, (s.tm 0)), (15, t6)], s.ds⟩ h) (
  C0 ⟨puts s.tm [(14, noA), (15, noA)], s.ds⟩ h)
def F24.k7 (W : Nat → Prop) (Q : Post) (QP : PPost) (s : St) (h : AH) : Prop := F24.t7 s h (F24.k6 W Q QP)
theorem F24.k7_a (C0 : KT) : aIg false (s.tm 13) (evI Try.prog 25 (fun _ => W) nobody QP (regOps (Code.at F24.code [1, 0])) (isAt F24.g1 5) (C0) s h) ((C0) (skI 25 (regOps (Code.at F24.code [1, 0])) (isAt F24.g1 5) s) h) = F24.t7 s h C0 := by kernel_rfl
theorem F24.k7_ok : evG Try.prog 25 (fun _ => W) nobody QP (regOps (Code.at F24.code [1, 0])) (F24.g1.drop 5) ((thenQ (F24.k1 W Q QP) (Q)) .normal) s h = F24.k7 W Q QP s h := nd_gw (j := 10) (is := isAt F24.g1 5) (rest := F24.g1.drop 6) (by kernel_rfl) (d := 13) (by kernel_rfl) (F24.k6_ok W Q QP) (F24.k7_a W QP s h (F24.k6 W Q QP))
def F24.t8 (s : St) (h : AH) (C0 : KT) : Prop :=
  pPick (s.tm 9) (.sc (.bool true)) (s.tm 11) fun t7 =>
  C0 ⟨puts s.tm [(12, t7), (13, t7)], s.ds⟩ h
def F24.k8 (W : Nat → Prop) (Q : Post) (QP : PPost) (s : St) (h : AH) : Prop := F24.t8 s h (F24.k7 W Q QP)
theorem F24.k8_a (C0 : KT) : evI Try.prog 25 (fun _ => W) nobody QP (regOps (Code.at F24.code [1, 0])) (isAt F24.g1 4) (C0) s h = F24.t8 s h C0 := by kernel_rfl
theorem F24.k8_ok : evG Try.prog 25 (fun _ => W) nobody QP (regOps (Code.at F24.code [1, 0])) (F24.g1.drop 4) ((thenQ (F24.k1 W Q QP) (Q)) .normal) s h = F24.k8 W Q QP s h := nd_g (is := isAt F24.g1 4) (rest := F24.g1.drop 5) (by kernel_rfl) (F24.k7_ok W Q QP) (F24.k8_a W QP s h (F24.k7 W Q QP))
def F24.t9 (s : St) (h : AH) (C0 : KT) : Prop :=
  aIg false (s.tm 9) (
  pBin Try.prog .eql 5 true (s.tm 0) (.sc (.int .u8 91)) fun t8 =>
  C0 ⟨puts s.tm [(10, (s.tm 0)), (11, t8)], s.ds⟩ h) (
  C0 ⟨puts s.tm [(10, noA), (11, noA)], s.ds⟩ h)
def F24.k9 (W : Nat → Prop) (Q : Post) (QP : PPost) (s : St) (h : AH) : Prop := F24.t9 s h (F24.k8 W Q QP)
theorem F24.k9_a (C0 : KT) : aIg false (s.tm 9) (evI Try.prog 25 (fun _ => W) nobody QP (regOps (Code.at F24.code [1, 0])) (isAt F24.g1 3) (C0) s h) ((C0) (skI 25 (regOps (Code.at F24.code [1, 0])) (isAt F24.g1 3) s) h) = F24.t9 s h C0 := by kernel_rfl
theorem F24.k9_ok : evG Try.prog 25 (fun _ => W) nobody QP (regOps (Code.at F24.code [1, 0])) (F24.g1.drop 3) ((thenQ (F24.k1 W Q QP) (Q)) .normal) s h = F24.k9 W Q QP s h := nd_gw (j := 6) (is := isAt F24.g1 3) (rest := F24.g1.drop 4) (by kernel_rfl) (d := 9) (by kernel_rfl) (F24.k8_ok W Q QP) (F24.k9_a W QP s h (F24.k8 W Q QP))
def F24.t10 (s : St) (h : AH) (C0 : KT) : Prop :=
  pPick (s.tm 5) (.sc (.bool true)) (s.tm 7) fun t9 =>
  C0 ⟨puts s.tm [(8, t9), (9, t9)], s.ds⟩ h
def F24.k10 (W : Nat → Prop) (Q : Post) (QP : PPost) (s : St) (h : AH) : Prop := F24.t10 s h (F24.k9 W Q QP)
theorem F24.k10_a (C0 : KT) : evI Try.prog 25 (fun _ => W) nobody QP (regOps (Code.at F24.code [1, 0])) (isAt F24.g1 2) (C0) s h = F24.t10 s h C0 := by kernel_rfl
theorem F24.k10_ok : evG Try.prog 25 (fun _ => W) nobody QP (regOps (Code.at F24.code [1, 0])) (F24.g1.drop 2) ((thenQ (F24.k1 W Q QP) (Q)) .normal) s h = F24.k10 W Q QP s h := nd_g (is := isAt F24.g1 2) (rest := F24.g1.drop 3) (by kernel_rfl) (F24.k9_ok W Q QP) (F24.k10_a W QP s h (F24.k9 W Q QP))
def F24.t11 (s : St) (h : AH) (C0 : KT) : Prop :=
  aIg false (s.tm 5) (
  pBin Try.prog .eql 5 true (s.tm 0) (.sc (.int .u8 125)) fun t10 =>
  C0 ⟨puts s.tm [(6, (s.tm 0)), (7, t10)], s.ds⟩ h) (
  C0 ⟨puts s.tm [(6, noA), (7, noA)], s.ds⟩ h)
def F24.k11 (W : Nat → Prop) (Q : Post) (QP : PPost) (s : St) (h : AH) : Prop := F24.t11 s h (F24.k10 W Q QP)
theorem F24.k11_a (C0 : KT) : aIg false (s.tm 5) (evI Try.prog 25 (fun _ => W) nobody QP (regOps (Code.at F24.code [1, 0])) (isAt F24.g1 1) (C0) s h) ((C0) (skI 25 (regOps (Code.at F24.code [1, 0])) (isAt F24.g1 1) s) h) = F24.t11 s h C0 := by kernel_rfl
theorem F24.k11_ok : evG Try.prog 25 (fun _ => W) nobody QP (regOps (Code.at F24.code [1, 0])) (F24.g1.drop 1) ((thenQ (F24.k1 W Q QP) (Q)) .normal) s h = F24.k11 W Q QP s h := nd_gw (j := 2) (is := isAt F24.g1 1) (rest := F24.g1.drop 2) (by kernel_rfl) (d := 5) (by kernel_rfl) (F24.k10_ok W Q QP) (F24.k11_a W QP s h (F24.k10 W Q QP))
def F24.t12 (s : St) (h : AH) (C0 : KT) : Prop :=
  pBin Try.prog .eql 5 true (s.tm 0) (.sc (.int .u8 123)) fun t11 =>
  C0 ⟨puts s.tm [(3, (s.tm 0)), (4, t11), (5, t11)], s.ds⟩ h
def F24.k12 (W : Nat → Prop) (Q : Post) (QP : PPost) (s : St) (h : AH) : Prop := F24.t12 s h (F24.k11 W Q QP)
theorem F24.k12_a (C0 : KT) : evI Try.prog 25 (fun _ => W) nobody QP (regOps (Code.at F24.code [1, 0])) (isAt F24.g1 0) (C0) s h = F24.t12 s h C0 := by kernel_rfl
theorem F24.k12_ok : evG Try.prog 25 (fun _ => W) nobody QP (regOps (Code.at F24.code [1, 0])) (F24.g1.drop 0) ((thenQ (F24.k1 W Q QP) (Q)) .normal) s h = F24.k12 W Q QP s h := nd_g (is := isAt F24.g1 0) (rest := F24.g1.drop 1) (by kernel_rfl) (F24.k11_ok W Q QP) (F24.k12_a W QP s h (F24.k11 W Q QP))
theorem F24.o1 : aw Try.prog 25 W F24.pl (Code.at F24.code [1, 0]) (thenQ (F24.k1 W Q QP) (Q)) QP s h = F24.k12 W Q QP s h := nd_groups (id := 1) (draw := false) (ops := (regOps (Code.at F24.code [1, 0]))) (gs := F24.g1.drop 0) (by kernel_rfl) (by kernel_rfl) (F24.k12_ok W Q QP s h)
theorem F24.o2 : aw Try.prog 25 W F24.pl (Code.at F24.code [1]) (Q) QP s h = F24.k12 W Q QP s h := nd_seq (a := (Code.at F24.code [1, 0])) (b := (Code.at F24.code [1, 1])) (by kernel_rfl) (F24.k1_ok W Q QP) (F24.o1 W Q QP s h)
def F24.t13 (s : St) (h : AH) (C0 : KT) : Prop :=
  C0 ⟨puts s.tm [(2, (.sc (.bool false)))], s.ds⟩ h
def F24.k13 (W : Nat → Prop) (Q : Post) (QP : PPost) (s : St) (h : AH) : Prop := F24.t13 s h (F24.k12 W Q QP)
theorem F24.k13_a (C0 : KT) : aw Try.prog 25 W F24.pl (Code.at F24.code [0]) (thenQ (C0) (Q)) QP s h = F24.t13 s h C0 := by kernel_rfl
theorem F24.k13_ok : aw Try.prog 25 W F24.pl (Code.at F24.code []) (Q) QP s h = F24.k13 W Q QP s h := nd_seq (a := (Code.at F24.code [0])) (b := (Code.at F24.code [1])) (by kernel_rfl) (F24.o2 W Q QP) (F24.k13_a W Q QP s h (F24.k12 W Q QP))
end
theorem F24.calls {x0 : AV} {h : AH} {M : Nat → Prop} {R : AE → AH → Prop} (hp : F24.k13 (fun id => M id ∨ h.next ≤ id) (bodyQ Try.prog [.tmp 2] R) (bodyP R) (s0 [x0]) h) : ACalls Try.prog 24 [x0] h M R :=
  acalls_of Try.mixed Try.func24 rfl (Nat.le_of_ble_eq_true rfl) F24.ok (by rw [show Try.f24.ntmps = 25 from rfl, show Try.f24.results.toList = [.tmp 2] from rfl]; exact Eq.mpr (F24.k13_ok _ _ _ _ _) hp)
attribute [simp] F24.k1 F24.t1 F24.k2 F24.t2 F24.k3 F24.t3 F24.k4 F24.t4 F24.k5 F24.t5 F24.k6 F24.t6 F24.k7 F24.t7 F24.k8 F24.t8 F24.k9 F24.t9 F24.k10 F24.t10 F24.k11 F24.t11 F24.k12 F24.t12 F24.k13 F24.t13
end Go.Proofs.Ythkkgbmjjpcfaaa

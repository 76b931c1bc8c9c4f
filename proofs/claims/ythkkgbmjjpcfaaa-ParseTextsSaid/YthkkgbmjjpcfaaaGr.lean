/- The body of the scanner of the document, written out for the table; printed by a program of this session. No condition. -/
import Derived.Test.YthkkgbmjjpcfaaaGl
namespace Go.Proofs.Ythkkgbmjjpcfaaa
open Go.Ab

/-! cubit/cubitref09.Scan -/
section
variable (W : Nat → Prop) (Q : Post) (QP : PPost) (s : St) (h : AH)
noncomputable def F11.code : Code := Try.f11.body.getD .skip
def F11.g1 : Grps := [(none, [(0, false), (1, false), (2, false), (3, false), (4, false)]), (some (4, true), [(5, false), (6, false), (7, false), (8, false)]), (none, [(9, false)])]
def F11.g2 : Grps := [(none, [(0, false), (1, false), (2, false), (3, false), (4, false)]), (some (4, true), [(5, false), (6, false), (7, false), (8, false), (9, false)]), (some (9, false), [(10, false), (11, false), (12, false), (13, false)]), (some (4, true), [(14, false)]), (none, [(15, false)])]
def F11.g3 : Grps := [(none, [(0, false), (1, false), (2, false), (3, false), (4, false)]), (some (4, true), [(5, false), (6, false), (7, false), (8, false)]), (none, [(9, false)])]
def F11.g4 : Grps := [(none, [(0, false), (1, false), (2, false), (3, false), (4, false)]), (some (4, true), [(5, false), (6, false), (7, false), (8, false)]), (none, [(9, false)])]
def F11.pl : Plans := [(12, ⟨F11.g1, false, []⟩), (15, ⟨F11.g2, false, []⟩), (19, ⟨F11.g4, false, []⟩), (21, ⟨F11.g3, false, []⟩)]
theorem F11.ok : okCode F11.pl F11.code = true := by kernel_rfl
def F11.t1 (Q : Post) (s : St) (h : AH) : Prop :=
  Q .ret ⟨puts s.tm [(120, (s.tm 5)), (2, (s.tm 5)), (3, (.sc (.int .i64 0))), (4, (.sc (.int .i64 0)))], s.ds⟩ h
def F11.k1 (W : Nat → Prop) (Q : Post) (QP : PPost) (s : St) (h : AH) : Prop := F11.t1 Q s h
theorem F11.k1_a : aw Try.prog 121 W F11.pl (Code.at F11.code [1, 1, 1, 1, 1, 0]) (thenQ (aw Try.prog 121 W F11.pl (Code.at F11.code [1, 1, 1, 1, 1, 1]) (Q) QP) (Q)) QP s h = F11.t1 Q s h := by kernel_rfl
theorem F11.k1_ok : aw Try.prog 121 W F11.pl (Code.at F11.code [1, 1, 1, 1, 1]) (Q) QP s h = F11.k1 W Q QP s h := nd_seq (a := (Code.at F11.code [1, 1, 1, 1, 1, 0])) (b := (Code.at F11.code [1, 1, 1, 1, 1, 1])) (by kernel_rfl) (fun _ _ => rfl) (F11.k1_a W Q QP s h)
def F11.t2 (Q : Post) (s : St) (h : AH) : Prop :=
  pBin Try.prog .add 3 true (s.tm 6) (.sc (.int .i64 1)) fun t1 =>
  Q .normal ⟨puts s.tm [(24, (s.tm 6)), (25, t1), (6, t1)], s.ds⟩ h
def F11.k2 (W : Nat → Prop) (Q : Post) (QP : PPost) (s : St) (h : AH) : Prop := F11.t2 Q s h
theorem F11.k2_a : aw Try.prog 121 W F11.pl (Code.at F11.code [1, 1, 1, 1, 0, 0, 0, 1, 0, 1, 1, 0, 1, 0, 0]) (thenQ (aw Try.prog 121 W F11.pl (Code.at F11.code [1, 1, 1, 1, 0, 0, 0, 1, 0, 1, 1, 0, 1, 0, 1]) (blockQ 2 (blockQ 1 (Q))) QP) (blockQ 2 (blockQ 1 (Q)))) QP s h = F11.t2 Q s h := by kernel_rfl
theorem F11.k2_ok : aw Try.prog 121 W F11.pl (Code.at F11.code [1, 1, 1, 1, 0, 0, 0, 1, 0, 1, 1, 0, 1, 0]) (blockQ 2 (blockQ 1 (Q))) QP s h = F11.k2 W Q QP s h := nd_seq (a := (Code.at F11.code [1, 1, 1, 1, 0, 0, 0, 1, 0, 1, 1, 0, 1, 0, 0])) (b := (Code.at F11.code [1, 1, 1, 1, 0, 0, 0, 1, 0, 1, 1, 0, 1, 0, 1])) (by kernel_rfl) (fun _ _ => rfl) (F11.k2_a W Q QP s h)
def F11.t3 (Q : Post) (s : St) (h : AH) : Prop :=
  Q .normal s h
def F11.k3 (W : Nat → Prop) (Q : Post) (QP : PPost) (s : St) (h : AH) : Prop := F11.t3 Q s h
theorem F11.k3_a : aw Try.prog 121 W F11.pl (Code.at F11.code [1, 1, 1, 1, 0, 0, 0, 1, 0, 1, 1, 0, 1, 1, 1, 0, 1]) (blockQ 2 (blockQ 1 (Q))) QP s h = F11.t3 Q s h := by kernel_rfl
theorem F11.k3_ok : aw Try.prog 121 W F11.pl (Code.at F11.code [1, 1, 1, 1, 0, 0, 0, 1, 0, 1, 1, 0, 1, 1, 1, 0, 1]) (blockQ 2 (blockQ 1 (Q))) QP s h = F11.k3 W Q QP s h := (F11.k3_a W Q QP s h)
def F11.t4 (Q : Post) (s : St) (h : AH) : Prop :=
  pBin Try.prog .add 3 true (s.tm 6) (.sc (.int .i64 1)) fun t2 =>
  Q .normal ⟨puts s.tm [(39, (s.tm 6)), (40, t2), (6, t2)], s.ds⟩ h
def F11.k4 (W : Nat → Prop) (Q : Post) (QP : PPost) (s : St) (h : AH) : Prop := F11.t4 Q s h
theorem F11.k4_a : aw Try.prog 121 W F11.pl (Code.at F11.code [1, 1, 1, 1, 0, 0, 0, 1, 0, 1, 1, 0, 1, 1, 1, 0, 0, 0, 0, 1, 0]) (blockQ 4 (Q)) QP s h = F11.t4 Q s h := by kernel_rfl
theorem F11.k4_ok : aw Try.prog 121 W F11.pl (Code.at F11.code [1, 1, 1, 1, 0, 0, 0, 1, 0, 1, 1, 0, 1, 1, 1, 0, 0, 0, 0, 1, 0]) (blockQ 4 (Q)) QP s h = F11.k4 W Q QP s h := (F11.k4_a W Q QP s h)
theorem F11.o1 : aw Try.prog 121 W F11.pl (Code.at F11.code [1, 1, 1, 1, 0, 0, 0, 1, 0, 1, 1, 0, 1, 1, 1, 0, 0, 0, 0, 1]) (Q) QP s h = F11.k4 W Q QP s h := nd_block (a := (Code.at F11.code [1, 1, 1, 1, 0, 0, 0, 1, 0, 1, 1, 0, 1, 1, 1, 0, 0, 0, 0, 1, 0])) (by kernel_rfl) (F11.k4_ok W Q QP s h)
def F11.t5 (Q : Post) (s : St) (h : AH) (C0 : KT) : Prop :=
  aIf (s.tm 38) (
  C0 s h) (
  Q (.exit 3) s h)
def F11.k5 (W : Nat → Prop) (Q : Post) (QP : PPost) (s : St) (h : AH) : Prop := F11.t5 Q s h (F11.k4 W Q QP)
theorem F11.k5_a (C0 : KT) : aIf (aev s (.tmp 38)) (aw Try.prog 121 W F11.pl (Code.at F11.code [1, 1, 1, 1, 0, 0, 0, 1, 0, 1, 1, 0, 1, 1, 1, 0, 0, 0, 0, 0, 1, 0]) (thenQ (C0) (Q)) QP s h) (aw Try.prog 121 W F11.pl (Code.at F11.code [1, 1, 1, 1, 0, 0, 0, 1, 0, 1, 1, 0, 1, 1, 1, 0, 0, 0, 0, 0, 1, 1]) (thenQ (C0) (Q)) QP s h) = F11.t5 Q s h C0 := by kernel_rfl
theorem F11.k5_ok : aw Try.prog 121 W F11.pl (Code.at F11.code [1, 1, 1, 1, 0, 0, 0, 1, 0, 1, 1, 0, 1, 1, 1, 0, 0, 0, 0, 0, 1]) (thenQ (F11.k4 W Q QP) (Q)) QP s h = F11.k5 W Q QP s h := nd_cond (a := (Code.at F11.code [1, 1, 1, 1, 0, 0, 0, 1, 0, 1, 1, 0, 1, 1, 1, 0, 0, 0, 0, 0, 1, 0])) (b := (Code.at F11.code [1, 1, 1, 1, 0, 0, 0, 1, 0, 1, 1, 0, 1, 1, 1, 0, 0, 0, 0, 0, 1, 1])) (by kernel_rfl) rfl rfl (F11.k5_a W Q QP s h (F11.k4 W Q QP))
def F11.t6 (s : St) (h : AH) (C0 C1 : KT) : Prop :=
  pPick (s.tm 33) (s.tm 37) (.sc (.bool false)) fun t3 =>
  C1 ⟨puts s.tm [(38, t3)], s.ds⟩ h
def F11.k6 (W : Nat → Prop) (Q : Post) (QP : PPost) (s : St) (h : AH) : Prop := F11.t6 s h (F11.k4 W Q QP) (F11.k5 W Q QP)
theorem F11.k6_a (C0 C1 : KT) : evI Try.prog 121 (fun _ => W) nobody QP (regOps (Code.at F11.code [1, 1, 1, 1, 0, 0, 0, 1, 0, 1, 1, 0, 1, 1, 1, 0, 0, 0, 0, 0, 0])) (isAt F11.g1 2) ((thenQ (C1) (thenQ (C0) (Q))) .normal) s h = F11.t6 s h C0 C1 := by kernel_rfl
theorem F11.k6_ok : evG Try.prog 121 (fun _ => W) nobody QP (regOps (Code.at F11.code [1, 1, 1, 1, 0, 0, 0, 1, 0, 1, 1, 0, 1, 1, 1, 0, 0, 0, 0, 0, 0])) (F11.g1.drop 2) ((thenQ (F11.k5 W Q QP) (thenQ (F11.k4 W Q QP) (Q))) .normal) s h = F11.k6 W Q QP s h := nd_g (is := isAt F11.g1 2) (rest := F11.g1.drop 3) (by kernel_rfl) (fun _ _ => rfl) (F11.k6_a W Q QP s h (F11.k4 W Q QP) (F11.k5 W Q QP))
def F11.t7 (s : St) (h : AH) (C0 : KT) : Prop :=
  aIg true (s.tm 33) (
  pIxS true (s.tm 0) (s.tm 6) fun t4 =>
  pBin Try.prog .neq 5 true t4 (.sc (.int .u8 10)) fun t5 =>
  C0 ⟨puts s.tm [(34, (s.tm 0)), (35, (s.tm 6)), (36, t4), (37, t5)], s.ds⟩ h) (
  C0 ⟨puts s.tm [(34, noA), (35, noA), (36, noA), (37, noA)], s.ds⟩ h)
def F11.k7 (W : Nat → Prop) (Q : Post) (QP : PPost) (s : St) (h : AH) : Prop := F11.t7 s h (F11.k6 W Q QP)
theorem F11.k7_a (C0 : KT) : aIg true (s.tm 33) (evI Try.prog 121 (fun _ => W) nobody QP (regOps (Code.at F11.code [1, 1, 1, 1, 0, 0, 0, 1, 0, 1, 1, 0, 1, 1, 1, 0, 0, 0, 0, 0, 0])) (isAt F11.g1 1) (C0) s h) ((C0) (skI 121 (regOps (Code.at F11.code [1, 1, 1, 1, 0, 0, 0, 1, 0, 1, 1, 0, 1, 1, 1, 0, 0, 0, 0, 0, 0])) (isAt F11.g1 1) s) h) = F11.t7 s h C0 := by kernel_rfl
theorem F11.k7_ok : evG Try.prog 121 (fun _ => W) nobody QP (regOps (Code.at F11.code [1, 1, 1, 1, 0, 0, 0, 1, 0, 1, 1, 0, 1, 1, 1, 0, 0, 0, 0, 0, 0])) (F11.g1.drop 1) ((thenQ (F11.k5 W Q QP) (thenQ (F11.k4 W Q QP) (Q))) .normal) s h = F11.k7 W Q QP s h := nd_gw (j := 4) (is := isAt F11.g1 1) (rest := F11.g1.drop 2) (by kernel_rfl) (d := 33) (by kernel_rfl) (F11.k6_ok W Q QP) (F11.k7_a W QP s h (F11.k6 W Q QP))
def F11.t8 (s : St) (h : AH) (C0 : KT) : Prop :=
  (strArg (s.tm 0) = true) ∧ pLen (s.tm 0) fun t6 =>
  pBin Try.prog .lss 3 false (s.tm 6) t6 fun t7 =>
  C0 ⟨puts s.tm [(29, (s.tm 6)), (30, (s.tm 0)), (31, t6), (32, t7), (33, t7)], s.ds⟩ h
def F11.k8 (W : Nat → Prop) (Q : Post) (QP : PPost) (s : St) (h : AH) : Prop := F11.t8 s h (F11.k7 W Q QP)
theorem F11.k8_a (C0 : KT) : evI Try.prog 121 (fun _ => W) nobody QP (regOps (Code.at F11.code [1, 1, 1, 1, 0, 0, 0, 1, 0, 1, 1, 0, 1, 1, 1, 0, 0, 0, 0, 0, 0])) (isAt F11.g1 0) (C0) s h = F11.t8 s h C0 := by kernel_rfl
theorem F11.k8_ok : evG Try.prog 121 (fun _ => W) nobody QP (regOps (Code.at F11.code [1, 1, 1, 1, 0, 0, 0, 1, 0, 1, 1, 0, 1, 1, 1, 0, 0, 0, 0, 0, 0])) (F11.g1.drop 0) ((thenQ (F11.k5 W Q QP) (thenQ (F11.k4 W Q QP) (Q))) .normal) s h = F11.k8 W Q QP s h := nd_g (is := isAt F11.g1 0) (rest := F11.g1.drop 1) (by kernel_rfl) (F11.k7_ok W Q QP) (F11.k8_a W QP s h (F11.k7 W Q QP))
theorem F11.o2 : aw Try.prog 121 W F11.pl (Code.at F11.code [1, 1, 1, 1, 0, 0, 0, 1, 0, 1, 1, 0, 1, 1, 1, 0, 0, 0, 0, 0, 0]) (thenQ (F11.k5 W Q QP) (thenQ (F11.k4 W Q QP) (Q))) QP s h = F11.k8 W Q QP s h := nd_groups (id := 12) (draw := false) (ops := (regOps (Code.at F11.code [1, 1, 1, 1, 0, 0, 0, 1, 0, 1, 1, 0, 1, 1, 1, 0, 0, 0, 0, 0, 0]))) (gs := F11.g1.drop 0) (by kernel_rfl) (by kernel_rfl) (F11.k8_ok W Q QP s h)
theorem F11.o3 : aw Try.prog 121 W F11.pl (Code.at F11.code [1, 1, 1, 1, 0, 0, 0, 1, 0, 1, 1, 0, 1, 1, 1, 0, 0, 0, 0, 0]) (thenQ (F11.k4 W Q QP) (Q)) QP s h = F11.k8 W Q QP s h := nd_seq (a := (Code.at F11.code [1, 1, 1, 1, 0, 0, 0, 1, 0, 1, 1, 0, 1, 1, 1, 0, 0, 0, 0, 0, 0])) (b := (Code.at F11.code [1, 1, 1, 1, 0, 0, 0, 1, 0, 1, 1, 0, 1, 1, 1, 0, 0, 0, 0, 0, 1])) (by kernel_rfl) (F11.k5_ok W Q QP) (F11.o2 W Q QP s h)
theorem F11.o4 : aw Try.prog 121 W F11.pl (Code.at F11.code [1, 1, 1, 1, 0, 0, 0, 1, 0, 1, 1, 0, 1, 1, 1, 0, 0, 0, 0]) (Q) QP s h = F11.k8 W Q QP s h := nd_seq (a := (Code.at F11.code [1, 1, 1, 1, 0, 0, 0, 1, 0, 1, 1, 0, 1, 1, 1, 0, 0, 0, 0, 0])) (b := (Code.at F11.code [1, 1, 1, 1, 0, 0, 0, 1, 0, 1, 1, 0, 1, 1, 1, 0, 0, 0, 0, 1])) (by kernel_rfl) (F11.o1 W Q QP) (F11.o3 W Q QP s h)
noncomputable def F11.c2 : Code := (Code.at F11.code [1, 1, 1, 1, 0, 0, 0, 1, 0, 1, 1, 0, 1, 1, 1, 0, 0, 0, 0])
theorem F11.l2 : aw Try.prog 121 W F11.pl F11.c2 Q QP s h = F11.k8 W Q QP s h := F11.o4 W Q QP s h
def F11.k9 (W : Nat → Prop) (Q : Post) (QP : PPost) (s : St) (h : AH) : Prop := aLoop (aw Try.prog 121 W F11.pl F11.c2) (blockQ 3 (thenQ (F11.k3 W Q QP) (blockQ 2 (blockQ 1 (Q))))) QP s h
theorem F11.k9_ok : aw Try.prog 121 W F11.pl (Code.at F11.code [1, 1, 1, 1, 0, 0, 0, 1, 0, 1, 1, 0, 1, 1, 1, 0, 0, 0]) (blockQ 3 (thenQ (F11.k3 W Q QP) (blockQ 2 (blockQ 1 (Q))))) QP s h = F11.k9 W Q QP s h := nd_loop (a := F11.c2) (by kernel_rfl)
theorem F11.o5 : aw Try.prog 121 W F11.pl (Code.at F11.code [1, 1, 1, 1, 0, 0, 0, 1, 0, 1, 1, 0, 1, 1, 1, 0, 0]) (thenQ (F11.k3 W Q QP) (blockQ 2 (blockQ 1 (Q)))) QP s h = F11.k9 W Q QP s h := nd_block (a := (Code.at F11.code [1, 1, 1, 1, 0, 0, 0, 1, 0, 1, 1, 0, 1, 1, 1, 0, 0, 0])) (by kernel_rfl) (F11.k9_ok W Q QP s h)
theorem F11.o6 : aw Try.prog 121 W F11.pl (Code.at F11.code [1, 1, 1, 1, 0, 0, 0, 1, 0, 1, 1, 0, 1, 1, 1, 0]) (blockQ 2 (blockQ 1 (Q))) QP s h = F11.k9 W Q QP s h := nd_seq (a := (Code.at F11.code [1, 1, 1, 1, 0, 0, 0, 1, 0, 1, 1, 0, 1, 1, 1, 0, 0])) (b := (Code.at F11.code [1, 1, 1, 1, 0, 0, 0, 1, 0, 1, 1, 0, 1, 1, 1, 0, 1])) (by kernel_rfl) (F11.k3_ok W Q QP) (F11.o5 W Q QP s h)
def F11.t10 (W : Nat → Prop) (Q : Post) (s : St) (h : AH) : Prop :=
  pSlS (s.tm 0) (some (s.tm 8)) (some (s.tm 6)) fun t8 =>
  pBld (some ([.int .i64 0, .string ⟨#[]⟩, .int .i64 0], .inl [(0, 1), (1, 1), (2, 1)])) [(0, (.sc (.int .i64 1))), (1, t8), (2, (s.tm 8))] fun t9 =>
  eBSl (some (3, 38, [.int .i64 0, .string ⟨#[]⟩, .int .i64 0])) 1 [(0, t9)] h fun t10 h11 =>
  eApp (some (3, 32, 38)) (s.tm 5) t10 h11 W fun t12 h13 =>
  Q .normal ⟨puts s.tm [(62, (s.tm 5)), (63, (s.tm 0)), (64, (s.tm 8)), (65, (s.tm 6)), (66, t8), (67, (s.tm 8)), (68, t9), (69, t10), (70, t12), (5, t12)], s.ds⟩ h13
def F11.k10 (W : Nat → Prop) (Q : Post) (QP : PPost) (s : St) (h : AH) : Prop := F11.t10 W Q s h
theorem F11.k10_a : aw Try.prog 121 W F11.pl (Code.at F11.code [1, 1, 1, 1, 0, 0, 0, 1, 0, 1, 1, 0, 1, 1, 1, 1, 1, 0, 1]) (blockQ 2 (blockQ 1 (Q))) QP s h = F11.t10 W Q s h := by kernel_rfl
theorem F11.k10_ok : aw Try.prog 121 W F11.pl (Code.at F11.code [1, 1, 1, 1, 0, 0, 0, 1, 0, 1, 1, 0, 1, 1, 1, 1, 1, 0, 1]) (blockQ 2 (blockQ 1 (Q))) QP s h = F11.k10 W Q QP s h := (F11.k10_a W Q QP s h)
def F11.t11 (Q : Post) (s : St) (h : AH) : Prop :=
  pBin Try.prog .add 3 true (s.tm 6) (.sc (.int .i64 1)) fun t14 =>
  Q .normal ⟨puts s.tm [(60, (s.tm 6)), (61, t14), (6, t14)], s.ds⟩ h
def F11.k11 (W : Nat → Prop) (Q : Post) (QP : PPost) (s : St) (h : AH) : Prop := F11.t11 Q s h
theorem F11.k11_a : aw Try.prog 121 W F11.pl (Code.at F11.code [1, 1, 1, 1, 0, 0, 0, 1, 0, 1, 1, 0, 1, 1, 1, 1, 1, 0, 0, 0, 0, 1, 0]) (blockQ 6 (Q)) QP s h = F11.t11 Q s h := by kernel_rfl
theorem F11.k11_ok : aw Try.prog 121 W F11.pl (Code.at F11.code [1, 1, 1, 1, 0, 0, 0, 1, 0, 1, 1, 0, 1, 1, 1, 1, 1, 0, 0, 0, 0, 1, 0]) (blockQ 6 (Q)) QP s h = F11.k11 W Q QP s h := (F11.k11_a W Q QP s h)
theorem F11.o7 : aw Try.prog 121 W F11.pl (Code.at F11.code [1, 1, 1, 1, 0, 0, 0, 1, 0, 1, 1, 0, 1, 1, 1, 1, 1, 0, 0, 0, 0, 1]) (Q) QP s h = F11.k11 W Q QP s h := nd_block (a := (Code.at F11.code [1, 1, 1, 1, 0, 0, 0, 1, 0, 1, 1, 0, 1, 1, 1, 1, 1, 0, 0, 0, 0, 1, 0])) (by kernel_rfl) (F11.k11_ok W Q QP s h)
def F11.t12 (Q : Post) (s : St) (h : AH) (C0 : KT) : Prop :=
  aIf (s.tm 59) (
  C0 s h) (
  Q (.exit 5) s h)
def F11.k12 (W : Nat → Prop) (Q : Post) (QP : PPost) (s : St) (h : AH) : Prop := F11.t12 Q s h (F11.k11 W Q QP)
theorem F11.k12_a (C0 : KT) : aIf (aev s (.tmp 59)) (aw Try.prog 121 W F11.pl (Code.at F11.code [1, 1, 1, 1, 0, 0, 0, 1, 0, 1, 1, 0, 1, 1, 1, 1, 1, 0, 0, 0, 0, 0, 1, 0]) (thenQ (C0) (Q)) QP s h) (aw Try.prog 121 W F11.pl (Code.at F11.code [1, 1, 1, 1, 0, 0, 0, 1, 0, 1, 1, 0, 1, 1, 1, 1, 1, 0, 0, 0, 0, 0, 1, 1]) (thenQ (C0) (Q)) QP s h) = F11.t12 Q s h C0 := by kernel_rfl
theorem F11.k12_ok : aw Try.prog 121 W F11.pl (Code.at F11.code [1, 1, 1, 1, 0, 0, 0, 1, 0, 1, 1, 0, 1, 1, 1, 1, 1, 0, 0, 0, 0, 0, 1]) (thenQ (F11.k11 W Q QP) (Q)) QP s h = F11.k12 W Q QP s h := nd_cond (a := (Code.at F11.code [1, 1, 1, 1, 0, 0, 0, 1, 0, 1, 1, 0, 1, 1, 1, 1, 1, 0, 0, 0, 0, 0, 1, 0])) (b := (Code.at F11.code [1, 1, 1, 1, 0, 0, 0, 1, 0, 1, 1, 0, 1, 1, 1, 1, 1, 0, 0, 0, 0, 0, 1, 1])) (by kernel_rfl) rfl rfl (F11.k12_a W Q QP s h (F11.k11 W Q QP))
def F11.t13 (s : St) (h : AH) (C0 C1 : KT) : Prop :=
  pPick (s.tm 48) (s.tm 58) (.sc (.bool false)) fun t15 =>
  C1 ⟨puts s.tm [(59, t15)], s.ds⟩ h
def F11.k13 (W : Nat → Prop) (Q : Post) (QP : PPost) (s : St) (h : AH) : Prop := F11.t13 s h (F11.k11 W Q QP) (F11.k12 W Q QP)
theorem F11.k13_a (C0 C1 : KT) : evI Try.prog 121 (fun _ => W) nobody QP (regOps (Code.at F11.code [1, 1, 1, 1, 0, 0, 0, 1, 0, 1, 1, 0, 1, 1, 1, 1, 1, 0, 0, 0, 0, 0, 0])) (isAt F11.g2 4) ((thenQ (C1) (thenQ (C0) (Q))) .normal) s h = F11.t13 s h C0 C1 := by kernel_rfl
theorem F11.k13_ok : evG Try.prog 121 (fun _ => W) nobody QP (regOps (Code.at F11.code [1, 1, 1, 1, 0, 0, 0, 1, 0, 1, 1, 0, 1, 1, 1, 1, 1, 0, 0, 0, 0, 0, 0])) (F11.g2.drop 4) ((thenQ (F11.k12 W Q QP) (thenQ (F11.k11 W Q QP) (Q))) .normal) s h = F11.k13 W Q QP s h := nd_g (is := isAt F11.g2 4) (rest := F11.g2.drop 5) (by kernel_rfl) (fun _ _ => rfl) (F11.k13_a W Q QP s h (F11.k11 W Q QP) (F11.k12 W Q QP))
def F11.t14 (s : St) (h : AH) (C0 : KT) : Prop :=
  aIg true (s.tm 48) (
  pPick (s.tm 53) (.sc (.bool true)) (s.tm 57) fun t16 =>
  C0 ⟨puts s.tm [(58, t16)], s.ds⟩ h) (
  C0 ⟨puts s.tm [(58, noA)], s.ds⟩ h)
def F11.k14 (W : Nat → Prop) (Q : Post) (QP : PPost) (s : St) (h : AH) : Prop := F11.t14 s h (F11.k13 W Q QP)
theorem F11.k14_a (C0 : KT) : aIg true (s.tm 48) (evI Try.prog 121 (fun _ => W) nobody QP (regOps (Code.at F11.code [1, 1, 1, 1, 0, 0, 0, 1, 0, 1, 1, 0, 1, 1, 1, 1, 1, 0, 0, 0, 0, 0, 0])) (isAt F11.g2 3) (C0) s h) ((C0) (skI 121 (regOps (Code.at F11.code [1, 1, 1, 1, 0, 0, 0, 1, 0, 1, 1, 0, 1, 1, 1, 1, 1, 0, 0, 0, 0, 0, 0])) (isAt F11.g2 3) s) h) = F11.t14 s h C0 := by kernel_rfl
theorem F11.k14_ok : evG Try.prog 121 (fun _ => W) nobody QP (regOps (Code.at F11.code [1, 1, 1, 1, 0, 0, 0, 1, 0, 1, 1, 0, 1, 1, 1, 1, 1, 0, 0, 0, 0, 0, 0])) (F11.g2.drop 3) ((thenQ (F11.k12 W Q QP) (thenQ (F11.k11 W Q QP) (Q))) .normal) s h = F11.k14 W Q QP s h := nd_gw (j := 4) (is := isAt F11.g2 3) (rest := F11.g2.drop 4) (by kernel_rfl) (d := 48) (by kernel_rfl) (F11.k13_ok W Q QP) (F11.k14_a W QP s h (F11.k13 W Q QP))
def F11.t15 (W : Nat → Prop) (QP : PPost) (s : St) (h : AH) (C0 : KT) : Prop :=
  aIg false (s.tm 53) (
  pIxS true (s.tm 0) (s.tm 6) fun t17 =>
  aCall Try.prog W 23 [t17] h (fun t18 h19 =>
  C0 ⟨puts s.tm [(54, (s.tm 0)), (55, (s.tm 6)), (56, t17), (57, t18)], s.ds⟩ h19) (QP s.ds)) (
  C0 ⟨puts s.tm [(54, noA), (55, noA), (56, noA), (57, noA)], s.ds⟩ h)
def F11.k15 (W : Nat → Prop) (Q : Post) (QP : PPost) (s : St) (h : AH) : Prop := F11.t15 W QP s h (F11.k14 W Q QP)
theorem F11.k15_a (C0 : KT) : aIg false (s.tm 53) (evI Try.prog 121 (fun _ => W) nobody QP (regOps (Code.at F11.code [1, 1, 1, 1, 0, 0, 0, 1, 0, 1, 1, 0, 1, 1, 1, 1, 1, 0, 0, 0, 0, 0, 0])) (isAt F11.g2 2) (C0) s h) ((C0) (skI 121 (regOps (Code.at F11.code [1, 1, 1, 1, 0, 0, 0, 1, 0, 1, 1, 0, 1, 1, 1, 1, 1, 0, 0, 0, 0, 0, 0])) (isAt F11.g2 2) s) h) = F11.t15 W QP s h C0 := by kernel_rfl
theorem F11.k15_ok : evG Try.prog 121 (fun _ => W) nobody QP (regOps (Code.at F11.code [1, 1, 1, 1, 0, 0, 0, 1, 0, 1, 1, 0, 1, 1, 1, 1, 1, 0, 0, 0, 0, 0, 0])) (F11.g2.drop 2) ((thenQ (F11.k12 W Q QP) (thenQ (F11.k11 W Q QP) (Q))) .normal) s h = F11.k15 W Q QP s h := nd_gw (j := 9) (is := isAt F11.g2 2) (rest := F11.g2.drop 3) (by kernel_rfl) (d := 53) (by kernel_rfl) (F11.k14_ok W Q QP) (F11.k15_a W QP s h (F11.k14 W Q QP))
def F11.t16 (W : Nat → Prop) (QP : PPost) (s : St) (h : AH) (C0 : KT) : Prop :=
  aIg true (s.tm 48) (
  pIxS true (s.tm 0) (s.tm 6) fun t20 =>
  aCall Try.prog W 22 [t20] h (fun t21 h22 =>
  C0 ⟨puts s.tm [(49, (s.tm 0)), (50, (s.tm 6)), (51, t20), (52, t21), (53, t21)], s.ds⟩ h22) (QP s.ds)) (
  C0 ⟨puts s.tm [(49, noA), (50, noA), (51, noA), (52, noA), (53, noA)], s.ds⟩ h)
def F11.k16 (W : Nat → Prop) (Q : Post) (QP : PPost) (s : St) (h : AH) : Prop := F11.t16 W QP s h (F11.k15 W Q QP)
theorem F11.k16_a (C0 : KT) : aIg true (s.tm 48) (evI Try.prog 121 (fun _ => W) nobody QP (regOps (Code.at F11.code [1, 1, 1, 1, 0, 0, 0, 1, 0, 1, 1, 0, 1, 1, 1, 1, 1, 0, 0, 0, 0, 0, 0])) (isAt F11.g2 1) (C0) s h) ((C0) (skI 121 (regOps (Code.at F11.code [1, 1, 1, 1, 0, 0, 0, 1, 0, 1, 1, 0, 1, 1, 1, 1, 1, 0, 0, 0, 0, 0, 0])) (isAt F11.g2 1) s) h) = F11.t16 W QP s h C0 := by kernel_rfl
theorem F11.k16_ok : evG Try.prog 121 (fun _ => W) nobody QP (regOps (Code.at F11.code [1, 1, 1, 1, 0, 0, 0, 1, 0, 1, 1, 0, 1, 1, 1, 1, 1, 0, 0, 0, 0, 0, 0])) (F11.g2.drop 1) ((thenQ (F11.k12 W Q QP) (thenQ (F11.k11 W Q QP) (Q))) .normal) s h = F11.k16 W Q QP s h := nd_gw (j := 4) (is := isAt F11.g2 1) (rest := F11.g2.drop 2) (by kernel_rfl) (d := 48) (by kernel_rfl) (F11.k15_ok W Q QP) (F11.k16_a W QP s h (F11.k15 W Q QP))
def F11.t17 (s : St) (h : AH) (C0 : KT) : Prop :=
  (strArg (s.tm 0) = true) ∧ pLen (s.tm 0) fun t23 =>
  pBin Try.prog .lss 3 false (s.tm 6) t23 fun t24 =>
  C0 ⟨puts s.tm [(44, (s.tm 6)), (45, (s.tm 0)), (46, t23), (47, t24), (48, t24)], s.ds⟩ h
def F11.k17 (W : Nat → Prop) (Q : Post) (QP : PPost) (s : St) (h : AH) : Prop := F11.t17 s h (F11.k16 W Q QP)
theorem F11.k17_a (C0 : KT) : evI Try.prog 121 (fun _ => W) nobody QP (regOps (Code.at F11.code [1, 1, 1, 1, 0, 0, 0, 1, 0, 1, 1, 0, 1, 1, 1, 1, 1, 0, 0, 0, 0, 0, 0])) (isAt F11.g2 0) (C0) s h = F11.t17 s h C0 := by kernel_rfl
theorem F11.k17_ok : evG Try.prog 121 (fun _ => W) nobody QP (regOps (Code.at F11.code [1, 1, 1, 1, 0, 0, 0, 1, 0, 1, 1, 0, 1, 1, 1, 1, 1, 0, 0, 0, 0, 0, 0])) (F11.g2.drop 0) ((thenQ (F11.k12 W Q QP) (thenQ (F11.k11 W Q QP) (Q))) .normal) s h = F11.k17 W Q QP s h := nd_g (is := isAt F11.g2 0) (rest := F11.g2.drop 1) (by kernel_rfl) (F11.k16_ok W Q QP) (F11.k17_a W QP s h (F11.k16 W Q QP))
theorem F11.o8 : aw Try.prog 121 W F11.pl (Code.at F11.code [1, 1, 1, 1, 0, 0, 0, 1, 0, 1, 1, 0, 1, 1, 1, 1, 1, 0, 0, 0, 0, 0, 0]) (thenQ (F11.k12 W Q QP) (thenQ (F11.k11 W Q QP) (Q))) QP s h = F11.k17 W Q QP s h := nd_groups (id := 15) (draw := false) (ops := (regOps (Code.at F11.code [1, 1, 1, 1, 0, 0, 0, 1, 0, 1, 1, 0, 1, 1, 1, 1, 1, 0, 0, 0, 0, 0, 0]))) (gs := F11.g2.drop 0) (by kernel_rfl) (by kernel_rfl) (F11.k17_ok W Q QP s h)
theorem F11.o9 : aw Try.prog 121 W F11.pl (Code.at F11.code [1, 1, 1, 1, 0, 0, 0, 1, 0, 1, 1, 0, 1, 1, 1, 1, 1, 0, 0, 0, 0, 0]) (thenQ (F11.k11 W Q QP) (Q)) QP s h = F11.k17 W Q QP s h := nd_seq (a := (Code.at F11.code [1, 1, 1, 1, 0, 0, 0, 1, 0, 1, 1, 0, 1, 1, 1, 1, 1, 0, 0, 0, 0, 0, 0])) (b := (Code.at F11.code [1, 1, 1, 1, 0, 0, 0, 1, 0, 1, 1, 0, 1, 1, 1, 1, 1, 0, 0, 0, 0, 0, 1])) (by kernel_rfl) (F11.k12_ok W Q QP) (F11.o8 W Q QP s h)
theorem F11.o10 : aw Try.prog 121 W F11.pl (Code.at F11.code [1, 1, 1, 1, 0, 0, 0, 1, 0, 1, 1, 0, 1, 1, 1, 1, 1, 0, 0, 0, 0]) (Q) QP s h = F11.k17 W Q QP s h := nd_seq (a := (Code.at F11.code [1, 1, 1, 1, 0, 0, 0, 1, 0, 1, 1, 0, 1, 1, 1, 1, 1, 0, 0, 0, 0, 0])) (b := (Code.at F11.code [1, 1, 1, 1, 0, 0, 0, 1, 0, 1, 1, 0, 1, 1, 1, 1, 1, 0, 0, 0, 0, 1])) (by kernel_rfl) (F11.o7 W Q QP) (F11.o9 W Q QP s h)
noncomputable def F11.c3 : Code := (Code.at F11.code [1, 1, 1, 1, 0, 0, 0, 1, 0, 1, 1, 0, 1, 1, 1, 1, 1, 0, 0, 0, 0])
theorem F11.l3 : aw Try.prog 121 W F11.pl F11.c3 Q QP s h = F11.k17 W Q QP s h := F11.o10 W Q QP s h
def F11.k18 (W : Nat → Prop) (Q : Post) (QP : PPost) (s : St) (h : AH) : Prop := aLoop (aw Try.prog 121 W F11.pl F11.c3) (blockQ 5 (thenQ (F11.k10 W Q QP) (blockQ 2 (blockQ 1 (Q))))) QP s h
theorem F11.k18_ok : aw Try.prog 121 W F11.pl (Code.at F11.code [1, 1, 1, 1, 0, 0, 0, 1, 0, 1, 1, 0, 1, 1, 1, 1, 1, 0, 0, 0]) (blockQ 5 (thenQ (F11.k10 W Q QP) (blockQ 2 (blockQ 1 (Q))))) QP s h = F11.k18 W Q QP s h := nd_loop (a := F11.c3) (by kernel_rfl)
theorem F11.o11 : aw Try.prog 121 W F11.pl (Code.at F11.code [1, 1, 1, 1, 0, 0, 0, 1, 0, 1, 1, 0, 1, 1, 1, 1, 1, 0, 0]) (thenQ (F11.k10 W Q QP) (blockQ 2 (blockQ 1 (Q)))) QP s h = F11.k18 W Q QP s h := nd_block (a := (Code.at F11.code [1, 1, 1, 1, 0, 0, 0, 1, 0, 1, 1, 0, 1, 1, 1, 1, 1, 0, 0, 0])) (by kernel_rfl) (F11.k18_ok W Q QP s h)
theorem F11.o12 : aw Try.prog 121 W F11.pl (Code.at F11.code [1, 1, 1, 1, 0, 0, 0, 1, 0, 1, 1, 0, 1, 1, 1, 1, 1, 0]) (blockQ 2 (blockQ 1 (Q))) QP s h = F11.k18 W Q QP s h := nd_seq (a := (Code.at F11.code [1, 1, 1, 1, 0, 0, 0, 1, 0, 1, 1, 0, 1, 1, 1, 1, 1, 0, 0])) (b := (Code.at F11.code [1, 1, 1, 1, 0, 0, 0, 1, 0, 1, 1, 0, 1, 1, 1, 1, 1, 0, 1])) (by kernel_rfl) (F11.k10_ok W Q QP) (F11.o11 W Q QP s h)
def F11.t19 (W : Nat → Prop) (Q : Post) (s : St) (h : AH) : Prop :=
  pSlS (s.tm 0) (some (s.tm 8)) (some (s.tm 6)) fun t25 =>
  pBld (some ([.int .i64 0, .string ⟨#[]⟩, .int .i64 0], .inl [(0, 1), (1, 1), (2, 1)])) [(0, (.sc (.int .i64 2))), (1, t25), (2, (s.tm 8))] fun t26 =>
  eBSl (some (3, 38, [.int .i64 0, .string ⟨#[]⟩, .int .i64 0])) 1 [(0, t26)] h fun t27 h28 =>
  eApp (some (3, 32, 38)) (s.tm 5) t27 h28 W fun t29 h30 =>
  Q .normal ⟨puts s.tm [(97, (s.tm 5)), (98, (s.tm 0)), (99, (s.tm 8)), (100, (s.tm 6)), (101, t25), (102, (s.tm 8)), (103, t26), (104, t27), (105, t29), (5, t29)], s.ds⟩ h30
def F11.k19 (W : Nat → Prop) (Q : Post) (QP : PPost) (s : St) (h : AH) : Prop := F11.t19 W Q s h
theorem F11.k19_a : aw Try.prog 121 W F11.pl (Code.at F11.code [1, 1, 1, 1, 0, 0, 0, 1, 0, 1, 1, 0, 1, 1, 1, 1, 1, 1, 1, 0, 1, 1]) (blockQ 2 (blockQ 1 (Q))) QP s h = F11.t19 W Q s h := by kernel_rfl
theorem F11.k19_ok : aw Try.prog 121 W F11.pl (Code.at F11.code [1, 1, 1, 1, 0, 0, 0, 1, 0, 1, 1, 0, 1, 1, 1, 1, 1, 1, 1, 0, 1, 1]) (blockQ 2 (blockQ 1 (Q))) QP s h = F11.k19 W Q QP s h := (F11.k19_a W Q QP s h)
def F11.t20 (Q : Post) (s : St) (h : AH) (C0 : KT) : Prop :=
  Q .ret ⟨puts s.tm [(96, (s.tm 6)), (2, (.sc (.slice none 0 0))), (3, (s.tm 6)), (4, (.sc (.int .i64 90)))], s.ds⟩ h
def F11.k20 (W : Nat → Prop) (Q : Post) (QP : PPost) (s : St) (h : AH) : Prop := F11.t20 Q s h (F11.k19 W Q QP)
theorem F11.k20_a (C0 : KT) : aw Try.prog 121 W F11.pl (Code.at F11.code [1, 1, 1, 1, 0, 0, 0, 1, 0, 1, 1, 0, 1, 1, 1, 1, 1, 1, 1, 0, 1, 0, 1, 0, 0]) (thenQ (aw Try.prog 121 W F11.pl (Code.at F11.code [1, 1, 1, 1, 0, 0, 0, 1, 0, 1, 1, 0, 1, 1, 1, 1, 1, 1, 1, 0, 1, 0, 1, 0, 1]) (thenQ (C0) (blockQ 2 (blockQ 1 (Q)))) QP) (thenQ (C0) (blockQ 2 (blockQ 1 (Q))))) QP s h = F11.t20 Q s h C0 := by kernel_rfl
theorem F11.k20_ok : aw Try.prog 121 W F11.pl (Code.at F11.code [1, 1, 1, 1, 0, 0, 0, 1, 0, 1, 1, 0, 1, 1, 1, 1, 1, 1, 1, 0, 1, 0, 1, 0]) (thenQ (F11.k19 W Q QP) (blockQ 2 (blockQ 1 (Q)))) QP s h = F11.k20 W Q QP s h := nd_seq (a := (Code.at F11.code [1, 1, 1, 1, 0, 0, 0, 1, 0, 1, 1, 0, 1, 1, 1, 1, 1, 1, 1, 0, 1, 0, 1, 0, 0])) (b := (Code.at F11.code [1, 1, 1, 1, 0, 0, 0, 1, 0, 1, 1, 0, 1, 1, 1, 1, 1, 1, 1, 0, 1, 0, 1, 0, 1])) (by kernel_rfl) (fun _ _ => rfl) (F11.k20_a W Q QP s h (F11.k19 W Q QP))
def F11.t21 (s : St) (h : AH) (C0 C1 : KT) : Prop :=
  aIf (s.tm 95) (
  C1 s h) (
  C0 s h)
def F11.k21 (W : Nat → Prop) (Q : Post) (QP : PPost) (s : St) (h : AH) : Prop := F11.t21 s h (F11.k19 W Q QP) (F11.k20 W Q QP)
theorem F11.k21_a (C0 C1 : KT) : aIf (aev s (.tmp 95)) (C1 s h) (aw Try.prog 121 W F11.pl (Code.at F11.code [1, 1, 1, 1, 0, 0, 0, 1, 0, 1, 1, 0, 1, 1, 1, 1, 1, 1, 1, 0, 1, 0, 1, 1]) (thenQ (C0) (blockQ 2 (blockQ 1 (Q)))) QP s h) = F11.t21 s h C0 C1 := by kernel_rfl
theorem F11.k21_ok : aw Try.prog 121 W F11.pl (Code.at F11.code [1, 1, 1, 1, 0, 0, 0, 1, 0, 1, 1, 0, 1, 1, 1, 1, 1, 1, 1, 0, 1, 0, 1]) (thenQ (F11.k19 W Q QP) (blockQ 2 (blockQ 1 (Q)))) QP s h = F11.k21 W Q QP s h := nd_cond (a := (Code.at F11.code [1, 1, 1, 1, 0, 0, 0, 1, 0, 1, 1, 0, 1, 1, 1, 1, 1, 1, 1, 0, 1, 0, 1, 0])) (b := (Code.at F11.code [1, 1, 1, 1, 0, 0, 0, 1, 0, 1, 1, 0, 1, 1, 1, 1, 1, 1, 1, 0, 1, 0, 1, 1])) (by kernel_rfl) (F11.k20_ok W Q QP s h) rfl (F11.k21_a W Q QP s h (F11.k19 W Q QP) (F11.k20 W Q QP))
def F11.t22 (s : St) (h : AH) (C0 C1 : KT) : Prop :=
  pPick (s.tm 90) (s.tm 94) (.sc (.bool false)) fun t31 =>
  C1 ⟨puts s.tm [(95, t31)], s.ds⟩ h
def F11.k22 (W : Nat → Prop) (Q : Post) (QP : PPost) (s : St) (h : AH) : Prop := F11.t22 s h (F11.k19 W Q QP) (F11.k21 W Q QP)
theorem F11.k22_a (C0 C1 : KT) : evI Try.prog 121 (fun _ => W) nobody QP (regOps (Code.at F11.code [1, 1, 1, 1, 0, 0, 0, 1, 0, 1, 1, 0, 1, 1, 1, 1, 1, 1, 1, 0, 1, 0, 0])) (isAt F11.g3 2) ((thenQ (C1) (thenQ (C0) (blockQ 2 (blockQ 1 (Q))))) .normal) s h = F11.t22 s h C0 C1 := by kernel_rfl
theorem F11.k22_ok : evG Try.prog 121 (fun _ => W) nobody QP (regOps (Code.at F11.code [1, 1, 1, 1, 0, 0, 0, 1, 0, 1, 1, 0, 1, 1, 1, 1, 1, 1, 1, 0, 1, 0, 0])) (F11.g3.drop 2) ((thenQ (F11.k21 W Q QP) (thenQ (F11.k19 W Q QP) (blockQ 2 (blockQ 1 (Q))))) .normal) s h = F11.k22 W Q QP s h := nd_g (is := isAt F11.g3 2) (rest := F11.g3.drop 3) (by kernel_rfl) (fun _ _ => rfl) (F11.k22_a W Q QP s h (F11.k19 W Q QP) (F11.k21 W Q QP))
def F11.t23 (W : Nat → Prop) (QP : PPost) (s : St) (h : AH) (C0 : KT) : Prop :=
  aIg true (s.tm 90) (
  pIxS true (s.tm 0) (s.tm 6) fun t32 =>
  aCall Try.prog W 22 [t32] h (fun t33 h34 =>
  C0 ⟨puts s.tm [(91, (s.tm 0)), (92, (s.tm 6)), (93, t32), (94, t33)], s.ds⟩ h34) (QP s.ds)) (
  C0 ⟨puts s.tm [(91, noA), (92, noA), (93, noA), (94, noA)], s.ds⟩ h)
def F11.k23 (W : Nat → Prop) (Q : Post) (QP : PPost) (s : St) (h : AH) : Prop := F11.t23 W QP s h (F11.k22 W Q QP)
theorem F11.k23_a (C0 : KT) : aIg true (s.tm 90) (evI Try.prog 121 (fun _ => W) nobody QP (regOps (Code.at F11.code [1, 1, 1, 1, 0, 0, 0, 1, 0, 1, 1, 0, 1, 1, 1, 1, 1, 1, 1, 0, 1, 0, 0])) (isAt F11.g3 1) (C0) s h) ((C0) (skI 121 (regOps (Code.at F11.code [1, 1, 1, 1, 0, 0, 0, 1, 0, 1, 1, 0, 1, 1, 1, 1, 1, 1, 1, 0, 1, 0, 0])) (isAt F11.g3 1) s) h) = F11.t23 W QP s h C0 := by kernel_rfl
theorem F11.k23_ok : evG Try.prog 121 (fun _ => W) nobody QP (regOps (Code.at F11.code [1, 1, 1, 1, 0, 0, 0, 1, 0, 1, 1, 0, 1, 1, 1, 1, 1, 1, 1, 0, 1, 0, 0])) (F11.g3.drop 1) ((thenQ (F11.k21 W Q QP) (thenQ (F11.k19 W Q QP) (blockQ 2 (blockQ 1 (Q))))) .normal) s h = F11.k23 W Q QP s h := nd_gw (j := 4) (is := isAt F11.g3 1) (rest := F11.g3.drop 2) (by kernel_rfl) (d := 90) (by kernel_rfl) (F11.k22_ok W Q QP) (F11.k23_a W QP s h (F11.k22 W Q QP))
def F11.t24 (s : St) (h : AH) (C0 : KT) : Prop :=
  (strArg (s.tm 0) = true) ∧ pLen (s.tm 0) fun t35 =>
  pBin Try.prog .lss 3 false (s.tm 6) t35 fun t36 =>
  C0 ⟨puts s.tm [(86, (s.tm 6)), (87, (s.tm 0)), (88, t35), (89, t36), (90, t36)], s.ds⟩ h
def F11.k24 (W : Nat → Prop) (Q : Post) (QP : PPost) (s : St) (h : AH) : Prop := F11.t24 s h (F11.k23 W Q QP)
theorem F11.k24_a (C0 : KT) : evI Try.prog 121 (fun _ => W) nobody QP (regOps (Code.at F11.code [1, 1, 1, 1, 0, 0, 0, 1, 0, 1, 1, 0, 1, 1, 1, 1, 1, 1, 1, 0, 1, 0, 0])) (isAt F11.g3 0) (C0) s h = F11.t24 s h C0 := by kernel_rfl
theorem F11.k24_ok : evG Try.prog 121 (fun _ => W) nobody QP (regOps (Code.at F11.code [1, 1, 1, 1, 0, 0, 0, 1, 0, 1, 1, 0, 1, 1, 1, 1, 1, 1, 1, 0, 1, 0, 0])) (F11.g3.drop 0) ((thenQ (F11.k21 W Q QP) (thenQ (F11.k19 W Q QP) (blockQ 2 (blockQ 1 (Q))))) .normal) s h = F11.k24 W Q QP s h := nd_g (is := isAt F11.g3 0) (rest := F11.g3.drop 1) (by kernel_rfl) (F11.k23_ok W Q QP) (F11.k24_a W QP s h (F11.k23 W Q QP))
theorem F11.o13 : aw Try.prog 121 W F11.pl (Code.at F11.code [1, 1, 1, 1, 0, 0, 0, 1, 0, 1, 1, 0, 1, 1, 1, 1, 1, 1, 1, 0, 1, 0, 0]) (thenQ (F11.k21 W Q QP) (thenQ (F11.k19 W Q QP) (blockQ 2 (blockQ 1 (Q))))) QP s h = F11.k24 W Q QP s h := nd_groups (id := 21) (draw := false) (ops := (regOps (Code.at F11.code [1, 1, 1, 1, 0, 0, 0, 1, 0, 1, 1, 0, 1, 1, 1, 1, 1, 1, 1, 0, 1, 0, 0]))) (gs := F11.g3.drop 0) (by kernel_rfl) (by kernel_rfl) (F11.k24_ok W Q QP s h)
theorem F11.o14 : aw Try.prog 121 W F11.pl (Code.at F11.code [1, 1, 1, 1, 0, 0, 0, 1, 0, 1, 1, 0, 1, 1, 1, 1, 1, 1, 1, 0, 1, 0]) (thenQ (F11.k19 W Q QP) (blockQ 2 (blockQ 1 (Q)))) QP s h = F11.k24 W Q QP s h := nd_seq (a := (Code.at F11.code [1, 1, 1, 1, 0, 0, 0, 1, 0, 1, 1, 0, 1, 1, 1, 1, 1, 1, 1, 0, 1, 0, 0])) (b := (Code.at F11.code [1, 1, 1, 1, 0, 0, 0, 1, 0, 1, 1, 0, 1, 1, 1, 1, 1, 1, 1, 0, 1, 0, 1])) (by kernel_rfl) (F11.k21_ok W Q QP) (F11.o13 W Q QP s h)
theorem F11.o15 : aw Try.prog 121 W F11.pl (Code.at F11.code [1, 1, 1, 1, 0, 0, 0, 1, 0, 1, 1, 0, 1, 1, 1, 1, 1, 1, 1, 0, 1]) (blockQ 2 (blockQ 1 (Q))) QP s h = F11.k24 W Q QP s h := nd_seq (a := (Code.at F11.code [1, 1, 1, 1, 0, 0, 0, 1, 0, 1, 1, 0, 1, 1, 1, 1, 1, 1, 1, 0, 1, 0])) (b := (Code.at F11.code [1, 1, 1, 1, 0, 0, 0, 1, 0, 1, 1, 0, 1, 1, 1, 1, 1, 1, 1, 0, 1, 1])) (by kernel_rfl) (F11.k19_ok W Q QP) (F11.o14 W Q QP s h)
def F11.t25 (Q : Post) (s : St) (h : AH) : Prop :=
  pBin Try.prog .add 3 true (s.tm 6) (.sc (.int .i64 1)) fun t37 =>
  Q .normal ⟨puts s.tm [(84, (s.tm 6)), (85, t37), (6, t37)], s.ds⟩ h
def F11.k25 (W : Nat → Prop) (Q : Post) (QP : PPost) (s : St) (h : AH) : Prop := F11.t25 Q s h
theorem F11.k25_a : aw Try.prog 121 W F11.pl (Code.at F11.code [1, 1, 1, 1, 0, 0, 0, 1, 0, 1, 1, 0, 1, 1, 1, 1, 1, 1, 1, 0, 0, 0, 0, 1, 0]) (blockQ 8 (Q)) QP s h = F11.t25 Q s h := by kernel_rfl
theorem F11.k25_ok : aw Try.prog 121 W F11.pl (Code.at F11.code [1, 1, 1, 1, 0, 0, 0, 1, 0, 1, 1, 0, 1, 1, 1, 1, 1, 1, 1, 0, 0, 0, 0, 1, 0]) (blockQ 8 (Q)) QP s h = F11.k25 W Q QP s h := (F11.k25_a W Q QP s h)
theorem F11.o16 : aw Try.prog 121 W F11.pl (Code.at F11.code [1, 1, 1, 1, 0, 0, 0, 1, 0, 1, 1, 0, 1, 1, 1, 1, 1, 1, 1, 0, 0, 0, 0, 1]) (Q) QP s h = F11.k25 W Q QP s h := nd_block (a := (Code.at F11.code [1, 1, 1, 1, 0, 0, 0, 1, 0, 1, 1, 0, 1, 1, 1, 1, 1, 1, 1, 0, 0, 0, 0, 1, 0])) (by kernel_rfl) (F11.k25_ok W Q QP s h)
def F11.t26 (Q : Post) (s : St) (h : AH) (C0 : KT) : Prop :=
  aIf (s.tm 83) (
  C0 s h) (
  Q (.exit 7) s h)
def F11.k26 (W : Nat → Prop) (Q : Post) (QP : PPost) (s : St) (h : AH) : Prop := F11.t26 Q s h (F11.k25 W Q QP)
theorem F11.k26_a (C0 : KT) : aIf (aev s (.tmp 83)) (aw Try.prog 121 W F11.pl (Code.at F11.code [1, 1, 1, 1, 0, 0, 0, 1, 0, 1, 1, 0, 1, 1, 1, 1, 1, 1, 1, 0, 0, 0, 0, 0, 1, 0]) (thenQ (C0) (Q)) QP s h) (aw Try.prog 121 W F11.pl (Code.at F11.code [1, 1, 1, 1, 0, 0, 0, 1, 0, 1, 1, 0, 1, 1, 1, 1, 1, 1, 1, 0, 0, 0, 0, 0, 1, 1]) (thenQ (C0) (Q)) QP s h) = F11.t26 Q s h C0 := by kernel_rfl
theorem F11.k26_ok : aw Try.prog 121 W F11.pl (Code.at F11.code [1, 1, 1, 1, 0, 0, 0, 1, 0, 1, 1, 0, 1, 1, 1, 1, 1, 1, 1, 0, 0, 0, 0, 0, 1]) (thenQ (F11.k25 W Q QP) (Q)) QP s h = F11.k26 W Q QP s h := nd_cond (a := (Code.at F11.code [1, 1, 1, 1, 0, 0, 0, 1, 0, 1, 1, 0, 1, 1, 1, 1, 1, 1, 1, 0, 0, 0, 0, 0, 1, 0])) (b := (Code.at F11.code [1, 1, 1, 1, 0, 0, 0, 1, 0, 1, 1, 0, 1, 1, 1, 1, 1, 1, 1, 0, 0, 0, 0, 0, 1, 1])) (by kernel_rfl) rfl rfl (F11.k26_a W Q QP s h (F11.k25 W Q QP))
def F11.t27 (s : St) (h : AH) (C0 C1 : KT) : Prop :=
  pPick (s.tm 78) (s.tm 82) (.sc (.bool false)) fun t38 =>
  C1 ⟨puts s.tm [(83, t38)], s.ds⟩ h
def F11.k27 (W : Nat → Prop) (Q : Post) (QP : PPost) (s : St) (h : AH) : Prop := F11.t27 s h (F11.k25 W Q QP) (F11.k26 W Q QP)
theorem F11.k27_a (C0 C1 : KT) : evI Try.prog 121 (fun _ => W) nobody QP (regOps (Code.at F11.code [1, 1, 1, 1, 0, 0, 0, 1, 0, 1, 1, 0, 1, 1, 1, 1, 1, 1, 1, 0, 0, 0, 0, 0, 0])) (isAt F11.g4 2) ((thenQ (C1) (thenQ (C0) (Q))) .normal) s h = F11.t27 s h C0 C1 := by kernel_rfl
theorem F11.k27_ok : evG Try.prog 121 (fun _ => W) nobody QP (regOps (Code.at F11.code [1, 1, 1, 1, 0, 0, 0, 1, 0, 1, 1, 0, 1, 1, 1, 1, 1, 1, 1, 0, 0, 0, 0, 0, 0])) (F11.g4.drop 2) ((thenQ (F11.k26 W Q QP) (thenQ (F11.k25 W Q QP) (Q))) .normal) s h = F11.k27 W Q QP s h := nd_g (is := isAt F11.g4 2) (rest := F11.g4.drop 3) (by kernel_rfl) (fun _ _ => rfl) (F11.k27_a W Q QP s h (F11.k25 W Q QP) (F11.k26 W Q QP))
def F11.t28 (W : Nat → Prop) (QP : PPost) (s : St) (h : AH) (C0 : KT) : Prop :=
  aIg true (s.tm 78) (
  pIxS true (s.tm 0) (s.tm 6) fun t39 =>
  aCall Try.prog W 23 [t39] h (fun t40 h41 =>
  C0 ⟨puts s.tm [(79, (s.tm 0)), (80, (s.tm 6)), (81, t39), (82, t40)], s.ds⟩ h41) (QP s.ds)) (
  C0 ⟨puts s.tm [(79, noA), (80, noA), (81, noA), (82, noA)], s.ds⟩ h)
def F11.k28 (W : Nat → Prop) (Q : Post) (QP : PPost) (s : St) (h : AH) : Prop := F11.t28 W QP s h (F11.k27 W Q QP)
theorem F11.k28_a (C0 : KT) : aIg true (s.tm 78) (evI Try.prog 121 (fun _ => W) nobody QP (regOps (Code.at F11.code [1, 1, 1, 1, 0, 0, 0, 1, 0, 1, 1, 0, 1, 1, 1, 1, 1, 1, 1, 0, 0, 0, 0, 0, 0])) (isAt F11.g4 1) (C0) s h) ((C0) (skI 121 (regOps (Code.at F11.code [1, 1, 1, 1, 0, 0, 0, 1, 0, 1, 1, 0, 1, 1, 1, 1, 1, 1, 1, 0, 0, 0, 0, 0, 0])) (isAt F11.g4 1) s) h) = F11.t28 W QP s h C0 := by kernel_rfl
theorem F11.k28_ok : evG Try.prog 121 (fun _ => W) nobody QP (regOps (Code.at F11.code [1, 1, 1, 1, 0, 0, 0, 1, 0, 1, 1, 0, 1, 1, 1, 1, 1, 1, 1, 0, 0, 0, 0, 0, 0])) (F11.g4.drop 1) ((thenQ (F11.k26 W Q QP) (thenQ (F11.k25 W Q QP) (Q))) .normal) s h = F11.k28 W Q QP s h := nd_gw (j := 4) (is := isAt F11.g4 1) (rest := F11.g4.drop 2) (by kernel_rfl) (d := 78) (by kernel_rfl) (F11.k27_ok W Q QP) (F11.k28_a W QP s h (F11.k27 W Q QP))
def F11.t29 (s : St) (h : AH) (C0 : KT) : Prop :=
  (strArg (s.tm 0) = true) ∧ pLen (s.tm 0) fun t42 =>
  pBin Try.prog .lss 3 false (s.tm 6) t42 fun t43 =>
  C0 ⟨puts s.tm [(74, (s.tm 6)), (75, (s.tm 0)), (76, t42), (77, t43), (78, t43)], s.ds⟩ h
def F11.k29 (W : Nat → Prop) (Q : Post) (QP : PPost) (s : St) (h : AH) : Prop := F11.t29 s h (F11.k28 W Q QP)
theorem F11.k29_a (C0 : KT) : evI Try.prog 121 (fun _ => W) nobody QP (regOps (Code.at F11.code [1, 1, 1, 1, 0, 0, 0, 1, 0, 1, 1, 0, 1, 1, 1, 1, 1, 1, 1, 0, 0, 0, 0, 0, 0])) (isAt F11.g4 0) (C0) s h = F11.t29 s h C0 := by kernel_rfl
theorem F11.k29_ok : evG Try.prog 121 (fun _ => W) nobody QP (regOps (Code.at F11.code [1, 1, 1, 1, 0, 0, 0, 1, 0, 1, 1, 0, 1, 1, 1, 1, 1, 1, 1, 0, 0, 0, 0, 0, 0])) (F11.g4.drop 0) ((thenQ (F11.k26 W Q QP) (thenQ (F11.k25 W Q QP) (Q))) .normal) s h = F11.k29 W Q QP s h := nd_g (is := isAt F11.g4 0) (rest := F11.g4.drop 1) (by kernel_rfl) (F11.k28_ok W Q QP) (F11.k29_a W QP s h (F11.k28 W Q QP))
theorem F11.o17 : aw Try.prog 121 W F11.pl (Code.at F11.code [1, 1, 1, 1, 0, 0, 0, 1, 0, 1, 1, 0, 1, 1, 1, 1, 1, 1, 1, 0, 0, 0, 0, 0, 0]) (thenQ (F11.k26 W Q QP) (thenQ (F11.k25 W Q QP) (Q))) QP s h = F11.k29 W Q QP s h := nd_groups (id := 19) (draw := false) (ops := (regOps (Code.at F11.code [1, 1, 1, 1, 0, 0, 0, 1, 0, 1, 1, 0, 1, 1, 1, 1, 1, 1, 1, 0, 0, 0, 0, 0, 0]))) (gs := F11.g4.drop 0) (by kernel_rfl) (by kernel_rfl) (F11.k29_ok W Q QP s h)
theorem F11.o18 : aw Try.prog 121 W F11.pl (Code.at F11.code [1, 1, 1, 1, 0, 0, 0, 1, 0, 1, 1, 0, 1, 1, 1, 1, 1, 1, 1, 0, 0, 0, 0, 0]) (thenQ (F11.k25 W Q QP) (Q)) QP s h = F11.k29 W Q QP s h := nd_seq (a := (Code.at F11.code [1, 1, 1, 1, 0, 0, 0, 1, 0, 1, 1, 0, 1, 1, 1, 1, 1, 1, 1, 0, 0, 0, 0, 0, 0])) (b := (Code.at F11.code [1, 1, 1, 1, 0, 0, 0, 1, 0, 1, 1, 0, 1, 1, 1, 1, 1, 1, 1, 0, 0, 0, 0, 0, 1])) (by kernel_rfl) (F11.k26_ok W Q QP) (F11.o17 W Q QP s h)
theorem F11.o19 : aw Try.prog 121 W F11.pl (Code.at F11.code [1, 1, 1, 1, 0, 0, 0, 1, 0, 1, 1, 0, 1, 1, 1, 1, 1, 1, 1, 0, 0, 0, 0]) (Q) QP s h = F11.k29 W Q QP s h := nd_seq (a := (Code.at F11.code [1, 1, 1, 1, 0, 0, 0, 1, 0, 1, 1, 0, 1, 1, 1, 1, 1, 1, 1, 0, 0, 0, 0, 0])) (b := (Code.at F11.code [1, 1, 1, 1, 0, 0, 0, 1, 0, 1, 1, 0, 1, 1, 1, 1, 1, 1, 1, 0, 0, 0, 0, 1])) (by kernel_rfl) (F11.o16 W Q QP) (F11.o18 W Q QP s h)
noncomputable def F11.c4 : Code := (Code.at F11.code [1, 1, 1, 1, 0, 0, 0, 1, 0, 1, 1, 0, 1, 1, 1, 1, 1, 1, 1, 0, 0, 0, 0])
theorem F11.l4 : aw Try.prog 121 W F11.pl F11.c4 Q QP s h = F11.k29 W Q QP s h := F11.o19 W Q QP s h
def F11.k30 (W : Nat → Prop) (Q : Post) (QP : PPost) (s : St) (h : AH) : Prop := aLoop (aw Try.prog 121 W F11.pl F11.c4) (blockQ 7 (thenQ (F11.k24 W Q QP) (blockQ 2 (blockQ 1 (Q))))) QP s h
theorem F11.k30_ok : aw Try.prog 121 W F11.pl (Code.at F11.code [1, 1, 1, 1, 0, 0, 0, 1, 0, 1, 1, 0, 1, 1, 1, 1, 1, 1, 1, 0, 0, 0]) (blockQ 7 (thenQ (F11.k24 W Q QP) (blockQ 2 (blockQ 1 (Q))))) QP s h = F11.k30 W Q QP s h := nd_loop (a := F11.c4) (by kernel_rfl)
theorem F11.o20 : aw Try.prog 121 W F11.pl (Code.at F11.code [1, 1, 1, 1, 0, 0, 0, 1, 0, 1, 1, 0, 1, 1, 1, 1, 1, 1, 1, 0, 0]) (thenQ (F11.k24 W Q QP) (blockQ 2 (blockQ 1 (Q)))) QP s h = F11.k30 W Q QP s h := nd_block (a := (Code.at F11.code [1, 1, 1, 1, 0, 0, 0, 1, 0, 1, 1, 0, 1, 1, 1, 1, 1, 1, 1, 0, 0, 0])) (by kernel_rfl) (F11.k30_ok W Q QP s h)
theorem F11.o21 : aw Try.prog 121 W F11.pl (Code.at F11.code [1, 1, 1, 1, 0, 0, 0, 1, 0, 1, 1, 0, 1, 1, 1, 1, 1, 1, 1, 0]) (blockQ 2 (blockQ 1 (Q))) QP s h = F11.k30 W Q QP s h := nd_seq (a := (Code.at F11.code [1, 1, 1, 1, 0, 0, 0, 1, 0, 1, 1, 0, 1, 1, 1, 1, 1, 1, 1, 0, 0])) (b := (Code.at F11.code [1, 1, 1, 1, 0, 0, 0, 1, 0, 1, 1, 0, 1, 1, 1, 1, 1, 1, 1, 0, 1])) (by kernel_rfl) (F11.o15 W Q QP) (F11.o20 W Q QP s h)
def F11.t31 (W : Nat → Prop) (Q : Post) (s : St) (h : AH) : Prop :=
  pSlS (s.tm 0) (some (s.tm 8)) (some (s.tm 6)) fun t44 =>
  pBld (some ([.int .i64 0, .string ⟨#[]⟩, .int .i64 0], .inl [(0, 1), (1, 1), (2, 1)])) [(0, (.sc (.int .i64 3))), (1, t44), (2, (s.tm 8))] fun t45 =>
  eBSl (some (3, 38, [.int .i64 0, .string ⟨#[]⟩, .int .i64 0])) 1 [(0, t45)] h fun t46 h47 =>
  eApp (some (3, 32, 38)) (s.tm 5) t46 h47 W fun t48 h49 =>
  Q .normal ⟨puts s.tm [(111, (s.tm 5)), (112, (s.tm 0)), (113, (s.tm 8)), (114, (s.tm 6)), (115, t44), (116, (s.tm 8)), (117, t45), (118, t46), (119, t48), (5, t48)], s.ds⟩ h49
def F11.k31 (W : Nat → Prop) (Q : Post) (QP : PPost) (s : St) (h : AH) : Prop := F11.t31 W Q s h
theorem F11.k31_a : aw Try.prog 121 W F11.pl (Code.at F11.code [1, 1, 1, 1, 0, 0, 0, 1, 0, 1, 1, 0, 1, 1, 1, 1, 1, 1, 1, 1, 1, 0, 1]) (blockQ 2 (blockQ 1 (Q))) QP s h = F11.t31 W Q s h := by kernel_rfl
theorem F11.k31_ok : aw Try.prog 121 W F11.pl (Code.at F11.code [1, 1, 1, 1, 0, 0, 0, 1, 0, 1, 1, 0, 1, 1, 1, 1, 1, 1, 1, 1, 1, 0, 1]) (blockQ 2 (blockQ 1 (Q))) QP s h = F11.k31 W Q QP s h := (F11.k31_a W Q QP s h)
def F11.t32 (s : St) (h : AH) (C0 : KT) : Prop :=
  pBin Try.prog .add 3 true (s.tm 6) (.sc (.int .i64 1)) fun t50 =>
  C0 ⟨puts s.tm [(109, (s.tm 6)), (110, t50), (6, t50)], s.ds⟩ h
def F11.k32 (W : Nat → Prop) (Q : Post) (QP : PPost) (s : St) (h : AH) : Prop := F11.t32 s h (F11.k31 W Q QP)
theorem F11.k32_a (C0 : KT) : aw Try.prog 121 W F11.pl (Code.at F11.code [1, 1, 1, 1, 0, 0, 0, 1, 0, 1, 1, 0, 1, 1, 1, 1, 1, 1, 1, 1, 1, 0, 0]) (thenQ (C0) (blockQ 2 (blockQ 1 (Q)))) QP s h = F11.t32 s h C0 := by kernel_rfl
theorem F11.k32_ok : aw Try.prog 121 W F11.pl (Code.at F11.code [1, 1, 1, 1, 0, 0, 0, 1, 0, 1, 1, 0, 1, 1, 1, 1, 1, 1, 1, 1, 1, 0]) (blockQ 2 (blockQ 1 (Q))) QP s h = F11.k32 W Q QP s h := nd_seq (a := (Code.at F11.code [1, 1, 1, 1, 0, 0, 0, 1, 0, 1, 1, 0, 1, 1, 1, 1, 1, 1, 1, 1, 1, 0, 0])) (b := (Code.at F11.code [1, 1, 1, 1, 0, 0, 0, 1, 0, 1, 1, 0, 1, 1, 1, 1, 1, 1, 1, 1, 1, 0, 1])) (by kernel_rfl) (F11.k31_ok W Q QP) (F11.k32_a W Q QP s h (F11.k31 W Q QP))
def F11.t33 (Q : Post) (s : St) (h : AH) : Prop :=
  Q .ret ⟨puts s.tm [(20, (s.tm 6)), (2, (.sc (.slice none 0 0))), (3, (s.tm 6)), (4, (.sc (.int .i64 90)))], s.ds⟩ h
def F11.k33 (W : Nat → Prop) (Q : Post) (QP : PPost) (s : St) (h : AH) : Prop := F11.t33 Q s h
theorem F11.k33_a : aw Try.prog 121 W F11.pl (Code.at F11.code [1, 1, 1, 1, 0, 0, 0, 1, 0, 1, 1, 0, 1, 1, 1, 1, 1, 1, 1, 1, 1, 1, 0]) (thenQ (aw Try.prog 121 W F11.pl (Code.at F11.code [1, 1, 1, 1, 0, 0, 0, 1, 0, 1, 1, 0, 1, 1, 1, 1, 1, 1, 1, 1, 1, 1, 1]) (blockQ 2 (blockQ 1 (Q))) QP) (blockQ 2 (blockQ 1 (Q)))) QP s h = F11.t33 Q s h := by kernel_rfl
theorem F11.k33_ok : aw Try.prog 121 W F11.pl (Code.at F11.code [1, 1, 1, 1, 0, 0, 0, 1, 0, 1, 1, 0, 1, 1, 1, 1, 1, 1, 1, 1, 1, 1]) (blockQ 2 (blockQ 1 (Q))) QP s h = F11.k33 W Q QP s h := nd_seq (a := (Code.at F11.code [1, 1, 1, 1, 0, 0, 0, 1, 0, 1, 1, 0, 1, 1, 1, 1, 1, 1, 1, 1, 1, 1, 0])) (b := (Code.at F11.code [1, 1, 1, 1, 0, 0, 0, 1, 0, 1, 1, 0, 1, 1, 1, 1, 1, 1, 1, 1, 1, 1, 1])) (by kernel_rfl) (fun _ _ => rfl) (F11.k33_a W Q QP s h)
def F11.t34 (s : St) (h : AH) (C0 C1 : KT) : Prop :=
  aIf (s.tm 106) (
  C0 s h) (
  C1 s h)
def F11.k34 (W : Nat → Prop) (Q : Post) (QP : PPost) (s : St) (h : AH) : Prop := F11.t34 s h (F11.k32 W Q QP) (F11.k33 W Q QP)
theorem F11.k34_a (C0 C1 : KT) : aIf (aev s (.tmp 106)) (C0 s h) (C1 s h) = F11.t34 s h C0 C1 := by kernel_rfl
theorem F11.k34_ok : aw Try.prog 121 W F11.pl (Code.at F11.code [1, 1, 1, 1, 0, 0, 0, 1, 0, 1, 1, 0, 1, 1, 1, 1, 1, 1, 1, 1, 1]) (blockQ 2 (blockQ 1 (Q))) QP s h = F11.k34 W Q QP s h := nd_cond (a := (Code.at F11.code [1, 1, 1, 1, 0, 0, 0, 1, 0, 1, 1, 0, 1, 1, 1, 1, 1, 1, 1, 1, 1, 0])) (b := (Code.at F11.code [1, 1, 1, 1, 0, 0, 0, 1, 0, 1, 1, 0, 1, 1, 1, 1, 1, 1, 1, 1, 1, 1])) (by kernel_rfl) (F11.k32_ok W Q QP s h) (F11.k33_ok W Q QP s h) (F11.k34_a s h (F11.k32 W Q QP) (F11.k33 W Q QP))
def F11.t35 (W : Nat → Prop) (QP : PPost) (s : St) (h : AH) (C0 : KT) : Prop :=
  aCall Try.prog W 24 [(s.tm 7)] h (fun t51 h52 =>
  C0 ⟨puts s.tm [(107, (s.tm 7)), (108, t51), (106, t51)], s.ds⟩ h52) (QP s.ds)
def F11.k35 (W : Nat → Prop) (Q : Post) (QP : PPost) (s : St) (h : AH) : Prop := F11.t35 W QP s h (F11.k34 W Q QP)
theorem F11.k35_a (C0 : KT) : aw Try.prog 121 W F11.pl (Code.at F11.code [1, 1, 1, 1, 0, 0, 0, 1, 0, 1, 1, 0, 1, 1, 1, 1, 1, 1, 1, 1, 0]) (thenQ (C0) (blockQ 2 (blockQ 1 (Q)))) QP s h = F11.t35 W QP s h C0 := by kernel_rfl
theorem F11.k35_ok : aw Try.prog 121 W F11.pl (Code.at F11.code [1, 1, 1, 1, 0, 0, 0, 1, 0, 1, 1, 0, 1, 1, 1, 1, 1, 1, 1, 1]) (blockQ 2 (blockQ 1 (Q))) QP s h = F11.k35 W Q QP s h := nd_seq (a := (Code.at F11.code [1, 1, 1, 1, 0, 0, 0, 1, 0, 1, 1, 0, 1, 1, 1, 1, 1, 1, 1, 1, 0])) (b := (Code.at F11.code [1, 1, 1, 1, 0, 0, 0, 1, 0, 1, 1, 0, 1, 1, 1, 1, 1, 1, 1, 1, 1])) (by kernel_rfl) (F11.k34_ok W Q QP) (F11.k35_a W Q QP s h (F11.k34 W Q QP))
def F11.t36 (s : St) (h : AH) (C0 C1 : KT) : Prop :=
  aIf (s.tm 71) (
  C0 s h) (
  C1 s h)
def F11.k36 (W : Nat → Prop) (Q : Post) (QP : PPost) (s : St) (h : AH) : Prop := F11.t36 s h (F11.k30 W Q QP) (F11.k35 W Q QP)
theorem F11.k36_a (C0 C1 : KT) : aIf (aev s (.tmp 71)) (C0 s h) (C1 s h) = F11.t36 s h C0 C1 := by kernel_rfl
theorem F11.k36_ok : aw Try.prog 121 W F11.pl (Code.at F11.code [1, 1, 1, 1, 0, 0, 0, 1, 0, 1, 1, 0, 1, 1, 1, 1, 1, 1, 1]) (blockQ 2 (blockQ 1 (Q))) QP s h = F11.k36 W Q QP s h := nd_cond (a := (Code.at F11.code [1, 1, 1, 1, 0, 0, 0, 1, 0, 1, 1, 0, 1, 1, 1, 1, 1, 1, 1, 0])) (b := (Code.at F11.code [1, 1, 1, 1, 0, 0, 0, 1, 0, 1, 1, 0, 1, 1, 1, 1, 1, 1, 1, 1])) (by kernel_rfl) (F11.o21 W Q QP s h) (F11.k35_ok W Q QP s h) (F11.k36_a s h (F11.k30 W Q QP) (F11.k35 W Q QP))
def F11.t37 (W : Nat → Prop) (QP : PPost) (s : St) (h : AH) (C0 : KT) : Prop :=
  aCall Try.prog W 23 [(s.tm 7)] h (fun t53 h54 =>
  C0 ⟨puts s.tm [(72, (s.tm 7)), (73, t53), (71, t53)], s.ds⟩ h54) (QP s.ds)
def F11.k37 (W : Nat → Prop) (Q : Post) (QP : PPost) (s : St) (h : AH) : Prop := F11.t37 W QP s h (F11.k36 W Q QP)
theorem F11.k37_a (C0 : KT) : aw Try.prog 121 W F11.pl (Code.at F11.code [1, 1, 1, 1, 0, 0, 0, 1, 0, 1, 1, 0, 1, 1, 1, 1, 1, 1, 0]) (thenQ (C0) (blockQ 2 (blockQ 1 (Q)))) QP s h = F11.t37 W QP s h C0 := by kernel_rfl
theorem F11.k37_ok : aw Try.prog 121 W F11.pl (Code.at F11.code [1, 1, 1, 1, 0, 0, 0, 1, 0, 1, 1, 0, 1, 1, 1, 1, 1, 1]) (blockQ 2 (blockQ 1 (Q))) QP s h = F11.k37 W Q QP s h := nd_seq (a := (Code.at F11.code [1, 1, 1, 1, 0, 0, 0, 1, 0, 1, 1, 0, 1, 1, 1, 1, 1, 1, 0])) (b := (Code.at F11.code [1, 1, 1, 1, 0, 0, 0, 1, 0, 1, 1, 0, 1, 1, 1, 1, 1, 1, 1])) (by kernel_rfl) (F11.k36_ok W Q QP) (F11.k37_a W Q QP s h (F11.k36 W Q QP))
def F11.t38 (s : St) (h : AH) (C0 C1 : KT) : Prop :=
  aIf (s.tm 41) (
  C0 s h) (
  C1 s h)
def F11.k38 (W : Nat → Prop) (Q : Post) (QP : PPost) (s : St) (h : AH) : Prop := F11.t38 s h (F11.k18 W Q QP) (F11.k37 W Q QP)
theorem F11.k38_a (C0 C1 : KT) : aIf (aev s (.tmp 41)) (C0 s h) (C1 s h) = F11.t38 s h C0 C1 := by kernel_rfl
theorem F11.k38_ok : aw Try.prog 121 W F11.pl (Code.at F11.code [1, 1, 1, 1, 0, 0, 0, 1, 0, 1, 1, 0, 1, 1, 1, 1, 1]) (blockQ 2 (blockQ 1 (Q))) QP s h = F11.k38 W Q QP s h := nd_cond (a := (Code.at F11.code [1, 1, 1, 1, 0, 0, 0, 1, 0, 1, 1, 0, 1, 1, 1, 1, 1, 0])) (b := (Code.at F11.code [1, 1, 1, 1, 0, 0, 0, 1, 0, 1, 1, 0, 1, 1, 1, 1, 1, 1])) (by kernel_rfl) (F11.o12 W Q QP s h) (F11.k37_ok W Q QP s h) (F11.k38_a s h (F11.k18 W Q QP) (F11.k37 W Q QP))
def F11.t39 (W : Nat → Prop) (QP : PPost) (s : St) (h : AH) (C0 : KT) : Prop :=
  aCall Try.prog W 22 [(s.tm 7)] h (fun t55 h56 =>
  C0 ⟨puts s.tm [(42, (s.tm 7)), (43, t55), (41, t55)], s.ds⟩ h56) (QP s.ds)
def F11.k39 (W : Nat → Prop) (Q : Post) (QP : PPost) (s : St) (h : AH) : Prop := F11.t39 W QP s h (F11.k38 W Q QP)
theorem F11.k39_a (C0 : KT) : aw Try.prog 121 W F11.pl (Code.at F11.code [1, 1, 1, 1, 0, 0, 0, 1, 0, 1, 1, 0, 1, 1, 1, 1, 0]) (thenQ (C0) (blockQ 2 (blockQ 1 (Q)))) QP s h = F11.t39 W QP s h C0 := by kernel_rfl
theorem F11.k39_ok : aw Try.prog 121 W F11.pl (Code.at F11.code [1, 1, 1, 1, 0, 0, 0, 1, 0, 1, 1, 0, 1, 1, 1, 1]) (blockQ 2 (blockQ 1 (Q))) QP s h = F11.k39 W Q QP s h := nd_seq (a := (Code.at F11.code [1, 1, 1, 1, 0, 0, 0, 1, 0, 1, 1, 0, 1, 1, 1, 1, 0])) (b := (Code.at F11.code [1, 1, 1, 1, 0, 0, 0, 1, 0, 1, 1, 0, 1, 1, 1, 1, 1])) (by kernel_rfl) (F11.k38_ok W Q QP) (F11.k39_a W Q QP s h (F11.k38 W Q QP))
def F11.t40 (s : St) (h : AH) (C0 C1 : KT) : Prop :=
  aIf (s.tm 26) (
  C1 s h) (
  C0 s h)
def F11.k40 (W : Nat → Prop) (Q : Post) (QP : PPost) (s : St) (h : AH) : Prop := F11.t40 s h (F11.k39 W Q QP) (F11.k9 W Q QP)
theorem F11.k40_a (C0 C1 : KT) : aIf (aev s (.tmp 26)) (C1 s h) (C0 s h) = F11.t40 s h C0 C1 := by kernel_rfl
theorem F11.k40_ok : aw Try.prog 121 W F11.pl (Code.at F11.code [1, 1, 1, 1, 0, 0, 0, 1, 0, 1, 1, 0, 1, 1, 1]) (blockQ 2 (blockQ 1 (Q))) QP s h = F11.k40 W Q QP s h := nd_cond (a := (Code.at F11.code [1, 1, 1, 1, 0, 0, 0, 1, 0, 1, 1, 0, 1, 1, 1, 0])) (b := (Code.at F11.code [1, 1, 1, 1, 0, 0, 0, 1, 0, 1, 1, 0, 1, 1, 1, 1])) (by kernel_rfl) (F11.o6 W Q QP s h) (F11.k39_ok W Q QP s h) (F11.k40_a s h (F11.k39 W Q QP) (F11.k9 W Q QP))
def F11.t41 (s : St) (h : AH) (C0 : KT) : Prop :=
  pBin Try.prog .eql 5 true (s.tm 7) (.sc (.int .u8 35)) fun t57 =>
  C0 ⟨puts s.tm [(27, (s.tm 7)), (28, t57), (26, t57)], s.ds⟩ h
def F11.k41 (W : Nat → Prop) (Q : Post) (QP : PPost) (s : St) (h : AH) : Prop := F11.t41 s h (F11.k40 W Q QP)
theorem F11.k41_a (C0 : KT) : aw Try.prog 121 W F11.pl (Code.at F11.code [1, 1, 1, 1, 0, 0, 0, 1, 0, 1, 1, 0, 1, 1, 0]) (thenQ (C0) (blockQ 2 (blockQ 1 (Q)))) QP s h = F11.t41 s h C0 := by kernel_rfl
theorem F11.k41_ok : aw Try.prog 121 W F11.pl (Code.at F11.code [1, 1, 1, 1, 0, 0, 0, 1, 0, 1, 1, 0, 1, 1]) (blockQ 2 (blockQ 1 (Q))) QP s h = F11.k41 W Q QP s h := nd_seq (a := (Code.at F11.code [1, 1, 1, 1, 0, 0, 0, 1, 0, 1, 1, 0, 1, 1, 0])) (b := (Code.at F11.code [1, 1, 1, 1, 0, 0, 0, 1, 0, 1, 1, 0, 1, 1, 1])) (by kernel_rfl) (F11.k40_ok W Q QP) (F11.k41_a W Q QP s h (F11.k40 W Q QP))
def F11.t42 (s : St) (h : AH) (C0 C1 : KT) : Prop :=
  aIf (s.tm 21) (
  C0 s h) (
  C1 s h)
def F11.k42 (W : Nat → Prop) (Q : Post) (QP : PPost) (s : St) (h : AH) : Prop := F11.t42 s h (F11.k2 W Q QP) (F11.k41 W Q QP)
theorem F11.k42_a (C0 C1 : KT) : aIf (aev s (.tmp 21)) (C0 s h) (C1 s h) = F11.t42 s h C0 C1 := by kernel_rfl
theorem F11.k42_ok : aw Try.prog 121 W F11.pl (Code.at F11.code [1, 1, 1, 1, 0, 0, 0, 1, 0, 1, 1, 0, 1]) (blockQ 2 (blockQ 1 (Q))) QP s h = F11.k42 W Q QP s h := nd_cond (a := (Code.at F11.code [1, 1, 1, 1, 0, 0, 0, 1, 0, 1, 1, 0, 1, 0])) (b := (Code.at F11.code [1, 1, 1, 1, 0, 0, 0, 1, 0, 1, 1, 0, 1, 1])) (by kernel_rfl) (F11.k2_ok W Q QP s h) (F11.k41_ok W Q QP s h) (F11.k42_a s h (F11.k2 W Q QP) (F11.k41 W Q QP))
def F11.t43 (W : Nat → Prop) (QP : PPost) (s : St) (h : AH) (C0 : KT) : Prop :=
  aCall Try.prog W 21 [(s.tm 7)] h (fun t58 h59 =>
  C0 ⟨puts s.tm [(22, (s.tm 7)), (23, t58), (21, t58)], s.ds⟩ h59) (QP s.ds)
def F11.k43 (W : Nat → Prop) (Q : Post) (QP : PPost) (s : St) (h : AH) : Prop := F11.t43 W QP s h (F11.k42 W Q QP)
theorem F11.k43_a (C0 : KT) : aw Try.prog 121 W F11.pl (Code.at F11.code [1, 1, 1, 1, 0, 0, 0, 1, 0, 1, 1, 0, 0]) (thenQ (C0) (blockQ 2 (blockQ 1 (Q)))) QP s h = F11.t43 W QP s h C0 := by kernel_rfl
theorem F11.k43_ok : aw Try.prog 121 W F11.pl (Code.at F11.code [1, 1, 1, 1, 0, 0, 0, 1, 0, 1, 1, 0]) (blockQ 2 (blockQ 1 (Q))) QP s h = F11.k43 W Q QP s h := nd_seq (a := (Code.at F11.code [1, 1, 1, 1, 0, 0, 0, 1, 0, 1, 1, 0, 0])) (b := (Code.at F11.code [1, 1, 1, 1, 0, 0, 0, 1, 0, 1, 1, 0, 1])) (by kernel_rfl) (F11.k42_ok W Q QP) (F11.k43_a W Q QP s h (F11.k42 W Q QP))
theorem F11.o22 : aw Try.prog 121 W F11.pl (Code.at F11.code [1, 1, 1, 1, 0, 0, 0, 1, 0, 1, 1]) (blockQ 1 (Q)) QP s h = F11.k43 W Q QP s h := nd_block (a := (Code.at F11.code [1, 1, 1, 1, 0, 0, 0, 1, 0, 1, 1, 0])) (by kernel_rfl) (F11.k43_ok W Q QP s h)
def F11.t44 (s : St) (h : AH) (C0 : KT) : Prop :=
  C0 ⟨puts s.tm [(19, (s.tm 6)), (8, (s.tm 6))], s.ds⟩ h
def F11.k44 (W : Nat → Prop) (Q : Post) (QP : PPost) (s : St) (h : AH) : Prop := F11.t44 s h (F11.k43 W Q QP)
theorem F11.k44_a (C0 : KT) : aw Try.prog 121 W F11.pl (Code.at F11.code [1, 1, 1, 1, 0, 0, 0, 1, 0, 1, 0]) (thenQ (C0) (blockQ 1 (Q))) QP s h = F11.t44 s h C0 := by kernel_rfl
theorem F11.k44_ok : aw Try.prog 121 W F11.pl (Code.at F11.code [1, 1, 1, 1, 0, 0, 0, 1, 0, 1]) (blockQ 1 (Q)) QP s h = F11.k44 W Q QP s h := nd_seq (a := (Code.at F11.code [1, 1, 1, 1, 0, 0, 0, 1, 0, 1, 0])) (b := (Code.at F11.code [1, 1, 1, 1, 0, 0, 0, 1, 0, 1, 1])) (by kernel_rfl) (F11.o22 W Q QP) (F11.k44_a W Q QP s h (F11.k43 W Q QP))
def F11.t45 (s : St) (h : AH) (C0 : KT) : Prop :=
  pIxS true (s.tm 0) (s.tm 6) fun t60 =>
  C0 ⟨puts s.tm [(16, (s.tm 0)), (17, (s.tm 6)), (18, t60), (7, t60)], s.ds⟩ h
def F11.k45 (W : Nat → Prop) (Q : Post) (QP : PPost) (s : St) (h : AH) : Prop := F11.t45 s h (F11.k44 W Q QP)
theorem F11.k45_a (C0 : KT) : aw Try.prog 121 W F11.pl (Code.at F11.code [1, 1, 1, 1, 0, 0, 0, 1, 0, 0]) (thenQ (C0) (blockQ 1 (Q))) QP s h = F11.t45 s h C0 := by kernel_rfl
theorem F11.k45_ok : aw Try.prog 121 W F11.pl (Code.at F11.code [1, 1, 1, 1, 0, 0, 0, 1, 0]) (blockQ 1 (Q)) QP s h = F11.k45 W Q QP s h := nd_seq (a := (Code.at F11.code [1, 1, 1, 1, 0, 0, 0, 1, 0, 0])) (b := (Code.at F11.code [1, 1, 1, 1, 0, 0, 0, 1, 0, 1])) (by kernel_rfl) (F11.k44_ok W Q QP) (F11.k45_a W Q QP s h (F11.k44 W Q QP))
theorem F11.o23 : aw Try.prog 121 W F11.pl (Code.at F11.code [1, 1, 1, 1, 0, 0, 0, 1]) (Q) QP s h = F11.k45 W Q QP s h := nd_block (a := (Code.at F11.code [1, 1, 1, 1, 0, 0, 0, 1, 0])) (by kernel_rfl) (F11.k45_ok W Q QP s h)
def F11.t46 (Q : Post) (s : St) (h : AH) (C0 : KT) : Prop :=
  aIf (s.tm 15) (
  C0 s h) (
  Q (.exit 0) s h)
def F11.k46 (W : Nat → Prop) (Q : Post) (QP : PPost) (s : St) (h : AH) : Prop := F11.t46 Q s h (F11.k45 W Q QP)
theorem F11.k46_a (C0 : KT) : aIf (aev s (.tmp 15)) (aw Try.prog 121 W F11.pl (Code.at F11.code [1, 1, 1, 1, 0, 0, 0, 0, 1, 0]) (thenQ (C0) (Q)) QP s h) (aw Try.prog 121 W F11.pl (Code.at F11.code [1, 1, 1, 1, 0, 0, 0, 0, 1, 1]) (thenQ (C0) (Q)) QP s h) = F11.t46 Q s h C0 := by kernel_rfl
theorem F11.k46_ok : aw Try.prog 121 W F11.pl (Code.at F11.code [1, 1, 1, 1, 0, 0, 0, 0, 1]) (thenQ (F11.k45 W Q QP) (Q)) QP s h = F11.k46 W Q QP s h := nd_cond (a := (Code.at F11.code [1, 1, 1, 1, 0, 0, 0, 0, 1, 0])) (b := (Code.at F11.code [1, 1, 1, 1, 0, 0, 0, 0, 1, 1])) (by kernel_rfl) rfl rfl (F11.k46_a W Q QP s h (F11.k45 W Q QP))
def F11.t47 (s : St) (h : AH) (C0 C1 : KT) : Prop :=
  (strArg (s.tm 0) = true) ∧ pLen (s.tm 0) fun t61 =>
  pBin Try.prog .lss 3 false (s.tm 6) t61 fun t62 =>
  C1 ⟨puts s.tm [(12, (s.tm 6)), (13, (s.tm 0)), (14, t61), (15, t62)], s.ds⟩ h
def F11.k47 (W : Nat → Prop) (Q : Post) (QP : PPost) (s : St) (h : AH) : Prop := F11.t47 s h (F11.k45 W Q QP) (F11.k46 W Q QP)
theorem F11.k47_a (C0 C1 : KT) : aw Try.prog 121 W F11.pl (Code.at F11.code [1, 1, 1, 1, 0, 0, 0, 0, 0]) (thenQ (C1) (thenQ (C0) (Q))) QP s h = F11.t47 s h C0 C1 := by kernel_rfl
theorem F11.k47_ok : aw Try.prog 121 W F11.pl (Code.at F11.code [1, 1, 1, 1, 0, 0, 0, 0]) (thenQ (F11.k45 W Q QP) (Q)) QP s h = F11.k47 W Q QP s h := nd_seq (a := (Code.at F11.code [1, 1, 1, 1, 0, 0, 0, 0, 0])) (b := (Code.at F11.code [1, 1, 1, 1, 0, 0, 0, 0, 1])) (by kernel_rfl) (F11.k46_ok W Q QP) (F11.k47_a W Q QP s h (F11.k45 W Q QP) (F11.k46 W Q QP))
theorem F11.o24 : aw Try.prog 121 W F11.pl (Code.at F11.code [1, 1, 1, 1, 0, 0, 0]) (Q) QP s h = F11.k47 W Q QP s h := nd_seq (a := (Code.at F11.code [1, 1, 1, 1, 0, 0, 0, 0])) (b := (Code.at F11.code [1, 1, 1, 1, 0, 0, 0, 1])) (by kernel_rfl) (F11.o23 W Q QP) (F11.k47_ok W Q QP s h)
noncomputable def F11.c1 : Code := (Code.at F11.code [1, 1, 1, 1, 0, 0, 0])
theorem F11.l1 : aw Try.prog 121 W F11.pl F11.c1 Q QP s h = F11.k47 W Q QP s h := F11.o24 W Q QP s h
def F11.k48 (W : Nat → Prop) (Q : Post) (QP : PPost) (s : St) (h : AH) : Prop := aLoop (aw Try.prog 121 W F11.pl F11.c1) (blockQ 0 (thenQ (F11.k1 W Q QP) (Q))) QP s h
theorem F11.k48_ok : aw Try.prog 121 W F11.pl (Code.at F11.code [1, 1, 1, 1, 0, 0]) (blockQ 0 (thenQ (F11.k1 W Q QP) (Q))) QP s h = F11.k48 W Q QP s h := nd_loop (a := F11.c1) (by kernel_rfl)
theorem F11.o25 : aw Try.prog 121 W F11.pl (Code.at F11.code [1, 1, 1, 1, 0]) (thenQ (F11.k1 W Q QP) (Q)) QP s h = F11.k48 W Q QP s h := nd_block (a := (Code.at F11.code [1, 1, 1, 1, 0, 0])) (by kernel_rfl) (F11.k48_ok W Q QP s h)
theorem F11.o26 : aw Try.prog 121 W F11.pl (Code.at F11.code [1, 1, 1, 1]) (Q) QP s h = F11.k48 W Q QP s h := nd_seq (a := (Code.at F11.code [1, 1, 1, 1, 0])) (b := (Code.at F11.code [1, 1, 1, 1, 1])) (by kernel_rfl) (F11.k1_ok W Q QP) (F11.o25 W Q QP s h)
def F11.t49 (s : St) (h : AH) (C0 : KT) : Prop :=
  C0 ⟨puts s.tm [(6, (.sc (.int .i64 0)))], s.ds⟩ h
def F11.k49 (W : Nat → Prop) (Q : Post) (QP : PPost) (s : St) (h : AH) : Prop := F11.t49 s h (F11.k48 W Q QP)
theorem F11.k49_a (C0 : KT) : aw Try.prog 121 W F11.pl (Code.at F11.code [1, 1, 1, 0]) (thenQ (C0) (Q)) QP s h = F11.t49 s h C0 := by kernel_rfl
theorem F11.k49_ok : aw Try.prog 121 W F11.pl (Code.at F11.code [1, 1, 1]) (Q) QP s h = F11.k49 W Q QP s h := nd_seq (a := (Code.at F11.code [1, 1, 1, 0])) (b := (Code.at F11.code [1, 1, 1, 1])) (by kernel_rfl) (F11.o26 W Q QP) (F11.k49_a W Q QP s h (F11.k48 W Q QP))
def F11.t50 (s : St) (h : AH) (C0 : KT) : Prop :=
  C0 ⟨puts s.tm [(5, (.sc (.slice none 0 0)))], s.ds⟩ h
def F11.k50 (W : Nat → Prop) (Q : Post) (QP : PPost) (s : St) (h : AH) : Prop := F11.t50 s h (F11.k49 W Q QP)
theorem F11.k50_a (C0 : KT) : aw Try.prog 121 W F11.pl (Code.at F11.code [1, 1, 0]) (thenQ (C0) (Q)) QP s h = F11.t50 s h C0 := by kernel_rfl
theorem F11.k50_ok : aw Try.prog 121 W F11.pl (Code.at F11.code [1, 1]) (Q) QP s h = F11.k50 W Q QP s h := nd_seq (a := (Code.at F11.code [1, 1, 0])) (b := (Code.at F11.code [1, 1, 1])) (by kernel_rfl) (F11.k49_ok W Q QP) (F11.k50_a W Q QP s h (F11.k49 W Q QP))
def F11.t51 (Q : Post) (s : St) (h : AH) (C0 : KT) : Prop :=
  Q .ret ⟨puts s.tm [(2, (.sc (.slice none 0 0))), (3, (.sc (.int .i64 0))), (4, (.sc (.int .i64 1)))], s.ds⟩ h
def F11.k51 (W : Nat → Prop) (Q : Post) (QP : PPost) (s : St) (h : AH) : Prop := F11.t51 Q s h (F11.k50 W Q QP)
theorem F11.k51_a (C0 : KT) : aw Try.prog 121 W F11.pl (Code.at F11.code [1, 0, 1, 0, 0]) (thenQ (aw Try.prog 121 W F11.pl (Code.at F11.code [1, 0, 1, 0, 1]) (thenQ (C0) (Q)) QP) (thenQ (C0) (Q))) QP s h = F11.t51 Q s h C0 := by kernel_rfl
theorem F11.k51_ok : aw Try.prog 121 W F11.pl (Code.at F11.code [1, 0, 1, 0]) (thenQ (F11.k50 W Q QP) (Q)) QP s h = F11.k51 W Q QP s h := nd_seq (a := (Code.at F11.code [1, 0, 1, 0, 0])) (b := (Code.at F11.code [1, 0, 1, 0, 1])) (by kernel_rfl) (fun _ _ => rfl) (F11.k51_a W Q QP s h (F11.k50 W Q QP))
def F11.t52 (s : St) (h : AH) (C0 C1 : KT) : Prop :=
  aIf (s.tm 11) (
  C1 s h) (
  C0 s h)
def F11.k52 (W : Nat → Prop) (Q : Post) (QP : PPost) (s : St) (h : AH) : Prop := F11.t52 s h (F11.k50 W Q QP) (F11.k51 W Q QP)
theorem F11.k52_a (C0 C1 : KT) : aIf (aev s (.tmp 11)) (C1 s h) (aw Try.prog 121 W F11.pl (Code.at F11.code [1, 0, 1, 1]) (thenQ (C0) (Q)) QP s h) = F11.t52 s h C0 C1 := by kernel_rfl
theorem F11.k52_ok : aw Try.prog 121 W F11.pl (Code.at F11.code [1, 0, 1]) (thenQ (F11.k50 W Q QP) (Q)) QP s h = F11.k52 W Q QP s h := nd_cond (a := (Code.at F11.code [1, 0, 1, 0])) (b := (Code.at F11.code [1, 0, 1, 1])) (by kernel_rfl) (F11.k51_ok W Q QP s h) rfl (F11.k52_a W Q QP s h (F11.k50 W Q QP) (F11.k51 W Q QP))
def F11.t53 (s : St) (h : AH) (C0 C1 : KT) : Prop :=
  (strArg (s.tm 0) = true) ∧ pLen (s.tm 0) fun t63 =>
  pBin Try.prog .gtr 3 true t63 (.sc (.int .i64 65536)) fun t64 =>
  C1 ⟨puts s.tm [(9, (s.tm 0)), (10, t63), (11, t64)], s.ds⟩ h
def F11.k53 (W : Nat → Prop) (Q : Post) (QP : PPost) (s : St) (h : AH) : Prop := F11.t53 s h (F11.k50 W Q QP) (F11.k52 W Q QP)
theorem F11.k53_a (C0 C1 : KT) : aw Try.prog 121 W F11.pl (Code.at F11.code [1, 0, 0]) (thenQ (C1) (thenQ (C0) (Q))) QP s h = F11.t53 s h C0 C1 := by kernel_rfl
theorem F11.k53_ok : aw Try.prog 121 W F11.pl (Code.at F11.code [1, 0]) (thenQ (F11.k50 W Q QP) (Q)) QP s h = F11.k53 W Q QP s h := nd_seq (a := (Code.at F11.code [1, 0, 0])) (b := (Code.at F11.code [1, 0, 1])) (by kernel_rfl) (F11.k52_ok W Q QP) (F11.k53_a W Q QP s h (F11.k50 W Q QP) (F11.k52 W Q QP))
theorem F11.o27 : aw Try.prog 121 W F11.pl (Code.at F11.code [1]) (Q) QP s h = F11.k53 W Q QP s h := nd_seq (a := (Code.at F11.code [1, 0])) (b := (Code.at F11.code [1, 1])) (by kernel_rfl) (F11.k50_ok W Q QP) (F11.k53_ok W Q QP s h)
def F11.t54 (s : St) (h : AH) (C0 : KT) : Prop :=
  C0 ⟨puts s.tm [(2, (.sc (.slice none 0 0))), (3, (.sc (.int .i64 0))), (4, (.sc (.int .i64 0)))], s.ds⟩ h
def F11.k54 (W : Nat → Prop) (Q : Post) (QP : PPost) (s : St) (h : AH) : Prop := F11.t54 s h (F11.k53 W Q QP)
theorem F11.k54_a (C0 : KT) : aw Try.prog 121 W F11.pl (Code.at F11.code [0]) (thenQ (C0) (Q)) QP s h = F11.t54 s h C0 := by kernel_rfl
theorem F11.k54_ok : aw Try.prog 121 W F11.pl (Code.at F11.code []) (Q) QP s h = F11.k54 W Q QP s h := nd_seq (a := (Code.at F11.code [0])) (b := (Code.at F11.code [1])) (by kernel_rfl) (F11.o27 W Q QP) (F11.k54_a W Q QP s h (F11.k53 W Q QP))
end
theorem F11.calls {x0 : AV} {h : AH} {M : Nat → Prop} {R : AE → AH → Prop} (hp : F11.k54 (fun id => M id ∨ h.next ≤ id) (bodyQ Try.prog [.tmp 2, .tmp 3, .tmp 4] R) (bodyP R) (s0 [x0]) h) : ACalls Try.prog 11 [x0] h M R :=
  acalls_of Try.mixed Try.func11 rfl (Nat.le_of_ble_eq_true rfl) F11.ok (by rw [show Try.f11.ntmps = 121 from rfl, show Try.f11.results.toList = [.tmp 2, .tmp 3, .tmp 4] from rfl]; exact Eq.mpr (F11.k54_ok _ _ _ _ _) hp)
attribute [simp] F11.k1 F11.t1 F11.k2 F11.t2 F11.k3 F11.t3 F11.k4 F11.t4 F11.k5 F11.t5 F11.k6 F11.t6 F11.k7 F11.t7 F11.k8 F11.t8 F11.k9 F11.k10 F11.t10 F11.k11 F11.t11 F11.k12 F11.t12 F11.k13 F11.t13 F11.k14 F11.t14 F11.k15 F11.t15 F11.k16 F11.t16 F11.k17 F11.t17 F11.k18 F11.k19 F11.t19 F11.k20 F11.t20 F11.k21 F11.t21 F11.k22 F11.t22 F11.k23 F11.t23 F11.k24 F11.t24 F11.k25 F11.t25 F11.k26 F11.t26 F11.k27 F11.t27 F11.k28 F11.t28 F11.k29 F11.t29 F11.k30 F11.k31 F11.t31 F11.k32 F11.t32 F11.k33 F11.t33 F11.k34 F11.t34 F11.k35 F11.t35 F11.k36 F11.t36 F11.k37 F11.t37 F11.k38 F11.t38 F11.k39 F11.t39 F11.k40 F11.t40 F11.k41 F11.t41 F11.k42 F11.t42 F11.k43 F11.t43 F11.k44 F11.t44 F11.k45 F11.t45 F11.k46 F11.t46 F11.k47 F11.t47 F11.k48 F11.k49 F11.t49 F11.k50 F11.t50 F11.k51 F11.t51 F11.k52 F11.t52 F11.k53 F11.t53 F11.k54 F11.t54
end Go.Proofs.Ythkkgbmjjpcfaaa

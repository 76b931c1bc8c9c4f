/- The body of lex.Scan and of the deferred function of parse.Parse, written out for the table; printed by a program of this session. No condition. -/
import Derived.Test.YthkkgbmjjpcfaaaDoorGl
namespace Go.Proofs.YthkkgbmjjpcfaaaDoor
open Go.Ab
section
variable (W : Nat → Prop) (Q : Post) (QP : PPost) (s : St) (h : AH)
noncomputable def F18.code : Code := Tryd.f18.body.getD .skip
def F18.g1 : Grps := [(none, [(0, false), (1, false), (2, false), (3, false), (4, false)]), (some (4, true), [(5, false), (6, false), (7, false), (8, false)]), (none, [(9, false)])]
def F18.g2 : Grps := [(none, [(0, false), (1, false), (2, false)]), (some (2, false), [(3, false), (4, false)]), (none, [(5, false), (6, false)]), (some (6, false), [(7, false), (8, false)]), (none, [(9, false), (10, false)]), (some (10, false), [(11, false), (12, false)]), (none, [(13, false), (14, false)])]
def F18.pl : Plans := [(8, ⟨F18.g2, false, [], []⟩), (16, ⟨F18.g1, false, [], []⟩)]
theorem F18.ok : okCode Tryd.prog F18.pl F18.code = true := by kernel_rfl
noncomputable abbrev F18.d (p : List Nat) : Code := Code.at F18.code p
abbrev F18.cw (W : Nat → Prop) (c : Code) (Q : Post) (QP : PPost) : KT := Go.Ab.aw Tryd.prog 85 W F18.pl c Q QP
def F18.t1 (Q : Post) (s : St) (h : AH) : Prop :=
  Q .ret ⟨puts s.tm [(84, (s.tm 5)), (2, (s.tm 5)), (3, (.sc (.int .i64 0))), (4, (.sc (.int .i64 0)))], s.ds⟩ h
def F18.k1 (W : Nat → Prop) (Q : Post) (QP : PPost) (s : St) (h : AH) : Prop := F18.t1 Q s h
theorem F18.k1_a : F18.cw W (F18.d [1, 0, 1, 1, 1, 1, 1, 0]) (thenQ (F18.cw W (F18.d [1, 0, 1, 1, 1, 1, 1, 1]) (noGotoQ (Q)) QP) (noGotoQ (Q))) QP s h = F18.t1 Q s h := by kernel_rfl
theorem F18.k1_ok : F18.cw W (F18.d [1, 0, 1, 1, 1, 1, 1]) (noGotoQ (Q)) QP s h = F18.k1 W Q QP s h := nd_seq (a := (F18.d [1, 0, 1, 1, 1, 1, 1, 0])) (b := (F18.d [1, 0, 1, 1, 1, 1, 1, 1])) (by kernel_rfl) (fun _ _ => rfl) (F18.k1_a W Q QP s h)
def F18.t2 (Q : Post) (s : St) (h : AH) : Prop :=
  Q .normal ⟨puts s.tm [(83, (s.tm 8)), (6, (s.tm 8))], s.ds⟩ h
def F18.k2 (W : Nat → Prop) (Q : Post) (QP : PPost) (s : St) (h : AH) : Prop := F18.t2 Q s h
theorem F18.k2_a : F18.cw W (F18.d [1, 0, 1, 1, 1, 1, 0, 0, 0, 1, 0, 1, 1, 1, 1]) (blockQ 1 (Q)) QP s h = F18.t2 Q s h := by kernel_rfl
theorem F18.k2_ok : F18.cw W (F18.d [1, 0, 1, 1, 1, 1, 0, 0, 0, 1, 0, 1, 1, 1, 1]) (blockQ 1 (Q)) QP s h = F18.k2 W Q QP s h := (F18.k2_a W Q QP s h)
def F18.t3 (W : Nat → Prop) (s : St) (h : AH) (C0 : KT) : Prop :=
  pSlS (s.tm 0) (some (s.tm 6)) (some (s.tm 8)) fun t1 =>
  pBld (some ([.int .i64 0, .string ⟨#[]⟩, .int .i64 0], .inl [(0, 1), (1, 1), (2, 1)])) [(0, (s.tm 9)), (1, t1), (2, (s.tm 6))] fun t2 =>
  eBSl (some (3, 77, [.int .i64 0, .string ⟨#[]⟩, .int .i64 0])) 1 [(0, t2)] h fun t3 h4 =>
  eApp (some (3, 32, 77)) (s.tm 5) t3 h4 W fun t5 h6 =>
  C0 ⟨puts s.tm [(73, (s.tm 5)), (74, (s.tm 9)), (75, (s.tm 0)), (76, (s.tm 6)), (77, (s.tm 8)), (78, t1), (79, (s.tm 6)), (80, t2), (81, t3), (82, t5), (5, t5)], s.ds⟩ h6
def F18.k3 (W : Nat → Prop) (Q : Post) (QP : PPost) (s : St) (h : AH) : Prop := F18.t3 W s h (F18.k2 W Q QP)
theorem F18.k3_a (C0 : KT) : F18.cw W (F18.d [1, 0, 1, 1, 1, 1, 0, 0, 0, 1, 0, 1, 1, 1, 0]) (thenQ (C0) (blockQ 1 (Q))) QP s h = F18.t3 W s h C0 := by kernel_rfl
theorem F18.k3_ok : F18.cw W (F18.d [1, 0, 1, 1, 1, 1, 0, 0, 0, 1, 0, 1, 1, 1]) (blockQ 1 (Q)) QP s h = F18.k3 W Q QP s h := nd_seq (a := (F18.d [1, 0, 1, 1, 1, 1, 0, 0, 0, 1, 0, 1, 1, 1, 0])) (b := (F18.d [1, 0, 1, 1, 1, 1, 0, 0, 0, 1, 0, 1, 1, 1, 1])) (by kernel_rfl) (F18.k2_ok W Q QP) (F18.k3_a W Q QP s h (F18.k2 W Q QP))
def F18.t4 (Q : Post) (s : St) (h : AH) (C0 : KT) : Prop :=
  pBin Tryd.prog .add 3 true (s.tm 6) (.sc (.int .i64 1)) fun t7 =>
  Q .normal ⟨puts s.tm [(37, (s.tm 6)), (38, t7), (6, t7)], s.ds⟩ h
def F18.k4 (W : Nat → Prop) (Q : Post) (QP : PPost) (s : St) (h : AH) : Prop := F18.t4 Q s h (F18.k3 W Q QP)
theorem F18.k4_a (C0 : KT) : F18.cw W (F18.d [1, 0, 1, 1, 1, 1, 0, 0, 0, 1, 0, 1, 1, 0, 0, 1, 0, 0]) (thenQ (F18.cw W (F18.d [1, 0, 1, 1, 1, 1, 0, 0, 0, 1, 0, 1, 1, 0, 0, 1, 0, 1]) (blockQ 2 (thenQ (C0) (blockQ 1 (Q)))) QP) (blockQ 2 (thenQ (C0) (blockQ 1 (Q))))) QP s h = F18.t4 Q s h C0 := by kernel_rfl
theorem F18.k4_ok : F18.cw W (F18.d [1, 0, 1, 1, 1, 1, 0, 0, 0, 1, 0, 1, 1, 0, 0, 1, 0]) (blockQ 2 (thenQ (F18.k3 W Q QP) (blockQ 1 (Q)))) QP s h = F18.k4 W Q QP s h := nd_seq (a := (F18.d [1, 0, 1, 1, 1, 1, 0, 0, 0, 1, 0, 1, 1, 0, 0, 1, 0, 0])) (b := (F18.d [1, 0, 1, 1, 1, 1, 0, 0, 0, 1, 0, 1, 1, 0, 0, 1, 0, 1])) (by kernel_rfl) (fun _ _ => rfl) (F18.k4_a W Q QP s h (F18.k3 W Q QP))
def F18.t5 (W : Nat → Prop) (Q : Post) (QP : PPost) (s : St) (h : AH) (C0 : KT) : Prop :=
  aCall Tryd.prog W 28 [(s.tm 0), (s.tm 6), (.fn (.func 29) [] [])] h (fun t8 h9 =>
  Q .normal ⟨puts s.tm [(42, (s.tm 0)), (43, (s.tm 6)), (44, t8), (6, t8)], s.ds⟩ h9) (QP s.ds)
def F18.k5 (W : Nat → Prop) (Q : Post) (QP : PPost) (s : St) (h : AH) : Prop := F18.t5 W Q QP s h (F18.k3 W Q QP)
theorem F18.k5_a (C0 : KT) : F18.cw W (F18.d [1, 0, 1, 1, 1, 1, 0, 0, 0, 1, 0, 1, 1, 0, 0, 1, 1, 1, 0, 0]) (thenQ (F18.cw W (F18.d [1, 0, 1, 1, 1, 1, 0, 0, 0, 1, 0, 1, 1, 0, 0, 1, 1, 1, 0, 1]) (blockQ 2 (thenQ (C0) (blockQ 1 (Q)))) QP) (blockQ 2 (thenQ (C0) (blockQ 1 (Q))))) QP s h = F18.t5 W Q QP s h C0 := by kernel_rfl
theorem F18.k5_ok : F18.cw W (F18.d [1, 0, 1, 1, 1, 1, 0, 0, 0, 1, 0, 1, 1, 0, 0, 1, 1, 1, 0]) (blockQ 2 (thenQ (F18.k3 W Q QP) (blockQ 1 (Q)))) QP s h = F18.k5 W Q QP s h := nd_seq (a := (F18.d [1, 0, 1, 1, 1, 1, 0, 0, 0, 1, 0, 1, 1, 0, 0, 1, 1, 1, 0, 0])) (b := (F18.d [1, 0, 1, 1, 1, 1, 0, 0, 0, 1, 0, 1, 1, 0, 0, 1, 1, 1, 0, 1])) (by kernel_rfl) (fun _ _ => rfl) (F18.k5_a W Q QP s h (F18.k3 W Q QP))
def F18.t6 (Q : Post) (s : St) (h : AH) (C0 : KT) : Prop :=
  Q .ret ⟨puts s.tm [(67, (s.tm 8)), (2, (.sc (.slice none 0 0))), (3, (s.tm 8)), (4, (.sc (.int .i64 90)))], s.ds⟩ h
def F18.k6 (W : Nat → Prop) (Q : Post) (QP : PPost) (s : St) (h : AH) : Prop := F18.t6 Q s h (F18.k3 W Q QP)
theorem F18.k6_a (C0 : KT) : F18.cw W (F18.d [1, 0, 1, 1, 1, 1, 0, 0, 0, 1, 0, 1, 1, 0, 0, 1, 1, 1, 1, 1, 1, 1, 0, 1, 1, 0, 0]) (thenQ (F18.cw W (F18.d [1, 0, 1, 1, 1, 1, 0, 0, 0, 1, 0, 1, 1, 0, 0, 1, 1, 1, 1, 1, 1, 1, 0, 1, 1, 0, 1]) (blockQ 2 (thenQ (C0) (blockQ 1 (Q)))) QP) (blockQ 2 (thenQ (C0) (blockQ 1 (Q))))) QP s h = F18.t6 Q s h C0 := by kernel_rfl
theorem F18.k6_ok : F18.cw W (F18.d [1, 0, 1, 1, 1, 1, 0, 0, 0, 1, 0, 1, 1, 0, 0, 1, 1, 1, 1, 1, 1, 1, 0, 1, 1, 0]) (blockQ 2 (thenQ (F18.k3 W Q QP) (blockQ 1 (Q)))) QP s h = F18.k6 W Q QP s h := nd_seq (a := (F18.d [1, 0, 1, 1, 1, 1, 0, 0, 0, 1, 0, 1, 1, 0, 0, 1, 1, 1, 1, 1, 1, 1, 0, 1, 1, 0, 0])) (b := (F18.d [1, 0, 1, 1, 1, 1, 0, 0, 0, 1, 0, 1, 1, 0, 0, 1, 1, 1, 1, 1, 1, 1, 0, 1, 1, 0, 1])) (by kernel_rfl) (fun _ _ => rfl) (F18.k6_a W Q QP s h (F18.k3 W Q QP))
def F18.t7 (s : St) (h : AH) (C0 C1 : KT) : Prop :=
  aIf (s.tm 66) (
  C1 s h) (
  C0 s h)
def F18.k7 (W : Nat → Prop) (Q : Post) (QP : PPost) (s : St) (h : AH) : Prop := F18.t7 s h (F18.k3 W Q QP) (F18.k6 W Q QP)
theorem F18.k7_a (C0 C1 : KT) : aIf (aev s (.tmp 66)) (C1 s h) (F18.cw W (F18.d [1, 0, 1, 1, 1, 1, 0, 0, 0, 1, 0, 1, 1, 0, 0, 1, 1, 1, 1, 1, 1, 1, 0, 1, 1, 1]) (blockQ 2 (thenQ (C0) (blockQ 1 (Q)))) QP s h) = F18.t7 s h C0 C1 := by kernel_rfl
theorem F18.k7_ok : F18.cw W (F18.d [1, 0, 1, 1, 1, 1, 0, 0, 0, 1, 0, 1, 1, 0, 0, 1, 1, 1, 1, 1, 1, 1, 0, 1, 1]) (blockQ 2 (thenQ (F18.k3 W Q QP) (blockQ 1 (Q)))) QP s h = F18.k7 W Q QP s h := nd_cond (a := (F18.d [1, 0, 1, 1, 1, 1, 0, 0, 0, 1, 0, 1, 1, 0, 0, 1, 1, 1, 1, 1, 1, 1, 0, 1, 1, 0])) (b := (F18.d [1, 0, 1, 1, 1, 1, 0, 0, 0, 1, 0, 1, 1, 0, 0, 1, 1, 1, 1, 1, 1, 1, 0, 1, 1, 1])) (by kernel_rfl) (F18.k6_ok W Q QP s h) rfl (F18.k7_a W Q QP s h (F18.k3 W Q QP) (F18.k6 W Q QP))
def F18.t8 (s : St) (h : AH) (C0 C1 : KT) : Prop :=
  pPick (s.tm 61) (s.tm 65) (.sc (.bool false)) fun t12 =>
  C1 ⟨puts s.tm [(66, t12)], s.ds⟩ h
def F18.k8 (W : Nat → Prop) (Q : Post) (QP : PPost) (s : St) (h : AH) : Prop := F18.t8 s h (F18.k3 W Q QP) (F18.k7 W Q QP)
theorem F18.k8_a (C0 C1 : KT) : evI Tryd.prog 85 (fun _ => W) nobody QP (regOps (F18.d [1, 0, 1, 1, 1, 1, 0, 0, 0, 1, 0, 1, 1, 0, 0, 1, 1, 1, 1, 1, 1, 1, 0, 1, 0])) (isAt F18.g1 2) ((thenQ (C1) (blockQ 2 (thenQ (C0) (blockQ 1 (Q))))) .normal) s h = F18.t8 s h C0 C1 := by kernel_rfl
theorem F18.k8_ok : evG Tryd.prog 85 (fun _ => W) nobody QP (regOps (F18.d [1, 0, 1, 1, 1, 1, 0, 0, 0, 1, 0, 1, 1, 0, 0, 1, 1, 1, 1, 1, 1, 1, 0, 1, 0])) (F18.g1.drop 2) ((thenQ (F18.k7 W Q QP) (blockQ 2 (thenQ (F18.k3 W Q QP) (blockQ 1 (Q))))) .normal) s h = F18.k8 W Q QP s h := nd_g (is := isAt F18.g1 2) (rest := F18.g1.drop 3) (by kernel_rfl) (fun _ _ => rfl) (F18.k8_a W Q QP s h (F18.k3 W Q QP) (F18.k7 W Q QP))
def F18.t9 (W : Nat → Prop) (QP : PPost) (s : St) (h : AH) (C0 : KT) : Prop :=
  aIg true (s.tm 61) (
  pIxS true (s.tm 0) (s.tm 8) fun t13 =>
  aCall Tryd.prog W 30 [t13] h (fun t14 h15 =>
  C0 ⟨puts s.tm [(62, (s.tm 0)), (63, (s.tm 8)), (64, t13), (65, t14)], s.ds⟩ h15) (QP s.ds)) (
  C0 ⟨puts s.tm [(62, noA), (63, noA), (64, noA), (65, noA)], s.ds⟩ h)
def F18.k9 (W : Nat → Prop) (Q : Post) (QP : PPost) (s : St) (h : AH) : Prop := F18.t9 W QP s h (F18.k8 W Q QP)
theorem F18.k9_a (C0 : KT) : aIg true (s.tm 61) (evI Tryd.prog 85 (fun _ => W) nobody QP (regOps (F18.d [1, 0, 1, 1, 1, 1, 0, 0, 0, 1, 0, 1, 1, 0, 0, 1, 1, 1, 1, 1, 1, 1, 0, 1, 0])) (isAt F18.g1 1) (C0) s h) ((C0) (skI 85 (regOps (F18.d [1, 0, 1, 1, 1, 1, 0, 0, 0, 1, 0, 1, 1, 0, 0, 1, 1, 1, 1, 1, 1, 1, 0, 1, 0])) (isAt F18.g1 1) s) h) = F18.t9 W QP s h C0 := by kernel_rfl
theorem F18.k9_ok : evG Tryd.prog 85 (fun _ => W) nobody QP (regOps (F18.d [1, 0, 1, 1, 1, 1, 0, 0, 0, 1, 0, 1, 1, 0, 0, 1, 1, 1, 1, 1, 1, 1, 0, 1, 0])) (F18.g1.drop 1) ((thenQ (F18.k7 W Q QP) (blockQ 2 (thenQ (F18.k3 W Q QP) (blockQ 1 (Q))))) .normal) s h = F18.k9 W Q QP s h := nd_gw (j := 4) (is := isAt F18.g1 1) (rest := F18.g1.drop 2) (by kernel_rfl) (d := 61) (by kernel_rfl) (F18.k8_ok W Q QP) (F18.k9_a W QP s h (F18.k8 W Q QP))
def F18.t10 (s : St) (h : AH) (C0 : KT) : Prop :=
  (strArg (s.tm 0) = true) ∧ pLen (s.tm 0) fun t16 =>
  pBin Tryd.prog .lss 3 false (s.tm 8) t16 fun t17 =>
  C0 ⟨puts s.tm [(57, (s.tm 8)), (58, (s.tm 0)), (59, t16), (60, t17), (61, t17)], s.ds⟩ h
def F18.k10 (W : Nat → Prop) (Q : Post) (QP : PPost) (s : St) (h : AH) : Prop := F18.t10 s h (F18.k9 W Q QP)
theorem F18.k10_a (C0 : KT) : evI Tryd.prog 85 (fun _ => W) nobody QP (regOps (F18.d [1, 0, 1, 1, 1, 1, 0, 0, 0, 1, 0, 1, 1, 0, 0, 1, 1, 1, 1, 1, 1, 1, 0, 1, 0])) (isAt F18.g1 0) (C0) s h = F18.t10 s h C0 := by kernel_rfl
theorem F18.k10_ok : evG Tryd.prog 85 (fun _ => W) nobody QP (regOps (F18.d [1, 0, 1, 1, 1, 1, 0, 0, 0, 1, 0, 1, 1, 0, 0, 1, 1, 1, 1, 1, 1, 1, 0, 1, 0])) (F18.g1.drop 0) ((thenQ (F18.k7 W Q QP) (blockQ 2 (thenQ (F18.k3 W Q QP) (blockQ 1 (Q))))) .normal) s h = F18.k10 W Q QP s h := nd_g (is := isAt F18.g1 0) (rest := F18.g1.drop 1) (by kernel_rfl) (F18.k9_ok W Q QP) (F18.k10_a W QP s h (F18.k9 W Q QP))
theorem F18.o1 : F18.cw W (F18.d [1, 0, 1, 1, 1, 1, 0, 0, 0, 1, 0, 1, 1, 0, 0, 1, 1, 1, 1, 1, 1, 1, 0, 1, 0]) (thenQ (F18.k7 W Q QP) (blockQ 2 (thenQ (F18.k3 W Q QP) (blockQ 1 (Q))))) QP s h = F18.k10 W Q QP s h := nd_groups (id := 16) (draw := false) (ops := (regOps (F18.d [1, 0, 1, 1, 1, 1, 0, 0, 0, 1, 0, 1, 1, 0, 0, 1, 1, 1, 1, 1, 1, 1, 0, 1, 0]))) (gs := F18.g1.drop 0) (by kernel_rfl) (by kernel_rfl) (F18.k10_ok W Q QP s h)
theorem F18.o2 : F18.cw W (F18.d [1, 0, 1, 1, 1, 1, 0, 0, 0, 1, 0, 1, 1, 0, 0, 1, 1, 1, 1, 1, 1, 1, 0, 1]) (blockQ 2 (thenQ (F18.k3 W Q QP) (blockQ 1 (Q)))) QP s h = F18.k10 W Q QP s h := nd_seq (a := (F18.d [1, 0, 1, 1, 1, 1, 0, 0, 0, 1, 0, 1, 1, 0, 0, 1, 1, 1, 1, 1, 1, 1, 0, 1, 0])) (b := (F18.d [1, 0, 1, 1, 1, 1, 0, 0, 0, 1, 0, 1, 1, 0, 0, 1, 1, 1, 1, 1, 1, 1, 0, 1, 1])) (by kernel_rfl) (F18.k7_ok W Q QP) (F18.o1 W Q QP s h)
def F18.t11 (W : Nat → Prop) (QP : PPost) (s : St) (h : AH) (C0 C1 : KT) : Prop :=
  aCall Tryd.prog W 28 [(s.tm 0), (s.tm 6), (.fn (.func 32) [] [])] h (fun t18 h19 =>
  C0 ⟨puts s.tm [(54, (s.tm 0)), (55, (s.tm 6)), (56, t18), (8, t18), (9, (.sc (.int .i64 2)))], s.ds⟩ h19) (QP s.ds)
def F18.k11 (W : Nat → Prop) (Q : Post) (QP : PPost) (s : St) (h : AH) : Prop := F18.t11 W QP s h (F18.k10 W Q QP) (F18.k3 W Q QP)
theorem F18.k11_a (C0 C1 : KT) : F18.cw W (F18.d [1, 0, 1, 1, 1, 1, 0, 0, 0, 1, 0, 1, 1, 0, 0, 1, 1, 1, 1, 1, 1, 1, 0, 0]) (thenQ (C0) (blockQ 2 (thenQ (C1) (blockQ 1 (Q))))) QP s h = F18.t11 W QP s h C0 C1 := by kernel_rfl
theorem F18.k11_ok : F18.cw W (F18.d [1, 0, 1, 1, 1, 1, 0, 0, 0, 1, 0, 1, 1, 0, 0, 1, 1, 1, 1, 1, 1, 1, 0]) (blockQ 2 (thenQ (F18.k3 W Q QP) (blockQ 1 (Q)))) QP s h = F18.k11 W Q QP s h := nd_seq (a := (F18.d [1, 0, 1, 1, 1, 1, 0, 0, 0, 1, 0, 1, 1, 0, 0, 1, 1, 1, 1, 1, 1, 1, 0, 0])) (b := (F18.d [1, 0, 1, 1, 1, 1, 0, 0, 0, 1, 0, 1, 1, 0, 0, 1, 1, 1, 1, 1, 1, 1, 0, 1])) (by kernel_rfl) (F18.o2 W Q QP) (F18.k11_a W Q QP s h (F18.k10 W Q QP) (F18.k3 W Q QP))
def F18.t12 (Q : Post) (s : St) (h : AH) (C0 : KT) : Prop :=
  Q .ret ⟨puts s.tm [(72, (s.tm 6)), (2, (.sc (.slice none 0 0))), (3, (s.tm 6)), (4, (.sc (.int .i64 90)))], s.ds⟩ h
def F18.k12 (W : Nat → Prop) (Q : Post) (QP : PPost) (s : St) (h : AH) : Prop := F18.t12 Q s h (F18.k3 W Q QP)
theorem F18.k12_a (C0 : KT) : F18.cw W (F18.d [1, 0, 1, 1, 1, 1, 0, 0, 0, 1, 0, 1, 1, 0, 0, 1, 1, 1, 1, 1, 1, 1, 1, 1, 0, 0]) (thenQ (F18.cw W (F18.d [1, 0, 1, 1, 1, 1, 0, 0, 0, 1, 0, 1, 1, 0, 0, 1, 1, 1, 1, 1, 1, 1, 1, 1, 0, 1]) (blockQ 2 (thenQ (C0) (blockQ 1 (Q)))) QP) (blockQ 2 (thenQ (C0) (blockQ 1 (Q))))) QP s h = F18.t12 Q s h C0 := by kernel_rfl
theorem F18.k12_ok : F18.cw W (F18.d [1, 0, 1, 1, 1, 1, 0, 0, 0, 1, 0, 1, 1, 0, 0, 1, 1, 1, 1, 1, 1, 1, 1, 1, 0]) (blockQ 2 (thenQ (F18.k3 W Q QP) (blockQ 1 (Q)))) QP s h = F18.k12 W Q QP s h := nd_seq (a := (F18.d [1, 0, 1, 1, 1, 1, 0, 0, 0, 1, 0, 1, 1, 0, 0, 1, 1, 1, 1, 1, 1, 1, 1, 1, 0, 0])) (b := (F18.d [1, 0, 1, 1, 1, 1, 0, 0, 0, 1, 0, 1, 1, 0, 0, 1, 1, 1, 1, 1, 1, 1, 1, 1, 0, 1])) (by kernel_rfl) (fun _ _ => rfl) (F18.k12_a W Q QP s h (F18.k3 W Q QP))
def F18.t13 (s : St) (h : AH) (C0 C1 : KT) : Prop :=
  aIf (s.tm 68) (
  C0 s h) (
  C1 s h)
def F18.k13 (W : Nat → Prop) (Q : Post) (QP : PPost) (s : St) (h : AH) : Prop := F18.t13 s h (F18.k12 W Q QP) (F18.k3 W Q QP)
theorem F18.k13_a (C0 C1 : KT) : aIf (aev s (.tmp 68)) (C0 s h) (F18.cw W (F18.d [1, 0, 1, 1, 1, 1, 0, 0, 0, 1, 0, 1, 1, 0, 0, 1, 1, 1, 1, 1, 1, 1, 1, 1, 1]) (blockQ 2 (thenQ (C1) (blockQ 1 (Q)))) QP s h) = F18.t13 s h C0 C1 := by kernel_rfl
theorem F18.k13_ok : F18.cw W (F18.d [1, 0, 1, 1, 1, 1, 0, 0, 0, 1, 0, 1, 1, 0, 0, 1, 1, 1, 1, 1, 1, 1, 1, 1]) (blockQ 2 (thenQ (F18.k3 W Q QP) (blockQ 1 (Q)))) QP s h = F18.k13 W Q QP s h := nd_cond (a := (F18.d [1, 0, 1, 1, 1, 1, 0, 0, 0, 1, 0, 1, 1, 0, 0, 1, 1, 1, 1, 1, 1, 1, 1, 1, 0])) (b := (F18.d [1, 0, 1, 1, 1, 1, 0, 0, 0, 1, 0, 1, 1, 0, 0, 1, 1, 1, 1, 1, 1, 1, 1, 1, 1])) (by kernel_rfl) (F18.k12_ok W Q QP s h) rfl (F18.k13_a W Q QP s h (F18.k12 W Q QP) (F18.k3 W Q QP))
def F18.t14 (W : Nat → Prop) (QP : PPost) (s : St) (h : AH) (C0 C1 : KT) : Prop :=
  aCall Tryd.prog W 33 [(.sc (.string ⟨#[123, 125, 91, 93, 59, 44]⟩)), (s.tm 7)] h (fun t20 h21 =>
  pBin Tryd.prog .lss 3 true t20 (.sc (.int .i64 0)) fun t22 =>
  C0 ⟨puts s.tm [(69, (s.tm 7)), (70, t20), (71, t22), (68, t22)], s.ds⟩ h21) (QP s.ds)
def F18.k14 (W : Nat → Prop) (Q : Post) (QP : PPost) (s : St) (h : AH) : Prop := F18.t14 W QP s h (F18.k13 W Q QP) (F18.k3 W Q QP)
theorem F18.k14_a (C0 C1 : KT) : F18.cw W (F18.d [1, 0, 1, 1, 1, 1, 0, 0, 0, 1, 0, 1, 1, 0, 0, 1, 1, 1, 1, 1, 1, 1, 1, 0]) (thenQ (C0) (blockQ 2 (thenQ (C1) (blockQ 1 (Q))))) QP s h = F18.t14 W QP s h C0 C1 := by kernel_rfl
theorem F18.k14_ok : F18.cw W (F18.d [1, 0, 1, 1, 1, 1, 0, 0, 0, 1, 0, 1, 1, 0, 0, 1, 1, 1, 1, 1, 1, 1, 1]) (blockQ 2 (thenQ (F18.k3 W Q QP) (blockQ 1 (Q)))) QP s h = F18.k14 W Q QP s h := nd_seq (a := (F18.d [1, 0, 1, 1, 1, 1, 0, 0, 0, 1, 0, 1, 1, 0, 0, 1, 1, 1, 1, 1, 1, 1, 1, 0])) (b := (F18.d [1, 0, 1, 1, 1, 1, 0, 0, 0, 1, 0, 1, 1, 0, 0, 1, 1, 1, 1, 1, 1, 1, 1, 1])) (by kernel_rfl) (F18.k13_ok W Q QP) (F18.k14_a W Q QP s h (F18.k13 W Q QP) (F18.k3 W Q QP))
def F18.t15 (s : St) (h : AH) (C0 C1 : KT) : Prop :=
  aIf (s.tm 51) (
  C0 s h) (
  C1 s h)
def F18.k15 (W : Nat → Prop) (Q : Post) (QP : PPost) (s : St) (h : AH) : Prop := F18.t15 s h (F18.k11 W Q QP) (F18.k14 W Q QP)
theorem F18.k15_a (C0 C1 : KT) : aIf (aev s (.tmp 51)) (C0 s h) (C1 s h) = F18.t15 s h C0 C1 := by kernel_rfl
theorem F18.k15_ok : F18.cw W (F18.d [1, 0, 1, 1, 1, 1, 0, 0, 0, 1, 0, 1, 1, 0, 0, 1, 1, 1, 1, 1, 1, 1]) (blockQ 2 (thenQ (F18.k3 W Q QP) (blockQ 1 (Q)))) QP s h = F18.k15 W Q QP s h := nd_cond (a := (F18.d [1, 0, 1, 1, 1, 1, 0, 0, 0, 1, 0, 1, 1, 0, 0, 1, 1, 1, 1, 1, 1, 1, 0])) (b := (F18.d [1, 0, 1, 1, 1, 1, 0, 0, 0, 1, 0, 1, 1, 0, 0, 1, 1, 1, 1, 1, 1, 1, 1])) (by kernel_rfl) (F18.k11_ok W Q QP s h) (F18.k14_ok W Q QP s h) (F18.k15_a s h (F18.k11 W Q QP) (F18.k14 W Q QP))
def F18.t16 (W : Nat → Prop) (QP : PPost) (s : St) (h : AH) (C0 C1 : KT) : Prop :=
  aCall Tryd.prog W 32 [(s.tm 7)] h (fun t23 h24 =>
  C0 ⟨puts s.tm [(52, (s.tm 7)), (53, t23), (51, t23)], s.ds⟩ h24) (QP s.ds)
def F18.k16 (W : Nat → Prop) (Q : Post) (QP : PPost) (s : St) (h : AH) : Prop := F18.t16 W QP s h (F18.k15 W Q QP) (F18.k3 W Q QP)
theorem F18.k16_a (C0 C1 : KT) : F18.cw W (F18.d [1, 0, 1, 1, 1, 1, 0, 0, 0, 1, 0, 1, 1, 0, 0, 1, 1, 1, 1, 1, 1, 0]) (thenQ (C0) (blockQ 2 (thenQ (C1) (blockQ 1 (Q))))) QP s h = F18.t16 W QP s h C0 C1 := by kernel_rfl
theorem F18.k16_ok : F18.cw W (F18.d [1, 0, 1, 1, 1, 1, 0, 0, 0, 1, 0, 1, 1, 0, 0, 1, 1, 1, 1, 1, 1]) (blockQ 2 (thenQ (F18.k3 W Q QP) (blockQ 1 (Q)))) QP s h = F18.k16 W Q QP s h := nd_seq (a := (F18.d [1, 0, 1, 1, 1, 1, 0, 0, 0, 1, 0, 1, 1, 0, 0, 1, 1, 1, 1, 1, 1, 0])) (b := (F18.d [1, 0, 1, 1, 1, 1, 0, 0, 0, 1, 0, 1, 1, 0, 0, 1, 1, 1, 1, 1, 1, 1])) (by kernel_rfl) (F18.k15_ok W Q QP) (F18.k16_a W Q QP s h (F18.k15 W Q QP) (F18.k3 W Q QP))
def F18.t17 (W : Nat → Prop) (QP : PPost) (s : St) (h : AH) (C0 C1 : KT) : Prop :=
  aIf (s.tm 45) (
  aCall Tryd.prog W 28 [(s.tm 0), (s.tm 6), (.fn (.func 31) [] [])] h (fun t10 h11 =>
  C1 ⟨puts s.tm [(48, (s.tm 0)), (49, (s.tm 6)), (50, t10), (8, t10), (9, (.sc (.int .i64 1)))], s.ds⟩ h11) (QP s.ds)) (
  C0 s h)
def F18.k17 (W : Nat → Prop) (Q : Post) (QP : PPost) (s : St) (h : AH) : Prop := F18.t17 W QP s h (F18.k16 W Q QP) (F18.k3 W Q QP)
theorem F18.k17_a (C0 C1 : KT) : aIf (aev s (.tmp 45)) (F18.cw W (F18.d [1, 0, 1, 1, 1, 1, 0, 0, 0, 1, 0, 1, 1, 0, 0, 1, 1, 1, 1, 1, 0]) (blockQ 2 (thenQ (C1) (blockQ 1 (Q)))) QP s h) (C0 s h) = F18.t17 W QP s h C0 C1 := by kernel_rfl
theorem F18.k17_ok : F18.cw W (F18.d [1, 0, 1, 1, 1, 1, 0, 0, 0, 1, 0, 1, 1, 0, 0, 1, 1, 1, 1, 1]) (blockQ 2 (thenQ (F18.k3 W Q QP) (blockQ 1 (Q)))) QP s h = F18.k17 W Q QP s h := nd_cond (a := (F18.d [1, 0, 1, 1, 1, 1, 0, 0, 0, 1, 0, 1, 1, 0, 0, 1, 1, 1, 1, 1, 0])) (b := (F18.d [1, 0, 1, 1, 1, 1, 0, 0, 0, 1, 0, 1, 1, 0, 0, 1, 1, 1, 1, 1, 1])) (by kernel_rfl) rfl (F18.k16_ok W Q QP s h) (F18.k17_a W Q QP s h (F18.k16 W Q QP) (F18.k3 W Q QP))
def F18.t18 (W : Nat → Prop) (QP : PPost) (s : St) (h : AH) (C0 C1 : KT) : Prop :=
  aCall Tryd.prog W 30 [(s.tm 7)] h (fun t25 h26 =>
  C0 ⟨puts s.tm [(46, (s.tm 7)), (47, t25), (45, t25)], s.ds⟩ h26) (QP s.ds)
def F18.k18 (W : Nat → Prop) (Q : Post) (QP : PPost) (s : St) (h : AH) : Prop := F18.t18 W QP s h (F18.k17 W Q QP) (F18.k3 W Q QP)
theorem F18.k18_a (C0 C1 : KT) : F18.cw W (F18.d [1, 0, 1, 1, 1, 1, 0, 0, 0, 1, 0, 1, 1, 0, 0, 1, 1, 1, 1, 0]) (thenQ (C0) (blockQ 2 (thenQ (C1) (blockQ 1 (Q))))) QP s h = F18.t18 W QP s h C0 C1 := by kernel_rfl
theorem F18.k18_ok : F18.cw W (F18.d [1, 0, 1, 1, 1, 1, 0, 0, 0, 1, 0, 1, 1, 0, 0, 1, 1, 1, 1]) (blockQ 2 (thenQ (F18.k3 W Q QP) (blockQ 1 (Q)))) QP s h = F18.k18 W Q QP s h := nd_seq (a := (F18.d [1, 0, 1, 1, 1, 1, 0, 0, 0, 1, 0, 1, 1, 0, 0, 1, 1, 1, 1, 0])) (b := (F18.d [1, 0, 1, 1, 1, 1, 0, 0, 0, 1, 0, 1, 1, 0, 0, 1, 1, 1, 1, 1])) (by kernel_rfl) (F18.k17_ok W Q QP) (F18.k18_a W Q QP s h (F18.k17 W Q QP) (F18.k3 W Q QP))
def F18.t19 (s : St) (h : AH) (C0 C1 : KT) : Prop :=
  aIf (s.tm 39) (
  C1 s h) (
  C0 s h)
def F18.k19 (W : Nat → Prop) (Q : Post) (QP : PPost) (s : St) (h : AH) : Prop := F18.t19 s h (F18.k18 W Q QP) (F18.k5 W Q QP)
theorem F18.k19_a (C0 C1 : KT) : aIf (aev s (.tmp 39)) (C1 s h) (C0 s h) = F18.t19 s h C0 C1 := by kernel_rfl
theorem F18.k19_ok : F18.cw W (F18.d [1, 0, 1, 1, 1, 1, 0, 0, 0, 1, 0, 1, 1, 0, 0, 1, 1, 1]) (blockQ 2 (thenQ (F18.k3 W Q QP) (blockQ 1 (Q)))) QP s h = F18.k19 W Q QP s h := nd_cond (a := (F18.d [1, 0, 1, 1, 1, 1, 0, 0, 0, 1, 0, 1, 1, 0, 0, 1, 1, 1, 0])) (b := (F18.d [1, 0, 1, 1, 1, 1, 0, 0, 0, 1, 0, 1, 1, 0, 0, 1, 1, 1, 1])) (by kernel_rfl) (F18.k5_ok W Q QP s h) (F18.k18_ok W Q QP s h) (F18.k19_a s h (F18.k18 W Q QP) (F18.k5 W Q QP))
def F18.t20 (s : St) (h : AH) (C0 C1 : KT) : Prop :=
  pBin Tryd.prog .eql 5 true (s.tm 7) (.sc (.int .u8 35)) fun t27 =>
  C0 ⟨puts s.tm [(40, (s.tm 7)), (41, t27), (39, t27)], s.ds⟩ h
def F18.k20 (W : Nat → Prop) (Q : Post) (QP : PPost) (s : St) (h : AH) : Prop := F18.t20 s h (F18.k19 W Q QP) (F18.k3 W Q QP)
theorem F18.k20_a (C0 C1 : KT) : F18.cw W (F18.d [1, 0, 1, 1, 1, 1, 0, 0, 0, 1, 0, 1, 1, 0, 0, 1, 1, 0]) (thenQ (C0) (blockQ 2 (thenQ (C1) (blockQ 1 (Q))))) QP s h = F18.t20 s h C0 C1 := by kernel_rfl
theorem F18.k20_ok : F18.cw W (F18.d [1, 0, 1, 1, 1, 1, 0, 0, 0, 1, 0, 1, 1, 0, 0, 1, 1]) (blockQ 2 (thenQ (F18.k3 W Q QP) (blockQ 1 (Q)))) QP s h = F18.k20 W Q QP s h := nd_seq (a := (F18.d [1, 0, 1, 1, 1, 1, 0, 0, 0, 1, 0, 1, 1, 0, 0, 1, 1, 0])) (b := (F18.d [1, 0, 1, 1, 1, 1, 0, 0, 0, 1, 0, 1, 1, 0, 0, 1, 1, 1])) (by kernel_rfl) (F18.k19_ok W Q QP) (F18.k20_a W Q QP s h (F18.k19 W Q QP) (F18.k3 W Q QP))
def F18.t21 (s : St) (h : AH) (C0 C1 : KT) : Prop :=
  aIf (s.tm 22) (
  C1 s h) (
  C0 s h)
def F18.k21 (W : Nat → Prop) (Q : Post) (QP : PPost) (s : St) (h : AH) : Prop := F18.t21 s h (F18.k20 W Q QP) (F18.k4 W Q QP)
theorem F18.k21_a (C0 C1 : KT) : aIf (aev s (.tmp 22)) (C1 s h) (C0 s h) = F18.t21 s h C0 C1 := by kernel_rfl
theorem F18.k21_ok : F18.cw W (F18.d [1, 0, 1, 1, 1, 1, 0, 0, 0, 1, 0, 1, 1, 0, 0, 1]) (blockQ 2 (thenQ (F18.k3 W Q QP) (blockQ 1 (Q)))) QP s h = F18.k21 W Q QP s h := nd_cond (a := (F18.d [1, 0, 1, 1, 1, 1, 0, 0, 0, 1, 0, 1, 1, 0, 0, 1, 0])) (b := (F18.d [1, 0, 1, 1, 1, 1, 0, 0, 0, 1, 0, 1, 1, 0, 0, 1, 1])) (by kernel_rfl) (F18.k4_ok W Q QP s h) (F18.k20_ok W Q QP s h) (F18.k21_a s h (F18.k20 W Q QP) (F18.k4 W Q QP))
def F18.t22 (s : St) (h : AH) (C0 C1 : KT) : Prop :=
  pPick (s.tm 33) (.sc (.bool true)) (s.tm 35) fun t28 =>
  C0 ⟨puts s.tm [(36, t28), (22, t28)], s.ds⟩ h
def F18.k22 (W : Nat → Prop) (Q : Post) (QP : PPost) (s : St) (h : AH) : Prop := F18.t22 s h (F18.k21 W Q QP) (F18.k3 W Q QP)
theorem F18.k22_a (C0 C1 : KT) : evI Tryd.prog 85 (fun _ => W) nobody QP (regOps (F18.d [1, 0, 1, 1, 1, 1, 0, 0, 0, 1, 0, 1, 1, 0, 0, 0])) (isAt F18.g2 6) ((thenQ (C0) (blockQ 2 (thenQ (C1) (blockQ 1 (Q))))) .normal) s h = F18.t22 s h C0 C1 := by kernel_rfl
theorem F18.k22_ok : evG Tryd.prog 85 (fun _ => W) nobody QP (regOps (F18.d [1, 0, 1, 1, 1, 1, 0, 0, 0, 1, 0, 1, 1, 0, 0, 0])) (F18.g2.drop 6) ((thenQ (F18.k21 W Q QP) (blockQ 2 (thenQ (F18.k3 W Q QP) (blockQ 1 (Q))))) .normal) s h = F18.k22 W Q QP s h := nd_g (is := isAt F18.g2 6) (rest := F18.g2.drop 7) (by kernel_rfl) (fun _ _ => rfl) (F18.k22_a W Q QP s h (F18.k21 W Q QP) (F18.k3 W Q QP))
def F18.t23 (s : St) (h : AH) (C0 : KT) : Prop :=
  aIg false (s.tm 33) (
  pBin Tryd.prog .eql 5 true (s.tm 7) (.sc (.int .u8 32)) fun t29 =>
  C0 ⟨puts s.tm [(34, (s.tm 7)), (35, t29)], s.ds⟩ h) (
  C0 ⟨puts s.tm [(34, noA), (35, noA)], s.ds⟩ h)
def F18.k23 (W : Nat → Prop) (Q : Post) (QP : PPost) (s : St) (h : AH) : Prop := F18.t23 s h (F18.k22 W Q QP)
theorem F18.k23_a (C0 : KT) : aIg false (s.tm 33) (evI Tryd.prog 85 (fun _ => W) nobody QP (regOps (F18.d [1, 0, 1, 1, 1, 1, 0, 0, 0, 1, 0, 1, 1, 0, 0, 0])) (isAt F18.g2 5) (C0) s h) ((C0) (skI 85 (regOps (F18.d [1, 0, 1, 1, 1, 1, 0, 0, 0, 1, 0, 1, 1, 0, 0, 0])) (isAt F18.g2 5) s) h) = F18.t23 s h C0 := by kernel_rfl
theorem F18.k23_ok : evG Tryd.prog 85 (fun _ => W) nobody QP (regOps (F18.d [1, 0, 1, 1, 1, 1, 0, 0, 0, 1, 0, 1, 1, 0, 0, 0])) (F18.g2.drop 5) ((thenQ (F18.k21 W Q QP) (blockQ 2 (thenQ (F18.k3 W Q QP) (blockQ 1 (Q))))) .normal) s h = F18.k23 W Q QP s h := nd_gw (j := 10) (is := isAt F18.g2 5) (rest := F18.g2.drop 6) (by kernel_rfl) (d := 33) (by kernel_rfl) (F18.k22_ok W Q QP) (F18.k23_a W QP s h (F18.k22 W Q QP))
def F18.t24 (s : St) (h : AH) (C0 : KT) : Prop :=
  pPick (s.tm 29) (.sc (.bool true)) (s.tm 31) fun t30 =>
  C0 ⟨puts s.tm [(32, t30), (33, t30)], s.ds⟩ h
def F18.k24 (W : Nat → Prop) (Q : Post) (QP : PPost) (s : St) (h : AH) : Prop := F18.t24 s h (F18.k23 W Q QP)
theorem F18.k24_a (C0 : KT) : evI Tryd.prog 85 (fun _ => W) nobody QP (regOps (F18.d [1, 0, 1, 1, 1, 1, 0, 0, 0, 1, 0, 1, 1, 0, 0, 0])) (isAt F18.g2 4) (C0) s h = F18.t24 s h C0 := by kernel_rfl
theorem F18.k24_ok : evG Tryd.prog 85 (fun _ => W) nobody QP (regOps (F18.d [1, 0, 1, 1, 1, 1, 0, 0, 0, 1, 0, 1, 1, 0, 0, 0])) (F18.g2.drop 4) ((thenQ (F18.k21 W Q QP) (blockQ 2 (thenQ (F18.k3 W Q QP) (blockQ 1 (Q))))) .normal) s h = F18.k24 W Q QP s h := nd_g (is := isAt F18.g2 4) (rest := F18.g2.drop 5) (by kernel_rfl) (F18.k23_ok W Q QP) (F18.k24_a W QP s h (F18.k23 W Q QP))
def F18.t25 (s : St) (h : AH) (C0 : KT) : Prop :=
  aIg false (s.tm 29) (
  pBin Tryd.prog .eql 5 true (s.tm 7) (.sc (.int .u8 13)) fun t31 =>
  C0 ⟨puts s.tm [(30, (s.tm 7)), (31, t31)], s.ds⟩ h) (
  C0 ⟨puts s.tm [(30, noA), (31, noA)], s.ds⟩ h)
def F18.k25 (W : Nat → Prop) (Q : Post) (QP : PPost) (s : St) (h : AH) : Prop := F18.t25 s h (F18.k24 W Q QP)
theorem F18.k25_a (C0 : KT) : aIg false (s.tm 29) (evI Tryd.prog 85 (fun _ => W) nobody QP (regOps (F18.d [1, 0, 1, 1, 1, 1, 0, 0, 0, 1, 0, 1, 1, 0, 0, 0])) (isAt F18.g2 3) (C0) s h) ((C0) (skI 85 (regOps (F18.d [1, 0, 1, 1, 1, 1, 0, 0, 0, 1, 0, 1, 1, 0, 0, 0])) (isAt F18.g2 3) s) h) = F18.t25 s h C0 := by kernel_rfl
theorem F18.k25_ok : evG Tryd.prog 85 (fun _ => W) nobody QP (regOps (F18.d [1, 0, 1, 1, 1, 1, 0, 0, 0, 1, 0, 1, 1, 0, 0, 0])) (F18.g2.drop 3) ((thenQ (F18.k21 W Q QP) (blockQ 2 (thenQ (F18.k3 W Q QP) (blockQ 1 (Q))))) .normal) s h = F18.k25 W Q QP s h := nd_gw (j := 6) (is := isAt F18.g2 3) (rest := F18.g2.drop 4) (by kernel_rfl) (d := 29) (by kernel_rfl) (F18.k24_ok W Q QP) (F18.k25_a W QP s h (F18.k24 W Q QP))
def F18.t26 (s : St) (h : AH) (C0 : KT) : Prop :=
  pPick (s.tm 25) (.sc (.bool true)) (s.tm 27) fun t32 =>
  C0 ⟨puts s.tm [(28, t32), (29, t32)], s.ds⟩ h
def F18.k26 (W : Nat → Prop) (Q : Post) (QP : PPost) (s : St) (h : AH) : Prop := F18.t26 s h (F18.k25 W Q QP)
theorem F18.k26_a (C0 : KT) : evI Tryd.prog 85 (fun _ => W) nobody QP (regOps (F18.d [1, 0, 1, 1, 1, 1, 0, 0, 0, 1, 0, 1, 1, 0, 0, 0])) (isAt F18.g2 2) (C0) s h = F18.t26 s h C0 := by kernel_rfl
theorem F18.k26_ok : evG Tryd.prog 85 (fun _ => W) nobody QP (regOps (F18.d [1, 0, 1, 1, 1, 1, 0, 0, 0, 1, 0, 1, 1, 0, 0, 0])) (F18.g2.drop 2) ((thenQ (F18.k21 W Q QP) (blockQ 2 (thenQ (F18.k3 W Q QP) (blockQ 1 (Q))))) .normal) s h = F18.k26 W Q QP s h := nd_g (is := isAt F18.g2 2) (rest := F18.g2.drop 3) (by kernel_rfl) (F18.k25_ok W Q QP) (F18.k26_a W QP s h (F18.k25 W Q QP))
def F18.t27 (s : St) (h : AH) (C0 : KT) : Prop :=
  aIg false (s.tm 25) (
  pBin Tryd.prog .eql 5 true (s.tm 7) (.sc (.int .u8 10)) fun t33 =>
  C0 ⟨puts s.tm [(26, (s.tm 7)), (27, t33)], s.ds⟩ h) (
  C0 ⟨puts s.tm [(26, noA), (27, noA)], s.ds⟩ h)
def F18.k27 (W : Nat → Prop) (Q : Post) (QP : PPost) (s : St) (h : AH) : Prop := F18.t27 s h (F18.k26 W Q QP)
theorem F18.k27_a (C0 : KT) : aIg false (s.tm 25) (evI Tryd.prog 85 (fun _ => W) nobody QP (regOps (F18.d [1, 0, 1, 1, 1, 1, 0, 0, 0, 1, 0, 1, 1, 0, 0, 0])) (isAt F18.g2 1) (C0) s h) ((C0) (skI 85 (regOps (F18.d [1, 0, 1, 1, 1, 1, 0, 0, 0, 1, 0, 1, 1, 0, 0, 0])) (isAt F18.g2 1) s) h) = F18.t27 s h C0 := by kernel_rfl
theorem F18.k27_ok : evG Tryd.prog 85 (fun _ => W) nobody QP (regOps (F18.d [1, 0, 1, 1, 1, 1, 0, 0, 0, 1, 0, 1, 1, 0, 0, 0])) (F18.g2.drop 1) ((thenQ (F18.k21 W Q QP) (blockQ 2 (thenQ (F18.k3 W Q QP) (blockQ 1 (Q))))) .normal) s h = F18.k27 W Q QP s h := nd_gw (j := 2) (is := isAt F18.g2 1) (rest := F18.g2.drop 2) (by kernel_rfl) (d := 25) (by kernel_rfl) (F18.k26_ok W Q QP) (F18.k27_a W QP s h (F18.k26 W Q QP))
def F18.t28 (s : St) (h : AH) (C0 : KT) : Prop :=
  pBin Tryd.prog .eql 5 true (s.tm 7) (.sc (.int .u8 9)) fun t34 =>
  C0 ⟨puts s.tm [(23, (s.tm 7)), (24, t34), (25, t34)], s.ds⟩ h
def F18.k28 (W : Nat → Prop) (Q : Post) (QP : PPost) (s : St) (h : AH) : Prop := F18.t28 s h (F18.k27 W Q QP)
theorem F18.k28_a (C0 : KT) : evI Tryd.prog 85 (fun _ => W) nobody QP (regOps (F18.d [1, 0, 1, 1, 1, 1, 0, 0, 0, 1, 0, 1, 1, 0, 0, 0])) (isAt F18.g2 0) (C0) s h = F18.t28 s h C0 := by kernel_rfl
theorem F18.k28_ok : evG Tryd.prog 85 (fun _ => W) nobody QP (regOps (F18.d [1, 0, 1, 1, 1, 1, 0, 0, 0, 1, 0, 1, 1, 0, 0, 0])) (F18.g2.drop 0) ((thenQ (F18.k21 W Q QP) (blockQ 2 (thenQ (F18.k3 W Q QP) (blockQ 1 (Q))))) .normal) s h = F18.k28 W Q QP s h := nd_g (is := isAt F18.g2 0) (rest := F18.g2.drop 1) (by kernel_rfl) (F18.k27_ok W Q QP) (F18.k28_a W QP s h (F18.k27 W Q QP))
theorem F18.o3 : F18.cw W (F18.d [1, 0, 1, 1, 1, 1, 0, 0, 0, 1, 0, 1, 1, 0, 0, 0]) (thenQ (F18.k21 W Q QP) (blockQ 2 (thenQ (F18.k3 W Q QP) (blockQ 1 (Q))))) QP s h = F18.k28 W Q QP s h := nd_groups (id := 8) (draw := false) (ops := (regOps (F18.d [1, 0, 1, 1, 1, 1, 0, 0, 0, 1, 0, 1, 1, 0, 0, 0]))) (gs := F18.g2.drop 0) (by kernel_rfl) (by kernel_rfl) (F18.k28_ok W Q QP s h)
theorem F18.o4 : F18.cw W (F18.d [1, 0, 1, 1, 1, 1, 0, 0, 0, 1, 0, 1, 1, 0, 0]) (blockQ 2 (thenQ (F18.k3 W Q QP) (blockQ 1 (Q)))) QP s h = F18.k28 W Q QP s h := nd_seq (a := (F18.d [1, 0, 1, 1, 1, 1, 0, 0, 0, 1, 0, 1, 1, 0, 0, 0])) (b := (F18.d [1, 0, 1, 1, 1, 1, 0, 0, 0, 1, 0, 1, 1, 0, 0, 1])) (by kernel_rfl) (F18.k21_ok W Q QP) (F18.o3 W Q QP s h)
theorem F18.o5 : F18.cw W (F18.d [1, 0, 1, 1, 1, 1, 0, 0, 0, 1, 0, 1, 1, 0]) (thenQ (F18.k3 W Q QP) (blockQ 1 (Q))) QP s h = F18.k28 W Q QP s h := nd_block (a := (F18.d [1, 0, 1, 1, 1, 1, 0, 0, 0, 1, 0, 1, 1, 0, 0])) (by kernel_rfl) (F18.o4 W Q QP s h)
theorem F18.o6 : F18.cw W (F18.d [1, 0, 1, 1, 1, 1, 0, 0, 0, 1, 0, 1, 1]) (blockQ 1 (Q)) QP s h = F18.k28 W Q QP s h := nd_seq (a := (F18.d [1, 0, 1, 1, 1, 1, 0, 0, 0, 1, 0, 1, 1, 0])) (b := (F18.d [1, 0, 1, 1, 1, 1, 0, 0, 0, 1, 0, 1, 1, 1])) (by kernel_rfl) (F18.k3_ok W Q QP) (F18.o5 W Q QP s h)
def F18.t29 (s : St) (h : AH) (C0 : KT) : Prop :=
  pBin Tryd.prog .add 3 true (s.tm 6) (.sc (.int .i64 1)) fun t35 =>
  C0 ⟨puts s.tm [(20, (s.tm 6)), (21, t35), (8, t35), (9, (.sc (.int .i64 3)))], s.ds⟩ h
def F18.k29 (W : Nat → Prop) (Q : Post) (QP : PPost) (s : St) (h : AH) : Prop := F18.t29 s h (F18.k28 W Q QP)
theorem F18.k29_a (C0 : KT) : F18.cw W (F18.d [1, 0, 1, 1, 1, 1, 0, 0, 0, 1, 0, 1, 0]) (thenQ (C0) (blockQ 1 (Q))) QP s h = F18.t29 s h C0 := by kernel_rfl
theorem F18.k29_ok : F18.cw W (F18.d [1, 0, 1, 1, 1, 1, 0, 0, 0, 1, 0, 1]) (blockQ 1 (Q)) QP s h = F18.k29 W Q QP s h := nd_seq (a := (F18.d [1, 0, 1, 1, 1, 1, 0, 0, 0, 1, 0, 1, 0])) (b := (F18.d [1, 0, 1, 1, 1, 1, 0, 0, 0, 1, 0, 1, 1])) (by kernel_rfl) (F18.o6 W Q QP) (F18.k29_a W Q QP s h (F18.k28 W Q QP))
def F18.t30 (s : St) (h : AH) (C0 : KT) : Prop :=
  pIxS true (s.tm 0) (s.tm 6) fun t36 =>
  C0 ⟨puts s.tm [(17, (s.tm 0)), (18, (s.tm 6)), (19, t36), (7, t36)], s.ds⟩ h
def F18.k30 (W : Nat → Prop) (Q : Post) (QP : PPost) (s : St) (h : AH) : Prop := F18.t30 s h (F18.k29 W Q QP)
theorem F18.k30_a (C0 : KT) : F18.cw W (F18.d [1, 0, 1, 1, 1, 1, 0, 0, 0, 1, 0, 0]) (thenQ (C0) (blockQ 1 (Q))) QP s h = F18.t30 s h C0 := by kernel_rfl
theorem F18.k30_ok : F18.cw W (F18.d [1, 0, 1, 1, 1, 1, 0, 0, 0, 1, 0]) (blockQ 1 (Q)) QP s h = F18.k30 W Q QP s h := nd_seq (a := (F18.d [1, 0, 1, 1, 1, 1, 0, 0, 0, 1, 0, 0])) (b := (F18.d [1, 0, 1, 1, 1, 1, 0, 0, 0, 1, 0, 1])) (by kernel_rfl) (F18.k29_ok W Q QP) (F18.k30_a W Q QP s h (F18.k29 W Q QP))
theorem F18.o7 : F18.cw W (F18.d [1, 0, 1, 1, 1, 1, 0, 0, 0, 1]) (Q) QP s h = F18.k30 W Q QP s h := nd_block (a := (F18.d [1, 0, 1, 1, 1, 1, 0, 0, 0, 1, 0])) (by kernel_rfl) (F18.k30_ok W Q QP s h)
def F18.t31 (Q : Post) (s : St) (h : AH) (C0 : KT) : Prop :=
  aIf (s.tm 16) (
  C0 s h) (
  Q (.exit 0) s h)
def F18.k31 (W : Nat → Prop) (Q : Post) (QP : PPost) (s : St) (h : AH) : Prop := F18.t31 Q s h (F18.k30 W Q QP)
theorem F18.k31_a (C0 : KT) : aIf (aev s (.tmp 16)) (F18.cw W (F18.d [1, 0, 1, 1, 1, 1, 0, 0, 0, 0, 1, 0]) (thenQ (C0) (Q)) QP s h) (F18.cw W (F18.d [1, 0, 1, 1, 1, 1, 0, 0, 0, 0, 1, 1]) (thenQ (C0) (Q)) QP s h) = F18.t31 Q s h C0 := by kernel_rfl
theorem F18.k31_ok : F18.cw W (F18.d [1, 0, 1, 1, 1, 1, 0, 0, 0, 0, 1]) (thenQ (F18.k30 W Q QP) (Q)) QP s h = F18.k31 W Q QP s h := nd_cond (a := (F18.d [1, 0, 1, 1, 1, 1, 0, 0, 0, 0, 1, 0])) (b := (F18.d [1, 0, 1, 1, 1, 1, 0, 0, 0, 0, 1, 1])) (by kernel_rfl) rfl rfl (F18.k31_a W Q QP s h (F18.k30 W Q QP))
def F18.t32 (s : St) (h : AH) (C0 C1 : KT) : Prop :=
  (strArg (s.tm 0) = true) ∧ pLen (s.tm 0) fun t37 =>
  pBin Tryd.prog .lss 3 false (s.tm 6) t37 fun t38 =>
  C1 ⟨puts s.tm [(13, (s.tm 6)), (14, (s.tm 0)), (15, t37), (16, t38)], s.ds⟩ h
def F18.k32 (W : Nat → Prop) (Q : Post) (QP : PPost) (s : St) (h : AH) : Prop := F18.t32 s h (F18.k30 W Q QP) (F18.k31 W Q QP)
theorem F18.k32_a (C0 C1 : KT) : F18.cw W (F18.d [1, 0, 1, 1, 1, 1, 0, 0, 0, 0, 0]) (thenQ (C1) (thenQ (C0) (Q))) QP s h = F18.t32 s h C0 C1 := by kernel_rfl
theorem F18.k32_ok : F18.cw W (F18.d [1, 0, 1, 1, 1, 1, 0, 0, 0, 0]) (thenQ (F18.k30 W Q QP) (Q)) QP s h = F18.k32 W Q QP s h := nd_seq (a := (F18.d [1, 0, 1, 1, 1, 1, 0, 0, 0, 0, 0])) (b := (F18.d [1, 0, 1, 1, 1, 1, 0, 0, 0, 0, 1])) (by kernel_rfl) (F18.k31_ok W Q QP) (F18.k32_a W Q QP s h (F18.k30 W Q QP) (F18.k31 W Q QP))
theorem F18.o8 : F18.cw W (F18.d [1, 0, 1, 1, 1, 1, 0, 0, 0]) (Q) QP s h = F18.k32 W Q QP s h := nd_seq (a := (F18.d [1, 0, 1, 1, 1, 1, 0, 0, 0, 0])) (b := (F18.d [1, 0, 1, 1, 1, 1, 0, 0, 0, 1])) (by kernel_rfl) (F18.o7 W Q QP) (F18.k32_ok W Q QP s h)
noncomputable def F18.c1 : Code := (F18.d [1, 0, 1, 1, 1, 1, 0, 0, 0])
theorem F18.l1 : aw Tryd.prog 85 W F18.pl F18.c1 Q QP s h = F18.k32 W Q QP s h := F18.o8 W Q QP s h
def F18.k33 (W : Nat → Prop) (Q : Post) (QP : PPost) (s : St) (h : AH) : Prop := aLoop (aw Tryd.prog 85 W F18.pl F18.c1) (blockQ 0 (thenQ (F18.k1 W Q QP) (noGotoQ (Q)))) QP s h
theorem F18.k33_ok : F18.cw W (F18.d [1, 0, 1, 1, 1, 1, 0, 0]) (blockQ 0 (thenQ (F18.k1 W Q QP) (noGotoQ (Q)))) QP s h = F18.k33 W Q QP s h := nd_loop (a := F18.c1) (by kernel_rfl)
theorem F18.o9 : F18.cw W (F18.d [1, 0, 1, 1, 1, 1, 0]) (thenQ (F18.k1 W Q QP) (noGotoQ (Q))) QP s h = F18.k33 W Q QP s h := nd_block (a := (F18.d [1, 0, 1, 1, 1, 1, 0, 0])) (by kernel_rfl) (F18.k33_ok W Q QP s h)
theorem F18.o10 : F18.cw W (F18.d [1, 0, 1, 1, 1, 1]) (noGotoQ (Q)) QP s h = F18.k33 W Q QP s h := nd_seq (a := (F18.d [1, 0, 1, 1, 1, 1, 0])) (b := (F18.d [1, 0, 1, 1, 1, 1, 1])) (by kernel_rfl) (F18.k1_ok W Q QP) (F18.o9 W Q QP s h)
def F18.t34 (s : St) (h : AH) (C0 : KT) : Prop :=
  C0 s h
def F18.k34 (W : Nat → Prop) (Q : Post) (QP : PPost) (s : St) (h : AH) : Prop := F18.t34 s h (F18.k33 W Q QP)
theorem F18.k34_a (C0 : KT) : F18.cw W (F18.d [1, 0, 1, 1, 1, 0]) (thenQ (C0) (noGotoQ (Q))) QP s h = F18.t34 s h C0 := by kernel_rfl
theorem F18.k34_ok : F18.cw W (F18.d [1, 0, 1, 1, 1]) (noGotoQ (Q)) QP s h = F18.k34 W Q QP s h := nd_seq (a := (F18.d [1, 0, 1, 1, 1, 0])) (b := (F18.d [1, 0, 1, 1, 1, 1])) (by kernel_rfl) (F18.o10 W Q QP) (F18.k34_a W Q QP s h (F18.k33 W Q QP))
def F18.t35 (s : St) (h : AH) (C0 : KT) : Prop :=
  C0 ⟨puts s.tm [(6, (.sc (.int .i64 0)))], s.ds⟩ h
def F18.k35 (W : Nat → Prop) (Q : Post) (QP : PPost) (s : St) (h : AH) : Prop := F18.t35 s h (F18.k34 W Q QP)
theorem F18.k35_a (C0 : KT) : F18.cw W (F18.d [1, 0, 1, 1, 0]) (thenQ (C0) (noGotoQ (Q))) QP s h = F18.t35 s h C0 := by kernel_rfl
theorem F18.k35_ok : F18.cw W (F18.d [1, 0, 1, 1]) (noGotoQ (Q)) QP s h = F18.k35 W Q QP s h := nd_seq (a := (F18.d [1, 0, 1, 1, 0])) (b := (F18.d [1, 0, 1, 1, 1])) (by kernel_rfl) (F18.k34_ok W Q QP) (F18.k35_a W Q QP s h (F18.k34 W Q QP))
def F18.t36 (s : St) (h : AH) (C0 : KT) : Prop :=
  C0 ⟨puts s.tm [(5, (.sc (.slice none 0 0)))], s.ds⟩ h
def F18.k36 (W : Nat → Prop) (Q : Post) (QP : PPost) (s : St) (h : AH) : Prop := F18.t36 s h (F18.k35 W Q QP)
theorem F18.k36_a (C0 : KT) : F18.cw W (F18.d [1, 0, 1, 0]) (thenQ (C0) (noGotoQ (Q))) QP s h = F18.t36 s h C0 := by kernel_rfl
theorem F18.k36_ok : F18.cw W (F18.d [1, 0, 1]) (noGotoQ (Q)) QP s h = F18.k36 W Q QP s h := nd_seq (a := (F18.d [1, 0, 1, 0])) (b := (F18.d [1, 0, 1, 1])) (by kernel_rfl) (F18.k35_ok W Q QP) (F18.k36_a W Q QP s h (F18.k35 W Q QP))
def F18.t37 (Q : Post) (s : St) (h : AH) (C0 : KT) : Prop :=
  Q .ret ⟨puts s.tm [(2, (.sc (.slice none 0 0))), (3, (.sc (.int .i64 0))), (4, (.sc (.int .i64 1)))], s.ds⟩ h
def F18.k37 (W : Nat → Prop) (Q : Post) (QP : PPost) (s : St) (h : AH) : Prop := F18.t37 Q s h (F18.k36 W Q QP)
theorem F18.k37_a (C0 : KT) : F18.cw W (F18.d [1, 0, 0, 1, 0, 0]) (thenQ (F18.cw W (F18.d [1, 0, 0, 1, 0, 1]) (thenQ (C0) (noGotoQ (Q))) QP) (thenQ (C0) (noGotoQ (Q)))) QP s h = F18.t37 Q s h C0 := by kernel_rfl
theorem F18.k37_ok : F18.cw W (F18.d [1, 0, 0, 1, 0]) (thenQ (F18.k36 W Q QP) (noGotoQ (Q))) QP s h = F18.k37 W Q QP s h := nd_seq (a := (F18.d [1, 0, 0, 1, 0, 0])) (b := (F18.d [1, 0, 0, 1, 0, 1])) (by kernel_rfl) (fun _ _ => rfl) (F18.k37_a W Q QP s h (F18.k36 W Q QP))
def F18.t38 (s : St) (h : AH) (C0 C1 : KT) : Prop :=
  aIf (s.tm 12) (
  C1 s h) (
  C0 s h)
def F18.k38 (W : Nat → Prop) (Q : Post) (QP : PPost) (s : St) (h : AH) : Prop := F18.t38 s h (F18.k36 W Q QP) (F18.k37 W Q QP)
theorem F18.k38_a (C0 C1 : KT) : aIf (aev s (.tmp 12)) (C1 s h) (F18.cw W (F18.d [1, 0, 0, 1, 1]) (thenQ (C0) (noGotoQ (Q))) QP s h) = F18.t38 s h C0 C1 := by kernel_rfl
theorem F18.k38_ok : F18.cw W (F18.d [1, 0, 0, 1]) (thenQ (F18.k36 W Q QP) (noGotoQ (Q))) QP s h = F18.k38 W Q QP s h := nd_cond (a := (F18.d [1, 0, 0, 1, 0])) (b := (F18.d [1, 0, 0, 1, 1])) (by kernel_rfl) (F18.k37_ok W Q QP s h) rfl (F18.k38_a W Q QP s h (F18.k36 W Q QP) (F18.k37 W Q QP))
def F18.t39 (s : St) (h : AH) (C0 C1 : KT) : Prop :=
  (strArg (s.tm 0) = true) ∧ pLen (s.tm 0) fun t39 =>
  pBin Tryd.prog .gtr 3 true t39 (.sc (.int .i64 65536)) fun t40 =>
  C1 ⟨puts s.tm [(10, (s.tm 0)), (11, t39), (12, t40)], s.ds⟩ h
def F18.k39 (W : Nat → Prop) (Q : Post) (QP : PPost) (s : St) (h : AH) : Prop := F18.t39 s h (F18.k36 W Q QP) (F18.k38 W Q QP)
theorem F18.k39_a (C0 C1 : KT) : F18.cw W (F18.d [1, 0, 0, 0]) (thenQ (C1) (thenQ (C0) (noGotoQ (Q)))) QP s h = F18.t39 s h C0 C1 := by kernel_rfl
theorem F18.k39_ok : F18.cw W (F18.d [1, 0, 0]) (thenQ (F18.k36 W Q QP) (noGotoQ (Q))) QP s h = F18.k39 W Q QP s h := nd_seq (a := (F18.d [1, 0, 0, 0])) (b := (F18.d [1, 0, 0, 1])) (by kernel_rfl) (F18.k38_ok W Q QP) (F18.k39_a W Q QP s h (F18.k36 W Q QP) (F18.k38 W Q QP))
theorem F18.o11 : F18.cw W (F18.d [1, 0]) (noGotoQ (Q)) QP s h = F18.k39 W Q QP s h := nd_seq (a := (F18.d [1, 0, 0])) (b := (F18.d [1, 0, 1])) (by kernel_rfl) (F18.k36_ok W Q QP) (F18.k39_ok W Q QP s h)
theorem F18.o12 : F18.cw W (F18.d [1]) (Q) QP s h = F18.k39 W Q QP s h := nd_scope (a := (F18.d [1, 0])) (by kernel_rfl) (F18.o11 W Q QP s h)
def F18.t40 (s : St) (h : AH) (C0 : KT) : Prop :=
  C0 ⟨puts s.tm [(2, (.sc (.slice none 0 0))), (3, (.sc (.int .i64 0))), (4, (.sc (.int .i64 0)))], s.ds⟩ h
def F18.k40 (W : Nat → Prop) (Q : Post) (QP : PPost) (s : St) (h : AH) : Prop := F18.t40 s h (F18.k39 W Q QP)
theorem F18.k40_a (C0 : KT) : F18.cw W (F18.d [0]) (thenQ (C0) (Q)) QP s h = F18.t40 s h C0 := by kernel_rfl
theorem F18.k40_ok : F18.cw W (F18.d []) (Q) QP s h = F18.k40 W Q QP s h := nd_seq (a := (F18.d [0])) (b := (F18.d [1])) (by kernel_rfl) (F18.o12 W Q QP) (F18.k40_a W Q QP s h (F18.k39 W Q QP))
end
set_option maxRecDepth 100000 in
theorem F18.calls {x0 : AV} {h : AH} {M : Nat → Prop} {R : AE → AH → Prop} (hp : F18.k40 (fun id => M id ∨ h.next ≤ id) (bodyQ Tryd.prog [.tmp 2, .tmp 3, .tmp 4] R) (bodyP R) (s0 [x0]) h) : ACalls Tryd.prog 18 [x0] h M R :=
  acalls_of (c := F18.code) Tryd.mixed Tryd.func18 (by kernel_rfl) (Nat.le_of_ble_eq_true rfl) F18.ok (by rw [show Tryd.f18.ntmps = 85 from rfl, show Tryd.f18.results.toList = [.tmp 2, .tmp 3, .tmp 4] from rfl]; exact Eq.mpr (F18.k40_ok _ _ _ _ _) hp)
attribute [simp] F18.k1 F18.t1 F18.k2 F18.t2 F18.k3 F18.t3 F18.k4 F18.t4 F18.k5 F18.t5 F18.k6 F18.t6 F18.k7 F18.t7 F18.k8 F18.t8 F18.k9 F18.t9 F18.k10 F18.t10 F18.k11 F18.t11 F18.k12 F18.t12 F18.k13 F18.t13 F18.k14 F18.t14 F18.k15 F18.t15 F18.k16 F18.t16 F18.k17 F18.t17 F18.k18 F18.t18 F18.k19 F18.t19 F18.k20 F18.t20 F18.k21 F18.t21 F18.k22 F18.t22 F18.k23 F18.t23 F18.k24 F18.t24 F18.k25 F18.t25 F18.k26 F18.t26 F18.k27 F18.t27 F18.k28 F18.t28 F18.k29 F18.t29 F18.k30 F18.t30 F18.k31 F18.t31 F18.k32 F18.t32 F18.k33 F18.k34 F18.t34 F18.k35 F18.t35 F18.k36 F18.t36 F18.k37 F18.t37 F18.k38 F18.t38 F18.k39 F18.t39 F18.k40 F18.t40
end Go.Proofs.YthkkgbmjjpcfaaaDoor
namespace Go.Proofs.YthkkgbmjjpcfaaaDoor
open Go.Ab
section
variable (W : Nat → Prop) (Q : Post) (QP : PPost) (s : St) (h : AH)
noncomputable def F19.code : Code := Tryd.f19.body.getD .skip
def F19.pl : Plans := [(5, ⟨[(none, [(0, false), (1, true), (2, false), (3, true), (4, false), (5, false), (6, false)])], true, [], []⟩)]
theorem F19.ok : okCode Tryd.prog F19.pl (Code.at F19.code [1]) = true := by kernel_rfl
def F19.t1 (W : Nat → Prop) (Q : Post) (s : St) (h : AH) : Prop :=
  ∃ Hd : Nat → Nat, (∀ i ∈ [1, 3], h.obj (Hd i) ≠ none) ∧ (
  pFld (some 0) (s.tm 4) fun t1 =>
  lLd (some false) (some 1) t1 h fun t2 i3 =>
  (i3 = Hd 1) ∧ (
  pFld (some 1) (s.tm 4) fun t4 =>
  lLd (some false) (some 1) t4 h fun t5 i6 =>
  (i6 = Hd 3) ∧ (
  eStore (some 1) (s.tm 0) (.sc (.slice none 0 0)) h (banL W Hd [1, 3]) fun h7 =>
  eStore (some 1) (s.tm 1) t2 h7 (banL W Hd [3]) fun h8 =>
  eStore (some 1) (s.tm 2) t5 h8 W fun h9 =>
  Q .normal ⟨puts s.tm [(17, t1), (18, t2), (19, t4), (20, t5)], s.ds⟩ h9)))
def F19.k1 (W : Nat → Prop) (Q : Post) (QP : PPost) (s : St) (h : AH) : Prop := F19.t1 W Q s h
theorem F19.k1_a : aw Tryd.prog 21 W F19.pl (Code.at F19.code [1, 1, 0, 1, 1]) (Q) QP s h = F19.t1 W Q s h := by kernel_rfl
theorem F19.k1_ok : aw Tryd.prog 21 W F19.pl (Code.at F19.code [1, 1, 0, 1, 1]) (Q) QP s h = F19.k1 W Q QP s h := (F19.k1_a W Q QP s h)
def F19.t2 (QP : PPost) (s : St) (h : AH) (C0 : KT) : Prop :=
  aIf (s.tm 15) (
  aPan (s.tm 3) h (QP s.ds)) (
  C0 s h)
def F19.k2 (W : Nat → Prop) (Q : Post) (QP : PPost) (s : St) (h : AH) : Prop := F19.t2 QP s h (F19.k1 W Q QP)
theorem F19.k2_a (C0 : KT) : aIf (aev s (.tmp 15)) (aw Tryd.prog 21 W F19.pl (Code.at F19.code [1, 1, 0, 1, 0, 1, 0]) (thenQ (C0) (Q)) QP s h) (aw Tryd.prog 21 W F19.pl (Code.at F19.code [1, 1, 0, 1, 0, 1, 1]) (thenQ (C0) (Q)) QP s h) = F19.t2 QP s h C0 := by kernel_rfl
theorem F19.k2_ok : aw Tryd.prog 21 W F19.pl (Code.at F19.code [1, 1, 0, 1, 0, 1]) (thenQ (F19.k1 W Q QP) (Q)) QP s h = F19.k2 W Q QP s h := nd_cond (a := (Code.at F19.code [1, 1, 0, 1, 0, 1, 0])) (b := (Code.at F19.code [1, 1, 0, 1, 0, 1, 1])) (by kernel_rfl) rfl rfl (F19.k2_a W Q QP s h (F19.k1 W Q QP))
def F19.t3 (s : St) (h : AH) (C0 C1 : KT) : Prop :=
  pUn .not (s.tm 5) fun t10 =>
  C1 ⟨puts s.tm [(14, (s.tm 5)), (15, t10)], s.ds⟩ h
def F19.k3 (W : Nat → Prop) (Q : Post) (QP : PPost) (s : St) (h : AH) : Prop := F19.t3 s h (F19.k1 W Q QP) (F19.k2 W Q QP)
theorem F19.k3_a (C0 C1 : KT) : aw Tryd.prog 21 W F19.pl (Code.at F19.code [1, 1, 0, 1, 0, 0]) (thenQ (C1) (thenQ (C0) (Q))) QP s h = F19.t3 s h C0 C1 := by kernel_rfl
theorem F19.k3_ok : aw Tryd.prog 21 W F19.pl (Code.at F19.code [1, 1, 0, 1, 0]) (thenQ (F19.k1 W Q QP) (Q)) QP s h = F19.k3 W Q QP s h := nd_seq (a := (Code.at F19.code [1, 1, 0, 1, 0, 0])) (b := (Code.at F19.code [1, 1, 0, 1, 0, 1])) (by kernel_rfl) (F19.k2_ok W Q QP) (F19.k3_a W Q QP s h (F19.k1 W Q QP) (F19.k2 W Q QP))
theorem F19.o1 : aw Tryd.prog 21 W F19.pl (Code.at F19.code [1, 1, 0, 1]) (Q) QP s h = F19.k3 W Q QP s h := nd_seq (a := (Code.at F19.code [1, 1, 0, 1, 0])) (b := (Code.at F19.code [1, 1, 0, 1, 1])) (by kernel_rfl) (F19.k1_ok W Q QP) (F19.k3_ok W Q QP s h)
def F19.t4 (W : Nat → Prop) (s : St) (h : AH) (C0 : KT) : Prop :=
  pTA (some false) 58 true (s.tm 3) fun t11 =>
  pExt t11 0 fun t12 =>
  pExt t11 1 fun t13 =>
  eAlloc (some [.int .i64 0, .int .i64 0]) 2 58 h fun t14 h15 =>
  eStore (some 2) t14 t12 h15 W fun h16 =>
  C0 ⟨puts s.tm [(10, (s.tm 3)), (11, t11), (9, t11), (12, t12), (13, t13), (4, t14), (5, t13)], s.ds⟩ h16
def F19.k4 (W : Nat → Prop) (Q : Post) (QP : PPost) (s : St) (h : AH) : Prop := F19.t4 W s h (F19.k3 W Q QP)
theorem F19.k4_a (C0 : KT) : aw Tryd.prog 21 W F19.pl (Code.at F19.code [1, 1, 0, 0]) (thenQ (C0) (Q)) QP s h = F19.t4 W s h C0 := by kernel_rfl
theorem F19.k4_ok : aw Tryd.prog 21 W F19.pl (Code.at F19.code [1, 1, 0]) (Q) QP s h = F19.k4 W Q QP s h := nd_seq (a := (Code.at F19.code [1, 1, 0, 0])) (b := (Code.at F19.code [1, 1, 0, 1])) (by kernel_rfl) (F19.o1 W Q QP) (F19.k4_a W Q QP s h (F19.k3 W Q QP))
def F19.t5 (Q : Post) (s : St) (h : AH) (C0 : KT) : Prop :=
  aIf (s.tm 8) (
  C0 s h) (
  Q .normal s h)
def F19.k5 (W : Nat → Prop) (Q : Post) (QP : PPost) (s : St) (h : AH) : Prop := F19.t5 Q s h (F19.k4 W Q QP)
theorem F19.k5_a (C0 : KT) : aIf (aev s (.tmp 8)) (C0 s h) (aw Tryd.prog 21 W F19.pl (Code.at F19.code [1, 1, 1]) (Q) QP s h) = F19.t5 Q s h C0 := by kernel_rfl
theorem F19.k5_ok : aw Tryd.prog 21 W F19.pl (Code.at F19.code [1, 1]) (Q) QP s h = F19.k5 W Q QP s h := nd_cond (a := (Code.at F19.code [1, 1, 0])) (b := (Code.at F19.code [1, 1, 1])) (by kernel_rfl) (F19.k4_ok W Q QP s h) rfl (F19.k5_a W Q QP s h (F19.k4 W Q QP))
def F19.t6 (s : St) (h : AH) (C0 : KT) : Prop :=
  pBin Tryd.prog .neq 20 true (s.tm 3) (.sc (.nilIface)) fun t17 =>
  C0 ⟨puts s.tm [(7, (s.tm 3)), (8, t17)], s.ds⟩ h
def F19.k6 (W : Nat → Prop) (Q : Post) (QP : PPost) (s : St) (h : AH) : Prop := F19.t6 s h (F19.k5 W Q QP)
theorem F19.k6_a (C0 : KT) : aw Tryd.prog 21 W F19.pl (Code.at F19.code [1, 0]) (thenQ (C0) (Q)) QP s h = F19.t6 s h C0 := by kernel_rfl
theorem F19.k6_ok : aw Tryd.prog 21 W F19.pl (Code.at F19.code [1]) (Q) QP s h = F19.k6 W Q QP s h := nd_seq (a := (Code.at F19.code [1, 0])) (b := (Code.at F19.code [1, 1])) (by kernel_rfl) (F19.k5_ok W Q QP) (F19.k6_a W Q QP s h (F19.k5 W Q QP))
end
attribute [simp] F19.k1 F19.t1 F19.k2 F19.t2 F19.k3 F19.t3 F19.k4 F19.t4 F19.k5 F19.t5 F19.k6 F19.t6
end Go.Proofs.YthkkgbmjjpcfaaaDoor

/- Bodies of the reader of package parse, written out for the table; printed by a program of this session. No condition. -/
import Derived.Test.YthkkgbmjjpcfaaaGl
namespace Go.Proofs.Ythkkgbmjjpcfaaa
open Go.Ab

/-! cubit/parse.own -/
section
variable (W : Nat → Prop) (Q : Post) (QP : PPost) (s : St) (h : AH)
noncomputable def F44.code : Code := Try.f44.body.getD .skip
def F44.pl : Plans := []
theorem F44.ok : okCode F44.pl F44.code = true := by kernel_rfl
def F44.t1 (Q : Post) (s : St) (h : AH) : Prop :=
  Q .ret ⟨puts s.tm [(2, (.sc (.bool false)))], s.ds⟩ h
def F44.k1 (W : Nat → Prop) (Q : Post) (QP : PPost) (s : St) (h : AH) : Prop := F44.t1 Q s h
theorem F44.k1_a : aw Try.prog 12 W F44.pl (Code.at F44.code [1, 1, 0]) (thenQ (aw Try.prog 12 W F44.pl (Code.at F44.code [1, 1, 1]) (Q) QP) (Q)) QP s h = F44.t1 Q s h := by kernel_rfl
theorem F44.k1_ok : aw Try.prog 12 W F44.pl (Code.at F44.code [1, 1]) (Q) QP s h = F44.k1 W Q QP s h := nd_seq (a := (Code.at F44.code [1, 1, 0])) (b := (Code.at F44.code [1, 1, 1])) (by kernel_rfl) (fun _ _ => rfl) (F44.k1_a W Q QP s h)
def F44.t2 (Q : Post) (s : St) (h : AH) (C0 : KT) : Prop :=
  Q .ret ⟨puts s.tm [(2, (.sc (.bool true)))], s.ds⟩ h
def F44.k2 (W : Nat → Prop) (Q : Post) (QP : PPost) (s : St) (h : AH) : Prop := F44.t2 Q s h (F44.k1 W Q QP)
theorem F44.k2_a (C0 : KT) : aw Try.prog 12 W F44.pl (Code.at F44.code [1, 0, 1, 0, 1, 0, 0]) (thenQ (aw Try.prog 12 W F44.pl (Code.at F44.code [1, 0, 1, 0, 1, 0, 1]) (blockQ 0 (thenQ (C0) (Q))) QP) (blockQ 0 (thenQ (C0) (Q)))) QP s h = F44.t2 Q s h C0 := by kernel_rfl
theorem F44.k2_ok : aw Try.prog 12 W F44.pl (Code.at F44.code [1, 0, 1, 0, 1, 0]) (blockQ 0 (thenQ (F44.k1 W Q QP) (Q))) QP s h = F44.k2 W Q QP s h := nd_seq (a := (Code.at F44.code [1, 0, 1, 0, 1, 0, 0])) (b := (Code.at F44.code [1, 0, 1, 0, 1, 0, 1])) (by kernel_rfl) (fun _ _ => rfl) (F44.k2_a W Q QP s h (F44.k1 W Q QP))
def F44.t3 (s : St) (h : AH) (C0 C1 : KT) : Prop :=
  aIf (s.tm 4) (
  C1 s h) (
  C0 s h)
def F44.k3 (W : Nat → Prop) (Q : Post) (QP : PPost) (s : St) (h : AH) : Prop := F44.t3 s h (F44.k1 W Q QP) (F44.k2 W Q QP)
theorem F44.k3_a (C0 C1 : KT) : aIf (aev s (.tmp 4)) (C1 s h) (aw Try.prog 12 W F44.pl (Code.at F44.code [1, 0, 1, 0, 1, 1]) (blockQ 0 (thenQ (C0) (Q))) QP s h) = F44.t3 s h C0 C1 := by kernel_rfl
theorem F44.k3_ok : aw Try.prog 12 W F44.pl (Code.at F44.code [1, 0, 1, 0, 1]) (blockQ 0 (thenQ (F44.k1 W Q QP) (Q))) QP s h = F44.k3 W Q QP s h := nd_cond (a := (Code.at F44.code [1, 0, 1, 0, 1, 0])) (b := (Code.at F44.code [1, 0, 1, 0, 1, 1])) (by kernel_rfl) (F44.k2_ok W Q QP s h) rfl (F44.k3_a W Q QP s h (F44.k1 W Q QP) (F44.k2 W Q QP))
def F44.t4 (s : St) (h : AH) (C0 C1 : KT) : Prop :=
  aIf (s.tm 4) (
  C1 s h) (
  pBin Try.prog .eql 9 true (s.tm 3) (.sc (.string ⟨#[114, 101, 115, 101, 116]⟩)) fun t1 =>
  C1 ⟨puts s.tm [(11, t1), (4, t1)], s.ds⟩ h)
def F44.k4 (W : Nat → Prop) (Q : Post) (QP : PPost) (s : St) (h : AH) : Prop := F44.t4 s h (F44.k1 W Q QP) (F44.k3 W Q QP)
theorem F44.k4_a (C0 C1 : KT) : aIf (aev s (.tmp 4)) (aw Try.prog 12 W F44.pl (Code.at F44.code [1, 0, 1, 0, 0, 1, 1, 1, 1, 1, 1, 1, 1, 1, 1, 1, 0]) (thenQ (C1) (blockQ 0 (thenQ (C0) (Q)))) QP s h) (aw Try.prog 12 W F44.pl (Code.at F44.code [1, 0, 1, 0, 0, 1, 1, 1, 1, 1, 1, 1, 1, 1, 1, 1, 1]) (thenQ (C1) (blockQ 0 (thenQ (C0) (Q)))) QP s h) = F44.t4 s h C0 C1 := by kernel_rfl
theorem F44.k4_ok : aw Try.prog 12 W F44.pl (Code.at F44.code [1, 0, 1, 0, 0, 1, 1, 1, 1, 1, 1, 1, 1, 1, 1, 1]) (thenQ (F44.k3 W Q QP) (blockQ 0 (thenQ (F44.k1 W Q QP) (Q)))) QP s h = F44.k4 W Q QP s h := nd_cond (a := (Code.at F44.code [1, 0, 1, 0, 0, 1, 1, 1, 1, 1, 1, 1, 1, 1, 1, 1, 0])) (b := (Code.at F44.code [1, 0, 1, 0, 0, 1, 1, 1, 1, 1, 1, 1, 1, 1, 1, 1, 1])) (by kernel_rfl) rfl rfl (F44.k4_a W Q QP s h (F44.k1 W Q QP) (F44.k3 W Q QP))
def F44.t5 (s : St) (h : AH) (C0 C1 C2 : KT) : Prop :=
  pBin Try.prog .eql 9 true (s.tm 3) (.sc (.string ⟨#[109, 101, 97, 115, 117, 114, 101]⟩)) fun t2 =>
  C2 ⟨puts s.tm [(10, t2), (4, t2)], s.ds⟩ h
def F44.k5 (W : Nat → Prop) (Q : Post) (QP : PPost) (s : St) (h : AH) : Prop := F44.t5 s h (F44.k1 W Q QP) (F44.k3 W Q QP) (F44.k4 W Q QP)
theorem F44.k5_a (C0 C1 C2 : KT) : aw Try.prog 12 W F44.pl (Code.at F44.code [1, 0, 1, 0, 0, 1, 1, 1, 1, 1, 1, 1, 1, 1, 1, 0]) (thenQ (C2) (thenQ (C1) (blockQ 0 (thenQ (C0) (Q))))) QP s h = F44.t5 s h C0 C1 C2 := by kernel_rfl
theorem F44.k5_ok : aw Try.prog 12 W F44.pl (Code.at F44.code [1, 0, 1, 0, 0, 1, 1, 1, 1, 1, 1, 1, 1, 1, 1]) (thenQ (F44.k3 W Q QP) (blockQ 0 (thenQ (F44.k1 W Q QP) (Q)))) QP s h = F44.k5 W Q QP s h := nd_seq (a := (Code.at F44.code [1, 0, 1, 0, 0, 1, 1, 1, 1, 1, 1, 1, 1, 1, 1, 0])) (b := (Code.at F44.code [1, 0, 1, 0, 0, 1, 1, 1, 1, 1, 1, 1, 1, 1, 1, 1])) (by kernel_rfl) (F44.k4_ok W Q QP) (F44.k5_a W Q QP s h (F44.k1 W Q QP) (F44.k3 W Q QP) (F44.k4 W Q QP))
def F44.t6 (s : St) (h : AH) (C0 C1 C2 : KT) : Prop :=
  aIf (s.tm 4) (
  C1 s h) (
  C2 s h)
def F44.k6 (W : Nat → Prop) (Q : Post) (QP : PPost) (s : St) (h : AH) : Prop := F44.t6 s h (F44.k1 W Q QP) (F44.k3 W Q QP) (F44.k5 W Q QP)
theorem F44.k6_a (C0 C1 C2 : KT) : aIf (aev s (.tmp 4)) (aw Try.prog 12 W F44.pl (Code.at F44.code [1, 0, 1, 0, 0, 1, 1, 1, 1, 1, 1, 1, 1, 1, 0]) (thenQ (C1) (blockQ 0 (thenQ (C0) (Q)))) QP s h) (C2 s h) = F44.t6 s h C0 C1 C2 := by kernel_rfl
theorem F44.k6_ok : aw Try.prog 12 W F44.pl (Code.at F44.code [1, 0, 1, 0, 0, 1, 1, 1, 1, 1, 1, 1, 1, 1]) (thenQ (F44.k3 W Q QP) (blockQ 0 (thenQ (F44.k1 W Q QP) (Q)))) QP s h = F44.k6 W Q QP s h := nd_cond (a := (Code.at F44.code [1, 0, 1, 0, 0, 1, 1, 1, 1, 1, 1, 1, 1, 1, 0])) (b := (Code.at F44.code [1, 0, 1, 0, 0, 1, 1, 1, 1, 1, 1, 1, 1, 1, 1])) (by kernel_rfl) rfl (F44.k5_ok W Q QP s h) (F44.k6_a W Q QP s h (F44.k1 W Q QP) (F44.k3 W Q QP) (F44.k5 W Q QP))
def F44.t7 (s : St) (h : AH) (C0 C1 C2 : KT) : Prop :=
  pBin Try.prog .eql 9 true (s.tm 3) (.sc (.string ⟨#[105, 102]⟩)) fun t3 =>
  C2 ⟨puts s.tm [(9, t3), (4, t3)], s.ds⟩ h
def F44.k7 (W : Nat → Prop) (Q : Post) (QP : PPost) (s : St) (h : AH) : Prop := F44.t7 s h (F44.k1 W Q QP) (F44.k3 W Q QP) (F44.k6 W Q QP)
theorem F44.k7_a (C0 C1 C2 : KT) : aw Try.prog 12 W F44.pl (Code.at F44.code [1, 0, 1, 0, 0, 1, 1, 1, 1, 1, 1, 1, 1, 0]) (thenQ (C2) (thenQ (C1) (blockQ 0 (thenQ (C0) (Q))))) QP s h = F44.t7 s h C0 C1 C2 := by kernel_rfl
theorem F44.k7_ok : aw Try.prog 12 W F44.pl (Code.at F44.code [1, 0, 1, 0, 0, 1, 1, 1, 1, 1, 1, 1, 1]) (thenQ (F44.k3 W Q QP) (blockQ 0 (thenQ (F44.k1 W Q QP) (Q)))) QP s h = F44.k7 W Q QP s h := nd_seq (a := (Code.at F44.code [1, 0, 1, 0, 0, 1, 1, 1, 1, 1, 1, 1, 1, 0])) (b := (Code.at F44.code [1, 0, 1, 0, 0, 1, 1, 1, 1, 1, 1, 1, 1, 1])) (by kernel_rfl) (F44.k6_ok W Q QP) (F44.k7_a W Q QP s h (F44.k1 W Q QP) (F44.k3 W Q QP) (F44.k6 W Q QP))
def F44.t8 (s : St) (h : AH) (C0 C1 C2 : KT) : Prop :=
  aIf (s.tm 4) (
  C1 s h) (
  C2 s h)
def F44.k8 (W : Nat → Prop) (Q : Post) (QP : PPost) (s : St) (h : AH) : Prop := F44.t8 s h (F44.k1 W Q QP) (F44.k3 W Q QP) (F44.k7 W Q QP)
theorem F44.k8_a (C0 C1 C2 : KT) : aIf (aev s (.tmp 4)) (aw Try.prog 12 W F44.pl (Code.at F44.code [1, 0, 1, 0, 0, 1, 1, 1, 1, 1, 1, 1, 0]) (thenQ (C1) (blockQ 0 (thenQ (C0) (Q)))) QP s h) (C2 s h) = F44.t8 s h C0 C1 C2 := by kernel_rfl
theorem F44.k8_ok : aw Try.prog 12 W F44.pl (Code.at F44.code [1, 0, 1, 0, 0, 1, 1, 1, 1, 1, 1, 1]) (thenQ (F44.k3 W Q QP) (blockQ 0 (thenQ (F44.k1 W Q QP) (Q)))) QP s h = F44.k8 W Q QP s h := nd_cond (a := (Code.at F44.code [1, 0, 1, 0, 0, 1, 1, 1, 1, 1, 1, 1, 0])) (b := (Code.at F44.code [1, 0, 1, 0, 0, 1, 1, 1, 1, 1, 1, 1, 1])) (by kernel_rfl) rfl (F44.k7_ok W Q QP s h) (F44.k8_a W Q QP s h (F44.k1 W Q QP) (F44.k3 W Q QP) (F44.k7 W Q QP))
def F44.t9 (s : St) (h : AH) (C0 C1 C2 : KT) : Prop :=
  pBin Try.prog .eql 9 true (s.tm 3) (.sc (.string ⟨#[114, 101, 112, 101, 97, 116]⟩)) fun t4 =>
  C2 ⟨puts s.tm [(8, t4), (4, t4)], s.ds⟩ h
def F44.k9 (W : Nat → Prop) (Q : Post) (QP : PPost) (s : St) (h : AH) : Prop := F44.t9 s h (F44.k1 W Q QP) (F44.k3 W Q QP) (F44.k8 W Q QP)
theorem F44.k9_a (C0 C1 C2 : KT) : aw Try.prog 12 W F44.pl (Code.at F44.code [1, 0, 1, 0, 0, 1, 1, 1, 1, 1, 1, 0]) (thenQ (C2) (thenQ (C1) (blockQ 0 (thenQ (C0) (Q))))) QP s h = F44.t9 s h C0 C1 C2 := by kernel_rfl
theorem F44.k9_ok : aw Try.prog 12 W F44.pl (Code.at F44.code [1, 0, 1, 0, 0, 1, 1, 1, 1, 1, 1]) (thenQ (F44.k3 W Q QP) (blockQ 0 (thenQ (F44.k1 W Q QP) (Q)))) QP s h = F44.k9 W Q QP s h := nd_seq (a := (Code.at F44.code [1, 0, 1, 0, 0, 1, 1, 1, 1, 1, 1, 0])) (b := (Code.at F44.code [1, 0, 1, 0, 0, 1, 1, 1, 1, 1, 1, 1])) (by kernel_rfl) (F44.k8_ok W Q QP) (F44.k9_a W Q QP s h (F44.k1 W Q QP) (F44.k3 W Q QP) (F44.k8 W Q QP))
def F44.t10 (s : St) (h : AH) (C0 C1 C2 : KT) : Prop :=
  aIf (s.tm 4) (
  C1 s h) (
  C2 s h)
def F44.k10 (W : Nat → Prop) (Q : Post) (QP : PPost) (s : St) (h : AH) : Prop := F44.t10 s h (F44.k1 W Q QP) (F44.k3 W Q QP) (F44.k9 W Q QP)
theorem F44.k10_a (C0 C1 C2 : KT) : aIf (aev s (.tmp 4)) (aw Try.prog 12 W F44.pl (Code.at F44.code [1, 0, 1, 0, 0, 1, 1, 1, 1, 1, 0]) (thenQ (C1) (blockQ 0 (thenQ (C0) (Q)))) QP s h) (C2 s h) = F44.t10 s h C0 C1 C2 := by kernel_rfl
theorem F44.k10_ok : aw Try.prog 12 W F44.pl (Code.at F44.code [1, 0, 1, 0, 0, 1, 1, 1, 1, 1]) (thenQ (F44.k3 W Q QP) (blockQ 0 (thenQ (F44.k1 W Q QP) (Q)))) QP s h = F44.k10 W Q QP s h := nd_cond (a := (Code.at F44.code [1, 0, 1, 0, 0, 1, 1, 1, 1, 1, 0])) (b := (Code.at F44.code [1, 0, 1, 0, 0, 1, 1, 1, 1, 1, 1])) (by kernel_rfl) rfl (F44.k9_ok W Q QP s h) (F44.k10_a W Q QP s h (F44.k1 W Q QP) (F44.k3 W Q QP) (F44.k9 W Q QP))
def F44.t11 (s : St) (h : AH) (C0 C1 C2 : KT) : Prop :=
  pBin Try.prog .eql 9 true (s.tm 3) (.sc (.string ⟨#[103, 97, 116, 101]⟩)) fun t5 =>
  C1 ⟨puts s.tm [(7, t5), (4, t5)], s.ds⟩ h
def F44.k11 (W : Nat → Prop) (Q : Post) (QP : PPost) (s : St) (h : AH) : Prop := F44.t11 s h (F44.k1 W Q QP) (F44.k10 W Q QP) (F44.k3 W Q QP)
theorem F44.k11_a (C0 C1 C2 : KT) : aw Try.prog 12 W F44.pl (Code.at F44.code [1, 0, 1, 0, 0, 1, 1, 1, 1, 0]) (thenQ (C1) (thenQ (C2) (blockQ 0 (thenQ (C0) (Q))))) QP s h = F44.t11 s h C0 C1 C2 := by kernel_rfl
theorem F44.k11_ok : aw Try.prog 12 W F44.pl (Code.at F44.code [1, 0, 1, 0, 0, 1, 1, 1, 1]) (thenQ (F44.k3 W Q QP) (blockQ 0 (thenQ (F44.k1 W Q QP) (Q)))) QP s h = F44.k11 W Q QP s h := nd_seq (a := (Code.at F44.code [1, 0, 1, 0, 0, 1, 1, 1, 1, 0])) (b := (Code.at F44.code [1, 0, 1, 0, 0, 1, 1, 1, 1, 1])) (by kernel_rfl) (F44.k10_ok W Q QP) (F44.k11_a W Q QP s h (F44.k1 W Q QP) (F44.k10 W Q QP) (F44.k3 W Q QP))
def F44.t12 (s : St) (h : AH) (C0 C1 C2 : KT) : Prop :=
  aIf (s.tm 4) (
  C2 s h) (
  C1 s h)
def F44.k12 (W : Nat → Prop) (Q : Post) (QP : PPost) (s : St) (h : AH) : Prop := F44.t12 s h (F44.k1 W Q QP) (F44.k11 W Q QP) (F44.k3 W Q QP)
theorem F44.k12_a (C0 C1 C2 : KT) : aIf (aev s (.tmp 4)) (aw Try.prog 12 W F44.pl (Code.at F44.code [1, 0, 1, 0, 0, 1, 1, 1, 0]) (thenQ (C2) (blockQ 0 (thenQ (C0) (Q)))) QP s h) (C1 s h) = F44.t12 s h C0 C1 C2 := by kernel_rfl
theorem F44.k12_ok : aw Try.prog 12 W F44.pl (Code.at F44.code [1, 0, 1, 0, 0, 1, 1, 1]) (thenQ (F44.k3 W Q QP) (blockQ 0 (thenQ (F44.k1 W Q QP) (Q)))) QP s h = F44.k12 W Q QP s h := nd_cond (a := (Code.at F44.code [1, 0, 1, 0, 0, 1, 1, 1, 0])) (b := (Code.at F44.code [1, 0, 1, 0, 0, 1, 1, 1, 1])) (by kernel_rfl) rfl (F44.k11_ok W Q QP s h) (F44.k12_a W Q QP s h (F44.k1 W Q QP) (F44.k11 W Q QP) (F44.k3 W Q QP))
def F44.t13 (s : St) (h : AH) (C0 C1 C2 : KT) : Prop :=
  pBin Try.prog .eql 9 true (s.tm 3) (.sc (.string ⟨#[98, 105, 116, 115]⟩)) fun t6 =>
  C1 ⟨puts s.tm [(6, t6), (4, t6)], s.ds⟩ h
def F44.k13 (W : Nat → Prop) (Q : Post) (QP : PPost) (s : St) (h : AH) : Prop := F44.t13 s h (F44.k1 W Q QP) (F44.k12 W Q QP) (F44.k3 W Q QP)
theorem F44.k13_a (C0 C1 C2 : KT) : aw Try.prog 12 W F44.pl (Code.at F44.code [1, 0, 1, 0, 0, 1, 1, 0]) (thenQ (C1) (thenQ (C2) (blockQ 0 (thenQ (C0) (Q))))) QP s h = F44.t13 s h C0 C1 C2 := by kernel_rfl
theorem F44.k13_ok : aw Try.prog 12 W F44.pl (Code.at F44.code [1, 0, 1, 0, 0, 1, 1]) (thenQ (F44.k3 W Q QP) (blockQ 0 (thenQ (F44.k1 W Q QP) (Q)))) QP s h = F44.k13 W Q QP s h := nd_seq (a := (Code.at F44.code [1, 0, 1, 0, 0, 1, 1, 0])) (b := (Code.at F44.code [1, 0, 1, 0, 0, 1, 1, 1])) (by kernel_rfl) (F44.k12_ok W Q QP) (F44.k13_a W Q QP s h (F44.k1 W Q QP) (F44.k12 W Q QP) (F44.k3 W Q QP))
def F44.t14 (s : St) (h : AH) (C0 C1 C2 : KT) : Prop :=
  aIf (s.tm 4) (
  C2 s h) (
  C1 s h)
def F44.k14 (W : Nat → Prop) (Q : Post) (QP : PPost) (s : St) (h : AH) : Prop := F44.t14 s h (F44.k1 W Q QP) (F44.k13 W Q QP) (F44.k3 W Q QP)
theorem F44.k14_a (C0 C1 C2 : KT) : aIf (aev s (.tmp 4)) (aw Try.prog 12 W F44.pl (Code.at F44.code [1, 0, 1, 0, 0, 1, 0]) (thenQ (C2) (blockQ 0 (thenQ (C0) (Q)))) QP s h) (C1 s h) = F44.t14 s h C0 C1 C2 := by kernel_rfl
theorem F44.k14_ok : aw Try.prog 12 W F44.pl (Code.at F44.code [1, 0, 1, 0, 0, 1]) (thenQ (F44.k3 W Q QP) (blockQ 0 (thenQ (F44.k1 W Q QP) (Q)))) QP s h = F44.k14 W Q QP s h := nd_cond (a := (Code.at F44.code [1, 0, 1, 0, 0, 1, 0])) (b := (Code.at F44.code [1, 0, 1, 0, 0, 1, 1])) (by kernel_rfl) rfl (F44.k13_ok W Q QP s h) (F44.k14_a W Q QP s h (F44.k1 W Q QP) (F44.k13 W Q QP) (F44.k3 W Q QP))
def F44.t15 (s : St) (h : AH) (C0 C1 C2 : KT) : Prop :=
  pBin Try.prog .eql 9 true (s.tm 3) (.sc (.string ⟨#[113, 117, 98, 105, 116, 115]⟩)) fun t7 =>
  C1 ⟨puts s.tm [(5, t7), (4, t7)], s.ds⟩ h
def F44.k15 (W : Nat → Prop) (Q : Post) (QP : PPost) (s : St) (h : AH) : Prop := F44.t15 s h (F44.k1 W Q QP) (F44.k14 W Q QP) (F44.k3 W Q QP)
theorem F44.k15_a (C0 C1 C2 : KT) : aw Try.prog 12 W F44.pl (Code.at F44.code [1, 0, 1, 0, 0, 0]) (thenQ (C1) (thenQ (C2) (blockQ 0 (thenQ (C0) (Q))))) QP s h = F44.t15 s h C0 C1 C2 := by kernel_rfl
theorem F44.k15_ok : aw Try.prog 12 W F44.pl (Code.at F44.code [1, 0, 1, 0, 0]) (thenQ (F44.k3 W Q QP) (blockQ 0 (thenQ (F44.k1 W Q QP) (Q)))) QP s h = F44.k15 W Q QP s h := nd_seq (a := (Code.at F44.code [1, 0, 1, 0, 0, 0])) (b := (Code.at F44.code [1, 0, 1, 0, 0, 1])) (by kernel_rfl) (F44.k14_ok W Q QP) (F44.k15_a W Q QP s h (F44.k1 W Q QP) (F44.k14 W Q QP) (F44.k3 W Q QP))
theorem F44.o1 : aw Try.prog 12 W F44.pl (Code.at F44.code [1, 0, 1, 0]) (blockQ 0 (thenQ (F44.k1 W Q QP) (Q))) QP s h = F44.k15 W Q QP s h := nd_seq (a := (Code.at F44.code [1, 0, 1, 0, 0])) (b := (Code.at F44.code [1, 0, 1, 0, 1])) (by kernel_rfl) (F44.k3_ok W Q QP) (F44.k15_ok W Q QP s h)
theorem F44.o2 : aw Try.prog 12 W F44.pl (Code.at F44.code [1, 0, 1]) (thenQ (F44.k1 W Q QP) (Q)) QP s h = F44.k15 W Q QP s h := nd_block (a := (Code.at F44.code [1, 0, 1, 0])) (by kernel_rfl) (F44.o1 W Q QP s h)
def F44.t16 (s : St) (h : AH) (C0 C1 : KT) : Prop :=
  C1 ⟨puts s.tm [(3, (s.tm 0))], s.ds⟩ h
def F44.k16 (W : Nat → Prop) (Q : Post) (QP : PPost) (s : St) (h : AH) : Prop := F44.t16 s h (F44.k1 W Q QP) (F44.k15 W Q QP)
theorem F44.k16_a (C0 C1 : KT) : aw Try.prog 12 W F44.pl (Code.at F44.code [1, 0, 0]) (thenQ (C1) (thenQ (C0) (Q))) QP s h = F44.t16 s h C0 C1 := by kernel_rfl
theorem F44.k16_ok : aw Try.prog 12 W F44.pl (Code.at F44.code [1, 0]) (thenQ (F44.k1 W Q QP) (Q)) QP s h = F44.k16 W Q QP s h := nd_seq (a := (Code.at F44.code [1, 0, 0])) (b := (Code.at F44.code [1, 0, 1])) (by kernel_rfl) (F44.o2 W Q QP) (F44.k16_a W Q QP s h (F44.k1 W Q QP) (F44.k15 W Q QP))
theorem F44.o3 : aw Try.prog 12 W F44.pl (Code.at F44.code [1]) (Q) QP s h = F44.k16 W Q QP s h := nd_seq (a := (Code.at F44.code [1, 0])) (b := (Code.at F44.code [1, 1])) (by kernel_rfl) (F44.k1_ok W Q QP) (F44.k16_ok W Q QP s h)
def F44.t17 (s : St) (h : AH) (C0 : KT) : Prop :=
  C0 ⟨puts s.tm [(2, (.sc (.bool false)))], s.ds⟩ h
def F44.k17 (W : Nat → Prop) (Q : Post) (QP : PPost) (s : St) (h : AH) : Prop := F44.t17 s h (F44.k16 W Q QP)
theorem F44.k17_a (C0 : KT) : aw Try.prog 12 W F44.pl (Code.at F44.code [0]) (thenQ (C0) (Q)) QP s h = F44.t17 s h C0 := by kernel_rfl
theorem F44.k17_ok : aw Try.prog 12 W F44.pl (Code.at F44.code []) (Q) QP s h = F44.k17 W Q QP s h := nd_seq (a := (Code.at F44.code [0])) (b := (Code.at F44.code [1])) (by kernel_rfl) (F44.o3 W Q QP) (F44.k17_a W Q QP s h (F44.k16 W Q QP))
end
theorem F44.calls {x0 : AV} {h : AH} {M : Nat → Prop} {R : AE → AH → Prop} (hp : F44.k17 (fun id => M id ∨ h.next ≤ id) (bodyQ Try.prog [.tmp 2] R) (bodyP R) (s0 [x0]) h) : ACalls Try.prog 44 [x0] h M R :=
  acalls_of Try.mixed Try.func44 rfl (Nat.le_of_ble_eq_true rfl) F44.ok (by rw [show Try.f44.ntmps = 12 from rfl, show Try.f44.results.toList = [.tmp 2] from rfl]; exact Eq.mpr (F44.k17_ok _ _ _ _ _) hp)
attribute [simp] F44.k1 F44.t1 F44.k2 F44.t2 F44.k3 F44.t3 F44.k4 F44.t4 F44.k5 F44.t5 F44.k6 F44.t6 F44.k7 F44.t7 F44.k8 F44.t8 F44.k9 F44.t9 F44.k10 F44.t10 F44.k11 F44.t11 F44.k12 F44.t12 F44.k13 F44.t13 F44.k14 F44.t14 F44.k15 F44.t15 F44.k16 F44.t16 F44.k17 F44.t17

/-! (*cubit/parse.reader).peek -/
section
variable (W : Nat → Prop) (Q : Post) (QP : PPost) (s : St) (h : AH)
noncomputable def F43.code : Code := Try.f43.body.getD .skip
def F43.g1 : Grps := [(none, [(0, false), (1, false), (2, false), (3, false), (4, false), (5, false), (6, false), (7, false), (8, false), (9, false), (10, false)]), (some (10, true), [(11, false), (12, false), (13, false), (14, false), (15, false), (16, false), (17, false), (18, false), (19, false), (20, false), (21, false), (22, false)]), (none, [(23, false), (24, false)]), (some (24, true), [(25, false), (26, false), (27, false), (28, false), (29, false), (30, false), (31, false), (32, false), (33, false), (34, false), (35, false), (36, false), (37, false)]), (none, [(38, false), (39, false)])]
def F43.pl : Plans := [(1, ⟨F43.g1, false, []⟩)]
theorem F43.ok : okCode F43.pl F43.code = true := by kernel_rfl
def F43.t1 (Q : Post) (s : St) (h : AH) : Prop :=
  Q .ret s h
def F43.k1 (W : Nat → Prop) (Q : Post) (QP : PPost) (s : St) (h : AH) : Prop := F43.t1 Q s h
theorem F43.k1_a : aw Try.prog 44 W F43.pl (Code.at F43.code [1, 1]) (Q) QP s h = F43.t1 Q s h := by kernel_rfl
theorem F43.k1_ok : aw Try.prog 44 W F43.pl (Code.at F43.code [1, 1]) (Q) QP s h = F43.k1 W Q QP s h := (F43.k1_a W Q QP s h)
def F43.t2 (s : St) (h : AH) (C0 : KT) : Prop :=
  pPick (s.tm 29) (s.tm 42) (.sc (.bool false)) fun t1 =>
  C0 ⟨puts s.tm [(43, t1), (4, t1)], s.ds⟩ h
def F43.k2 (W : Nat → Prop) (Q : Post) (QP : PPost) (s : St) (h : AH) : Prop := F43.t2 s h (F43.k1 W Q QP)
theorem F43.k2_a (C0 : KT) : evI Try.prog 44 (fun _ => W) nobody QP (regOps (Code.at F43.code [1, 0])) (isAt F43.g1 4) ((thenQ (C0) (Q)) .normal) s h = F43.t2 s h C0 := by kernel_rfl
theorem F43.k2_ok : evG Try.prog 44 (fun _ => W) nobody QP (regOps (Code.at F43.code [1, 0])) (F43.g1.drop 4) ((thenQ (F43.k1 W Q QP) (Q)) .normal) s h = F43.k2 W Q QP s h := nd_g (is := isAt F43.g1 4) (rest := F43.g1.drop 5) (by kernel_rfl) (fun _ _ => rfl) (F43.k2_a W Q QP s h (F43.k1 W Q QP))
def F43.t3 (s : St) (h : AH) (C0 : KT) : Prop :=
  aIg true (s.tm 29) (
  pNil (s.tm 0) fun t2 =>
  pFld (some 0) t2 fun t3 =>
  lLd (some false) (some 1) t3 h fun t4 _ =>
  pNil (s.tm 0) fun t6 =>
  pFld (some 1) t6 fun t7 =>
  lLd (some false) (some 1) t7 h fun t8 _ =>
  pIxA (some (3, none)) t4 t8 fun t10 =>
  pFld (some 1) t10 fun t11 =>
  lLd (some false) (some 1) t11 h fun t12 _ =>
  pBin Try.prog .eql 9 false t12 (s.tm 1) fun t14 =>
  C0 ⟨puts s.tm [(30, (s.tm 0)), (31, t2), (32, t3), (33, t4), (34, (s.tm 0)), (35, t6), (36, t7), (37, t8), (38, t10), (39, t11), (40, t12), (41, (s.tm 1)), (42, t14)], s.ds⟩ h) (
  C0 ⟨puts s.tm [(30, noA), (31, noA), (32, noA), (33, noA), (34, noA), (35, noA), (36, noA), (37, noA), (38, noA), (39, noA), (40, noA), (41, noA), (42, noA)], s.ds⟩ h)
def F43.k3 (W : Nat → Prop) (Q : Post) (QP : PPost) (s : St) (h : AH) : Prop := F43.t3 s h (F43.k2 W Q QP)
theorem F43.k3_a (C0 : KT) : aIg true (s.tm 29) (evI Try.prog 44 (fun _ => W) nobody QP (regOps (Code.at F43.code [1, 0])) (isAt F43.g1 3) (C0) s h) ((C0) (skI 44 (regOps (Code.at F43.code [1, 0])) (isAt F43.g1 3) s) h) = F43.t3 s h C0 := by kernel_rfl
theorem F43.k3_ok : evG Try.prog 44 (fun _ => W) nobody QP (regOps (Code.at F43.code [1, 0])) (F43.g1.drop 3) ((thenQ (F43.k1 W Q QP) (Q)) .normal) s h = F43.k3 W Q QP s h := nd_gw (j := 24) (is := isAt F43.g1 3) (rest := F43.g1.drop 4) (by kernel_rfl) (d := 29) (by kernel_rfl) (F43.k2_ok W Q QP) (F43.k3_a W QP s h (F43.k2 W Q QP))
def F43.t4 (s : St) (h : AH) (C0 : KT) : Prop :=
  pPick (s.tm 15) (s.tm 27) (.sc (.bool false)) fun t15 =>
  C0 ⟨puts s.tm [(28, t15), (29, t15)], s.ds⟩ h
def F43.k4 (W : Nat → Prop) (Q : Post) (QP : PPost) (s : St) (h : AH) : Prop := F43.t4 s h (F43.k3 W Q QP)
theorem F43.k4_a (C0 : KT) : evI Try.prog 44 (fun _ => W) nobody QP (regOps (Code.at F43.code [1, 0])) (isAt F43.g1 2) (C0) s h = F43.t4 s h C0 := by kernel_rfl
theorem F43.k4_ok : evG Try.prog 44 (fun _ => W) nobody QP (regOps (Code.at F43.code [1, 0])) (F43.g1.drop 2) ((thenQ (F43.k1 W Q QP) (Q)) .normal) s h = F43.k4 W Q QP s h := nd_g (is := isAt F43.g1 2) (rest := F43.g1.drop 3) (by kernel_rfl) (F43.k3_ok W Q QP) (F43.k4_a W QP s h (F43.k3 W Q QP))
def F43.t5 (s : St) (h : AH) (C0 : KT) : Prop :=
  aIg true (s.tm 15) (
  pNil (s.tm 0) fun t16 =>
  pFld (some 0) t16 fun t17 =>
  lLd (some false) (some 1) t17 h fun t18 _ =>
  pNil (s.tm 0) fun t20 =>
  pFld (some 1) t20 fun t21 =>
  lLd (some false) (some 1) t21 h fun t22 _ =>
  pIxA (some (3, none)) t18 t22 fun t24 =>
  pFld (some 0) t24 fun t25 =>
  lLd (some false) (some 1) t25 h fun t26 _ =>
  pBin Try.prog .eql 3 true t26 (.sc (.int .i64 3)) fun t28 =>
  C0 ⟨puts s.tm [(16, (s.tm 0)), (17, t16), (18, t17), (19, t18), (20, (s.tm 0)), (21, t20), (22, t21), (23, t22), (24, t24), (25, t25), (26, t26), (27, t28)], s.ds⟩ h) (
  C0 ⟨puts s.tm [(16, noA), (17, noA), (18, noA), (19, noA), (20, noA), (21, noA), (22, noA), (23, noA), (24, noA), (25, noA), (26, noA), (27, noA)], s.ds⟩ h)
def F43.k5 (W : Nat → Prop) (Q : Post) (QP : PPost) (s : St) (h : AH) : Prop := F43.t5 s h (F43.k4 W Q QP)
theorem F43.k5_a (C0 : KT) : aIg true (s.tm 15) (evI Try.prog 44 (fun _ => W) nobody QP (regOps (Code.at F43.code [1, 0])) (isAt F43.g1 1) (C0) s h) ((C0) (skI 44 (regOps (Code.at F43.code [1, 0])) (isAt F43.g1 1) s) h) = F43.t5 s h C0 := by kernel_rfl
theorem F43.k5_ok : evG Try.prog 44 (fun _ => W) nobody QP (regOps (Code.at F43.code [1, 0])) (F43.g1.drop 1) ((thenQ (F43.k1 W Q QP) (Q)) .normal) s h = F43.k5 W Q QP s h := nd_gw (j := 10) (is := isAt F43.g1 1) (rest := F43.g1.drop 2) (by kernel_rfl) (d := 15) (by kernel_rfl) (F43.k4_ok W Q QP) (F43.k5_a W QP s h (F43.k4 W Q QP))
def F43.t6 (s : St) (h : AH) (C0 : KT) : Prop :=
  pNil (s.tm 0) fun t29 =>
  pFld (some 1) t29 fun t30 =>
  lLd (some false) (some 1) t30 h fun t31 _ =>
  pNil (s.tm 0) fun t33 =>
  pFld (some 0) t33 fun t34 =>
  lLd (some false) (some 1) t34 h fun t35 _ =>
  (strArg t35 = false) ∧ pLen t35 fun t37 =>
  pBin Try.prog .lss 3 false t31 t37 fun t38 =>
  C0 ⟨puts s.tm [(5, (s.tm 0)), (6, t29), (7, t30), (8, t31), (9, (s.tm 0)), (10, t33), (11, t34), (12, t35), (13, t37), (14, t38), (15, t38)], s.ds⟩ h
def F43.k6 (W : Nat → Prop) (Q : Post) (QP : PPost) (s : St) (h : AH) : Prop := F43.t6 s h (F43.k5 W Q QP)
theorem F43.k6_a (C0 : KT) : evI Try.prog 44 (fun _ => W) nobody QP (regOps (Code.at F43.code [1, 0])) (isAt F43.g1 0) (C0) s h = F43.t6 s h C0 := by kernel_rfl
theorem F43.k6_ok : evG Try.prog 44 (fun _ => W) nobody QP (regOps (Code.at F43.code [1, 0])) (F43.g1.drop 0) ((thenQ (F43.k1 W Q QP) (Q)) .normal) s h = F43.k6 W Q QP s h := nd_g (is := isAt F43.g1 0) (rest := F43.g1.drop 1) (by kernel_rfl) (F43.k5_ok W Q QP) (F43.k6_a W QP s h (F43.k5 W Q QP))
theorem F43.o1 : aw Try.prog 44 W F43.pl (Code.at F43.code [1, 0]) (thenQ (F43.k1 W Q QP) (Q)) QP s h = F43.k6 W Q QP s h := nd_groups (id := 1) (draw := true) (ops := (regOps (Code.at F43.code [1, 0]))) (gs := F43.g1.drop 0) (by kernel_rfl) (by kernel_rfl) (F43.k6_ok W Q QP s h)
theorem F43.o2 : aw Try.prog 44 W F43.pl (Code.at F43.code [1]) (Q) QP s h = F43.k6 W Q QP s h := nd_seq (a := (Code.at F43.code [1, 0])) (b := (Code.at F43.code [1, 1])) (by kernel_rfl) (F43.k1_ok W Q QP) (F43.o1 W Q QP s h)
def F43.t7 (s : St) (h : AH) (C0 : KT) : Prop :=
  C0 ⟨puts s.tm [(4, (.sc (.bool false)))], s.ds⟩ h
def F43.k7 (W : Nat → Prop) (Q : Post) (QP : PPost) (s : St) (h : AH) : Prop := F43.t7 s h (F43.k6 W Q QP)
theorem F43.k7_a (C0 : KT) : aw Try.prog 44 W F43.pl (Code.at F43.code [0]) (thenQ (C0) (Q)) QP s h = F43.t7 s h C0 := by kernel_rfl
theorem F43.k7_ok : aw Try.prog 44 W F43.pl (Code.at F43.code []) (Q) QP s h = F43.k7 W Q QP s h := nd_seq (a := (Code.at F43.code [0])) (b := (Code.at F43.code [1])) (by kernel_rfl) (F43.o2 W Q QP) (F43.k7_a W Q QP s h (F43.k6 W Q QP))
end
theorem F43.calls {x0 x1 : AV} {h : AH} {M : Nat → Prop} {R : AE → AH → Prop} (hp : F43.k7 (fun id => M id ∨ h.next ≤ id) (bodyQ Try.prog [.tmp 4] R) (bodyP R) (s0 [x0, x1]) h) : ACalls Try.prog 43 [x0, x1] h M R :=
  acalls_of Try.mixed Try.func43 rfl (Nat.le_of_ble_eq_true rfl) F43.ok (by rw [show Try.f43.ntmps = 44 from rfl, show Try.f43.results.toList = [.tmp 4] from rfl]; exact Eq.mpr (F43.k7_ok _ _ _ _ _) hp)
attribute [simp] F43.k1 F43.t1 F43.k2 F43.t2 F43.k3 F43.t3 F43.k4 F43.t4 F43.k5 F43.t5 F43.k6 F43.t6 F43.k7 F43.t7

/-! (*cubit/parse.reader).plain -/
section
variable (W : Nat → Prop) (Q : Post) (QP : PPost) (s : St) (h : AH)
noncomputable def F37.code : Code := Try.f37.body.getD .skip
def F37.g1 : Grps := [(none, [(0, false), (1, false), (2, false), (3, false), (4, false), (5, false), (6, false), (7, false), (8, false), (9, false), (10, false)]), (some (10, true), [(11, false), (12, false), (13, false), (14, false), (15, false), (16, false), (17, false), (18, false), (19, false), (20, false), (21, false), (22, false)]), (none, [(23, false), (24, false)]), (some (24, true), [(25, false), (26, false), (27, false), (28, false), (29, false), (30, false), (31, false), (32, false), (33, false), (34, false), (35, false), (36, false), (37, false)]), (none, [(38, false), (39, false)])]
def F37.pl : Plans := [(1, ⟨F37.g1, false, []⟩)]
theorem F37.ok : okCode F37.pl F37.code = true := by kernel_rfl
def F37.t1 (Q : Post) (s : St) (h : AH) : Prop :=
  Q .ret s h
def F37.k1 (W : Nat → Prop) (Q : Post) (QP : PPost) (s : St) (h : AH) : Prop := F37.t1 Q s h
theorem F37.k1_a : aw Try.prog 42 W F37.pl (Code.at F37.code [1, 1]) (Q) QP s h = F37.t1 Q s h := by kernel_rfl
theorem F37.k1_ok : aw Try.prog 42 W F37.pl (Code.at F37.code [1, 1]) (Q) QP s h = F37.k1 W Q QP s h := (F37.k1_a W Q QP s h)
def F37.t2 (s : St) (h : AH) (C0 : KT) : Prop :=
  pPick (s.tm 27) (s.tm 40) (.sc (.bool false)) fun t1 =>
  C0 ⟨puts s.tm [(41, t1), (2, t1)], s.ds⟩ h
def F37.k2 (W : Nat → Prop) (Q : Post) (QP : PPost) (s : St) (h : AH) : Prop := F37.t2 s h (F37.k1 W Q QP)
theorem F37.k2_a (C0 : KT) : evI Try.prog 42 (fun _ => W) nobody QP (regOps (Code.at F37.code [1, 0])) (isAt F37.g1 4) ((thenQ (C0) (Q)) .normal) s h = F37.t2 s h C0 := by kernel_rfl
theorem F37.k2_ok : evG Try.prog 42 (fun _ => W) nobody QP (regOps (Code.at F37.code [1, 0])) (F37.g1.drop 4) ((thenQ (F37.k1 W Q QP) (Q)) .normal) s h = F37.k2 W Q QP s h := nd_g (is := isAt F37.g1 4) (rest := F37.g1.drop 5) (by kernel_rfl) (fun _ _ => rfl) (F37.k2_a W Q QP s h (F37.k1 W Q QP))
def F37.t3 (W : Nat → Prop) (QP : PPost) (s : St) (h : AH) (C0 : KT) : Prop :=
  aIg true (s.tm 27) (
  pNil (s.tm 0) fun t2 =>
  pFld (some 0) t2 fun t3 =>
  lLd (some false) (some 1) t3 h fun t4 _ =>
  pNil (s.tm 0) fun t6 =>
  pFld (some 1) t6 fun t7 =>
  lLd (some false) (some 1) t7 h fun t8 _ =>
  pIxA (some (3, none)) t4 t8 fun t10 =>
  pFld (some 1) t10 fun t11 =>
  lLd (some false) (some 1) t11 h fun t12 _ =>
  aCall Try.prog W 44 [t12] h (fun t14 h15 =>
  pUn .not t14 fun t16 =>
  C0 ⟨puts s.tm [(28, (s.tm 0)), (29, t2), (30, t3), (31, t4), (32, (s.tm 0)), (33, t6), (34, t7), (35, t8), (36, t10), (37, t11), (38, t12), (39, t14), (40, t16)], s.ds⟩ h15) (QP s.ds)) (
  C0 ⟨puts s.tm [(28, noA), (29, noA), (30, noA), (31, noA), (32, noA), (33, noA), (34, noA), (35, noA), (36, noA), (37, noA), (38, noA), (39, noA), (40, noA)], s.ds⟩ h)
def F37.k3 (W : Nat → Prop) (Q : Post) (QP : PPost) (s : St) (h : AH) : Prop := F37.t3 W QP s h (F37.k2 W Q QP)
theorem F37.k3_a (C0 : KT) : aIg true (s.tm 27) (evI Try.prog 42 (fun _ => W) nobody QP (regOps (Code.at F37.code [1, 0])) (isAt F37.g1 3) (C0) s h) ((C0) (skI 42 (regOps (Code.at F37.code [1, 0])) (isAt F37.g1 3) s) h) = F37.t3 W QP s h C0 := by kernel_rfl
theorem F37.k3_ok : evG Try.prog 42 (fun _ => W) nobody QP (regOps (Code.at F37.code [1, 0])) (F37.g1.drop 3) ((thenQ (F37.k1 W Q QP) (Q)) .normal) s h = F37.k3 W Q QP s h := nd_gw (j := 24) (is := isAt F37.g1 3) (rest := F37.g1.drop 4) (by kernel_rfl) (d := 27) (by kernel_rfl) (F37.k2_ok W Q QP) (F37.k3_a W QP s h (F37.k2 W Q QP))
def F37.t4 (s : St) (h : AH) (C0 : KT) : Prop :=
  pPick (s.tm 13) (s.tm 25) (.sc (.bool false)) fun t17 =>
  C0 ⟨puts s.tm [(26, t17), (27, t17)], s.ds⟩ h
def F37.k4 (W : Nat → Prop) (Q : Post) (QP : PPost) (s : St) (h : AH) : Prop := F37.t4 s h (F37.k3 W Q QP)
theorem F37.k4_a (C0 : KT) : evI Try.prog 42 (fun _ => W) nobody QP (regOps (Code.at F37.code [1, 0])) (isAt F37.g1 2) (C0) s h = F37.t4 s h C0 := by kernel_rfl
theorem F37.k4_ok : evG Try.prog 42 (fun _ => W) nobody QP (regOps (Code.at F37.code [1, 0])) (F37.g1.drop 2) ((thenQ (F37.k1 W Q QP) (Q)) .normal) s h = F37.k4 W Q QP s h := nd_g (is := isAt F37.g1 2) (rest := F37.g1.drop 3) (by kernel_rfl) (F37.k3_ok W Q QP) (F37.k4_a W QP s h (F37.k3 W Q QP))
def F37.t5 (s : St) (h : AH) (C0 : KT) : Prop :=
  aIg true (s.tm 13) (
  pNil (s.tm 0) fun t18 =>
  pFld (some 0) t18 fun t19 =>
  lLd (some false) (some 1) t19 h fun t20 _ =>
  pNil (s.tm 0) fun t22 =>
  pFld (some 1) t22 fun t23 =>
  lLd (some false) (some 1) t23 h fun t24 _ =>
  pIxA (some (3, none)) t20 t24 fun t26 =>
  pFld (some 0) t26 fun t27 =>
  lLd (some false) (some 1) t27 h fun t28 _ =>
  pBin Try.prog .eql 3 true t28 (.sc (.int .i64 1)) fun t30 =>
  C0 ⟨puts s.tm [(14, (s.tm 0)), (15, t18), (16, t19), (17, t20), (18, (s.tm 0)), (19, t22), (20, t23), (21, t24), (22, t26), (23, t27), (24, t28), (25, t30)], s.ds⟩ h) (
  C0 ⟨puts s.tm [(14, noA), (15, noA), (16, noA), (17, noA), (18, noA), (19, noA), (20, noA), (21, noA), (22, noA), (23, noA), (24, noA), (25, noA)], s.ds⟩ h)
def F37.k5 (W : Nat → Prop) (Q : Post) (QP : PPost) (s : St) (h : AH) : Prop := F37.t5 s h (F37.k4 W Q QP)
theorem F37.k5_a (C0 : KT) : aIg true (s.tm 13) (evI Try.prog 42 (fun _ => W) nobody QP (regOps (Code.at F37.code [1, 0])) (isAt F37.g1 1) (C0) s h) ((C0) (skI 42 (regOps (Code.at F37.code [1, 0])) (isAt F37.g1 1) s) h) = F37.t5 s h C0 := by kernel_rfl
theorem F37.k5_ok : evG Try.prog 42 (fun _ => W) nobody QP (regOps (Code.at F37.code [1, 0])) (F37.g1.drop 1) ((thenQ (F37.k1 W Q QP) (Q)) .normal) s h = F37.k5 W Q QP s h := nd_gw (j := 10) (is := isAt F37.g1 1) (rest := F37.g1.drop 2) (by kernel_rfl) (d := 13) (by kernel_rfl) (F37.k4_ok W Q QP) (F37.k5_a W QP s h (F37.k4 W Q QP))
def F37.t6 (s : St) (h : AH) (C0 : KT) : Prop :=
  pNil (s.tm 0) fun t31 =>
  pFld (some 1) t31 fun t32 =>
  lLd (some false) (some 1) t32 h fun t33 _ =>
  pNil (s.tm 0) fun t35 =>
  pFld (some 0) t35 fun t36 =>
  lLd (some false) (some 1) t36 h fun t37 _ =>
  (strArg t37 = false) ∧ pLen t37 fun t39 =>
  pBin Try.prog .lss 3 false t33 t39 fun t40 =>
  C0 ⟨puts s.tm [(3, (s.tm 0)), (4, t31), (5, t32), (6, t33), (7, (s.tm 0)), (8, t35), (9, t36), (10, t37), (11, t39), (12, t40), (13, t40)], s.ds⟩ h
def F37.k6 (W : Nat → Prop) (Q : Post) (QP : PPost) (s : St) (h : AH) : Prop := F37.t6 s h (F37.k5 W Q QP)
theorem F37.k6_a (C0 : KT) : evI Try.prog 42 (fun _ => W) nobody QP (regOps (Code.at F37.code [1, 0])) (isAt F37.g1 0) (C0) s h = F37.t6 s h C0 := by kernel_rfl
theorem F37.k6_ok : evG Try.prog 42 (fun _ => W) nobody QP (regOps (Code.at F37.code [1, 0])) (F37.g1.drop 0) ((thenQ (F37.k1 W Q QP) (Q)) .normal) s h = F37.k6 W Q QP s h := nd_g (is := isAt F37.g1 0) (rest := F37.g1.drop 1) (by kernel_rfl) (F37.k5_ok W Q QP) (F37.k6_a W QP s h (F37.k5 W Q QP))
theorem F37.o1 : aw Try.prog 42 W F37.pl (Code.at F37.code [1, 0]) (thenQ (F37.k1 W Q QP) (Q)) QP s h = F37.k6 W Q QP s h := nd_groups (id := 1) (draw := true) (ops := (regOps (Code.at F37.code [1, 0]))) (gs := F37.g1.drop 0) (by kernel_rfl) (by kernel_rfl) (F37.k6_ok W Q QP s h)
theorem F37.o2 : aw Try.prog 42 W F37.pl (Code.at F37.code [1]) (Q) QP s h = F37.k6 W Q QP s h := nd_seq (a := (Code.at F37.code [1, 0])) (b := (Code.at F37.code [1, 1])) (by kernel_rfl) (F37.k1_ok W Q QP) (F37.o1 W Q QP s h)
def F37.t7 (s : St) (h : AH) (C0 : KT) : Prop :=
  C0 ⟨puts s.tm [(2, (.sc (.bool false)))], s.ds⟩ h
def F37.k7 (W : Nat → Prop) (Q : Post) (QP : PPost) (s : St) (h : AH) : Prop := F37.t7 s h (F37.k6 W Q QP)
theorem F37.k7_a (C0 : KT) : aw Try.prog 42 W F37.pl (Code.at F37.code [0]) (thenQ (C0) (Q)) QP s h = F37.t7 s h C0 := by kernel_rfl
theorem F37.k7_ok : aw Try.prog 42 W F37.pl (Code.at F37.code []) (Q) QP s h = F37.k7 W Q QP s h := nd_seq (a := (Code.at F37.code [0])) (b := (Code.at F37.code [1])) (by kernel_rfl) (F37.o2 W Q QP) (F37.k7_a W Q QP s h (F37.k6 W Q QP))
end
theorem F37.calls {x0 : AV} {h : AH} {M : Nat → Prop} {R : AE → AH → Prop} (hp : F37.k7 (fun id => M id ∨ h.next ≤ id) (bodyQ Try.prog [.tmp 2] R) (bodyP R) (s0 [x0]) h) : ACalls Try.prog 37 [x0] h M R :=
  acalls_of Try.mixed Try.func37 rfl (Nat.le_of_ble_eq_true rfl) F37.ok (by rw [show Try.f37.ntmps = 42 from rfl, show Try.f37.results.toList = [.tmp 2] from rfl]; exact Eq.mpr (F37.k7_ok _ _ _ _ _) hp)
attribute [simp] F37.k1 F37.t1 F37.k2 F37.t2 F37.k3 F37.t3 F37.k4 F37.t4 F37.k5 F37.t5 F37.k6 F37.t6 F37.k7 F37.t7

/-! (*cubit/parse.reader).next -/
section
variable (W : Nat → Prop) (Q : Post) (QP : PPost) (s : St) (h : AH)
noncomputable def F33.code : Code := Try.f33.body.getD .skip
def F33.pl : Plans := [(1, ⟨[(none, [(0, false), (1, false), (2, false), (3, false), (4, false), (5, false), (6, false), (7, false), (8, false), (9, false)])], false, []⟩), (3, ⟨[(none, [(0, false), (1, false), (2, false), (3, false), (4, false), (5, false), (6, false), (7, false), (8, false), (9, false), (10, false), (11, false)])], false, []⟩)]
theorem F33.ok : okCode F33.pl F33.code = true := by kernel_rfl
def F33.t1 (W : Nat → Prop) (Q : Post) (s : St) (h : AH) : Prop :=
  lLd (some true) (some 3) (s.tm 5) h fun t1 _ =>
  eStore (some 3) (s.tm 4) t1 h W fun h3 =>
  Q .ret ⟨puts s.tm [(45, t1)], s.ds⟩ h3
def F33.k1 (W : Nat → Prop) (Q : Post) (QP : PPost) (s : St) (h : AH) : Prop := F33.t1 W Q s h
theorem F33.k1_a : aw Try.prog 46 W F33.pl (Code.at F33.code [1, 1, 1, 1, 1, 0]) (thenQ (aw Try.prog 46 W F33.pl (Code.at F33.code [1, 1, 1, 1, 1, 1]) (Q) QP) (Q)) QP s h = F33.t1 W Q s h := by kernel_rfl
theorem F33.k1_ok : aw Try.prog 46 W F33.pl (Code.at F33.code [1, 1, 1, 1, 1]) (Q) QP s h = F33.k1 W Q QP s h := nd_seq (a := (Code.at F33.code [1, 1, 1, 1, 1, 0])) (b := (Code.at F33.code [1, 1, 1, 1, 1, 1])) (by kernel_rfl) (fun _ _ => rfl) (F33.k1_a W Q QP s h)
def F33.t2 (W : Nat → Prop) (s : St) (h : AH) (C0 : KT) : Prop :=
  pNil (s.tm 0) fun t4 =>
  pFld (some 1) t4 fun t5 =>
  lLd (some false) (some 1) t5 h fun t6 _ =>
  pBin Try.prog .add 3 true t6 (.sc (.int .i64 1)) fun t8 =>
  pNil (s.tm 0) fun t9 =>
  pFld (some 1) t9 fun t10 =>
  eStore (some 1) t10 t8 h W fun h11 =>
  C0 ⟨puts s.tm [(38, (s.tm 0)), (39, t4), (40, t5), (41, t6), (42, t8), (43, t9), (44, t10)], s.ds⟩ h11
def F33.k2 (W : Nat → Prop) (Q : Post) (QP : PPost) (s : St) (h : AH) : Prop := F33.t2 W s h (F33.k1 W Q QP)
theorem F33.k2_a (C0 : KT) : aw Try.prog 46 W F33.pl (Code.at F33.code [1, 1, 1, 1, 0]) (thenQ (C0) (Q)) QP s h = F33.t2 W s h C0 := by kernel_rfl
theorem F33.k2_ok : aw Try.prog 46 W F33.pl (Code.at F33.code [1, 1, 1, 1]) (Q) QP s h = F33.k2 W Q QP s h := nd_seq (a := (Code.at F33.code [1, 1, 1, 1, 0])) (b := (Code.at F33.code [1, 1, 1, 1, 1])) (by kernel_rfl) (F33.k1_ok W Q QP) (F33.k2_a W Q QP s h (F33.k1 W Q QP))
def F33.t3 (QP : PPost) (s : St) (h : AH) (C0 : KT) : Prop :=
  aIf (s.tm 33) (
  pFld (some 2) (s.tm 5) fun t12 =>
  lLd (some false) (some 1) t12 h fun t13 _ =>
  pBld (some ([.int .i64 0, .int .i64 0], .inl [(0, 1), (1, 1)])) [(0, t13), (1, (.sc (.int .i64 100)))] fun t15 =>
  pMkI (some false) 47 t15 fun t16 =>
  aPan t16 h (QP s.ds)) (
  C0 s h)
def F33.k3 (W : Nat → Prop) (Q : Post) (QP : PPost) (s : St) (h : AH) : Prop := F33.t3 QP s h (F33.k2 W Q QP)
theorem F33.k3_a (C0 : KT) : aIf (aev s (.tmp 33)) (aw Try.prog 46 W F33.pl (Code.at F33.code [1, 1, 1, 0, 1, 0]) (thenQ (C0) (Q)) QP s h) (aw Try.prog 46 W F33.pl (Code.at F33.code [1, 1, 1, 0, 1, 1]) (thenQ (C0) (Q)) QP s h) = F33.t3 QP s h C0 := by kernel_rfl
theorem F33.k3_ok : aw Try.prog 46 W F33.pl (Code.at F33.code [1, 1, 1, 0, 1]) (thenQ (F33.k2 W Q QP) (Q)) QP s h = F33.k3 W Q QP s h := nd_cond (a := (Code.at F33.code [1, 1, 1, 0, 1, 0])) (b := (Code.at F33.code [1, 1, 1, 0, 1, 1])) (by kernel_rfl) rfl rfl (F33.k3_a W Q QP s h (F33.k2 W Q QP))
def F33.t4 (s : St) (h : AH) (C0 C1 : KT) : Prop :=
  pUn .not (s.tm 1) fun t17 =>
  C1 ⟨puts s.tm [(32, (s.tm 1)), (33, t17)], s.ds⟩ h
def F33.k4 (W : Nat → Prop) (Q : Post) (QP : PPost) (s : St) (h : AH) : Prop := F33.t4 s h (F33.k2 W Q QP) (F33.k3 W Q QP)
theorem F33.k4_a (C0 C1 : KT) : aw Try.prog 46 W F33.pl (Code.at F33.code [1, 1, 1, 0, 0]) (thenQ (C1) (thenQ (C0) (Q))) QP s h = F33.t4 s h C0 C1 := by kernel_rfl
theorem F33.k4_ok : aw Try.prog 46 W F33.pl (Code.at F33.code [1, 1, 1, 0]) (thenQ (F33.k2 W Q QP) (Q)) QP s h = F33.k4 W Q QP s h := nd_seq (a := (Code.at F33.code [1, 1, 1, 0, 0])) (b := (Code.at F33.code [1, 1, 1, 0, 1])) (by kernel_rfl) (F33.k3_ok W Q QP) (F33.k4_a W Q QP s h (F33.k2 W Q QP) (F33.k3 W Q QP))
theorem F33.o1 : aw Try.prog 46 W F33.pl (Code.at F33.code [1, 1, 1]) (Q) QP s h = F33.k4 W Q QP s h := nd_seq (a := (Code.at F33.code [1, 1, 1, 0])) (b := (Code.at F33.code [1, 1, 1, 1])) (by kernel_rfl) (F33.k2_ok W Q QP) (F33.k4_ok W Q QP s h)
def F33.t5 (W : Nat → Prop) (s : St) (h : AH) (C0 : KT) : Prop :=
  pNil (s.tm 0) fun t18 =>
  pFld (some 0) t18 fun t19 =>
  lLd (some false) (some 1) t19 h fun t20 _ =>
  pNil (s.tm 0) fun t22 =>
  pFld (some 1) t22 fun t23 =>
  lLd (some false) (some 1) t23 h fun t24 _ =>
  pIxA (some (3, none)) t20 t24 fun t26 =>
  lLd (some true) (some 3) t26 h fun t27 _ =>
  eAlloc (some [.int .i64 0, .string ⟨#[]⟩, .int .i64 0]) 3 38 h fun t29 h30 =>
  eStore (some 3) t29 t27 h30 W fun h31 =>
  C0 ⟨puts s.tm [(22, (s.tm 0)), (23, t18), (24, t19), (25, t20), (26, (s.tm 0)), (27, t22), (28, t23), (29, t24), (30, t26), (31, t27), (5, t29)], s.ds⟩ h31
def F33.k5 (W : Nat → Prop) (Q : Post) (QP : PPost) (s : St) (h : AH) : Prop := F33.t5 W s h (F33.k4 W Q QP)
theorem F33.k5_a (C0 : KT) : aw Try.prog 46 W F33.pl (Code.at F33.code [1, 1, 0]) (thenQ (C0) (Q)) QP s h = F33.t5 W s h C0 := by kernel_rfl
theorem F33.k5_ok : aw Try.prog 46 W F33.pl (Code.at F33.code [1, 1]) (Q) QP s h = F33.k5 W Q QP s h := nd_seq (a := (Code.at F33.code [1, 1, 0])) (b := (Code.at F33.code [1, 1, 1])) (by kernel_rfl) (F33.o1 W Q QP) (F33.k5_a W Q QP s h (F33.k4 W Q QP))
def F33.t6 (QP : PPost) (s : St) (h : AH) (C0 : KT) : Prop :=
  aIf (s.tm 15) (
  pNil (s.tm 0) fun t32 =>
  pFld (some 2) t32 fun t33 =>
  lLd (some false) (some 1) t33 h fun t34 _ =>
  pBld (some ([.int .i64 0, .int .i64 0], .inl [(0, 1), (1, 1)])) [(0, t34), (1, (.sc (.int .i64 101)))] fun t36 =>
  pMkI (some false) 47 t36 fun t37 =>
  aPan t37 h (QP s.ds)) (
  C0 s h)
def F33.k6 (W : Nat → Prop) (Q : Post) (QP : PPost) (s : St) (h : AH) : Prop := F33.t6 QP s h (F33.k5 W Q QP)
theorem F33.k6_a (C0 : KT) : aIf (aev s (.tmp 15)) (aw Try.prog 46 W F33.pl (Code.at F33.code [1, 0, 1, 0]) (thenQ (C0) (Q)) QP s h) (aw Try.prog 46 W F33.pl (Code.at F33.code [1, 0, 1, 1]) (thenQ (C0) (Q)) QP s h) = F33.t6 QP s h C0 := by kernel_rfl
theorem F33.k6_ok : aw Try.prog 46 W F33.pl (Code.at F33.code [1, 0, 1]) (thenQ (F33.k5 W Q QP) (Q)) QP s h = F33.k6 W Q QP s h := nd_cond (a := (Code.at F33.code [1, 0, 1, 0])) (b := (Code.at F33.code [1, 0, 1, 1])) (by kernel_rfl) rfl rfl (F33.k6_a W Q QP s h (F33.k5 W Q QP))
def F33.t7 (s : St) (h : AH) (C0 C1 : KT) : Prop :=
  pNil (s.tm 0) fun t38 =>
  pFld (some 1) t38 fun t39 =>
  lLd (some false) (some 1) t39 h fun t40 _ =>
  pNil (s.tm 0) fun t42 =>
  pFld (some 0) t42 fun t43 =>
  lLd (some false) (some 1) t43 h fun t44 _ =>
  (strArg t44 = false) ∧ pLen t44 fun t46 =>
  pBin Try.prog .geq 3 false t40 t46 fun t47 =>
  C1 ⟨puts s.tm [(6, (s.tm 0)), (7, t38), (8, t39), (9, t40), (10, (s.tm 0)), (11, t42), (12, t43), (13, t44), (14, t46), (15, t47)], s.ds⟩ h
def F33.k7 (W : Nat → Prop) (Q : Post) (QP : PPost) (s : St) (h : AH) : Prop := F33.t7 s h (F33.k5 W Q QP) (F33.k6 W Q QP)
theorem F33.k7_a (C0 C1 : KT) : aw Try.prog 46 W F33.pl (Code.at F33.code [1, 0, 0]) (thenQ (C1) (thenQ (C0) (Q))) QP s h = F33.t7 s h C0 C1 := by kernel_rfl
theorem F33.k7_ok : aw Try.prog 46 W F33.pl (Code.at F33.code [1, 0]) (thenQ (F33.k5 W Q QP) (Q)) QP s h = F33.k7 W Q QP s h := nd_seq (a := (Code.at F33.code [1, 0, 0])) (b := (Code.at F33.code [1, 0, 1])) (by kernel_rfl) (F33.k6_ok W Q QP) (F33.k7_a W Q QP s h (F33.k5 W Q QP) (F33.k6 W Q QP))
theorem F33.o2 : aw Try.prog 46 W F33.pl (Code.at F33.code [1]) (Q) QP s h = F33.k7 W Q QP s h := nd_seq (a := (Code.at F33.code [1, 0])) (b := (Code.at F33.code [1, 1])) (by kernel_rfl) (F33.k5_ok W Q QP) (F33.k7_ok W Q QP s h)
def F33.t8 (s : St) (h : AH) (C0 : KT) : Prop :=
  eAlloc (some [.int .i64 0, .string ⟨#[]⟩, .int .i64 0]) 3 38 h fun t48 h49 =>
  C0 ⟨puts s.tm [(4, t48)], s.ds⟩ h49
def F33.k8 (W : Nat → Prop) (Q : Post) (QP : PPost) (s : St) (h : AH) : Prop := F33.t8 s h (F33.k7 W Q QP)
theorem F33.k8_a (C0 : KT) : aw Try.prog 46 W F33.pl (Code.at F33.code [0]) (thenQ (C0) (Q)) QP s h = F33.t8 s h C0 := by kernel_rfl
theorem F33.k8_ok : aw Try.prog 46 W F33.pl (Code.at F33.code []) (Q) QP s h = F33.k8 W Q QP s h := nd_seq (a := (Code.at F33.code [0])) (b := (Code.at F33.code [1])) (by kernel_rfl) (F33.o2 W Q QP) (F33.k8_a W Q QP s h (F33.k7 W Q QP))
end
theorem F33.calls {x0 x1 : AV} {h : AH} {M : Nat → Prop} {R : AE → AH → Prop} (hp : F33.k8 (fun id => M id ∨ h.next ≤ id) (bodyQ Try.prog [.cell 4 38] R) (bodyP R) (s0 [x0, x1]) h) : ACalls Try.prog 33 [x0, x1] h M R :=
  acalls_of Try.mixed Try.func33 rfl (Nat.le_of_ble_eq_true rfl) F33.ok (by rw [show Try.f33.ntmps = 46 from rfl, show Try.f33.results.toList = [.cell 4 38] from rfl]; exact Eq.mpr (F33.k8_ok _ _ _ _ _) hp)
attribute [simp] F33.k1 F33.t1 F33.k2 F33.t2 F33.k3 F33.t3 F33.k4 F33.t4 F33.k5 F33.t5 F33.k6 F33.t6 F33.k7 F33.t7 F33.k8 F33.t8

/-! (*cubit/parse.reader).sign -/
section
variable (W : Nat → Prop) (Q : Post) (QP : PPost) (s : St) (h : AH)
noncomputable def F36.code : Code := Try.f36.body.getD .skip
def F36.pl : Plans := []
theorem F36.ok : okCode F36.pl F36.code = true := by kernel_rfl
def F36.t1 (W : Nat → Prop) (Q : Post) (QP : PPost) (s : St) (h : AH) : Prop :=
  aCall Try.prog W 43 [(s.tm 0), (s.tm 1)] h (fun t1 h2 =>
  aCall Try.prog W 33 [(s.tm 0), t1] h2 (fun t3 h4 =>
  eStore (some 3) (s.tm 4) t3 h4 W fun h5 =>
  Q .ret ⟨puts s.tm [(5, (s.tm 0)), (6, (s.tm 0)), (7, (s.tm 1)), (8, t1), (9, t3)], s.ds⟩ h5) (QP s.ds)) (QP s.ds)
def F36.k1 (W : Nat → Prop) (Q : Post) (QP : PPost) (s : St) (h : AH) : Prop := F36.t1 W Q QP s h
theorem F36.k1_a : aw Try.prog 10 W F36.pl (Code.at F36.code [1, 0]) (thenQ (aw Try.prog 10 W F36.pl (Code.at F36.code [1, 1]) (Q) QP) (Q)) QP s h = F36.t1 W Q QP s h := by kernel_rfl
theorem F36.k1_ok : aw Try.prog 10 W F36.pl (Code.at F36.code [1]) (Q) QP s h = F36.k1 W Q QP s h := nd_seq (a := (Code.at F36.code [1, 0])) (b := (Code.at F36.code [1, 1])) (by kernel_rfl) (fun _ _ => rfl) (F36.k1_a W Q QP s h)
def F36.t2 (s : St) (h : AH) (C0 : KT) : Prop :=
  eAlloc (some [.int .i64 0, .string ⟨#[]⟩, .int .i64 0]) 3 38 h fun t6 h7 =>
  C0 ⟨puts s.tm [(4, t6)], s.ds⟩ h7
def F36.k2 (W : Nat → Prop) (Q : Post) (QP : PPost) (s : St) (h : AH) : Prop := F36.t2 s h (F36.k1 W Q QP)
theorem F36.k2_a (C0 : KT) : aw Try.prog 10 W F36.pl (Code.at F36.code [0]) (thenQ (C0) (Q)) QP s h = F36.t2 s h C0 := by kernel_rfl
theorem F36.k2_ok : aw Try.prog 10 W F36.pl (Code.at F36.code []) (Q) QP s h = F36.k2 W Q QP s h := nd_seq (a := (Code.at F36.code [0])) (b := (Code.at F36.code [1])) (by kernel_rfl) (F36.k1_ok W Q QP) (F36.k2_a W Q QP s h (F36.k1 W Q QP))
end
theorem F36.calls {x0 x1 : AV} {h : AH} {M : Nat → Prop} {R : AE → AH → Prop} (hp : F36.k2 (fun id => M id ∨ h.next ≤ id) (bodyQ Try.prog [.cell 4 38] R) (bodyP R) (s0 [x0, x1]) h) : ACalls Try.prog 36 [x0, x1] h M R :=
  acalls_of Try.mixed Try.func36 rfl (Nat.le_of_ble_eq_true rfl) F36.ok (by rw [show Try.f36.ntmps = 10 from rfl, show Try.f36.results.toList = [.cell 4 38] from rfl]; exact Eq.mpr (F36.k2_ok _ _ _ _ _) hp)
attribute [simp] F36.k1 F36.t1 F36.k2 F36.t2

/-! (*cubit/parse.reader).name -/
section
variable (W : Nat → Prop) (Q : Post) (QP : PPost) (s : St) (h : AH)
noncomputable def F34.code : Code := Try.f34.body.getD .skip
def F34.pl : Plans := []
theorem F34.ok : okCode F34.pl F34.code = true := by kernel_rfl
def F34.t1 (W : Nat → Prop) (Q : Post) (QP : PPost) (s : St) (h : AH) : Prop :=
  aCall Try.prog W 37 [(s.tm 0)] h (fun t1 h2 =>
  aCall Try.prog W 33 [(s.tm 0), t1] h2 (fun t3 h4 =>
  pFdV (some (1, 1, false)) t3 fun t5 =>
  Q .ret ⟨puts s.tm [(3, (s.tm 0)), (4, (s.tm 0)), (5, t1), (6, t3), (7, t5), (2, t5)], s.ds⟩ h4) (QP s.ds)) (QP s.ds)
def F34.k1 (W : Nat → Prop) (Q : Post) (QP : PPost) (s : St) (h : AH) : Prop := F34.t1 W Q QP s h
theorem F34.k1_a : aw Try.prog 8 W F34.pl (Code.at F34.code [1, 0]) (thenQ (aw Try.prog 8 W F34.pl (Code.at F34.code [1, 1]) (Q) QP) (Q)) QP s h = F34.t1 W Q QP s h := by kernel_rfl
theorem F34.k1_ok : aw Try.prog 8 W F34.pl (Code.at F34.code [1]) (Q) QP s h = F34.k1 W Q QP s h := nd_seq (a := (Code.at F34.code [1, 0])) (b := (Code.at F34.code [1, 1])) (by kernel_rfl) (fun _ _ => rfl) (F34.k1_a W Q QP s h)
def F34.t2 (s : St) (h : AH) (C0 : KT) : Prop :=
  C0 ⟨puts s.tm [(2, (.sc (.string ⟨#[]⟩)))], s.ds⟩ h
def F34.k2 (W : Nat → Prop) (Q : Post) (QP : PPost) (s : St) (h : AH) : Prop := F34.t2 s h (F34.k1 W Q QP)
theorem F34.k2_a (C0 : KT) : aw Try.prog 8 W F34.pl (Code.at F34.code [0]) (thenQ (C0) (Q)) QP s h = F34.t2 s h C0 := by kernel_rfl
theorem F34.k2_ok : aw Try.prog 8 W F34.pl (Code.at F34.code []) (Q) QP s h = F34.k2 W Q QP s h := nd_seq (a := (Code.at F34.code [0])) (b := (Code.at F34.code [1])) (by kernel_rfl) (F34.k1_ok W Q QP) (F34.k2_a W Q QP s h (F34.k1 W Q QP))
end
theorem F34.calls {x0 : AV} {h : AH} {M : Nat → Prop} {R : AE → AH → Prop} (hp : F34.k2 (fun id => M id ∨ h.next ≤ id) (bodyQ Try.prog [.tmp 2] R) (bodyP R) (s0 [x0]) h) : ACalls Try.prog 34 [x0] h M R :=
  acalls_of Try.mixed Try.func34 rfl (Nat.le_of_ble_eq_true rfl) F34.ok (by rw [show Try.f34.ntmps = 8 from rfl, show Try.f34.results.toList = [.tmp 2] from rfl]; exact Eq.mpr (F34.k2_ok _ _ _ _ _) hp)
attribute [simp] F34.k1 F34.t1 F34.k2 F34.t2

/-! (*cubit/parse.reader).number -/
section
variable (W : Nat → Prop) (Q : Post) (QP : PPost) (s : St) (h : AH)
noncomputable def F35.code : Code := Try.f35.body.getD .skip
def F35.pl : Plans := [(1, ⟨[(none, [(0, false), (1, false), (2, false), (3, false), (4, false), (5, false), (6, false), (7, false), (8, false), (9, false), (10, false), (11, false)]), (some (11, true), [(12, false), (13, false), (14, false), (15, false), (16, false), (17, false), (18, false), (19, false), (20, false), (21, false), (22, false), (23, false)]), (none, [(24, false)])], false, [[(25, false), (26, false), (27, false)], [(26, false), (25, false), (27, false)]]⟩)]
theorem F35.ok : okCode F35.pl F35.code = true := by kernel_rfl
def F35.t1 (Q : Post) (s : St) (h : AH) : Prop :=
  Q .ret ⟨puts s.tm [(51, (s.tm 4)), (2, (s.tm 4))], s.ds⟩ h
def F35.k1 (W : Nat → Prop) (Q : Post) (QP : PPost) (s : St) (h : AH) : Prop := F35.t1 Q s h
theorem F35.k1_a : aw Try.prog 52 W F35.pl (Code.at F35.code [1, 1, 1, 1, 0]) (thenQ (aw Try.prog 52 W F35.pl (Code.at F35.code [1, 1, 1, 1, 1]) (Q) QP) (Q)) QP s h = F35.t1 Q s h := by kernel_rfl
theorem F35.k1_ok : aw Try.prog 52 W F35.pl (Code.at F35.code [1, 1, 1, 1]) (Q) QP s h = F35.k1 W Q QP s h := nd_seq (a := (Code.at F35.code [1, 1, 1, 1, 0])) (b := (Code.at F35.code [1, 1, 1, 1, 1])) (by kernel_rfl) (fun _ _ => rfl) (F35.k1_a W Q QP s h)
def F35.t2 (Q : Post) (QP : PPost) (s : St) (h : AH) : Prop :=
  aIf (s.tm 46) (
  pFld (some 2) (s.tm 3) fun t1 =>
  lLd (some false) (some 1) t1 h fun t2 _ =>
  pBld (some ([.int .i64 0, .int .i64 0], .inl [(0, 1), (1, 1)])) [(0, t2), (1, (.sc (.int .i64 1)))] fun t4 =>
  pMkI (some false) 47 t4 fun t5 =>
  aPan t5 h (QP s.ds)) (
  Q .normal s h)
def F35.k2 (W : Nat → Prop) (Q : Post) (QP : PPost) (s : St) (h : AH) : Prop := F35.t2 Q QP s h
theorem F35.k2_a : aIf (aev s (.tmp 46)) (aw Try.prog 52 W F35.pl (Code.at F35.code [1, 1, 1, 0, 1, 0, 0, 1, 1, 0, 1, 1, 1, 0]) (blockQ 1 (Q)) QP s h) (aw Try.prog 52 W F35.pl (Code.at F35.code [1, 1, 1, 0, 1, 0, 0, 1, 1, 0, 1, 1, 1, 1]) (blockQ 1 (Q)) QP s h) = F35.t2 Q QP s h := by kernel_rfl
theorem F35.k2_ok : aw Try.prog 52 W F35.pl (Code.at F35.code [1, 1, 1, 0, 1, 0, 0, 1, 1, 0, 1, 1, 1]) (blockQ 1 (Q)) QP s h = F35.k2 W Q QP s h := nd_cond (a := (Code.at F35.code [1, 1, 1, 0, 1, 0, 0, 1, 1, 0, 1, 1, 1, 0])) (b := (Code.at F35.code [1, 1, 1, 0, 1, 0, 0, 1, 1, 0, 1, 1, 1, 1])) (by kernel_rfl) rfl rfl (F35.k2_a W Q QP s h)
def F35.t3 (s : St) (h : AH) (C0 : KT) : Prop :=
  pBin Try.prog .gtr 3 true (s.tm 4) (.sc (.int .i64 9007199254740991)) fun t6 =>
  C0 ⟨puts s.tm [(45, (s.tm 4)), (46, t6)], s.ds⟩ h
def F35.k3 (W : Nat → Prop) (Q : Post) (QP : PPost) (s : St) (h : AH) : Prop := F35.t3 s h (F35.k2 W Q QP)
theorem F35.k3_a (C0 : KT) : aw Try.prog 52 W F35.pl (Code.at F35.code [1, 1, 1, 0, 1, 0, 0, 1, 1, 0, 1, 1, 0]) (thenQ (C0) (blockQ 1 (Q))) QP s h = F35.t3 s h C0 := by kernel_rfl
theorem F35.k3_ok : aw Try.prog 52 W F35.pl (Code.at F35.code [1, 1, 1, 0, 1, 0, 0, 1, 1, 0, 1, 1]) (blockQ 1 (Q)) QP s h = F35.k3 W Q QP s h := nd_seq (a := (Code.at F35.code [1, 1, 1, 0, 1, 0, 0, 1, 1, 0, 1, 1, 0])) (b := (Code.at F35.code [1, 1, 1, 0, 1, 0, 0, 1, 1, 0, 1, 1, 1])) (by kernel_rfl) (F35.k2_ok W Q QP) (F35.k3_a W Q QP s h (F35.k2 W Q QP))
def F35.t4 (s : St) (h : AH) (C0 : KT) : Prop :=
  pBin Try.prog .mul 3 true (s.tm 4) (.sc (.int .i64 10)) fun t7 =>
  pBin Try.prog .sub 21 true (s.tm 6) (.sc (.int .i32 48)) fun t8 =>
  pCnv (some .i64) t8 fun t9 =>
  pBin Try.prog .add 3 false t7 t9 fun t10 =>
  C0 ⟨puts s.tm [(39, (s.tm 4)), (40, t7), (41, (s.tm 6)), (42, t8), (43, t9), (44, t10), (4, t10)], s.ds⟩ h
def F35.k4 (W : Nat → Prop) (Q : Post) (QP : PPost) (s : St) (h : AH) : Prop := F35.t4 s h (F35.k3 W Q QP)
theorem F35.k4_a (C0 : KT) : aw Try.prog 52 W F35.pl (Code.at F35.code [1, 1, 1, 0, 1, 0, 0, 1, 1, 0, 1, 0]) (thenQ (C0) (blockQ 1 (Q))) QP s h = F35.t4 s h C0 := by kernel_rfl
theorem F35.k4_ok : aw Try.prog 52 W F35.pl (Code.at F35.code [1, 1, 1, 0, 1, 0, 0, 1, 1, 0, 1]) (blockQ 1 (Q)) QP s h = F35.k4 W Q QP s h := nd_seq (a := (Code.at F35.code [1, 1, 1, 0, 1, 0, 0, 1, 1, 0, 1, 0])) (b := (Code.at F35.code [1, 1, 1, 0, 1, 0, 0, 1, 1, 0, 1, 1])) (by kernel_rfl) (F35.k3_ok W Q QP) (F35.k4_a W Q QP s h (F35.k3 W Q QP))
def F35.t5 (s : St) (h : AH) (C0 : KT) : Prop :=
  pExt (s.tm 36) 2 fun t11 =>
  C0 ⟨puts s.tm [(38, t11), (6, t11)], s.ds⟩ h
def F35.k5 (W : Nat → Prop) (Q : Post) (QP : PPost) (s : St) (h : AH) : Prop := F35.t5 s h (F35.k4 W Q QP)
theorem F35.k5_a (C0 : KT) : aw Try.prog 52 W F35.pl (Code.at F35.code [1, 1, 1, 0, 1, 0, 0, 1, 1, 0, 0]) (thenQ (C0) (blockQ 1 (Q))) QP s h = F35.t5 s h C0 := by kernel_rfl
theorem F35.k5_ok : aw Try.prog 52 W F35.pl (Code.at F35.code [1, 1, 1, 0, 1, 0, 0, 1, 1, 0]) (blockQ 1 (Q)) QP s h = F35.k5 W Q QP s h := nd_seq (a := (Code.at F35.code [1, 1, 1, 0, 1, 0, 0, 1, 1, 0, 0])) (b := (Code.at F35.code [1, 1, 1, 0, 1, 0, 0, 1, 1, 0, 1])) (by kernel_rfl) (F35.k4_ok W Q QP) (F35.k5_a W Q QP s h (F35.k4 W Q QP))
theorem F35.o1 : aw Try.prog 52 W F35.pl (Code.at F35.code [1, 1, 1, 0, 1, 0, 0, 1, 1]) (Q) QP s h = F35.k5 W Q QP s h := nd_block (a := (Code.at F35.code [1, 1, 1, 0, 1, 0, 0, 1, 1, 0])) (by kernel_rfl) (F35.k5_ok W Q QP s h)
def F35.t6 (Q : Post) (s : St) (h : AH) (C0 : KT) : Prop :=
  aIf (s.tm 37) (
  C0 s h) (
  Q (.exit 0) s h)
def F35.k6 (W : Nat → Prop) (Q : Post) (QP : PPost) (s : St) (h : AH) : Prop := F35.t6 Q s h (F35.k5 W Q QP)
theorem F35.k6_a (C0 : KT) : aIf (aev s (.tmp 37)) (aw Try.prog 52 W F35.pl (Code.at F35.code [1, 1, 1, 0, 1, 0, 0, 1, 0, 0]) (thenQ (C0) (Q)) QP s h) (aw Try.prog 52 W F35.pl (Code.at F35.code [1, 1, 1, 0, 1, 0, 0, 1, 0, 1]) (thenQ (C0) (Q)) QP s h) = F35.t6 Q s h C0 := by kernel_rfl
theorem F35.k6_ok : aw Try.prog 52 W F35.pl (Code.at F35.code [1, 1, 1, 0, 1, 0, 0, 1, 0]) (thenQ (F35.k5 W Q QP) (Q)) QP s h = F35.k6 W Q QP s h := nd_cond (a := (Code.at F35.code [1, 1, 1, 0, 1, 0, 0, 1, 0, 0])) (b := (Code.at F35.code [1, 1, 1, 0, 1, 0, 0, 1, 0, 1])) (by kernel_rfl) rfl rfl (F35.k6_a W Q QP s h (F35.k5 W Q QP))
theorem F35.o2 : aw Try.prog 52 W F35.pl (Code.at F35.code [1, 1, 1, 0, 1, 0, 0, 1]) (Q) QP s h = F35.k6 W Q QP s h := nd_seq (a := (Code.at F35.code [1, 1, 1, 0, 1, 0, 0, 1, 0])) (b := (Code.at F35.code [1, 1, 1, 0, 1, 0, 0, 1, 1])) (by kernel_rfl) (F35.o1 W Q QP) (F35.k6_ok W Q QP s h)
def F35.t7 (W : Nat → Prop) (s : St) (h : AH) (C0 : KT) : Prop :=
  eNext (s.tm 35) h W fun t12 h13 =>
  pExt t12 0 fun t14 =>
  C0 ⟨puts s.tm [(36, t12), (37, t14)], s.ds⟩ h13
def F35.k7 (W : Nat → Prop) (Q : Post) (QP : PPost) (s : St) (h : AH) : Prop := F35.t7 W s h (F35.k6 W Q QP)
theorem F35.k7_a (C0 : KT) : aw Try.prog 52 W F35.pl (Code.at F35.code [1, 1, 1, 0, 1, 0, 0, 0]) (thenQ (C0) (Q)) QP s h = F35.t7 W s h C0 := by kernel_rfl
theorem F35.k7_ok : aw Try.prog 52 W F35.pl (Code.at F35.code [1, 1, 1, 0, 1, 0, 0]) (Q) QP s h = F35.k7 W Q QP s h := nd_seq (a := (Code.at F35.code [1, 1, 1, 0, 1, 0, 0, 0])) (b := (Code.at F35.code [1, 1, 1, 0, 1, 0, 0, 1])) (by kernel_rfl) (F35.o2 W Q QP) (F35.k7_a W Q QP s h (F35.k6 W Q QP))
noncomputable def F35.c1 : Code := (Code.at F35.code [1, 1, 1, 0, 1, 0, 0])
theorem F35.l1 : aw Try.prog 52 W F35.pl F35.c1 Q QP s h = F35.k7 W Q QP s h := F35.k7_ok W Q QP s h
def F35.k8 (W : Nat → Prop) (Q : Post) (QP : PPost) (s : St) (h : AH) : Prop := aLoop (aw Try.prog 52 W F35.pl F35.c1) (blockQ 0 (thenQ (F35.k1 W Q QP) (Q))) QP s h
theorem F35.k8_ok : aw Try.prog 52 W F35.pl (Code.at F35.code [1, 1, 1, 0, 1, 0]) (blockQ 0 (thenQ (F35.k1 W Q QP) (Q))) QP s h = F35.k8 W Q QP s h := nd_loop (a := F35.c1) (by kernel_rfl)
theorem F35.o3 : aw Try.prog 52 W F35.pl (Code.at F35.code [1, 1, 1, 0, 1]) (thenQ (F35.k1 W Q QP) (Q)) QP s h = F35.k8 W Q QP s h := nd_block (a := (Code.at F35.code [1, 1, 1, 0, 1, 0])) (by kernel_rfl) (F35.k8_ok W Q QP s h)
def F35.t9 (s : St) (h : AH) (C0 C1 : KT) : Prop :=
  pFld (some 1) (s.tm 3) fun t15 =>
  lLd (some false) (some 1) t15 h fun t16 _ =>
  eRange true t16 h fun t18 h19 =>
  C1 ⟨puts s.tm [(33, t15), (34, t16), (35, t18)], s.ds⟩ h19
def F35.k9 (W : Nat → Prop) (Q : Post) (QP : PPost) (s : St) (h : AH) : Prop := F35.t9 s h (F35.k1 W Q QP) (F35.k8 W Q QP)
theorem F35.k9_a (C0 C1 : KT) : aw Try.prog 52 W F35.pl (Code.at F35.code [1, 1, 1, 0, 0]) (thenQ (C1) (thenQ (C0) (Q))) QP s h = F35.t9 s h C0 C1 := by kernel_rfl
theorem F35.k9_ok : aw Try.prog 52 W F35.pl (Code.at F35.code [1, 1, 1, 0]) (thenQ (F35.k1 W Q QP) (Q)) QP s h = F35.k9 W Q QP s h := nd_seq (a := (Code.at F35.code [1, 1, 1, 0, 0])) (b := (Code.at F35.code [1, 1, 1, 0, 1])) (by kernel_rfl) (F35.o3 W Q QP) (F35.k9_a W Q QP s h (F35.k1 W Q QP) (F35.k8 W Q QP))
theorem F35.o4 : aw Try.prog 52 W F35.pl (Code.at F35.code [1, 1, 1]) (Q) QP s h = F35.k9 W Q QP s h := nd_seq (a := (Code.at F35.code [1, 1, 1, 0])) (b := (Code.at F35.code [1, 1, 1, 1])) (by kernel_rfl) (F35.k1_ok W Q QP) (F35.k9_ok W Q QP s h)
def F35.t10 (s : St) (h : AH) (C0 : KT) : Prop :=
  C0 ⟨puts s.tm [(4, (.sc (.int .i64 0)))], s.ds⟩ h
def F35.k10 (W : Nat → Prop) (Q : Post) (QP : PPost) (s : St) (h : AH) : Prop := F35.t10 s h (F35.k9 W Q QP)
theorem F35.k10_a (C0 : KT) : aw Try.prog 52 W F35.pl (Code.at F35.code [1, 1, 0]) (thenQ (C0) (Q)) QP s h = F35.t10 s h C0 := by kernel_rfl
theorem F35.k10_ok : aw Try.prog 52 W F35.pl (Code.at F35.code [1, 1]) (Q) QP s h = F35.k10 W Q QP s h := nd_seq (a := (Code.at F35.code [1, 1, 0])) (b := (Code.at F35.code [1, 1, 1])) (by kernel_rfl) (F35.o4 W Q QP) (F35.k10_a W Q QP s h (F35.k9 W Q QP))
def F35.t11 (W : Nat → Prop) (QP : PPost) (s : St) (h : AH) (C0 : KT) : Prop :=
  pNil (s.tm 0) fun t20 =>
  pFld (some 1) t20 fun t21 =>
  lLd (some false) (some 1) t21 h fun t22 _ =>
  pNil (s.tm 0) fun t24 =>
  pFld (some 0) t24 fun t25 =>
  lLd (some false) (some 1) t25 h fun t26 _ =>
  (strArg t26 = false) ∧ pLen t26 fun t28 =>
  pBin Try.prog .lss 3 false t22 t28 fun t29 =>
  aIg true t29 (
  pNil (s.tm 0) fun t30 =>
  pFld (some 0) t30 fun t31 =>
  lLd (some false) (some 1) t31 h fun t32 _ =>
  pNil (s.tm 0) fun t34 =>
  pFld (some 1) t34 fun t35 =>
  lLd (some false) (some 1) t35 h fun t36 _ =>
  pIxA (some (3, none)) t32 t36 fun t38 =>
  pFld (some 0) t38 fun t39 =>
  lLd (some false) (some 1) t39 h fun t40 _ =>
  pBin Try.prog .eql 3 true t40 (.sc (.int .i64 2)) fun t42 =>
  pPick t29 t42 (.sc (.bool false)) fun t43 =>
  (
  aCall Try.prog W 33 [(s.tm 0), t43] h (fun t44 h45 =>
  eAlloc (some [.int .i64 0, .string ⟨#[]⟩, .int .i64 0]) 3 38 h45 fun t46 h47 =>
  eStore (some 3) t46 t44 h47 W fun h48 =>
  C0 ⟨puts s.tm [(7, (s.tm 0)), (8, (s.tm 0)), (9, t20), (10, t21), (11, t22), (12, (s.tm 0)), (13, t24), (14, t25), (15, t26), (16, t28), (17, t29), (18, t29), (19, (s.tm 0)), (20, t30), (21, t31), (22, t32), (23, (s.tm 0)), (24, t34), (25, t35), (26, t36), (27, t38), (28, t39), (29, t40), (30, t42), (31, t43), (32, t44), (3, t46)], s.ds⟩ h48) (QP s.ds)) ∧ (
  eAlloc (some [.int .i64 0, .string ⟨#[]⟩, .int .i64 0]) 3 38 h fun t49 h50 =>
  aCall Try.prog W 33 [(s.tm 0), t43] h50 (fun t51 h52 =>
  eStore (some 3) t49 t51 h52 W fun h53 =>
  C0 ⟨puts s.tm [(7, (s.tm 0)), (8, (s.tm 0)), (9, t20), (10, t21), (11, t22), (12, (s.tm 0)), (13, t24), (14, t25), (15, t26), (16, t28), (17, t29), (18, t29), (19, (s.tm 0)), (20, t30), (21, t31), (22, t32), (23, (s.tm 0)), (24, t34), (25, t35), (26, t36), (27, t38), (28, t39), (29, t40), (30, t42), (31, t43), (3, t49), (32, t51)], s.ds⟩ h53) (QP s.ds)) ∧ True) (
  pPick t29 noA (.sc (.bool false)) fun t54 =>
  (
  aCall Try.prog W 33 [(s.tm 0), t54] h (fun t55 h56 =>
  eAlloc (some [.int .i64 0, .string ⟨#[]⟩, .int .i64 0]) 3 38 h56 fun t57 h58 =>
  eStore (some 3) t57 t55 h58 W fun h59 =>
  C0 ⟨puts s.tm [(7, (s.tm 0)), (8, (s.tm 0)), (9, t20), (10, t21), (11, t22), (12, (s.tm 0)), (13, t24), (14, t25), (15, t26), (16, t28), (17, t29), (18, t29), (19, noA), (20, noA), (21, noA), (22, noA), (23, noA), (24, noA), (25, noA), (26, noA), (27, noA), (28, noA), (29, noA), (30, noA), (31, t54), (32, t55), (3, t57)], s.ds⟩ h59) (QP s.ds)) ∧ (
  eAlloc (some [.int .i64 0, .string ⟨#[]⟩, .int .i64 0]) 3 38 h fun t60 h61 =>
  aCall Try.prog W 33 [(s.tm 0), t54] h61 (fun t62 h63 =>
  eStore (some 3) t60 t62 h63 W fun h64 =>
  C0 ⟨puts s.tm [(7, (s.tm 0)), (8, (s.tm 0)), (9, t20), (10, t21), (11, t22), (12, (s.tm 0)), (13, t24), (14, t25), (15, t26), (16, t28), (17, t29), (18, t29), (19, noA), (20, noA), (21, noA), (22, noA), (23, noA), (24, noA), (25, noA), (26, noA), (27, noA), (28, noA), (29, noA), (30, noA), (31, t54), (3, t60), (32, t62)], s.ds⟩ h64) (QP s.ds)) ∧ True)
def F35.k11 (W : Nat → Prop) (Q : Post) (QP : PPost) (s : St) (h : AH) : Prop := F35.t11 W QP s h (F35.k10 W Q QP)
theorem F35.k11_a (C0 : KT) : aw Try.prog 52 W F35.pl (Code.at F35.code [1, 0]) (thenQ (C0) (Q)) QP s h = F35.t11 W QP s h C0 := by kernel_rfl
theorem F35.k11_ok : aw Try.prog 52 W F35.pl (Code.at F35.code [1, 0]) (thenQ (F35.k10 W Q QP) (Q)) QP s h = F35.k11 W Q QP s h := (F35.k11_a W Q QP s h (F35.k10 W Q QP))
theorem F35.o5 : aw Try.prog 52 W F35.pl (Code.at F35.code [1]) (Q) QP s h = F35.k11 W Q QP s h := nd_seq (a := (Code.at F35.code [1, 0])) (b := (Code.at F35.code [1, 1])) (by kernel_rfl) (F35.k10_ok W Q QP) (F35.k11_ok W Q QP s h)
def F35.t12 (s : St) (h : AH) (C0 : KT) : Prop :=
  C0 ⟨puts s.tm [(2, (.sc (.int .i64 0)))], s.ds⟩ h
def F35.k12 (W : Nat → Prop) (Q : Post) (QP : PPost) (s : St) (h : AH) : Prop := F35.t12 s h (F35.k11 W Q QP)
theorem F35.k12_a (C0 : KT) : aw Try.prog 52 W F35.pl (Code.at F35.code [0]) (thenQ (C0) (Q)) QP s h = F35.t12 s h C0 := by kernel_rfl
theorem F35.k12_ok : aw Try.prog 52 W F35.pl (Code.at F35.code []) (Q) QP s h = F35.k12 W Q QP s h := nd_seq (a := (Code.at F35.code [0])) (b := (Code.at F35.code [1])) (by kernel_rfl) (F35.o5 W Q QP) (F35.k12_a W Q QP s h (F35.k11 W Q QP))
end
theorem F35.calls {x0 : AV} {h : AH} {M : Nat → Prop} {R : AE → AH → Prop} (hp : F35.k12 (fun id => M id ∨ h.next ≤ id) (bodyQ Try.prog [.tmp 2] R) (bodyP R) (s0 [x0]) h) : ACalls Try.prog 35 [x0] h M R :=
  acalls_of Try.mixed Try.func35 rfl (Nat.le_of_ble_eq_true rfl) F35.ok (by rw [show Try.f35.ntmps = 52 from rfl, show Try.f35.results.toList = [.tmp 2] from rfl]; exact Eq.mpr (F35.k12_ok _ _ _ _ _) hp)
attribute [simp] F35.k1 F35.t1 F35.k2 F35.t2 F35.k3 F35.t3 F35.k4 F35.t4 F35.k5 F35.t5 F35.k6 F35.t6 F35.k7 F35.t7 F35.k8 F35.k9 F35.t9 F35.k10 F35.t10 F35.k11 F35.t11 F35.k12 F35.t12

/-! (*cubit/parse.reader).argument -/
section
variable (W : Nat → Prop) (Q : Post) (QP : PPost) (s : St) (h : AH)
noncomputable def F39.code : Code := Try.f39.body.getD .skip
def F39.pl : Plans := []
theorem F39.ok : okCode F39.pl F39.code = true := by kernel_rfl
def F39.t1 (W : Nat → Prop) (Q : Post) (s : St) (h : AH) : Prop :=
  lLd (some true) (some 2) (s.tm 3) h fun t1 _ =>
  eStore (some 2) (s.tm 2) t1 h W fun h3 =>
  Q .ret ⟨puts s.tm [(21, t1)], s.ds⟩ h3
def F39.k1 (W : Nat → Prop) (Q : Post) (QP : PPost) (s : St) (h : AH) : Prop := F39.t1 W Q s h
theorem F39.k1_a : aw Try.prog 22 W F39.pl (Code.at F39.code [1, 1, 1, 0]) (thenQ (aw Try.prog 22 W F39.pl (Code.at F39.code [1, 1, 1, 1]) (Q) QP) (Q)) QP s h = F39.t1 W Q s h := by kernel_rfl
theorem F39.k1_ok : aw Try.prog 22 W F39.pl (Code.at F39.code [1, 1, 1]) (Q) QP s h = F39.k1 W Q QP s h := nd_seq (a := (Code.at F39.code [1, 1, 1, 0])) (b := (Code.at F39.code [1, 1, 1, 1])) (by kernel_rfl) (fun _ _ => rfl) (F39.k1_a W Q QP s h)
def F39.t2 (W : Nat → Prop) (QP : PPost) (s : St) (h : AH) (C0 : KT) : Prop :=
  aCall Try.prog W 36 [(s.tm 0), (.sc (.string ⟨#[93]⟩))] h (fun t4 h5 =>
  C0 ⟨puts s.tm [(19, (s.tm 0)), (20, t4)], s.ds⟩ h5) (QP s.ds)
def F39.k2 (W : Nat → Prop) (Q : Post) (QP : PPost) (s : St) (h : AH) : Prop := F39.t2 W QP s h (F39.k1 W Q QP)
theorem F39.k2_a (C0 : KT) : aw Try.prog 22 W F39.pl (Code.at F39.code [1, 1, 0, 1, 0, 1, 1]) (thenQ (C0) (Q)) QP s h = F39.t2 W QP s h C0 := by kernel_rfl
theorem F39.k2_ok : aw Try.prog 22 W F39.pl (Code.at F39.code [1, 1, 0, 1, 0, 1, 1]) (thenQ (F39.k1 W Q QP) (Q)) QP s h = F39.k2 W Q QP s h := (F39.k2_a W Q QP s h (F39.k1 W Q QP))
def F39.t3 (W : Nat → Prop) (QP : PPost) (s : St) (h : AH) (C0 C1 : KT) : Prop :=
  aCall Try.prog W 35 [(s.tm 0)] h (fun t6 h7 =>
  pFld (some 1) (s.tm 3) fun t8 =>
  eStore (some 1) t8 t6 h7 W fun h9 =>
  C1 ⟨puts s.tm [(16, (s.tm 0)), (17, t6), (18, t8)], s.ds⟩ h9) (QP s.ds)
def F39.k3 (W : Nat → Prop) (Q : Post) (QP : PPost) (s : St) (h : AH) : Prop := F39.t3 W QP s h (F39.k1 W Q QP) (F39.k2 W Q QP)
theorem F39.k3_a (C0 C1 : KT) : aw Try.prog 22 W F39.pl (Code.at F39.code [1, 1, 0, 1, 0, 1, 0]) (thenQ (C1) (thenQ (C0) (Q))) QP s h = F39.t3 W QP s h C0 C1 := by kernel_rfl
theorem F39.k3_ok : aw Try.prog 22 W F39.pl (Code.at F39.code [1, 1, 0, 1, 0, 1]) (thenQ (F39.k1 W Q QP) (Q)) QP s h = F39.k3 W Q QP s h := nd_seq (a := (Code.at F39.code [1, 1, 0, 1, 0, 1, 0])) (b := (Code.at F39.code [1, 1, 0, 1, 0, 1, 1])) (by kernel_rfl) (F39.k2_ok W Q QP) (F39.k3_a W Q QP s h (F39.k1 W Q QP) (F39.k2 W Q QP))
def F39.t4 (W : Nat → Prop) (s : St) (h : AH) (C0 C1 : KT) : Prop :=
  pNil (s.tm 0) fun t10 =>
  pFld (some 1) t10 fun t11 =>
  lLd (some false) (some 1) t11 h fun t12 _ =>
  pBin Try.prog .add 3 true t12 (.sc (.int .i64 1)) fun t14 =>
  pNil (s.tm 0) fun t15 =>
  pFld (some 1) t15 fun t16 =>
  eStore (some 1) t16 t14 h W fun h17 =>
  C1 ⟨puts s.tm [(9, (s.tm 0)), (10, t10), (11, t11), (12, t12), (13, t14), (14, t15), (15, t16)], s.ds⟩ h17
def F39.k4 (W : Nat → Prop) (Q : Post) (QP : PPost) (s : St) (h : AH) : Prop := F39.t4 W s h (F39.k1 W Q QP) (F39.k3 W Q QP)
theorem F39.k4_a (C0 C1 : KT) : aw Try.prog 22 W F39.pl (Code.at F39.code [1, 1, 0, 1, 0, 0]) (thenQ (C1) (thenQ (C0) (Q))) QP s h = F39.t4 W s h C0 C1 := by kernel_rfl
theorem F39.k4_ok : aw Try.prog 22 W F39.pl (Code.at F39.code [1, 1, 0, 1, 0]) (thenQ (F39.k1 W Q QP) (Q)) QP s h = F39.k4 W Q QP s h := nd_seq (a := (Code.at F39.code [1, 1, 0, 1, 0, 0])) (b := (Code.at F39.code [1, 1, 0, 1, 0, 1])) (by kernel_rfl) (F39.k3_ok W Q QP) (F39.k4_a W Q QP s h (F39.k1 W Q QP) (F39.k3 W Q QP))
def F39.t5 (s : St) (h : AH) (C0 C1 : KT) : Prop :=
  aIf (s.tm 8) (
  C1 s h) (
  C0 s h)
def F39.k5 (W : Nat → Prop) (Q : Post) (QP : PPost) (s : St) (h : AH) : Prop := F39.t5 s h (F39.k1 W Q QP) (F39.k4 W Q QP)
theorem F39.k5_a (C0 C1 : KT) : aIf (aev s (.tmp 8)) (C1 s h) (aw Try.prog 22 W F39.pl (Code.at F39.code [1, 1, 0, 1, 1]) (thenQ (C0) (Q)) QP s h) = F39.t5 s h C0 C1 := by kernel_rfl
theorem F39.k5_ok : aw Try.prog 22 W F39.pl (Code.at F39.code [1, 1, 0, 1]) (thenQ (F39.k1 W Q QP) (Q)) QP s h = F39.k5 W Q QP s h := nd_cond (a := (Code.at F39.code [1, 1, 0, 1, 0])) (b := (Code.at F39.code [1, 1, 0, 1, 1])) (by kernel_rfl) (F39.k4_ok W Q QP s h) rfl (F39.k5_a W Q QP s h (F39.k1 W Q QP) (F39.k4 W Q QP))
def F39.t6 (W : Nat → Prop) (QP : PPost) (s : St) (h : AH) (C0 C1 : KT) : Prop :=
  aCall Try.prog W 43 [(s.tm 0), (.sc (.string ⟨#[91]⟩))] h (fun t18 h19 =>
  C1 ⟨puts s.tm [(7, (s.tm 0)), (8, t18)], s.ds⟩ h19) (QP s.ds)
def F39.k6 (W : Nat → Prop) (Q : Post) (QP : PPost) (s : St) (h : AH) : Prop := F39.t6 W QP s h (F39.k1 W Q QP) (F39.k5 W Q QP)
theorem F39.k6_a (C0 C1 : KT) : aw Try.prog 22 W F39.pl (Code.at F39.code [1, 1, 0, 0]) (thenQ (C1) (thenQ (C0) (Q))) QP s h = F39.t6 W QP s h C0 C1 := by kernel_rfl
theorem F39.k6_ok : aw Try.prog 22 W F39.pl (Code.at F39.code [1, 1, 0]) (thenQ (F39.k1 W Q QP) (Q)) QP s h = F39.k6 W Q QP s h := nd_seq (a := (Code.at F39.code [1, 1, 0, 0])) (b := (Code.at F39.code [1, 1, 0, 1])) (by kernel_rfl) (F39.k5_ok W Q QP) (F39.k6_a W Q QP s h (F39.k1 W Q QP) (F39.k5 W Q QP))
theorem F39.o1 : aw Try.prog 22 W F39.pl (Code.at F39.code [1, 1]) (Q) QP s h = F39.k6 W Q QP s h := nd_seq (a := (Code.at F39.code [1, 1, 0])) (b := (Code.at F39.code [1, 1, 1])) (by kernel_rfl) (F39.k1_ok W Q QP) (F39.k6_ok W Q QP s h)
def F39.t7 (W : Nat → Prop) (QP : PPost) (s : St) (h : AH) (C0 : KT) : Prop :=
  aCall Try.prog W 34 [(s.tm 0)] h (fun t20 h21 =>
  pBld (some ([.string ⟨#[]⟩, .int .i64 0], .inl [(0, 1), (1, 1)])) [(0, t20), (1, (.sc (.int .i64 (-1))))] fun t22 =>
  eAlloc (some [.string ⟨#[]⟩, .int .i64 0]) 2 53 h21 fun t23 h24 =>
  eStore (some 2) t23 t22 h24 W fun h25 =>
  C0 ⟨puts s.tm [(4, (s.tm 0)), (5, t20), (6, t22), (3, t23)], s.ds⟩ h25) (QP s.ds)
def F39.k7 (W : Nat → Prop) (Q : Post) (QP : PPost) (s : St) (h : AH) : Prop := F39.t7 W QP s h (F39.k6 W Q QP)
theorem F39.k7_a (C0 : KT) : aw Try.prog 22 W F39.pl (Code.at F39.code [1, 0]) (thenQ (C0) (Q)) QP s h = F39.t7 W QP s h C0 := by kernel_rfl
theorem F39.k7_ok : aw Try.prog 22 W F39.pl (Code.at F39.code [1]) (Q) QP s h = F39.k7 W Q QP s h := nd_seq (a := (Code.at F39.code [1, 0])) (b := (Code.at F39.code [1, 1])) (by kernel_rfl) (F39.o1 W Q QP) (F39.k7_a W Q QP s h (F39.k6 W Q QP))
def F39.t8 (s : St) (h : AH) (C0 : KT) : Prop :=
  eAlloc (some [.string ⟨#[]⟩, .int .i64 0]) 2 53 h fun t26 h27 =>
  C0 ⟨puts s.tm [(2, t26)], s.ds⟩ h27
def F39.k8 (W : Nat → Prop) (Q : Post) (QP : PPost) (s : St) (h : AH) : Prop := F39.t8 s h (F39.k7 W Q QP)
theorem F39.k8_a (C0 : KT) : aw Try.prog 22 W F39.pl (Code.at F39.code [0]) (thenQ (C0) (Q)) QP s h = F39.t8 s h C0 := by kernel_rfl
theorem F39.k8_ok : aw Try.prog 22 W F39.pl (Code.at F39.code []) (Q) QP s h = F39.k8 W Q QP s h := nd_seq (a := (Code.at F39.code [0])) (b := (Code.at F39.code [1])) (by kernel_rfl) (F39.k7_ok W Q QP) (F39.k8_a W Q QP s h (F39.k7 W Q QP))
end
theorem F39.calls {x0 : AV} {h : AH} {M : Nat → Prop} {R : AE → AH → Prop} (hp : F39.k8 (fun id => M id ∨ h.next ≤ id) (bodyQ Try.prog [.cell 2 53] R) (bodyP R) (s0 [x0]) h) : ACalls Try.prog 39 [x0] h M R :=
  acalls_of Try.mixed Try.func39 rfl (Nat.le_of_ble_eq_true rfl) F39.ok (by rw [show Try.f39.ntmps = 22 from rfl, show Try.f39.results.toList = [.cell 2 53] from rfl]; exact Eq.mpr (F39.k8_ok _ _ _ _ _) hp)
attribute [simp] F39.k1 F39.t1 F39.k2 F39.t2 F39.k3 F39.t3 F39.k4 F39.t4 F39.k5 F39.t5 F39.k6 F39.t6 F39.k7 F39.t7 F39.k8 F39.t8

/-! (*cubit/parse.reader).body -/
section
variable (W : Nat → Prop) (Q : Post) (QP : PPost) (s : St) (h : AH)
noncomputable def F38.code : Code := Try.f38.body.getD .skip
def F38.pl : Plans := []
theorem F38.ok : okCode F38.pl F38.code = true := by kernel_rfl
def F38.t1 (Q : Post) (s : St) (h : AH) : Prop :=
  pNil (s.tm 0) fun t1 =>
  pFld (some 3) t1 fun t2 =>
  lLd (some false) (some 1) t2 h fun t3 _ =>
  (strArg t3 = false) ∧ pLen t3 fun t5 =>
  pBin Try.prog .sub 3 false t5 (s.tm 6) fun t6 =>
  Q .ret ⟨puts s.tm [(33, (s.tm 0)), (34, t1), (35, t2), (36, t3), (37, t5), (38, (s.tm 6)), (39, t6), (4, t6)], s.ds⟩ h
def F38.k1 (W : Nat → Prop) (Q : Post) (QP : PPost) (s : St) (h : AH) : Prop := F38.t1 Q s h
theorem F38.k1_a : aw Try.prog 40 W F38.pl (Code.at F38.code [1, 1, 1, 1, 1, 1, 0]) (thenQ (aw Try.prog 40 W F38.pl (Code.at F38.code [1, 1, 1, 1, 1, 1, 1]) (Q) QP) (Q)) QP s h = F38.t1 Q s h := by kernel_rfl
theorem F38.k1_ok : aw Try.prog 40 W F38.pl (Code.at F38.code [1, 1, 1, 1, 1, 1]) (Q) QP s h = F38.k1 W Q QP s h := nd_seq (a := (Code.at F38.code [1, 1, 1, 1, 1, 1, 0])) (b := (Code.at F38.code [1, 1, 1, 1, 1, 1, 1])) (by kernel_rfl) (fun _ _ => rfl) (F38.k1_a W Q QP s h)
def F38.t2 (W : Nat → Prop) (s : St) (h : AH) (C0 : KT) : Prop :=
  pNil (s.tm 0) fun t7 =>
  pFld (some 1) t7 fun t8 =>
  lLd (some false) (some 1) t8 h fun t9 _ =>
  pBin Try.prog .add 3 true t9 (.sc (.int .i64 1)) fun t11 =>
  pNil (s.tm 0) fun t12 =>
  pFld (some 1) t12 fun t13 =>
  eStore (some 1) t13 t11 h W fun h14 =>
  C0 ⟨puts s.tm [(26, (s.tm 0)), (27, t7), (28, t8), (29, t9), (30, t11), (31, t12), (32, t13)], s.ds⟩ h14
def F38.k2 (W : Nat → Prop) (Q : Post) (QP : PPost) (s : St) (h : AH) : Prop := F38.t2 W s h (F38.k1 W Q QP)
theorem F38.k2_a (C0 : KT) : aw Try.prog 40 W F38.pl (Code.at F38.code [1, 1, 1, 1, 1, 0]) (thenQ (C0) (Q)) QP s h = F38.t2 W s h C0 := by kernel_rfl
theorem F38.k2_ok : aw Try.prog 40 W F38.pl (Code.at F38.code [1, 1, 1, 1, 1]) (Q) QP s h = F38.k2 W Q QP s h := nd_seq (a := (Code.at F38.code [1, 1, 1, 1, 1, 0])) (b := (Code.at F38.code [1, 1, 1, 1, 1, 1])) (by kernel_rfl) (F38.k1_ok W Q QP) (F38.k2_a W Q QP s h (F38.k1 W Q QP))
def F38.t3 (W : Nat → Prop) (Q : Post) (QP : PPost) (s : St) (h : AH) : Prop :=
  aCall Try.prog W 14 [(s.tm 0), (s.tm 1)] h (fun t15 h16 =>
  Q .normal ⟨puts s.tm [(23, (s.tm 0)), (24, (s.tm 1)), (25, t15)], s.ds⟩ h16) (QP s.ds)
def F38.k3 (W : Nat → Prop) (Q : Post) (QP : PPost) (s : St) (h : AH) : Prop := F38.t3 W Q QP s h
theorem F38.k3_a : aw Try.prog 40 W F38.pl (Code.at F38.code [1, 1, 1, 1, 0, 0, 0, 1, 0]) (blockQ 1 (Q)) QP s h = F38.t3 W Q QP s h := by kernel_rfl
theorem F38.k3_ok : aw Try.prog 40 W F38.pl (Code.at F38.code [1, 1, 1, 1, 0, 0, 0, 1, 0]) (blockQ 1 (Q)) QP s h = F38.k3 W Q QP s h := (F38.k3_a W Q QP s h)
theorem F38.o1 : aw Try.prog 40 W F38.pl (Code.at F38.code [1, 1, 1, 1, 0, 0, 0, 1]) (Q) QP s h = F38.k3 W Q QP s h := nd_block (a := (Code.at F38.code [1, 1, 1, 1, 0, 0, 0, 1, 0])) (by kernel_rfl) (F38.k3_ok W Q QP s h)
def F38.t4 (Q : Post) (s : St) (h : AH) (C0 : KT) : Prop :=
  aIf (s.tm 22) (
  C0 s h) (
  Q (.exit 0) s h)
def F38.k4 (W : Nat → Prop) (Q : Post) (QP : PPost) (s : St) (h : AH) : Prop := F38.t4 Q s h (F38.k3 W Q QP)
theorem F38.k4_a (C0 : KT) : aIf (aev s (.tmp 22)) (aw Try.prog 40 W F38.pl (Code.at F38.code [1, 1, 1, 1, 0, 0, 0, 0, 1, 0]) (thenQ (C0) (Q)) QP s h) (aw Try.prog 40 W F38.pl (Code.at F38.code [1, 1, 1, 1, 0, 0, 0, 0, 1, 1]) (thenQ (C0) (Q)) QP s h) = F38.t4 Q s h C0 := by kernel_rfl
theorem F38.k4_ok : aw Try.prog 40 W F38.pl (Code.at F38.code [1, 1, 1, 1, 0, 0, 0, 0, 1]) (thenQ (F38.k3 W Q QP) (Q)) QP s h = F38.k4 W Q QP s h := nd_cond (a := (Code.at F38.code [1, 1, 1, 1, 0, 0, 0, 0, 1, 0])) (b := (Code.at F38.code [1, 1, 1, 1, 0, 0, 0, 0, 1, 1])) (by kernel_rfl) rfl rfl (F38.k4_a W Q QP s h (F38.k3 W Q QP))
def F38.t5 (W : Nat → Prop) (QP : PPost) (s : St) (h : AH) (C0 C1 : KT) : Prop :=
  aCall Try.prog W 43 [(s.tm 0), (.sc (.string ⟨#[125]⟩))] h (fun t17 h18 =>
  pUn .not t17 fun t19 =>
  C1 ⟨puts s.tm [(20, (s.tm 0)), (21, t17), (22, t19)], s.ds⟩ h18) (QP s.ds)
def F38.k5 (W : Nat → Prop) (Q : Post) (QP : PPost) (s : St) (h : AH) : Prop := F38.t5 W QP s h (F38.k3 W Q QP) (F38.k4 W Q QP)
theorem F38.k5_a (C0 C1 : KT) : aw Try.prog 40 W F38.pl (Code.at F38.code [1, 1, 1, 1, 0, 0, 0, 0, 0]) (thenQ (C1) (thenQ (C0) (Q))) QP s h = F38.t5 W QP s h C0 C1 := by kernel_rfl
theorem F38.k5_ok : aw Try.prog 40 W F38.pl (Code.at F38.code [1, 1, 1, 1, 0, 0, 0, 0]) (thenQ (F38.k3 W Q QP) (Q)) QP s h = F38.k5 W Q QP s h := nd_seq (a := (Code.at F38.code [1, 1, 1, 1, 0, 0, 0, 0, 0])) (b := (Code.at F38.code [1, 1, 1, 1, 0, 0, 0, 0, 1])) (by kernel_rfl) (F38.k4_ok W Q QP) (F38.k5_a W Q QP s h (F38.k3 W Q QP) (F38.k4 W Q QP))
theorem F38.o2 : aw Try.prog 40 W F38.pl (Code.at F38.code [1, 1, 1, 1, 0, 0, 0]) (Q) QP s h = F38.k5 W Q QP s h := nd_seq (a := (Code.at F38.code [1, 1, 1, 1, 0, 0, 0, 0])) (b := (Code.at F38.code [1, 1, 1, 1, 0, 0, 0, 1])) (by kernel_rfl) (F38.o1 W Q QP) (F38.k5_ok W Q QP s h)
noncomputable def F38.c1 : Code := (Code.at F38.code [1, 1, 1, 1, 0, 0, 0])
theorem F38.l1 : aw Try.prog 40 W F38.pl F38.c1 Q QP s h = F38.k5 W Q QP s h := F38.o2 W Q QP s h
def F38.k6 (W : Nat → Prop) (Q : Post) (QP : PPost) (s : St) (h : AH) : Prop := aLoop (aw Try.prog 40 W F38.pl F38.c1) (blockQ 0 (thenQ (F38.k2 W Q QP) (Q))) QP s h
theorem F38.k6_ok : aw Try.prog 40 W F38.pl (Code.at F38.code [1, 1, 1, 1, 0, 0]) (blockQ 0 (thenQ (F38.k2 W Q QP) (Q))) QP s h = F38.k6 W Q QP s h := nd_loop (a := F38.c1) (by kernel_rfl)
theorem F38.o3 : aw Try.prog 40 W F38.pl (Code.at F38.code [1, 1, 1, 1, 0]) (thenQ (F38.k2 W Q QP) (Q)) QP s h = F38.k6 W Q QP s h := nd_block (a := (Code.at F38.code [1, 1, 1, 1, 0, 0])) (by kernel_rfl) (F38.k6_ok W Q QP s h)
theorem F38.o4 : aw Try.prog 40 W F38.pl (Code.at F38.code [1, 1, 1, 1]) (Q) QP s h = F38.k6 W Q QP s h := nd_seq (a := (Code.at F38.code [1, 1, 1, 1, 0])) (b := (Code.at F38.code [1, 1, 1, 1, 1])) (by kernel_rfl) (F38.k2_ok W Q QP) (F38.o3 W Q QP s h)
def F38.t7 (s : St) (h : AH) (C0 : KT) : Prop :=
  pNil (s.tm 0) fun t20 =>
  pFld (some 3) t20 fun t21 =>
  lLd (some false) (some 1) t21 h fun t22 _ =>
  (strArg t22 = false) ∧ pLen t22 fun t24 =>
  C0 ⟨puts s.tm [(15, (s.tm 0)), (16, t20), (17, t21), (18, t22), (19, t24), (6, t24)], s.ds⟩ h
def F38.k7 (W : Nat → Prop) (Q : Post) (QP : PPost) (s : St) (h : AH) : Prop := F38.t7 s h (F38.k6 W Q QP)
theorem F38.k7_a (C0 : KT) : aw Try.prog 40 W F38.pl (Code.at F38.code [1, 1, 1, 0]) (thenQ (C0) (Q)) QP s h = F38.t7 s h C0 := by kernel_rfl
theorem F38.k7_ok : aw Try.prog 40 W F38.pl (Code.at F38.code [1, 1, 1]) (Q) QP s h = F38.k7 W Q QP s h := nd_seq (a := (Code.at F38.code [1, 1, 1, 0])) (b := (Code.at F38.code [1, 1, 1, 1])) (by kernel_rfl) (F38.o4 W Q QP) (F38.k7_a W Q QP s h (F38.k6 W Q QP))
def F38.t8 (QP : PPost) (s : St) (h : AH) (C0 : KT) : Prop :=
  aIf (s.tm 10) (
  pFld (some 2) (s.tm 5) fun t25 =>
  lLd (some false) (some 1) t25 h fun t26 _ =>
  pBld (some ([.int .i64 0, .int .i64 0], .inl [(0, 1), (1, 1)])) [(0, t26), (1, (.sc (.int .i64 102)))] fun t28 =>
  pMkI (some false) 47 t28 fun t29 =>
  aPan t29 h (QP s.ds)) (
  C0 s h)
def F38.k8 (W : Nat → Prop) (Q : Post) (QP : PPost) (s : St) (h : AH) : Prop := F38.t8 QP s h (F38.k7 W Q QP)
theorem F38.k8_a (C0 : KT) : aIf (aev s (.tmp 10)) (aw Try.prog 40 W F38.pl (Code.at F38.code [1, 1, 0, 1, 0]) (thenQ (C0) (Q)) QP s h) (aw Try.prog 40 W F38.pl (Code.at F38.code [1, 1, 0, 1, 1]) (thenQ (C0) (Q)) QP s h) = F38.t8 QP s h C0 := by kernel_rfl
theorem F38.k8_ok : aw Try.prog 40 W F38.pl (Code.at F38.code [1, 1, 0, 1]) (thenQ (F38.k7 W Q QP) (Q)) QP s h = F38.k8 W Q QP s h := nd_cond (a := (Code.at F38.code [1, 1, 0, 1, 0])) (b := (Code.at F38.code [1, 1, 0, 1, 1])) (by kernel_rfl) rfl rfl (F38.k8_a W Q QP s h (F38.k7 W Q QP))
def F38.t9 (s : St) (h : AH) (C0 C1 : KT) : Prop :=
  pBin Try.prog .gtr 3 true (s.tm 1) (.sc (.int .i64 32)) fun t30 =>
  C1 ⟨puts s.tm [(9, (s.tm 1)), (10, t30)], s.ds⟩ h
def F38.k9 (W : Nat → Prop) (Q : Post) (QP : PPost) (s : St) (h : AH) : Prop := F38.t9 s h (F38.k7 W Q QP) (F38.k8 W Q QP)
theorem F38.k9_a (C0 C1 : KT) : aw Try.prog 40 W F38.pl (Code.at F38.code [1, 1, 0, 0]) (thenQ (C1) (thenQ (C0) (Q))) QP s h = F38.t9 s h C0 C1 := by kernel_rfl
theorem F38.k9_ok : aw Try.prog 40 W F38.pl (Code.at F38.code [1, 1, 0]) (thenQ (F38.k7 W Q QP) (Q)) QP s h = F38.k9 W Q QP s h := nd_seq (a := (Code.at F38.code [1, 1, 0, 0])) (b := (Code.at F38.code [1, 1, 0, 1])) (by kernel_rfl) (F38.k8_ok W Q QP) (F38.k9_a W Q QP s h (F38.k7 W Q QP) (F38.k8 W Q QP))
theorem F38.o5 : aw Try.prog 40 W F38.pl (Code.at F38.code [1, 1]) (Q) QP s h = F38.k9 W Q QP s h := nd_seq (a := (Code.at F38.code [1, 1, 0])) (b := (Code.at F38.code [1, 1, 1])) (by kernel_rfl) (F38.k7_ok W Q QP) (F38.k9_ok W Q QP s h)
def F38.t10 (W : Nat → Prop) (QP : PPost) (s : St) (h : AH) (C0 : KT) : Prop :=
  aCall Try.prog W 36 [(s.tm 0), (.sc (.string ⟨#[123]⟩))] h (fun t31 h32 =>
  eAlloc (some [.int .i64 0, .string ⟨#[]⟩, .int .i64 0]) 3 38 h32 fun t33 h34 =>
  eStore (some 3) t33 t31 h34 W fun h35 =>
  C0 ⟨puts s.tm [(7, (s.tm 0)), (8, t31), (5, t33)], s.ds⟩ h35) (QP s.ds)
def F38.k10 (W : Nat → Prop) (Q : Post) (QP : PPost) (s : St) (h : AH) : Prop := F38.t10 W QP s h (F38.k9 W Q QP)
theorem F38.k10_a (C0 : KT) : aw Try.prog 40 W F38.pl (Code.at F38.code [1, 0]) (thenQ (C0) (Q)) QP s h = F38.t10 W QP s h C0 := by kernel_rfl
theorem F38.k10_ok : aw Try.prog 40 W F38.pl (Code.at F38.code [1]) (Q) QP s h = F38.k10 W Q QP s h := nd_seq (a := (Code.at F38.code [1, 0])) (b := (Code.at F38.code [1, 1])) (by kernel_rfl) (F38.o5 W Q QP) (F38.k10_a W Q QP s h (F38.k9 W Q QP))
def F38.t11 (s : St) (h : AH) (C0 : KT) : Prop :=
  C0 ⟨puts s.tm [(4, (.sc (.int .i64 0)))], s.ds⟩ h
def F38.k11 (W : Nat → Prop) (Q : Post) (QP : PPost) (s : St) (h : AH) : Prop := F38.t11 s h (F38.k10 W Q QP)
theorem F38.k11_a (C0 : KT) : aw Try.prog 40 W F38.pl (Code.at F38.code [0]) (thenQ (C0) (Q)) QP s h = F38.t11 s h C0 := by kernel_rfl
theorem F38.k11_ok : aw Try.prog 40 W F38.pl (Code.at F38.code []) (Q) QP s h = F38.k11 W Q QP s h := nd_seq (a := (Code.at F38.code [0])) (b := (Code.at F38.code [1])) (by kernel_rfl) (F38.k10_ok W Q QP) (F38.k11_a W Q QP s h (F38.k10 W Q QP))
end
theorem F38.calls {x0 x1 : AV} {h : AH} {M : Nat → Prop} {R : AE → AH → Prop} (hp : F38.k11 (fun id => M id ∨ h.next ≤ id) (bodyQ Try.prog [.tmp 4] R) (bodyP R) (s0 [x0, x1]) h) : ACalls Try.prog 38 [x0, x1] h M R :=
  acalls_of Try.mixed Try.func38 rfl (Nat.le_of_ble_eq_true rfl) F38.ok (by rw [show Try.f38.ntmps = 40 from rfl, show Try.f38.results.toList = [.tmp 4] from rfl]; exact Eq.mpr (F38.k11_ok _ _ _ _ _) hp)
attribute [simp] F38.k1 F38.t1 F38.k2 F38.t2 F38.k3 F38.t3 F38.k4 F38.t4 F38.k5 F38.t5 F38.k6 F38.k7 F38.t7 F38.k8 F38.t8 F38.k9 F38.t9 F38.k10 F38.t10 F38.k11 F38.t11

/-! (*cubit/parse.reader).statement -/
section
variable (W : Nat → Prop) (Q : Post) (QP : PPost) (s : St) (h : AH)
noncomputable def F14.code : Code := Try.f14.body.getD .skip
def F14.pl : Plans := [(0, ⟨[(none, [(0, false), (1, false), (2, false), (3, false), (4, false), (5, false), (6, false), (7, false), (8, false), (9, false), (10, false), (11, false)]), (some (11, true), [(12, false), (13, false), (14, false), (15, false), (16, false), (17, false), (18, false), (19, false), (20, false), (21, false), (22, false), (23, false)]), (none, [(24, false)])], false, [[(25, false), (26, false), (27, false)], [(26, false), (25, false), (27, false)]]⟩), (3, ⟨[(none, [(0, false), (1, false), (2, false), (3, false), (4, false), (5, false), (6, false), (7, false), (8, false), (9, false), (10, false)])], false, []⟩), (5, ⟨[(none, [(0, false), (1, true), (2, false), (3, false), (4, false), (5, false)])], true, []⟩), (7, ⟨[(none, [(0, false), (1, true), (2, false), (3, false), (4, false), (5, false), (6, false), (7, false)])], true, []⟩), (17, ⟨[(none, [(0, false), (1, true), (2, false), (3, false), (4, false), (5, false), (6, false), (7, false), (8, false)])], true, []⟩), (27, ⟨[(none, [(0, false), (1, true), (2, false), (4, false), (3, false), (5, false), (6, false), (7, false), (8, false), (9, false)])], true, []⟩), (30, ⟨[(none, [(0, false), (1, true), (2, false), (3, false), (4, false), (5, false), (6, false), (7, false)])], true, []⟩), (32, ⟨[(none, [(0, false), (1, false), (2, false), (3, false), (4, false), (5, false), (6, false), (7, false)])], false, []⟩)]
theorem F14.ok : okCode F14.pl F14.code = true := by kernel_rfl
def F14.t1 (W : Nat → Prop) (Q : Post) (s : St) (h : AH) : Prop :=
  pNil (s.tm 0) fun t1 =>
  pFld (some 3) t1 fun t2 =>
  lLd (some false) (some 1) t2 h fun t3 _ =>
  lLd (some true) (some 6) (s.tm 5) h fun t5 _ =>
  pIxA (some (6, none)) t3 (s.tm 6) fun t7 =>
  eStore (some 6) t7 t5 h W fun h8 =>
  Q .normal ⟨puts s.tm [(148, (s.tm 0)), (149, t1), (150, t2), (151, t3), (152, (s.tm 6)), (153, t5), (154, t7)], s.ds⟩ h8
def F14.k1 (W : Nat → Prop) (Q : Post) (QP : PPost) (s : St) (h : AH) : Prop := F14.t1 W Q s h
theorem F14.k1_a : aw Try.prog 155 W F14.pl (Code.at F14.code [1, 1, 1, 1, 1]) (Q) QP s h = F14.t1 W Q s h := by kernel_rfl
theorem F14.k1_ok : aw Try.prog 155 W F14.pl (Code.at F14.code [1, 1, 1, 1, 1]) (Q) QP s h = F14.k1 W Q QP s h := (F14.k1_a W Q QP s h)
def F14.t2 (W : Nat → Prop) (QP : PPost) (s : St) (h : AH) (C0 : KT) : Prop :=
  aCall Try.prog W 36 [(s.tm 0), (.sc (.string ⟨#[59]⟩))] h (fun t9 h10 =>
  C0 ⟨puts s.tm [(79, (s.tm 0)), (80, t9)], s.ds⟩ h10) (QP s.ds)
def F14.k2 (W : Nat → Prop) (Q : Post) (QP : PPost) (s : St) (h : AH) : Prop := F14.t2 W QP s h (F14.k1 W Q QP)
theorem F14.k2_a (C0 : KT) : aw Try.prog 155 W F14.pl (Code.at F14.code [1, 1, 1, 1, 0, 1, 0, 1, 0, 1, 1]) (blockQ 0 (thenQ (C0) (Q))) QP s h = F14.t2 W QP s h C0 := by kernel_rfl
theorem F14.k2_ok : aw Try.prog 155 W F14.pl (Code.at F14.code [1, 1, 1, 1, 0, 1, 0, 1, 0, 1, 1]) (blockQ 0 (thenQ (F14.k1 W Q QP) (Q))) QP s h = F14.k2 W Q QP s h := (F14.k2_a W Q QP s h (F14.k1 W Q QP))
def F14.t3 (W : Nat → Prop) (QP : PPost) (s : St) (h : AH) (C0 C1 : KT) : Prop :=
  aCall Try.prog W 35 [(s.tm 0)] h (fun t11 h12 =>
  pFld (some 3) (s.tm 5) fun t13 =>
  eStore (some 1) t13 t11 h12 W fun h14 =>
  C1 ⟨puts s.tm [(76, (s.tm 0)), (77, t11), (78, t13)], s.ds⟩ h14) (QP s.ds)
def F14.k3 (W : Nat → Prop) (Q : Post) (QP : PPost) (s : St) (h : AH) : Prop := F14.t3 W QP s h (F14.k1 W Q QP) (F14.k2 W Q QP)
theorem F14.k3_a (C0 C1 : KT) : aw Try.prog 155 W F14.pl (Code.at F14.code [1, 1, 1, 1, 0, 1, 0, 1, 0, 1, 0]) (thenQ (C1) (blockQ 0 (thenQ (C0) (Q)))) QP s h = F14.t3 W QP s h C0 C1 := by kernel_rfl
theorem F14.k3_ok : aw Try.prog 155 W F14.pl (Code.at F14.code [1, 1, 1, 1, 0, 1, 0, 1, 0, 1]) (blockQ 0 (thenQ (F14.k1 W Q QP) (Q))) QP s h = F14.k3 W Q QP s h := nd_seq (a := (Code.at F14.code [1, 1, 1, 1, 0, 1, 0, 1, 0, 1, 0])) (b := (Code.at F14.code [1, 1, 1, 1, 0, 1, 0, 1, 0, 1, 1])) (by kernel_rfl) (F14.k2_ok W Q QP) (F14.k3_a W Q QP s h (F14.k1 W Q QP) (F14.k2 W Q QP))
def F14.t4 (W : Nat → Prop) (QP : PPost) (s : St) (h : AH) (C0 C1 : KT) : Prop :=
  aCall Try.prog W 34 [(s.tm 0)] h (fun t15 h16 =>
  pFld (some 1) (s.tm 5) fun t17 =>
  eStore (some 1) t17 t15 h16 W fun h18 =>
  C1 ⟨puts s.tm [(73, (s.tm 0)), (74, t15), (75, t17)], s.ds⟩ h18) (QP s.ds)
def F14.k4 (W : Nat → Prop) (Q : Post) (QP : PPost) (s : St) (h : AH) : Prop := F14.t4 W QP s h (F14.k1 W Q QP) (F14.k3 W Q QP)
theorem F14.k4_a (C0 C1 : KT) : aw Try.prog 155 W F14.pl (Code.at F14.code [1, 1, 1, 1, 0, 1, 0, 1, 0, 0]) (thenQ (C1) (blockQ 0 (thenQ (C0) (Q)))) QP s h = F14.t4 W QP s h C0 C1 := by kernel_rfl
theorem F14.k4_ok : aw Try.prog 155 W F14.pl (Code.at F14.code [1, 1, 1, 1, 0, 1, 0, 1, 0]) (blockQ 0 (thenQ (F14.k1 W Q QP) (Q))) QP s h = F14.k4 W Q QP s h := nd_seq (a := (Code.at F14.code [1, 1, 1, 1, 0, 1, 0, 1, 0, 0])) (b := (Code.at F14.code [1, 1, 1, 1, 0, 1, 0, 1, 0, 1])) (by kernel_rfl) (F14.k3_ok W Q QP) (F14.k4_a W Q QP s h (F14.k1 W Q QP) (F14.k3 W Q QP))
def F14.t5 (W : Nat → Prop) (QP : PPost) (s : St) (h : AH) (C0 : KT) : Prop :=
  pBin Try.prog .add 3 true (s.tm 1) (.sc (.int .i64 1)) fun t19 =>
  aCall Try.prog W 38 [(s.tm 0), t19] h (fun t20 h21 =>
  pFld (some 4) (s.tm 5) fun t22 =>
  eStore (some 1) t22 t20 h21 W fun h23 =>
  C0 ⟨puts s.tm [(96, (s.tm 0)), (97, (s.tm 1)), (98, t19), (99, t20), (100, t22)], s.ds⟩ h23) (QP s.ds)
def F14.k5 (W : Nat → Prop) (Q : Post) (QP : PPost) (s : St) (h : AH) : Prop := F14.t5 W QP s h (F14.k1 W Q QP)
theorem F14.k5_a (C0 : KT) : aw Try.prog 155 W F14.pl (Code.at F14.code [1, 1, 1, 1, 0, 1, 0, 1, 1, 1, 0, 1, 1]) (blockQ 0 (thenQ (C0) (Q))) QP s h = F14.t5 W QP s h C0 := by kernel_rfl
theorem F14.k5_ok : aw Try.prog 155 W F14.pl (Code.at F14.code [1, 1, 1, 1, 0, 1, 0, 1, 1, 1, 0, 1, 1]) (blockQ 0 (thenQ (F14.k1 W Q QP) (Q))) QP s h = F14.k5 W Q QP s h := (F14.k5_a W Q QP s h (F14.k1 W Q QP))
def F14.t6 (W : Nat → Prop) (Q : Post) (QP : PPost) (s : St) (h : AH) : Prop :=
  ∃ Hd : Nat → Nat, (∀ i ∈ [1], h.obj (Hd i) ≠ none) ∧ (
  pFld (some 2) (s.tm 5) fun t24 =>
  lLd (some false) (some 1) t24 h fun t25 i26 =>
  (i26 = Hd 1) ∧ (
  aCall Try.prog (banL W Hd [1]) 34 [(s.tm 0)] h (fun t27 h28 =>
  pBld (some ([.string ⟨#[]⟩, .int .i64 0], .inl [(0, 1), (1, 1)])) [(0, t27), (1, (.sc (.int .i64 (-1))))] fun t29 =>
  eBSl (some (2, 53, [.string ⟨#[]⟩, .int .i64 0])) 1 [(0, t29)] h28 fun t30 h31 =>
  eApp (some (2, 24, 53)) t25 t30 h31 W fun t32 h33 =>
  pFld (some 2) (s.tm 5) fun t34 =>
  eStore (some 1) t34 t32 h33 W fun h35 =>
  Q .normal ⟨puts s.tm [(88, t24), (89, t25), (90, (s.tm 0)), (91, t27), (92, t29), (93, t30), (94, t32), (95, t34)], s.ds⟩ h35) (QP s.ds)))
def F14.k6 (W : Nat → Prop) (Q : Post) (QP : PPost) (s : St) (h : AH) : Prop := F14.t6 W Q QP s h
theorem F14.k6_a : aw Try.prog 155 W F14.pl (Code.at F14.code [1, 1, 1, 1, 0, 1, 0, 1, 1, 1, 0, 1, 0, 0, 0, 1, 0]) (blockQ 4 (Q)) QP s h = F14.t6 W Q QP s h := by kernel_rfl
theorem F14.k6_ok : aw Try.prog 155 W F14.pl (Code.at F14.code [1, 1, 1, 1, 0, 1, 0, 1, 1, 1, 0, 1, 0, 0, 0, 1, 0]) (blockQ 4 (Q)) QP s h = F14.k6 W Q QP s h := (F14.k6_a W Q QP s h)
theorem F14.o1 : aw Try.prog 155 W F14.pl (Code.at F14.code [1, 1, 1, 1, 0, 1, 0, 1, 1, 1, 0, 1, 0, 0, 0, 1]) (Q) QP s h = F14.k6 W Q QP s h := nd_block (a := (Code.at F14.code [1, 1, 1, 1, 0, 1, 0, 1, 1, 1, 0, 1, 0, 0, 0, 1, 0])) (by kernel_rfl) (F14.k6_ok W Q QP s h)
def F14.t7 (Q : Post) (s : St) (h : AH) (C0 : KT) : Prop :=
  aIf (s.tm 87) (
  C0 s h) (
  Q (.exit 3) s h)
def F14.k7 (W : Nat → Prop) (Q : Post) (QP : PPost) (s : St) (h : AH) : Prop := F14.t7 Q s h (F14.k6 W Q QP)
theorem F14.k7_a (C0 : KT) : aIf (aev s (.tmp 87)) (aw Try.prog 155 W F14.pl (Code.at F14.code [1, 1, 1, 1, 0, 1, 0, 1, 1, 1, 0, 1, 0, 0, 0, 0, 1, 0]) (thenQ (C0) (Q)) QP s h) (aw Try.prog 155 W F14.pl (Code.at F14.code [1, 1, 1, 1, 0, 1, 0, 1, 1, 1, 0, 1, 0, 0, 0, 0, 1, 1]) (thenQ (C0) (Q)) QP s h) = F14.t7 Q s h C0 := by kernel_rfl
theorem F14.k7_ok : aw Try.prog 155 W F14.pl (Code.at F14.code [1, 1, 1, 1, 0, 1, 0, 1, 1, 1, 0, 1, 0, 0, 0, 0, 1]) (thenQ (F14.k6 W Q QP) (Q)) QP s h = F14.k7 W Q QP s h := nd_cond (a := (Code.at F14.code [1, 1, 1, 1, 0, 1, 0, 1, 1, 1, 0, 1, 0, 0, 0, 0, 1, 0])) (b := (Code.at F14.code [1, 1, 1, 1, 0, 1, 0, 1, 1, 1, 0, 1, 0, 0, 0, 0, 1, 1])) (by kernel_rfl) rfl rfl (F14.k7_a W Q QP s h (F14.k6 W Q QP))
def F14.t8 (W : Nat → Prop) (QP : PPost) (s : St) (h : AH) (C0 C1 : KT) : Prop :=
  aCall Try.prog W 37 [(s.tm 0)] h (fun t36 h37 =>
  C1 ⟨puts s.tm [(86, (s.tm 0)), (87, t36)], s.ds⟩ h37) (QP s.ds)
def F14.k8 (W : Nat → Prop) (Q : Post) (QP : PPost) (s : St) (h : AH) : Prop := F14.t8 W QP s h (F14.k6 W Q QP) (F14.k7 W Q QP)
theorem F14.k8_a (C0 C1 : KT) : aw Try.prog 155 W F14.pl (Code.at F14.code [1, 1, 1, 1, 0, 1, 0, 1, 1, 1, 0, 1, 0, 0, 0, 0, 0]) (thenQ (C1) (thenQ (C0) (Q))) QP s h = F14.t8 W QP s h C0 C1 := by kernel_rfl
theorem F14.k8_ok : aw Try.prog 155 W F14.pl (Code.at F14.code [1, 1, 1, 1, 0, 1, 0, 1, 1, 1, 0, 1, 0, 0, 0, 0]) (thenQ (F14.k6 W Q QP) (Q)) QP s h = F14.k8 W Q QP s h := nd_seq (a := (Code.at F14.code [1, 1, 1, 1, 0, 1, 0, 1, 1, 1, 0, 1, 0, 0, 0, 0, 0])) (b := (Code.at F14.code [1, 1, 1, 1, 0, 1, 0, 1, 1, 1, 0, 1, 0, 0, 0, 0, 1])) (by kernel_rfl) (F14.k7_ok W Q QP) (F14.k8_a W Q QP s h (F14.k6 W Q QP) (F14.k7 W Q QP))
theorem F14.o2 : aw Try.prog 155 W F14.pl (Code.at F14.code [1, 1, 1, 1, 0, 1, 0, 1, 1, 1, 0, 1, 0, 0, 0]) (Q) QP s h = F14.k8 W Q QP s h := nd_seq (a := (Code.at F14.code [1, 1, 1, 1, 0, 1, 0, 1, 1, 1, 0, 1, 0, 0, 0, 0])) (b := (Code.at F14.code [1, 1, 1, 1, 0, 1, 0, 1, 1, 1, 0, 1, 0, 0, 0, 1])) (by kernel_rfl) (F14.o1 W Q QP) (F14.k8_ok W Q QP s h)
noncomputable def F14.c1 : Code := (Code.at F14.code [1, 1, 1, 1, 0, 1, 0, 1, 1, 1, 0, 1, 0, 0, 0])
theorem F14.l1 : aw Try.prog 155 W F14.pl F14.c1 Q QP s h = F14.k8 W Q QP s h := F14.o2 W Q QP s h
def F14.k9 (W : Nat → Prop) (Q : Post) (QP : PPost) (s : St) (h : AH) : Prop := aLoop (aw Try.prog 155 W F14.pl F14.c1) (blockQ 3 (thenQ (F14.k5 W Q QP) (blockQ 0 (thenQ (F14.k1 W Q QP) (Q))))) QP s h
theorem F14.k9_ok : aw Try.prog 155 W F14.pl (Code.at F14.code [1, 1, 1, 1, 0, 1, 0, 1, 1, 1, 0, 1, 0, 0]) (blockQ 3 (thenQ (F14.k5 W Q QP) (blockQ 0 (thenQ (F14.k1 W Q QP) (Q))))) QP s h = F14.k9 W Q QP s h := nd_loop (a := F14.c1) (by kernel_rfl)
theorem F14.o3 : aw Try.prog 155 W F14.pl (Code.at F14.code [1, 1, 1, 1, 0, 1, 0, 1, 1, 1, 0, 1, 0]) (thenQ (F14.k5 W Q QP) (blockQ 0 (thenQ (F14.k1 W Q QP) (Q)))) QP s h = F14.k9 W Q QP s h := nd_block (a := (Code.at F14.code [1, 1, 1, 1, 0, 1, 0, 1, 1, 1, 0, 1, 0, 0])) (by kernel_rfl) (F14.k9_ok W Q QP s h)
theorem F14.o4 : aw Try.prog 155 W F14.pl (Code.at F14.code [1, 1, 1, 1, 0, 1, 0, 1, 1, 1, 0, 1]) (blockQ 0 (thenQ (F14.k1 W Q QP) (Q))) QP s h = F14.k9 W Q QP s h := nd_seq (a := (Code.at F14.code [1, 1, 1, 1, 0, 1, 0, 1, 1, 1, 0, 1, 0])) (b := (Code.at F14.code [1, 1, 1, 1, 0, 1, 0, 1, 1, 1, 0, 1, 1])) (by kernel_rfl) (F14.k5_ok W Q QP) (F14.o3 W Q QP s h)
def F14.t10 (W : Nat → Prop) (QP : PPost) (s : St) (h : AH) (C0 C1 : KT) : Prop :=
  aCall Try.prog W 34 [(s.tm 0)] h (fun t38 h39 =>
  pFld (some 1) (s.tm 5) fun t40 =>
  eStore (some 1) t40 t38 h39 W fun h41 =>
  C1 ⟨puts s.tm [(83, (s.tm 0)), (84, t38), (85, t40)], s.ds⟩ h41) (QP s.ds)
def F14.k10 (W : Nat → Prop) (Q : Post) (QP : PPost) (s : St) (h : AH) : Prop := F14.t10 W QP s h (F14.k1 W Q QP) (F14.k9 W Q QP)
theorem F14.k10_a (C0 C1 : KT) : aw Try.prog 155 W F14.pl (Code.at F14.code [1, 1, 1, 1, 0, 1, 0, 1, 1, 1, 0, 0]) (thenQ (C1) (blockQ 0 (thenQ (C0) (Q)))) QP s h = F14.t10 W QP s h C0 C1 := by kernel_rfl
theorem F14.k10_ok : aw Try.prog 155 W F14.pl (Code.at F14.code [1, 1, 1, 1, 0, 1, 0, 1, 1, 1, 0]) (blockQ 0 (thenQ (F14.k1 W Q QP) (Q))) QP s h = F14.k10 W Q QP s h := nd_seq (a := (Code.at F14.code [1, 1, 1, 1, 0, 1, 0, 1, 1, 1, 0, 0])) (b := (Code.at F14.code [1, 1, 1, 1, 0, 1, 0, 1, 1, 1, 0, 1])) (by kernel_rfl) (F14.o4 W Q QP) (F14.k10_a W Q QP s h (F14.k1 W Q QP) (F14.k9 W Q QP))
def F14.t11 (W : Nat → Prop) (QP : PPost) (s : St) (h : AH) (C0 : KT) : Prop :=
  pBin Try.prog .add 3 true (s.tm 1) (.sc (.int .i64 1)) fun t42 =>
  aCall Try.prog W 38 [(s.tm 0), t42] h (fun t43 h44 =>
  pFld (some 4) (s.tm 5) fun t45 =>
  eStore (some 1) t45 t43 h44 W fun h46 =>
  C0 ⟨puts s.tm [(106, (s.tm 0)), (107, (s.tm 1)), (108, t42), (109, t43), (110, t45)], s.ds⟩ h46) (QP s.ds)
def F14.k11 (W : Nat → Prop) (Q : Post) (QP : PPost) (s : St) (h : AH) : Prop := F14.t11 W QP s h (F14.k1 W Q QP)
theorem F14.k11_a (C0 : KT) : aw Try.prog 155 W F14.pl (Code.at F14.code [1, 1, 1, 1, 0, 1, 0, 1, 1, 1, 1, 1, 0, 1]) (blockQ 0 (thenQ (C0) (Q))) QP s h = F14.t11 W QP s h C0 := by kernel_rfl
theorem F14.k11_ok : aw Try.prog 155 W F14.pl (Code.at F14.code [1, 1, 1, 1, 0, 1, 0, 1, 1, 1, 1, 1, 0, 1]) (blockQ 0 (thenQ (F14.k1 W Q QP) (Q))) QP s h = F14.k11 W Q QP s h := (F14.k11_a W Q QP s h (F14.k1 W Q QP))
def F14.t12 (W : Nat → Prop) (QP : PPost) (s : St) (h : AH) (C0 C1 : KT) : Prop :=
  aCall Try.prog W 35 [(s.tm 0)] h (fun t47 h48 =>
  pFld (some 3) (s.tm 5) fun t49 =>
  eStore (some 1) t49 t47 h48 W fun h50 =>
  C1 ⟨puts s.tm [(103, (s.tm 0)), (104, t47), (105, t49)], s.ds⟩ h50) (QP s.ds)
def F14.k12 (W : Nat → Prop) (Q : Post) (QP : PPost) (s : St) (h : AH) : Prop := F14.t12 W QP s h (F14.k1 W Q QP) (F14.k11 W Q QP)
theorem F14.k12_a (C0 C1 : KT) : aw Try.prog 155 W F14.pl (Code.at F14.code [1, 1, 1, 1, 0, 1, 0, 1, 1, 1, 1, 1, 0, 0]) (thenQ (C1) (blockQ 0 (thenQ (C0) (Q)))) QP s h = F14.t12 W QP s h C0 C1 := by kernel_rfl
theorem F14.k12_ok : aw Try.prog 155 W F14.pl (Code.at F14.code [1, 1, 1, 1, 0, 1, 0, 1, 1, 1, 1, 1, 0]) (blockQ 0 (thenQ (F14.k1 W Q QP) (Q))) QP s h = F14.k12 W Q QP s h := nd_seq (a := (Code.at F14.code [1, 1, 1, 1, 0, 1, 0, 1, 1, 1, 1, 1, 0, 0])) (b := (Code.at F14.code [1, 1, 1, 1, 0, 1, 0, 1, 1, 1, 1, 1, 0, 1])) (by kernel_rfl) (F14.k11_ok W Q QP) (F14.k12_a W Q QP s h (F14.k1 W Q QP) (F14.k11 W Q QP))
def F14.t13 (W : Nat → Prop) (QP : PPost) (s : St) (h : AH) (C0 : KT) : Prop :=
  pBin Try.prog .add 3 true (s.tm 1) (.sc (.int .i64 1)) fun t51 =>
  aCall Try.prog W 38 [(s.tm 0), t51] h (fun t52 h53 =>
  pFld (some 4) (s.tm 5) fun t54 =>
  eStore (some 1) t54 t52 h53 W fun h55 =>
  C0 ⟨puts s.tm [(119, (s.tm 0)), (120, (s.tm 1)), (121, t51), (122, t52), (123, t54)], s.ds⟩ h55) (QP s.ds)
def F14.k13 (W : Nat → Prop) (Q : Post) (QP : PPost) (s : St) (h : AH) : Prop := F14.t13 W QP s h (F14.k1 W Q QP)
theorem F14.k13_a (C0 : KT) : aw Try.prog 155 W F14.pl (Code.at F14.code [1, 1, 1, 1, 0, 1, 0, 1, 1, 1, 1, 1, 1, 1, 0, 1, 1]) (blockQ 0 (thenQ (C0) (Q))) QP s h = F14.t13 W QP s h C0 := by kernel_rfl
theorem F14.k13_ok : aw Try.prog 155 W F14.pl (Code.at F14.code [1, 1, 1, 1, 0, 1, 0, 1, 1, 1, 1, 1, 1, 1, 0, 1, 1]) (blockQ 0 (thenQ (F14.k1 W Q QP) (Q))) QP s h = F14.k13 W Q QP s h := (F14.k13_a W Q QP s h (F14.k1 W Q QP))
def F14.t14 (W : Nat → Prop) (QP : PPost) (s : St) (h : AH) (C0 C1 : KT) : Prop :=
  aCall Try.prog W 35 [(s.tm 0)] h (fun t56 h57 =>
  pFld (some 3) (s.tm 5) fun t58 =>
  eStore (some 1) t58 t56 h57 W fun h59 =>
  C1 ⟨puts s.tm [(116, (s.tm 0)), (117, t56), (118, t58)], s.ds⟩ h59) (QP s.ds)
def F14.k14 (W : Nat → Prop) (Q : Post) (QP : PPost) (s : St) (h : AH) : Prop := F14.t14 W QP s h (F14.k1 W Q QP) (F14.k13 W Q QP)
theorem F14.k14_a (C0 C1 : KT) : aw Try.prog 155 W F14.pl (Code.at F14.code [1, 1, 1, 1, 0, 1, 0, 1, 1, 1, 1, 1, 1, 1, 0, 1, 0]) (thenQ (C1) (blockQ 0 (thenQ (C0) (Q)))) QP s h = F14.t14 W QP s h C0 C1 := by kernel_rfl
theorem F14.k14_ok : aw Try.prog 155 W F14.pl (Code.at F14.code [1, 1, 1, 1, 0, 1, 0, 1, 1, 1, 1, 1, 1, 1, 0, 1]) (blockQ 0 (thenQ (F14.k1 W Q QP) (Q))) QP s h = F14.k14 W Q QP s h := nd_seq (a := (Code.at F14.code [1, 1, 1, 1, 0, 1, 0, 1, 1, 1, 1, 1, 1, 1, 0, 1, 0])) (b := (Code.at F14.code [1, 1, 1, 1, 0, 1, 0, 1, 1, 1, 1, 1, 1, 1, 0, 1, 1])) (by kernel_rfl) (F14.k13_ok W Q QP) (F14.k14_a W Q QP s h (F14.k1 W Q QP) (F14.k13 W Q QP))
def F14.t15 (W : Nat → Prop) (QP : PPost) (s : St) (h : AH) (C0 C1 : KT) : Prop :=
  aCall Try.prog W 34 [(s.tm 0)] h (fun t60 h61 =>
  pFld (some 1) (s.tm 5) fun t62 =>
  eStore (some 1) t62 t60 h61 W fun h63 =>
  C1 ⟨puts s.tm [(113, (s.tm 0)), (114, t60), (115, t62)], s.ds⟩ h63) (QP s.ds)
def F14.k15 (W : Nat → Prop) (Q : Post) (QP : PPost) (s : St) (h : AH) : Prop := F14.t15 W QP s h (F14.k1 W Q QP) (F14.k14 W Q QP)
theorem F14.k15_a (C0 C1 : KT) : aw Try.prog 155 W F14.pl (Code.at F14.code [1, 1, 1, 1, 0, 1, 0, 1, 1, 1, 1, 1, 1, 1, 0, 0]) (thenQ (C1) (blockQ 0 (thenQ (C0) (Q)))) QP s h = F14.t15 W QP s h C0 C1 := by kernel_rfl
theorem F14.k15_ok : aw Try.prog 155 W F14.pl (Code.at F14.code [1, 1, 1, 1, 0, 1, 0, 1, 1, 1, 1, 1, 1, 1, 0]) (blockQ 0 (thenQ (F14.k1 W Q QP) (Q))) QP s h = F14.k15 W Q QP s h := nd_seq (a := (Code.at F14.code [1, 1, 1, 1, 0, 1, 0, 1, 1, 1, 1, 1, 1, 1, 0, 0])) (b := (Code.at F14.code [1, 1, 1, 1, 0, 1, 0, 1, 1, 1, 1, 1, 1, 1, 0, 1])) (by kernel_rfl) (F14.k14_ok W Q QP) (F14.k15_a W Q QP s h (F14.k1 W Q QP) (F14.k14 W Q QP))
def F14.t16 (W : Nat → Prop) (QP : PPost) (s : St) (h : AH) (C0 : KT) : Prop :=
  aCall Try.prog W 36 [(s.tm 0), (.sc (.string ⟨#[59]⟩))] h (fun t64 h65 =>
  C0 ⟨puts s.tm [(135, (s.tm 0)), (136, t64)], s.ds⟩ h65) (QP s.ds)
def F14.k16 (W : Nat → Prop) (Q : Post) (QP : PPost) (s : St) (h : AH) : Prop := F14.t16 W QP s h (F14.k1 W Q QP)
theorem F14.k16_a (C0 : KT) : aw Try.prog 155 W F14.pl (Code.at F14.code [1, 1, 1, 1, 0, 1, 0, 1, 1, 1, 1, 1, 1, 1, 1, 1, 0, 1]) (blockQ 0 (thenQ (C0) (Q))) QP s h = F14.t16 W QP s h C0 := by kernel_rfl
theorem F14.k16_ok : aw Try.prog 155 W F14.pl (Code.at F14.code [1, 1, 1, 1, 0, 1, 0, 1, 1, 1, 1, 1, 1, 1, 1, 1, 0, 1]) (blockQ 0 (thenQ (F14.k1 W Q QP) (Q))) QP s h = F14.k16 W Q QP s h := (F14.k16_a W Q QP s h (F14.k1 W Q QP))
def F14.t17 (W : Nat → Prop) (QP : PPost) (s : St) (h : AH) (C0 C1 : KT) : Prop :=
  ∃ Hd : Nat → Nat, (∀ i ∈ [1], h.obj (Hd i) ≠ none) ∧ (
  pFld (some 2) (s.tm 5) fun t66 =>
  lLd (some false) (some 1) t66 h fun t67 i68 =>
  (i68 = Hd 1) ∧ (
  aCall Try.prog (banL W Hd [1]) 39 [(s.tm 0)] h (fun t69 h70 =>
  aCall Try.prog (banL W Hd [1]) 39 [(s.tm 0)] h70 (fun t71 h72 =>
  eBSl (some (2, 53, [.string ⟨#[]⟩, .int .i64 0, .string ⟨#[]⟩, .int .i64 0])) 2 [(0, t69), (1, t71)] h72 fun t73 h74 =>
  eApp (some (2, 24, 53)) t67 t73 h74 W fun t75 h76 =>
  pFld (some 2) (s.tm 5) fun t77 =>
  eStore (some 1) t77 t75 h76 W fun h78 =>
  C1 ⟨puts s.tm [(126, t66), (127, t67), (128, (s.tm 0)), (130, (s.tm 0)), (129, t69), (131, t71), (132, t73), (133, t75), (134, t77)], s.ds⟩ h78) (QP s.ds)) (QP s.ds)))
def F14.k17 (W : Nat → Prop) (Q : Post) (QP : PPost) (s : St) (h : AH) : Prop := F14.t17 W QP s h (F14.k1 W Q QP) (F14.k16 W Q QP)
theorem F14.k17_a (C0 C1 : KT) : aw Try.prog 155 W F14.pl (Code.at F14.code [1, 1, 1, 1, 0, 1, 0, 1, 1, 1, 1, 1, 1, 1, 1, 1, 0, 0]) (thenQ (C1) (blockQ 0 (thenQ (C0) (Q)))) QP s h = F14.t17 W QP s h C0 C1 := by kernel_rfl
theorem F14.k17_ok : aw Try.prog 155 W F14.pl (Code.at F14.code [1, 1, 1, 1, 0, 1, 0, 1, 1, 1, 1, 1, 1, 1, 1, 1, 0, 0]) (thenQ (F14.k16 W Q QP) (blockQ 0 (thenQ (F14.k1 W Q QP) (Q)))) QP s h = F14.k17 W Q QP s h := (F14.k17_a W Q QP s h (F14.k1 W Q QP) (F14.k16 W Q QP))
theorem F14.o5 : aw Try.prog 155 W F14.pl (Code.at F14.code [1, 1, 1, 1, 0, 1, 0, 1, 1, 1, 1, 1, 1, 1, 1, 1, 0]) (blockQ 0 (thenQ (F14.k1 W Q QP) (Q))) QP s h = F14.k17 W Q QP s h := nd_seq (a := (Code.at F14.code [1, 1, 1, 1, 0, 1, 0, 1, 1, 1, 1, 1, 1, 1, 1, 1, 0, 0])) (b := (Code.at F14.code [1, 1, 1, 1, 0, 1, 0, 1, 1, 1, 1, 1, 1, 1, 1, 1, 0, 1])) (by kernel_rfl) (F14.k16_ok W Q QP) (F14.k17_ok W Q QP s h)
def F14.t18 (W : Nat → Prop) (QP : PPost) (s : St) (h : AH) (C0 : KT) : Prop :=
  aCall Try.prog W 36 [(s.tm 0), (.sc (.string ⟨#[59]⟩))] h (fun t79 h80 =>
  C0 ⟨puts s.tm [(146, (s.tm 0)), (147, t79)], s.ds⟩ h80) (QP s.ds)
def F14.k18 (W : Nat → Prop) (Q : Post) (QP : PPost) (s : St) (h : AH) : Prop := F14.t18 W QP s h (F14.k1 W Q QP)
theorem F14.k18_a (C0 : KT) : aw Try.prog 155 W F14.pl (Code.at F14.code [1, 1, 1, 1, 0, 1, 0, 1, 1, 1, 1, 1, 1, 1, 1, 1, 1, 1, 0, 1]) (blockQ 0 (thenQ (C0) (Q))) QP s h = F14.t18 W QP s h C0 := by kernel_rfl
theorem F14.k18_ok : aw Try.prog 155 W F14.pl (Code.at F14.code [1, 1, 1, 1, 0, 1, 0, 1, 1, 1, 1, 1, 1, 1, 1, 1, 1, 1, 0, 1]) (blockQ 0 (thenQ (F14.k1 W Q QP) (Q))) QP s h = F14.k18 W Q QP s h := (F14.k18_a W Q QP s h (F14.k1 W Q QP))
def F14.t19 (W : Nat → Prop) (QP : PPost) (s : St) (h : AH) (C0 C1 : KT) : Prop :=
  ∃ Hd : Nat → Nat, (∀ i ∈ [1], h.obj (Hd i) ≠ none) ∧ (
  pFld (some 2) (s.tm 5) fun t81 =>
  lLd (some false) (some 1) t81 h fun t82 i83 =>
  (i83 = Hd 1) ∧ (
  aCall Try.prog (banL W Hd [1]) 39 [(s.tm 0)] h (fun t84 h85 =>
  eBSl (some (2, 53, [.string ⟨#[]⟩, .int .i64 0])) 1 [(0, t84)] h85 fun t86 h87 =>
  eApp (some (2, 24, 53)) t82 t86 h87 W fun t88 h89 =>
  pFld (some 2) (s.tm 5) fun t90 =>
  eStore (some 1) t90 t88 h89 W fun h91 =>
  C1 ⟨puts s.tm [(139, t81), (140, t82), (141, (s.tm 0)), (142, t84), (143, t86), (144, t88), (145, t90)], s.ds⟩ h91) (QP s.ds)))
def F14.k19 (W : Nat → Prop) (Q : Post) (QP : PPost) (s : St) (h : AH) : Prop := F14.t19 W QP s h (F14.k1 W Q QP) (F14.k18 W Q QP)
theorem F14.k19_a (C0 C1 : KT) : aw Try.prog 155 W F14.pl (Code.at F14.code [1, 1, 1, 1, 0, 1, 0, 1, 1, 1, 1, 1, 1, 1, 1, 1, 1, 1, 0, 0]) (thenQ (C1) (blockQ 0 (thenQ (C0) (Q)))) QP s h = F14.t19 W QP s h C0 C1 := by kernel_rfl
theorem F14.k19_ok : aw Try.prog 155 W F14.pl (Code.at F14.code [1, 1, 1, 1, 0, 1, 0, 1, 1, 1, 1, 1, 1, 1, 1, 1, 1, 1, 0, 0]) (thenQ (F14.k18 W Q QP) (blockQ 0 (thenQ (F14.k1 W Q QP) (Q)))) QP s h = F14.k19 W Q QP s h := (F14.k19_a W Q QP s h (F14.k1 W Q QP) (F14.k18 W Q QP))
theorem F14.o6 : aw Try.prog 155 W F14.pl (Code.at F14.code [1, 1, 1, 1, 0, 1, 0, 1, 1, 1, 1, 1, 1, 1, 1, 1, 1, 1, 0]) (blockQ 0 (thenQ (F14.k1 W Q QP) (Q))) QP s h = F14.k19 W Q QP s h := nd_seq (a := (Code.at F14.code [1, 1, 1, 1, 0, 1, 0, 1, 1, 1, 1, 1, 1, 1, 1, 1, 1, 1, 0, 0])) (b := (Code.at F14.code [1, 1, 1, 1, 0, 1, 0, 1, 1, 1, 1, 1, 1, 1, 1, 1, 1, 1, 0, 1])) (by kernel_rfl) (F14.k18_ok W Q QP) (F14.k19_ok W Q QP s h)
def F14.t20 (W : Nat → Prop) (QP : PPost) (s : St) (h : AH) (C0 : KT) : Prop :=
  aCall Try.prog W 36 [(s.tm 0), (.sc (.string ⟨#[59]⟩))] h (fun t92 h93 =>
  C0 ⟨puts s.tm [(68, (s.tm 0)), (69, t92)], s.ds⟩ h93) (QP s.ds)
def F14.k20 (W : Nat → Prop) (Q : Post) (QP : PPost) (s : St) (h : AH) : Prop := F14.t20 W QP s h (F14.k1 W Q QP)
theorem F14.k20_a (C0 : KT) : aw Try.prog 155 W F14.pl (Code.at F14.code [1, 1, 1, 1, 0, 1, 0, 1, 1, 1, 1, 1, 1, 1, 1, 1, 1, 1, 1, 1, 1]) (blockQ 0 (thenQ (C0) (Q))) QP s h = F14.t20 W QP s h C0 := by kernel_rfl
theorem F14.k20_ok : aw Try.prog 155 W F14.pl (Code.at F14.code [1, 1, 1, 1, 0, 1, 0, 1, 1, 1, 1, 1, 1, 1, 1, 1, 1, 1, 1, 1, 1]) (blockQ 0 (thenQ (F14.k1 W Q QP) (Q))) QP s h = F14.k20 W Q QP s h := (F14.k20_a W Q QP s h (F14.k1 W Q QP))
def F14.t21 (W : Nat → Prop) (Q : Post) (QP : PPost) (s : St) (h : AH) : Prop :=
  ∃ Hd : Nat → Nat, (∀ i ∈ [1], h.obj (Hd i) ≠ none) ∧ (
  pFld (some 2) (s.tm 5) fun t94 =>
  lLd (some false) (some 1) t94 h fun t95 i96 =>
  (i96 = Hd 1) ∧ (
  aCall Try.prog (banL W Hd [1]) 39 [(s.tm 0)] h (fun t97 h98 =>
  eBSl (some (2, 53, [.string ⟨#[]⟩, .int .i64 0])) 1 [(0, t97)] h98 fun t99 h100 =>
  eApp (some (2, 24, 53)) t95 t99 h100 W fun t101 h102 =>
  pFld (some 2) (s.tm 5) fun t103 =>
  eStore (some 1) t103 t101 h102 W fun h104 =>
  Q .normal ⟨puts s.tm [(61, t94), (62, t95), (63, (s.tm 0)), (64, t97), (65, t99), (66, t101), (67, t103)], s.ds⟩ h104) (QP s.ds)))
def F14.k21 (W : Nat → Prop) (Q : Post) (QP : PPost) (s : St) (h : AH) : Prop := F14.t21 W Q QP s h
theorem F14.k21_a : aw Try.prog 155 W F14.pl (Code.at F14.code [1, 1, 1, 1, 0, 1, 0, 1, 1, 1, 1, 1, 1, 1, 1, 1, 1, 1, 1, 1, 0, 0, 0, 1, 0]) (blockQ 2 (Q)) QP s h = F14.t21 W Q QP s h := by kernel_rfl
theorem F14.k21_ok : aw Try.prog 155 W F14.pl (Code.at F14.code [1, 1, 1, 1, 0, 1, 0, 1, 1, 1, 1, 1, 1, 1, 1, 1, 1, 1, 1, 1, 0, 0, 0, 1, 0]) (blockQ 2 (Q)) QP s h = F14.k21 W Q QP s h := (F14.k21_a W Q QP s h)
theorem F14.o7 : aw Try.prog 155 W F14.pl (Code.at F14.code [1, 1, 1, 1, 0, 1, 0, 1, 1, 1, 1, 1, 1, 1, 1, 1, 1, 1, 1, 1, 0, 0, 0, 1]) (Q) QP s h = F14.k21 W Q QP s h := nd_block (a := (Code.at F14.code [1, 1, 1, 1, 0, 1, 0, 1, 1, 1, 1, 1, 1, 1, 1, 1, 1, 1, 1, 1, 0, 0, 0, 1, 0])) (by kernel_rfl) (F14.k21_ok W Q QP s h)
def F14.t22 (Q : Post) (s : St) (h : AH) (C0 : KT) : Prop :=
  aIf (s.tm 60) (
  C0 s h) (
  Q (.exit 1) s h)
def F14.k22 (W : Nat → Prop) (Q : Post) (QP : PPost) (s : St) (h : AH) : Prop := F14.t22 Q s h (F14.k21 W Q QP)
theorem F14.k22_a (C0 : KT) : aIf (aev s (.tmp 60)) (aw Try.prog 155 W F14.pl (Code.at F14.code [1, 1, 1, 1, 0, 1, 0, 1, 1, 1, 1, 1, 1, 1, 1, 1, 1, 1, 1, 1, 0, 0, 0, 0, 1, 0]) (thenQ (C0) (Q)) QP s h) (aw Try.prog 155 W F14.pl (Code.at F14.code [1, 1, 1, 1, 0, 1, 0, 1, 1, 1, 1, 1, 1, 1, 1, 1, 1, 1, 1, 1, 0, 0, 0, 0, 1, 1]) (thenQ (C0) (Q)) QP s h) = F14.t22 Q s h C0 := by kernel_rfl
theorem F14.k22_ok : aw Try.prog 155 W F14.pl (Code.at F14.code [1, 1, 1, 1, 0, 1, 0, 1, 1, 1, 1, 1, 1, 1, 1, 1, 1, 1, 1, 1, 0, 0, 0, 0, 1]) (thenQ (F14.k21 W Q QP) (Q)) QP s h = F14.k22 W Q QP s h := nd_cond (a := (Code.at F14.code [1, 1, 1, 1, 0, 1, 0, 1, 1, 1, 1, 1, 1, 1, 1, 1, 1, 1, 1, 1, 0, 0, 0, 0, 1, 0])) (b := (Code.at F14.code [1, 1, 1, 1, 0, 1, 0, 1, 1, 1, 1, 1, 1, 1, 1, 1, 1, 1, 1, 1, 0, 0, 0, 0, 1, 1])) (by kernel_rfl) rfl rfl (F14.k22_a W Q QP s h (F14.k21 W Q QP))
def F14.t23 (W : Nat → Prop) (QP : PPost) (s : St) (h : AH) (C0 C1 : KT) : Prop :=
  aCall Try.prog W 37 [(s.tm 0)] h (fun t105 h106 =>
  C1 ⟨puts s.tm [(59, (s.tm 0)), (60, t105)], s.ds⟩ h106) (QP s.ds)
def F14.k23 (W : Nat → Prop) (Q : Post) (QP : PPost) (s : St) (h : AH) : Prop := F14.t23 W QP s h (F14.k21 W Q QP) (F14.k22 W Q QP)
theorem F14.k23_a (C0 C1 : KT) : aw Try.prog 155 W F14.pl (Code.at F14.code [1, 1, 1, 1, 0, 1, 0, 1, 1, 1, 1, 1, 1, 1, 1, 1, 1, 1, 1, 1, 0, 0, 0, 0, 0]) (thenQ (C1) (thenQ (C0) (Q))) QP s h = F14.t23 W QP s h C0 C1 := by kernel_rfl
theorem F14.k23_ok : aw Try.prog 155 W F14.pl (Code.at F14.code [1, 1, 1, 1, 0, 1, 0, 1, 1, 1, 1, 1, 1, 1, 1, 1, 1, 1, 1, 1, 0, 0, 0, 0]) (thenQ (F14.k21 W Q QP) (Q)) QP s h = F14.k23 W Q QP s h := nd_seq (a := (Code.at F14.code [1, 1, 1, 1, 0, 1, 0, 1, 1, 1, 1, 1, 1, 1, 1, 1, 1, 1, 1, 1, 0, 0, 0, 0, 0])) (b := (Code.at F14.code [1, 1, 1, 1, 0, 1, 0, 1, 1, 1, 1, 1, 1, 1, 1, 1, 1, 1, 1, 1, 0, 0, 0, 0, 1])) (by kernel_rfl) (F14.k22_ok W Q QP) (F14.k23_a W Q QP s h (F14.k21 W Q QP) (F14.k22 W Q QP))
theorem F14.o8 : aw Try.prog 155 W F14.pl (Code.at F14.code [1, 1, 1, 1, 0, 1, 0, 1, 1, 1, 1, 1, 1, 1, 1, 1, 1, 1, 1, 1, 0, 0, 0]) (Q) QP s h = F14.k23 W Q QP s h := nd_seq (a := (Code.at F14.code [1, 1, 1, 1, 0, 1, 0, 1, 1, 1, 1, 1, 1, 1, 1, 1, 1, 1, 1, 1, 0, 0, 0, 0])) (b := (Code.at F14.code [1, 1, 1, 1, 0, 1, 0, 1, 1, 1, 1, 1, 1, 1, 1, 1, 1, 1, 1, 1, 0, 0, 0, 1])) (by kernel_rfl) (F14.o7 W Q QP) (F14.k23_ok W Q QP s h)
noncomputable def F14.c2 : Code := (Code.at F14.code [1, 1, 1, 1, 0, 1, 0, 1, 1, 1, 1, 1, 1, 1, 1, 1, 1, 1, 1, 1, 0, 0, 0])
theorem F14.l2 : aw Try.prog 155 W F14.pl F14.c2 Q QP s h = F14.k23 W Q QP s h := F14.o8 W Q QP s h
def F14.k24 (W : Nat → Prop) (Q : Post) (QP : PPost) (s : St) (h : AH) : Prop := aLoop (aw Try.prog 155 W F14.pl F14.c2) (blockQ 1 (thenQ (F14.k20 W Q QP) (blockQ 0 (thenQ (F14.k1 W Q QP) (Q))))) QP s h
theorem F14.k24_ok : aw Try.prog 155 W F14.pl (Code.at F14.code [1, 1, 1, 1, 0, 1, 0, 1, 1, 1, 1, 1, 1, 1, 1, 1, 1, 1, 1, 1, 0, 0]) (blockQ 1 (thenQ (F14.k20 W Q QP) (blockQ 0 (thenQ (F14.k1 W Q QP) (Q))))) QP s h = F14.k24 W Q QP s h := nd_loop (a := F14.c2) (by kernel_rfl)
theorem F14.o9 : aw Try.prog 155 W F14.pl (Code.at F14.code [1, 1, 1, 1, 0, 1, 0, 1, 1, 1, 1, 1, 1, 1, 1, 1, 1, 1, 1, 1, 0]) (thenQ (F14.k20 W Q QP) (blockQ 0 (thenQ (F14.k1 W Q QP) (Q)))) QP s h = F14.k24 W Q QP s h := nd_block (a := (Code.at F14.code [1, 1, 1, 1, 0, 1, 0, 1, 1, 1, 1, 1, 1, 1, 1, 1, 1, 1, 1, 1, 0, 0])) (by kernel_rfl) (F14.k24_ok W Q QP s h)
theorem F14.o10 : aw Try.prog 155 W F14.pl (Code.at F14.code [1, 1, 1, 1, 0, 1, 0, 1, 1, 1, 1, 1, 1, 1, 1, 1, 1, 1, 1, 1]) (blockQ 0 (thenQ (F14.k1 W Q QP) (Q))) QP s h = F14.k24 W Q QP s h := nd_seq (a := (Code.at F14.code [1, 1, 1, 1, 0, 1, 0, 1, 1, 1, 1, 1, 1, 1, 1, 1, 1, 1, 1, 1, 0])) (b := (Code.at F14.code [1, 1, 1, 1, 0, 1, 0, 1, 1, 1, 1, 1, 1, 1, 1, 1, 1, 1, 1, 1, 1])) (by kernel_rfl) (F14.k20_ok W Q QP) (F14.o9 W Q QP s h)
def F14.t25 (W : Nat → Prop) (s : St) (h : AH) (C0 C1 : KT) : Prop :=
  ∃ Hd : Nat → Nat, (∀ i ∈ [1], h.obj (Hd i) ≠ none) ∧ (
  pFld (some 1) (s.tm 4) fun t107 =>
  lLd (some false) (some 1) t107 h fun t108 i109 =>
  (i109 = Hd 1) ∧ (
  pFld (some 0) (s.tm 5) fun t110 =>
  eStore (some 1) t110 (.sc (.string ⟨#[117, 115, 101]⟩)) h (banL W Hd [1]) fun h111 =>
  pFld (some 1) (s.tm 5) fun t112 =>
  eStore (some 1) t112 t108 h111 W fun h113 =>
  C1 ⟨puts s.tm [(55, t107), (56, t108), (57, t110), (58, t112)], s.ds⟩ h113))
def F14.k25 (W : Nat → Prop) (Q : Post) (QP : PPost) (s : St) (h : AH) : Prop := F14.t25 W s h (F14.k1 W Q QP) (F14.k24 W Q QP)
theorem F14.k25_a (C0 C1 : KT) : aw Try.prog 155 W F14.pl (Code.at F14.code [1, 1, 1, 1, 0, 1, 0, 1, 1, 1, 1, 1, 1, 1, 1, 1, 1, 1, 1, 0]) (thenQ (C1) (blockQ 0 (thenQ (C0) (Q)))) QP s h = F14.t25 W s h C0 C1 := by kernel_rfl
theorem F14.k25_ok : aw Try.prog 155 W F14.pl (Code.at F14.code [1, 1, 1, 1, 0, 1, 0, 1, 1, 1, 1, 1, 1, 1, 1, 1, 1, 1, 1, 0]) (thenQ (F14.k24 W Q QP) (blockQ 0 (thenQ (F14.k1 W Q QP) (Q)))) QP s h = F14.k25 W Q QP s h := (F14.k25_a W Q QP s h (F14.k1 W Q QP) (F14.k24 W Q QP))
theorem F14.o11 : aw Try.prog 155 W F14.pl (Code.at F14.code [1, 1, 1, 1, 0, 1, 0, 1, 1, 1, 1, 1, 1, 1, 1, 1, 1, 1, 1]) (blockQ 0 (thenQ (F14.k1 W Q QP) (Q))) QP s h = F14.k25 W Q QP s h := nd_seq (a := (Code.at F14.code [1, 1, 1, 1, 0, 1, 0, 1, 1, 1, 1, 1, 1, 1, 1, 1, 1, 1, 1, 0])) (b := (Code.at F14.code [1, 1, 1, 1, 0, 1, 0, 1, 1, 1, 1, 1, 1, 1, 1, 1, 1, 1, 1, 1])) (by kernel_rfl) (F14.o10 W Q QP) (F14.k25_ok W Q QP s h)
def F14.t26 (s : St) (h : AH) (C0 C1 : KT) : Prop :=
  aIf (s.tm 137) (
  C0 s h) (
  C1 s h)
def F14.k26 (W : Nat → Prop) (Q : Post) (QP : PPost) (s : St) (h : AH) : Prop := F14.t26 s h (F14.k19 W Q QP) (F14.k25 W Q QP)
theorem F14.k26_a (C0 C1 : KT) : aIf (aev s (.tmp 137)) (C0 s h) (C1 s h) = F14.t26 s h C0 C1 := by kernel_rfl
theorem F14.k26_ok : aw Try.prog 155 W F14.pl (Code.at F14.code [1, 1, 1, 1, 0, 1, 0, 1, 1, 1, 1, 1, 1, 1, 1, 1, 1, 1]) (blockQ 0 (thenQ (F14.k1 W Q QP) (Q))) QP s h = F14.k26 W Q QP s h := nd_cond (a := (Code.at F14.code [1, 1, 1, 1, 0, 1, 0, 1, 1, 1, 1, 1, 1, 1, 1, 1, 1, 1, 0])) (b := (Code.at F14.code [1, 1, 1, 1, 0, 1, 0, 1, 1, 1, 1, 1, 1, 1, 1, 1, 1, 1, 1])) (by kernel_rfl) (F14.o6 W Q QP s h) (F14.o11 W Q QP s h) (F14.k26_a s h (F14.k19 W Q QP) (F14.k25 W Q QP))
def F14.t27 (s : St) (h : AH) (C0 C1 : KT) : Prop :=
  pBin Try.prog .eql 9 true (s.tm 54) (.sc (.string ⟨#[114, 101, 115, 101, 116]⟩)) fun t114 =>
  C1 ⟨puts s.tm [(138, t114), (137, t114)], s.ds⟩ h
def F14.k27 (W : Nat → Prop) (Q : Post) (QP : PPost) (s : St) (h : AH) : Prop := F14.t27 s h (F14.k1 W Q QP) (F14.k26 W Q QP)
theorem F14.k27_a (C0 C1 : KT) : aw Try.prog 155 W F14.pl (Code.at F14.code [1, 1, 1, 1, 0, 1, 0, 1, 1, 1, 1, 1, 1, 1, 1, 1, 1, 0]) (thenQ (C1) (blockQ 0 (thenQ (C0) (Q)))) QP s h = F14.t27 s h C0 C1 := by kernel_rfl
theorem F14.k27_ok : aw Try.prog 155 W F14.pl (Code.at F14.code [1, 1, 1, 1, 0, 1, 0, 1, 1, 1, 1, 1, 1, 1, 1, 1, 1]) (blockQ 0 (thenQ (F14.k1 W Q QP) (Q))) QP s h = F14.k27 W Q QP s h := nd_seq (a := (Code.at F14.code [1, 1, 1, 1, 0, 1, 0, 1, 1, 1, 1, 1, 1, 1, 1, 1, 1, 0])) (b := (Code.at F14.code [1, 1, 1, 1, 0, 1, 0, 1, 1, 1, 1, 1, 1, 1, 1, 1, 1, 1])) (by kernel_rfl) (F14.k26_ok W Q QP) (F14.k27_a W Q QP s h (F14.k1 W Q QP) (F14.k26 W Q QP))
def F14.t28 (s : St) (h : AH) (C0 C1 : KT) : Prop :=
  aIf (s.tm 124) (
  C0 s h) (
  C1 s h)
def F14.k28 (W : Nat → Prop) (Q : Post) (QP : PPost) (s : St) (h : AH) : Prop := F14.t28 s h (F14.k17 W Q QP) (F14.k27 W Q QP)
theorem F14.k28_a (C0 C1 : KT) : aIf (aev s (.tmp 124)) (C0 s h) (C1 s h) = F14.t28 s h C0 C1 := by kernel_rfl
theorem F14.k28_ok : aw Try.prog 155 W F14.pl (Code.at F14.code [1, 1, 1, 1, 0, 1, 0, 1, 1, 1, 1, 1, 1, 1, 1, 1]) (blockQ 0 (thenQ (F14.k1 W Q QP) (Q))) QP s h = F14.k28 W Q QP s h := nd_cond (a := (Code.at F14.code [1, 1, 1, 1, 0, 1, 0, 1, 1, 1, 1, 1, 1, 1, 1, 1, 0])) (b := (Code.at F14.code [1, 1, 1, 1, 0, 1, 0, 1, 1, 1, 1, 1, 1, 1, 1, 1, 1])) (by kernel_rfl) (F14.o5 W Q QP s h) (F14.k27_ok W Q QP s h) (F14.k28_a s h (F14.k17 W Q QP) (F14.k27 W Q QP))
def F14.t29 (s : St) (h : AH) (C0 C1 : KT) : Prop :=
  pBin Try.prog .eql 9 true (s.tm 54) (.sc (.string ⟨#[109, 101, 97, 115, 117, 114, 101]⟩)) fun t115 =>
  C1 ⟨puts s.tm [(125, t115), (124, t115)], s.ds⟩ h
def F14.k29 (W : Nat → Prop) (Q : Post) (QP : PPost) (s : St) (h : AH) : Prop := F14.t29 s h (F14.k1 W Q QP) (F14.k28 W Q QP)
theorem F14.k29_a (C0 C1 : KT) : aw Try.prog 155 W F14.pl (Code.at F14.code [1, 1, 1, 1, 0, 1, 0, 1, 1, 1, 1, 1, 1, 1, 1, 0]) (thenQ (C1) (blockQ 0 (thenQ (C0) (Q)))) QP s h = F14.t29 s h C0 C1 := by kernel_rfl
theorem F14.k29_ok : aw Try.prog 155 W F14.pl (Code.at F14.code [1, 1, 1, 1, 0, 1, 0, 1, 1, 1, 1, 1, 1, 1, 1]) (blockQ 0 (thenQ (F14.k1 W Q QP) (Q))) QP s h = F14.k29 W Q QP s h := nd_seq (a := (Code.at F14.code [1, 1, 1, 1, 0, 1, 0, 1, 1, 1, 1, 1, 1, 1, 1, 0])) (b := (Code.at F14.code [1, 1, 1, 1, 0, 1, 0, 1, 1, 1, 1, 1, 1, 1, 1, 1])) (by kernel_rfl) (F14.k28_ok W Q QP) (F14.k29_a W Q QP s h (F14.k1 W Q QP) (F14.k28 W Q QP))
def F14.t30 (s : St) (h : AH) (C0 C1 : KT) : Prop :=
  aIf (s.tm 111) (
  C0 s h) (
  C1 s h)
def F14.k30 (W : Nat → Prop) (Q : Post) (QP : PPost) (s : St) (h : AH) : Prop := F14.t30 s h (F14.k15 W Q QP) (F14.k29 W Q QP)
theorem F14.k30_a (C0 C1 : KT) : aIf (aev s (.tmp 111)) (C0 s h) (C1 s h) = F14.t30 s h C0 C1 := by kernel_rfl
theorem F14.k30_ok : aw Try.prog 155 W F14.pl (Code.at F14.code [1, 1, 1, 1, 0, 1, 0, 1, 1, 1, 1, 1, 1, 1]) (blockQ 0 (thenQ (F14.k1 W Q QP) (Q))) QP s h = F14.k30 W Q QP s h := nd_cond (a := (Code.at F14.code [1, 1, 1, 1, 0, 1, 0, 1, 1, 1, 1, 1, 1, 1, 0])) (b := (Code.at F14.code [1, 1, 1, 1, 0, 1, 0, 1, 1, 1, 1, 1, 1, 1, 1])) (by kernel_rfl) (F14.k15_ok W Q QP s h) (F14.k29_ok W Q QP s h) (F14.k30_a s h (F14.k15 W Q QP) (F14.k29 W Q QP))
def F14.t31 (s : St) (h : AH) (C0 C1 : KT) : Prop :=
  pBin Try.prog .eql 9 true (s.tm 54) (.sc (.string ⟨#[105, 102]⟩)) fun t116 =>
  C1 ⟨puts s.tm [(112, t116), (111, t116)], s.ds⟩ h
def F14.k31 (W : Nat → Prop) (Q : Post) (QP : PPost) (s : St) (h : AH) : Prop := F14.t31 s h (F14.k1 W Q QP) (F14.k30 W Q QP)
theorem F14.k31_a (C0 C1 : KT) : aw Try.prog 155 W F14.pl (Code.at F14.code [1, 1, 1, 1, 0, 1, 0, 1, 1, 1, 1, 1, 1, 0]) (thenQ (C1) (blockQ 0 (thenQ (C0) (Q)))) QP s h = F14.t31 s h C0 C1 := by kernel_rfl
theorem F14.k31_ok : aw Try.prog 155 W F14.pl (Code.at F14.code [1, 1, 1, 1, 0, 1, 0, 1, 1, 1, 1, 1, 1]) (blockQ 0 (thenQ (F14.k1 W Q QP) (Q))) QP s h = F14.k31 W Q QP s h := nd_seq (a := (Code.at F14.code [1, 1, 1, 1, 0, 1, 0, 1, 1, 1, 1, 1, 1, 0])) (b := (Code.at F14.code [1, 1, 1, 1, 0, 1, 0, 1, 1, 1, 1, 1, 1, 1])) (by kernel_rfl) (F14.k30_ok W Q QP) (F14.k31_a W Q QP s h (F14.k1 W Q QP) (F14.k30 W Q QP))
def F14.t32 (s : St) (h : AH) (C0 C1 : KT) : Prop :=
  aIf (s.tm 101) (
  C0 s h) (
  C1 s h)
def F14.k32 (W : Nat → Prop) (Q : Post) (QP : PPost) (s : St) (h : AH) : Prop := F14.t32 s h (F14.k12 W Q QP) (F14.k31 W Q QP)
theorem F14.k32_a (C0 C1 : KT) : aIf (aev s (.tmp 101)) (C0 s h) (C1 s h) = F14.t32 s h C0 C1 := by kernel_rfl
theorem F14.k32_ok : aw Try.prog 155 W F14.pl (Code.at F14.code [1, 1, 1, 1, 0, 1, 0, 1, 1, 1, 1, 1]) (blockQ 0 (thenQ (F14.k1 W Q QP) (Q))) QP s h = F14.k32 W Q QP s h := nd_cond (a := (Code.at F14.code [1, 1, 1, 1, 0, 1, 0, 1, 1, 1, 1, 1, 0])) (b := (Code.at F14.code [1, 1, 1, 1, 0, 1, 0, 1, 1, 1, 1, 1, 1])) (by kernel_rfl) (F14.k12_ok W Q QP s h) (F14.k31_ok W Q QP s h) (F14.k32_a s h (F14.k12 W Q QP) (F14.k31 W Q QP))
def F14.t33 (s : St) (h : AH) (C0 C1 : KT) : Prop :=
  pBin Try.prog .eql 9 true (s.tm 54) (.sc (.string ⟨#[114, 101, 112, 101, 97, 116]⟩)) fun t117 =>
  C1 ⟨puts s.tm [(102, t117), (101, t117)], s.ds⟩ h
def F14.k33 (W : Nat → Prop) (Q : Post) (QP : PPost) (s : St) (h : AH) : Prop := F14.t33 s h (F14.k1 W Q QP) (F14.k32 W Q QP)
theorem F14.k33_a (C0 C1 : KT) : aw Try.prog 155 W F14.pl (Code.at F14.code [1, 1, 1, 1, 0, 1, 0, 1, 1, 1, 1, 0]) (thenQ (C1) (blockQ 0 (thenQ (C0) (Q)))) QP s h = F14.t33 s h C0 C1 := by kernel_rfl
theorem F14.k33_ok : aw Try.prog 155 W F14.pl (Code.at F14.code [1, 1, 1, 1, 0, 1, 0, 1, 1, 1, 1]) (blockQ 0 (thenQ (F14.k1 W Q QP) (Q))) QP s h = F14.k33 W Q QP s h := nd_seq (a := (Code.at F14.code [1, 1, 1, 1, 0, 1, 0, 1, 1, 1, 1, 0])) (b := (Code.at F14.code [1, 1, 1, 1, 0, 1, 0, 1, 1, 1, 1, 1])) (by kernel_rfl) (F14.k32_ok W Q QP) (F14.k33_a W Q QP s h (F14.k1 W Q QP) (F14.k32 W Q QP))
def F14.t34 (s : St) (h : AH) (C0 C1 : KT) : Prop :=
  aIf (s.tm 81) (
  C0 s h) (
  C1 s h)
def F14.k34 (W : Nat → Prop) (Q : Post) (QP : PPost) (s : St) (h : AH) : Prop := F14.t34 s h (F14.k10 W Q QP) (F14.k33 W Q QP)
theorem F14.k34_a (C0 C1 : KT) : aIf (aev s (.tmp 81)) (C0 s h) (C1 s h) = F14.t34 s h C0 C1 := by kernel_rfl
theorem F14.k34_ok : aw Try.prog 155 W F14.pl (Code.at F14.code [1, 1, 1, 1, 0, 1, 0, 1, 1, 1]) (blockQ 0 (thenQ (F14.k1 W Q QP) (Q))) QP s h = F14.k34 W Q QP s h := nd_cond (a := (Code.at F14.code [1, 1, 1, 1, 0, 1, 0, 1, 1, 1, 0])) (b := (Code.at F14.code [1, 1, 1, 1, 0, 1, 0, 1, 1, 1, 1])) (by kernel_rfl) (F14.k10_ok W Q QP s h) (F14.k33_ok W Q QP s h) (F14.k34_a s h (F14.k10 W Q QP) (F14.k33 W Q QP))
def F14.t35 (s : St) (h : AH) (C0 C1 : KT) : Prop :=
  pBin Try.prog .eql 9 true (s.tm 54) (.sc (.string ⟨#[103, 97, 116, 101]⟩)) fun t118 =>
  C1 ⟨puts s.tm [(82, t118), (81, t118)], s.ds⟩ h
def F14.k35 (W : Nat → Prop) (Q : Post) (QP : PPost) (s : St) (h : AH) : Prop := F14.t35 s h (F14.k1 W Q QP) (F14.k34 W Q QP)
theorem F14.k35_a (C0 C1 : KT) : aw Try.prog 155 W F14.pl (Code.at F14.code [1, 1, 1, 1, 0, 1, 0, 1, 1, 0]) (thenQ (C1) (blockQ 0 (thenQ (C0) (Q)))) QP s h = F14.t35 s h C0 C1 := by kernel_rfl
theorem F14.k35_ok : aw Try.prog 155 W F14.pl (Code.at F14.code [1, 1, 1, 1, 0, 1, 0, 1, 1]) (blockQ 0 (thenQ (F14.k1 W Q QP) (Q))) QP s h = F14.k35 W Q QP s h := nd_seq (a := (Code.at F14.code [1, 1, 1, 1, 0, 1, 0, 1, 1, 0])) (b := (Code.at F14.code [1, 1, 1, 1, 0, 1, 0, 1, 1, 1])) (by kernel_rfl) (F14.k34_ok W Q QP) (F14.k35_a W Q QP s h (F14.k1 W Q QP) (F14.k34 W Q QP))
def F14.t36 (s : St) (h : AH) (C0 C1 : KT) : Prop :=
  aIf (s.tm 70) (
  C1 s h) (
  C0 s h)
def F14.k36 (W : Nat → Prop) (Q : Post) (QP : PPost) (s : St) (h : AH) : Prop := F14.t36 s h (F14.k35 W Q QP) (F14.k4 W Q QP)
theorem F14.k36_a (C0 C1 : KT) : aIf (aev s (.tmp 70)) (C1 s h) (C0 s h) = F14.t36 s h C0 C1 := by kernel_rfl
theorem F14.k36_ok : aw Try.prog 155 W F14.pl (Code.at F14.code [1, 1, 1, 1, 0, 1, 0, 1]) (blockQ 0 (thenQ (F14.k1 W Q QP) (Q))) QP s h = F14.k36 W Q QP s h := nd_cond (a := (Code.at F14.code [1, 1, 1, 1, 0, 1, 0, 1, 0])) (b := (Code.at F14.code [1, 1, 1, 1, 0, 1, 0, 1, 1])) (by kernel_rfl) (F14.k4_ok W Q QP s h) (F14.k35_ok W Q QP s h) (F14.k36_a s h (F14.k35 W Q QP) (F14.k4 W Q QP))
def F14.t37 (s : St) (h : AH) (C0 C1 : KT) : Prop :=
  aIf (s.tm 70) (
  C1 s h) (
  pBin Try.prog .eql 9 true (s.tm 54) (.sc (.string ⟨#[98, 105, 116, 115]⟩)) fun t119 =>
  C1 ⟨puts s.tm [(72, t119), (70, t119)], s.ds⟩ h)
def F14.k37 (W : Nat → Prop) (Q : Post) (QP : PPost) (s : St) (h : AH) : Prop := F14.t37 s h (F14.k1 W Q QP) (F14.k36 W Q QP)
theorem F14.k37_a (C0 C1 : KT) : aIf (aev s (.tmp 70)) (aw Try.prog 155 W F14.pl (Code.at F14.code [1, 1, 1, 1, 0, 1, 0, 0, 1, 0]) (thenQ (C1) (blockQ 0 (thenQ (C0) (Q)))) QP s h) (aw Try.prog 155 W F14.pl (Code.at F14.code [1, 1, 1, 1, 0, 1, 0, 0, 1, 1]) (thenQ (C1) (blockQ 0 (thenQ (C0) (Q)))) QP s h) = F14.t37 s h C0 C1 := by kernel_rfl
theorem F14.k37_ok : aw Try.prog 155 W F14.pl (Code.at F14.code [1, 1, 1, 1, 0, 1, 0, 0, 1]) (thenQ (F14.k36 W Q QP) (blockQ 0 (thenQ (F14.k1 W Q QP) (Q)))) QP s h = F14.k37 W Q QP s h := nd_cond (a := (Code.at F14.code [1, 1, 1, 1, 0, 1, 0, 0, 1, 0])) (b := (Code.at F14.code [1, 1, 1, 1, 0, 1, 0, 0, 1, 1])) (by kernel_rfl) rfl rfl (F14.k37_a W Q QP s h (F14.k1 W Q QP) (F14.k36 W Q QP))
def F14.t38 (s : St) (h : AH) (C0 C1 C2 : KT) : Prop :=
  pBin Try.prog .eql 9 true (s.tm 54) (.sc (.string ⟨#[113, 117, 98, 105, 116, 115]⟩)) fun t120 =>
  C2 ⟨puts s.tm [(71, t120), (70, t120)], s.ds⟩ h
def F14.k38 (W : Nat → Prop) (Q : Post) (QP : PPost) (s : St) (h : AH) : Prop := F14.t38 s h (F14.k1 W Q QP) (F14.k36 W Q QP) (F14.k37 W Q QP)
theorem F14.k38_a (C0 C1 C2 : KT) : aw Try.prog 155 W F14.pl (Code.at F14.code [1, 1, 1, 1, 0, 1, 0, 0, 0]) (thenQ (C2) (thenQ (C1) (blockQ 0 (thenQ (C0) (Q))))) QP s h = F14.t38 s h C0 C1 C2 := by kernel_rfl
theorem F14.k38_ok : aw Try.prog 155 W F14.pl (Code.at F14.code [1, 1, 1, 1, 0, 1, 0, 0]) (thenQ (F14.k36 W Q QP) (blockQ 0 (thenQ (F14.k1 W Q QP) (Q)))) QP s h = F14.k38 W Q QP s h := nd_seq (a := (Code.at F14.code [1, 1, 1, 1, 0, 1, 0, 0, 0])) (b := (Code.at F14.code [1, 1, 1, 1, 0, 1, 0, 0, 1])) (by kernel_rfl) (F14.k37_ok W Q QP) (F14.k38_a W Q QP s h (F14.k1 W Q QP) (F14.k36 W Q QP) (F14.k37 W Q QP))
theorem F14.o12 : aw Try.prog 155 W F14.pl (Code.at F14.code [1, 1, 1, 1, 0, 1, 0]) (blockQ 0 (thenQ (F14.k1 W Q QP) (Q))) QP s h = F14.k38 W Q QP s h := nd_seq (a := (Code.at F14.code [1, 1, 1, 1, 0, 1, 0, 0])) (b := (Code.at F14.code [1, 1, 1, 1, 0, 1, 0, 1])) (by kernel_rfl) (F14.k36_ok W Q QP) (F14.k38_ok W Q QP s h)
theorem F14.o13 : aw Try.prog 155 W F14.pl (Code.at F14.code [1, 1, 1, 1, 0, 1]) (thenQ (F14.k1 W Q QP) (Q)) QP s h = F14.k38 W Q QP s h := nd_block (a := (Code.at F14.code [1, 1, 1, 1, 0, 1, 0])) (by kernel_rfl) (F14.o12 W Q QP s h)
def F14.t39 (s : St) (h : AH) (C0 C1 : KT) : Prop :=
  pFld (some 1) (s.tm 4) fun t121 =>
  lLd (some false) (some 1) t121 h fun t122 _ =>
  C1 ⟨puts s.tm [(53, t121), (54, t122)], s.ds⟩ h
def F14.k39 (W : Nat → Prop) (Q : Post) (QP : PPost) (s : St) (h : AH) : Prop := F14.t39 s h (F14.k1 W Q QP) (F14.k38 W Q QP)
theorem F14.k39_a (C0 C1 : KT) : aw Try.prog 155 W F14.pl (Code.at F14.code [1, 1, 1, 1, 0, 0]) (thenQ (C1) (thenQ (C0) (Q))) QP s h = F14.t39 s h C0 C1 := by kernel_rfl
theorem F14.k39_ok : aw Try.prog 155 W F14.pl (Code.at F14.code [1, 1, 1, 1, 0]) (thenQ (F14.k1 W Q QP) (Q)) QP s h = F14.k39 W Q QP s h := nd_seq (a := (Code.at F14.code [1, 1, 1, 1, 0, 0])) (b := (Code.at F14.code [1, 1, 1, 1, 0, 1])) (by kernel_rfl) (F14.o13 W Q QP) (F14.k39_a W Q QP s h (F14.k1 W Q QP) (F14.k38 W Q QP))
theorem F14.o14 : aw Try.prog 155 W F14.pl (Code.at F14.code [1, 1, 1, 1]) (Q) QP s h = F14.k39 W Q QP s h := nd_seq (a := (Code.at F14.code [1, 1, 1, 1, 0])) (b := (Code.at F14.code [1, 1, 1, 1, 1])) (by kernel_rfl) (F14.k1_ok W Q QP) (F14.k39_ok W Q QP s h)
def F14.t40 (W : Nat → Prop) (s : St) (h : AH) (C0 : KT) : Prop :=
  pNil (s.tm 0) fun t124 =>
  pFld (some 3) t124 fun t125 =>
  lLd (some false) (some 1) t125 h fun t126 _ =>
  lLd (some true) (some 6) (s.tm 5) h fun t128 _ =>
  eBSl (some (6, 36, [.string ⟨#[]⟩, .string ⟨#[]⟩, .slice none 0 0, .int .i64 0, .int .i64 0, .int .i64 0])) 1 [(0, t128)] h fun t130 h131 =>
  eApp (some (6, 80, 36)) t126 t130 h131 W fun t132 h133 =>
  pNil (s.tm 0) fun t134 =>
  pFld (some 3) t134 fun t135 =>
  eStore (some 1) t135 t132 h133 W fun h136 =>
  C0 ⟨puts s.tm [(43, (s.tm 0)), (44, (s.tm 0)), (45, t124), (46, t125), (47, t126), (48, t128), (49, t130), (50, t132), (51, t134), (52, t135)], s.ds⟩ h136
def F14.k40 (W : Nat → Prop) (Q : Post) (QP : PPost) (s : St) (h : AH) : Prop := F14.t40 W s h (F14.k39 W Q QP)
theorem F14.k40_a (C0 : KT) : aw Try.prog 155 W F14.pl (Code.at F14.code [1, 1, 1, 0]) (thenQ (C0) (Q)) QP s h = F14.t40 W s h C0 := by kernel_rfl
theorem F14.k40_ok : aw Try.prog 155 W F14.pl (Code.at F14.code [1, 1, 1]) (Q) QP s h = F14.k40 W Q QP s h := nd_seq (a := (Code.at F14.code [1, 1, 1, 0])) (b := (Code.at F14.code [1, 1, 1, 1])) (by kernel_rfl) (F14.o14 W Q QP) (F14.k40_a W Q QP s h (F14.k39 W Q QP))
def F14.t41 (s : St) (h : AH) (C0 : KT) : Prop :=
  pNil (s.tm 0) fun t137 =>
  pFld (some 3) t137 fun t138 =>
  lLd (some false) (some 1) t138 h fun t139 _ =>
  (strArg t139 = false) ∧ pLen t139 fun t141 =>
  C0 ⟨puts s.tm [(38, (s.tm 0)), (39, t137), (40, t138), (41, t139), (42, t141), (6, t141)], s.ds⟩ h
def F14.k41 (W : Nat → Prop) (Q : Post) (QP : PPost) (s : St) (h : AH) : Prop := F14.t41 s h (F14.k40 W Q QP)
theorem F14.k41_a (C0 : KT) : aw Try.prog 155 W F14.pl (Code.at F14.code [1, 1, 0]) (thenQ (C0) (Q)) QP s h = F14.t41 s h C0 := by kernel_rfl
theorem F14.k41_ok : aw Try.prog 155 W F14.pl (Code.at F14.code [1, 1]) (Q) QP s h = F14.k41 W Q QP s h := nd_seq (a := (Code.at F14.code [1, 1, 0])) (b := (Code.at F14.code [1, 1, 1])) (by kernel_rfl) (F14.k40_ok W Q QP) (F14.k41_a W Q QP s h (F14.k40 W Q QP))
def F14.t42 (W : Nat → Prop) (s : St) (h : AH) (C0 : KT) : Prop :=
  pFld (some 1) (s.tm 4) fun t142 =>
  lLd (some false) (some 1) t142 h fun t143 _ =>
  pFld (some 2) (s.tm 4) fun t145 =>
  lLd (some false) (some 1) t145 h fun t146 _ =>
  pBld (some ([.string ⟨#[]⟩, .string ⟨#[]⟩, .slice none 0 0, .int .i64 0, .int .i64 0, .int .i64 0], .inl [(0, 1), (1, 1), (2, 1), (3, 1), (4, 1), (5, 1)])) [(0, t143), (5, t146)] fun t148 =>
  eAlloc (some [.string ⟨#[]⟩, .string ⟨#[]⟩, .slice none 0 0, .int .i64 0, .int .i64 0, .int .i64 0]) 6 36 h fun t149 h150 =>
  eStore (some 6) t149 t148 h150 W fun h151 =>
  C0 ⟨puts s.tm [(33, t142), (34, t143), (35, t145), (36, t146), (37, t148), (5, t149)], s.ds⟩ h151
def F14.k42 (W : Nat → Prop) (Q : Post) (QP : PPost) (s : St) (h : AH) : Prop := F14.t42 W s h (F14.k41 W Q QP)
theorem F14.k42_a (C0 : KT) : aw Try.prog 155 W F14.pl (Code.at F14.code [1, 0]) (thenQ (C0) (Q)) QP s h = F14.t42 W s h C0 := by kernel_rfl
theorem F14.k42_ok : aw Try.prog 155 W F14.pl (Code.at F14.code [1]) (Q) QP s h = F14.k42 W Q QP s h := nd_seq (a := (Code.at F14.code [1, 0])) (b := (Code.at F14.code [1, 1])) (by kernel_rfl) (F14.k41_ok W Q QP) (F14.k42_a W Q QP s h (F14.k41 W Q QP))
def F14.t43 (W : Nat → Prop) (QP : PPost) (s : St) (h : AH) (C0 : KT) : Prop :=
  pNil (s.tm 0) fun t152 =>
  pFld (some 1) t152 fun t153 =>
  lLd (some false) (some 1) t153 h fun t154 _ =>
  pNil (s.tm 0) fun t156 =>
  pFld (some 0) t156 fun t157 =>
  lLd (some false) (some 1) t157 h fun t158 _ =>
  (strArg t158 = false) ∧ pLen t158 fun t160 =>
  pBin Try.prog .lss 3 false t154 t160 fun t161 =>
  aIg true t161 (
  pNil (s.tm 0) fun t162 =>
  pFld (some 0) t162 fun t163 =>
  lLd (some false) (some 1) t163 h fun t164 _ =>
  pNil (s.tm 0) fun t166 =>
  pFld (some 1) t166 fun t167 =>
  lLd (some false) (some 1) t167 h fun t168 _ =>
  pIxA (some (3, none)) t164 t168 fun t170 =>
  pFld (some 0) t170 fun t171 =>
  lLd (some false) (some 1) t171 h fun t172 _ =>
  pBin Try.prog .eql 3 true t172 (.sc (.int .i64 1)) fun t174 =>
  pPick t161 t174 (.sc (.bool false)) fun t175 =>
  (
  aCall Try.prog W 33 [(s.tm 0), t175] h (fun t176 h177 =>
  eAlloc (some [.int .i64 0, .string ⟨#[]⟩, .int .i64 0]) 3 38 h177 fun t178 h179 =>
  eStore (some 3) t178 t176 h179 W fun h180 =>
  C0 ⟨puts s.tm [(7, (s.tm 0)), (8, (s.tm 0)), (9, t152), (10, t153), (11, t154), (12, (s.tm 0)), (13, t156), (14, t157), (15, t158), (16, t160), (17, t161), (18, t161), (19, (s.tm 0)), (20, t162), (21, t163), (22, t164), (23, (s.tm 0)), (24, t166), (25, t167), (26, t168), (27, t170), (28, t171), (29, t172), (30, t174), (31, t175), (32, t176), (4, t178)], s.ds⟩ h180) (QP s.ds)) ∧ (
  eAlloc (some [.int .i64 0, .string ⟨#[]⟩, .int .i64 0]) 3 38 h fun t181 h182 =>
  aCall Try.prog W 33 [(s.tm 0), t175] h182 (fun t183 h184 =>
  eStore (some 3) t181 t183 h184 W fun h185 =>
  C0 ⟨puts s.tm [(7, (s.tm 0)), (8, (s.tm 0)), (9, t152), (10, t153), (11, t154), (12, (s.tm 0)), (13, t156), (14, t157), (15, t158), (16, t160), (17, t161), (18, t161), (19, (s.tm 0)), (20, t162), (21, t163), (22, t164), (23, (s.tm 0)), (24, t166), (25, t167), (26, t168), (27, t170), (28, t171), (29, t172), (30, t174), (31, t175), (4, t181), (32, t183)], s.ds⟩ h185) (QP s.ds)) ∧ True) (
  pPick t161 noA (.sc (.bool false)) fun t186 =>
  (
  aCall Try.prog W 33 [(s.tm 0), t186] h (fun t187 h188 =>
  eAlloc (some [.int .i64 0, .string ⟨#[]⟩, .int .i64 0]) 3 38 h188 fun t189 h190 =>
  eStore (some 3) t189 t187 h190 W fun h191 =>
  C0 ⟨puts s.tm [(7, (s.tm 0)), (8, (s.tm 0)), (9, t152), (10, t153), (11, t154), (12, (s.tm 0)), (13, t156), (14, t157), (15, t158), (16, t160), (17, t161), (18, t161), (19, noA), (20, noA), (21, noA), (22, noA), (23, noA), (24, noA), (25, noA), (26, noA), (27, noA), (28, noA), (29, noA), (30, noA), (31, t186), (32, t187), (4, t189)], s.ds⟩ h191) (QP s.ds)) ∧ (
  eAlloc (some [.int .i64 0, .string ⟨#[]⟩, .int .i64 0]) 3 38 h fun t192 h193 =>
  aCall Try.prog W 33 [(s.tm 0), t186] h193 (fun t194 h195 =>
  eStore (some 3) t192 t194 h195 W fun h196 =>
  C0 ⟨puts s.tm [(7, (s.tm 0)), (8, (s.tm 0)), (9, t152), (10, t153), (11, t154), (12, (s.tm 0)), (13, t156), (14, t157), (15, t158), (16, t160), (17, t161), (18, t161), (19, noA), (20, noA), (21, noA), (22, noA), (23, noA), (24, noA), (25, noA), (26, noA), (27, noA), (28, noA), (29, noA), (30, noA), (31, t186), (4, t192), (32, t194)], s.ds⟩ h196) (QP s.ds)) ∧ True)
def F14.k43 (W : Nat → Prop) (Q : Post) (QP : PPost) (s : St) (h : AH) : Prop := F14.t43 W QP s h (F14.k42 W Q QP)
theorem F14.k43_a (C0 : KT) : aw Try.prog 155 W F14.pl (Code.at F14.code [0]) (thenQ (C0) (Q)) QP s h = F14.t43 W QP s h C0 := by kernel_rfl
theorem F14.k43_ok : aw Try.prog 155 W F14.pl (Code.at F14.code [0]) (thenQ (F14.k42 W Q QP) (Q)) QP s h = F14.k43 W Q QP s h := (F14.k43_a W Q QP s h (F14.k42 W Q QP))
theorem F14.o15 : aw Try.prog 155 W F14.pl (Code.at F14.code []) (Q) QP s h = F14.k43 W Q QP s h := nd_seq (a := (Code.at F14.code [0])) (b := (Code.at F14.code [1])) (by kernel_rfl) (F14.k42_ok W Q QP) (F14.k43_ok W Q QP s h)
end
theorem F14.calls {x0 x1 : AV} {h : AH} {M : Nat → Prop} {R : AE → AH → Prop} (hp : F14.k43 (fun id => M id ∨ h.next ≤ id) (bodyQ Try.prog [] R) (bodyP R) (s0 [x0, x1]) h) : ACalls Try.prog 14 [x0, x1] h M R :=
  acalls_of Try.mixed Try.func14 rfl (Nat.le_of_ble_eq_true rfl) F14.ok (by rw [show Try.f14.ntmps = 155 from rfl, show Try.f14.results.toList = [] from rfl]; exact Eq.mpr (F14.o15 _ _ _ _ _) hp)
attribute [simp] F14.k1 F14.t1 F14.k2 F14.t2 F14.k3 F14.t3 F14.k4 F14.t4 F14.k5 F14.t5 F14.k6 F14.t6 F14.k7 F14.t7 F14.k8 F14.t8 F14.k9 F14.k10 F14.t10 F14.k11 F14.t11 F14.k12 F14.t12 F14.k13 F14.t13 F14.k14 F14.t14 F14.k15 F14.t15 F14.k16 F14.t16 F14.k17 F14.t17 F14.k18 F14.t18 F14.k19 F14.t19 F14.k20 F14.t20 F14.k21 F14.t21 F14.k22 F14.t22 F14.k23 F14.t23 F14.k24 F14.k25 F14.t25 F14.k26 F14.t26 F14.k27 F14.t27 F14.k28 F14.t28 F14.k29 F14.t29 F14.k30 F14.t30 F14.k31 F14.t31 F14.k32 F14.t32 F14.k33 F14.t33 F14.k34 F14.t34 F14.k35 F14.t35 F14.k36 F14.t36 F14.k37 F14.t37 F14.k38 F14.t38 F14.k39 F14.t39 F14.k40 F14.t40 F14.k41 F14.t41 F14.k42 F14.t42 F14.k43 F14.t43
end Go.Proofs.Ythkkgbmjjpcfaaa

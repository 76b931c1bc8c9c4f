/- Bodies of the reader of package parse, written out for the table; printed by a program of this session. No condition. -/
import Derived.Test.YthkkgbmjjpcfaaaDoorGl
namespace Go.Proofs.YthkkgbmjjpcfaaaDoor
open Go.Ab
section
variable (W : Nat → Prop) (Q : Post) (QP : PPost) (s : St) (h : AH)
noncomputable def F53.code : Code := Tryd.f53.body.getD .skip
def F53.pl : Plans := []
theorem F53.ok : okCode Tryd.prog F53.pl F53.code = true := by kernel_rfl
noncomputable abbrev F53.d (p : List Nat) : Code := Code.at F53.code p
abbrev F53.cw (W : Nat → Prop) (c : Code) (Q : Post) (QP : PPost) : KT := Go.Ab.aw Tryd.prog 12 W F53.pl c Q QP
def F53.t1 (Q : Post) (s : St) (h : AH) : Prop :=
  Q .ret ⟨puts s.tm [(2, (.sc (.bool false)))], s.ds⟩ h
def F53.k1 (W : Nat → Prop) (Q : Post) (QP : PPost) (s : St) (h : AH) : Prop := F53.t1 Q s h
theorem F53.k1_a : F53.cw W (F53.d [1, 1, 0]) (thenQ (F53.cw W (F53.d [1, 1, 1]) (Q) QP) (Q)) QP s h = F53.t1 Q s h := by kernel_rfl
theorem F53.k1_ok : F53.cw W (F53.d [1, 1]) (Q) QP s h = F53.k1 W Q QP s h := nd_seq (a := (F53.d [1, 1, 0])) (b := (F53.d [1, 1, 1])) (by kernel_rfl) (fun _ _ => rfl) (F53.k1_a W Q QP s h)
def F53.t2 (Q : Post) (s : St) (h : AH) (C0 : KT) : Prop :=
  Q .ret ⟨puts s.tm [(2, (.sc (.bool true)))], s.ds⟩ h
def F53.k2 (W : Nat → Prop) (Q : Post) (QP : PPost) (s : St) (h : AH) : Prop := F53.t2 Q s h (F53.k1 W Q QP)
theorem F53.k2_a (C0 : KT) : F53.cw W (F53.d [1, 0, 1, 0, 1, 0, 0]) (thenQ (F53.cw W (F53.d [1, 0, 1, 0, 1, 0, 1]) (blockQ 0 (thenQ (C0) (Q))) QP) (blockQ 0 (thenQ (C0) (Q)))) QP s h = F53.t2 Q s h C0 := by kernel_rfl
theorem F53.k2_ok : F53.cw W (F53.d [1, 0, 1, 0, 1, 0]) (blockQ 0 (thenQ (F53.k1 W Q QP) (Q))) QP s h = F53.k2 W Q QP s h := nd_seq (a := (F53.d [1, 0, 1, 0, 1, 0, 0])) (b := (F53.d [1, 0, 1, 0, 1, 0, 1])) (by kernel_rfl) (fun _ _ => rfl) (F53.k2_a W Q QP s h (F53.k1 W Q QP))
def F53.t3 (s : St) (h : AH) (C0 C1 : KT) : Prop :=
  aIf (s.tm 4) (
  C1 s h) (
  C0 s h)
def F53.k3 (W : Nat → Prop) (Q : Post) (QP : PPost) (s : St) (h : AH) : Prop := F53.t3 s h (F53.k1 W Q QP) (F53.k2 W Q QP)
theorem F53.k3_a (C0 C1 : KT) : aIf (aev s (.tmp 4)) (C1 s h) (F53.cw W (F53.d [1, 0, 1, 0, 1, 1]) (blockQ 0 (thenQ (C0) (Q))) QP s h) = F53.t3 s h C0 C1 := by kernel_rfl
theorem F53.k3_ok : F53.cw W (F53.d [1, 0, 1, 0, 1]) (blockQ 0 (thenQ (F53.k1 W Q QP) (Q))) QP s h = F53.k3 W Q QP s h := nd_cond (a := (F53.d [1, 0, 1, 0, 1, 0])) (b := (F53.d [1, 0, 1, 0, 1, 1])) (by kernel_rfl) (F53.k2_ok W Q QP s h) rfl (F53.k3_a W Q QP s h (F53.k1 W Q QP) (F53.k2 W Q QP))
def F53.t4 (s : St) (h : AH) (C0 C1 : KT) : Prop :=
  aIf (s.tm 4) (
  C1 s h) (
  pBin Tryd.prog .eql 9 true (s.tm 3) (.sc (.string ⟨#[114, 101, 115, 101, 116]⟩)) fun t1 =>
  C1 ⟨puts s.tm [(11, t1), (4, t1)], s.ds⟩ h)
def F53.k4 (W : Nat → Prop) (Q : Post) (QP : PPost) (s : St) (h : AH) : Prop := F53.t4 s h (F53.k1 W Q QP) (F53.k3 W Q QP)
theorem F53.k4_a (C0 C1 : KT) : aIf (aev s (.tmp 4)) (F53.cw W (F53.d [1, 0, 1, 0, 0, 1, 1, 1, 1, 1, 1, 1, 1, 1, 1, 1, 0]) (thenQ (C1) (blockQ 0 (thenQ (C0) (Q)))) QP s h) (F53.cw W (F53.d [1, 0, 1, 0, 0, 1, 1, 1, 1, 1, 1, 1, 1, 1, 1, 1, 1]) (thenQ (C1) (blockQ 0 (thenQ (C0) (Q)))) QP s h) = F53.t4 s h C0 C1 := by kernel_rfl
theorem F53.k4_ok : F53.cw W (F53.d [1, 0, 1, 0, 0, 1, 1, 1, 1, 1, 1, 1, 1, 1, 1, 1]) (thenQ (F53.k3 W Q QP) (blockQ 0 (thenQ (F53.k1 W Q QP) (Q)))) QP s h = F53.k4 W Q QP s h := nd_cond (a := (F53.d [1, 0, 1, 0, 0, 1, 1, 1, 1, 1, 1, 1, 1, 1, 1, 1, 0])) (b := (F53.d [1, 0, 1, 0, 0, 1, 1, 1, 1, 1, 1, 1, 1, 1, 1, 1, 1])) (by kernel_rfl) rfl rfl (F53.k4_a W Q QP s h (F53.k1 W Q QP) (F53.k3 W Q QP))
def F53.t5 (s : St) (h : AH) (C0 C1 C2 : KT) : Prop :=
  pBin Tryd.prog .eql 9 true (s.tm 3) (.sc (.string ⟨#[109, 101, 97, 115, 117, 114, 101]⟩)) fun t2 =>
  C2 ⟨puts s.tm [(10, t2), (4, t2)], s.ds⟩ h
def F53.k5 (W : Nat → Prop) (Q : Post) (QP : PPost) (s : St) (h : AH) : Prop := F53.t5 s h (F53.k1 W Q QP) (F53.k3 W Q QP) (F53.k4 W Q QP)
theorem F53.k5_a (C0 C1 C2 : KT) : F53.cw W (F53.d [1, 0, 1, 0, 0, 1, 1, 1, 1, 1, 1, 1, 1, 1, 1, 0]) (thenQ (C2) (thenQ (C1) (blockQ 0 (thenQ (C0) (Q))))) QP s h = F53.t5 s h C0 C1 C2 := by kernel_rfl
theorem F53.k5_ok : F53.cw W (F53.d [1, 0, 1, 0, 0, 1, 1, 1, 1, 1, 1, 1, 1, 1, 1]) (thenQ (F53.k3 W Q QP) (blockQ 0 (thenQ (F53.k1 W Q QP) (Q)))) QP s h = F53.k5 W Q QP s h := nd_seq (a := (F53.d [1, 0, 1, 0, 0, 1, 1, 1, 1, 1, 1, 1, 1, 1, 1, 0])) (b := (F53.d [1, 0, 1, 0, 0, 1, 1, 1, 1, 1, 1, 1, 1, 1, 1, 1])) (by kernel_rfl) (F53.k4_ok W Q QP) (F53.k5_a W Q QP s h (F53.k1 W Q QP) (F53.k3 W Q QP) (F53.k4 W Q QP))
def F53.t6 (s : St) (h : AH) (C0 C1 C2 : KT) : Prop :=
  aIf (s.tm 4) (
  C1 s h) (
  C2 s h)
def F53.k6 (W : Nat → Prop) (Q : Post) (QP : PPost) (s : St) (h : AH) : Prop := F53.t6 s h (F53.k1 W Q QP) (F53.k3 W Q QP) (F53.k5 W Q QP)
theorem F53.k6_a (C0 C1 C2 : KT) : aIf (aev s (.tmp 4)) (F53.cw W (F53.d [1, 0, 1, 0, 0, 1, 1, 1, 1, 1, 1, 1, 1, 1, 0]) (thenQ (C1) (blockQ 0 (thenQ (C0) (Q)))) QP s h) (C2 s h) = F53.t6 s h C0 C1 C2 := by kernel_rfl
theorem F53.k6_ok : F53.cw W (F53.d [1, 0, 1, 0, 0, 1, 1, 1, 1, 1, 1, 1, 1, 1]) (thenQ (F53.k3 W Q QP) (blockQ 0 (thenQ (F53.k1 W Q QP) (Q)))) QP s h = F53.k6 W Q QP s h := nd_cond (a := (F53.d [1, 0, 1, 0, 0, 1, 1, 1, 1, 1, 1, 1, 1, 1, 0])) (b := (F53.d [1, 0, 1, 0, 0, 1, 1, 1, 1, 1, 1, 1, 1, 1, 1])) (by kernel_rfl) rfl (F53.k5_ok W Q QP s h) (F53.k6_a W Q QP s h (F53.k1 W Q QP) (F53.k3 W Q QP) (F53.k5 W Q QP))
def F53.t7 (s : St) (h : AH) (C0 C1 C2 : KT) : Prop :=
  pBin Tryd.prog .eql 9 true (s.tm 3) (.sc (.string ⟨#[105, 102]⟩)) fun t3 =>
  C2 ⟨puts s.tm [(9, t3), (4, t3)], s.ds⟩ h
def F53.k7 (W : Nat → Prop) (Q : Post) (QP : PPost) (s : St) (h : AH) : Prop := F53.t7 s h (F53.k1 W Q QP) (F53.k3 W Q QP) (F53.k6 W Q QP)
theorem F53.k7_a (C0 C1 C2 : KT) : F53.cw W (F53.d [1, 0, 1, 0, 0, 1, 1, 1, 1, 1, 1, 1, 1, 0]) (thenQ (C2) (thenQ (C1) (blockQ 0 (thenQ (C0) (Q))))) QP s h = F53.t7 s h C0 C1 C2 := by kernel_rfl
theorem F53.k7_ok : F53.cw W (F53.d [1, 0, 1, 0, 0, 1, 1, 1, 1, 1, 1, 1, 1]) (thenQ (F53.k3 W Q QP) (blockQ 0 (thenQ (F53.k1 W Q QP) (Q)))) QP s h = F53.k7 W Q QP s h := nd_seq (a := (F53.d [1, 0, 1, 0, 0, 1, 1, 1, 1, 1, 1, 1, 1, 0])) (b := (F53.d [1, 0, 1, 0, 0, 1, 1, 1, 1, 1, 1, 1, 1, 1])) (by kernel_rfl) (F53.k6_ok W Q QP) (F53.k7_a W Q QP s h (F53.k1 W Q QP) (F53.k3 W Q QP) (F53.k6 W Q QP))
def F53.t8 (s : St) (h : AH) (C0 C1 C2 : KT) : Prop :=
  aIf (s.tm 4) (
  C1 s h) (
  C2 s h)
def F53.k8 (W : Nat → Prop) (Q : Post) (QP : PPost) (s : St) (h : AH) : Prop := F53.t8 s h (F53.k1 W Q QP) (F53.k3 W Q QP) (F53.k7 W Q QP)
theorem F53.k8_a (C0 C1 C2 : KT) : aIf (aev s (.tmp 4)) (F53.cw W (F53.d [1, 0, 1, 0, 0, 1, 1, 1, 1, 1, 1, 1, 0]) (thenQ (C1) (blockQ 0 (thenQ (C0) (Q)))) QP s h) (C2 s h) = F53.t8 s h C0 C1 C2 := by kernel_rfl
theorem F53.k8_ok : F53.cw W (F53.d [1, 0, 1, 0, 0, 1, 1, 1, 1, 1, 1, 1]) (thenQ (F53.k3 W Q QP) (blockQ 0 (thenQ (F53.k1 W Q QP) (Q)))) QP s h = F53.k8 W Q QP s h := nd_cond (a := (F53.d [1, 0, 1, 0, 0, 1, 1, 1, 1, 1, 1, 1, 0])) (b := (F53.d [1, 0, 1, 0, 0, 1, 1, 1, 1, 1, 1, 1, 1])) (by kernel_rfl) rfl (F53.k7_ok W Q QP s h) (F53.k8_a W Q QP s h (F53.k1 W Q QP) (F53.k3 W Q QP) (F53.k7 W Q QP))
def F53.t9 (s : St) (h : AH) (C0 C1 C2 : KT) : Prop :=
  pBin Tryd.prog .eql 9 true (s.tm 3) (.sc (.string ⟨#[114, 101, 112, 101, 97, 116]⟩)) fun t4 =>
  C2 ⟨puts s.tm [(8, t4), (4, t4)], s.ds⟩ h
def F53.k9 (W : Nat → Prop) (Q : Post) (QP : PPost) (s : St) (h : AH) : Prop := F53.t9 s h (F53.k1 W Q QP) (F53.k3 W Q QP) (F53.k8 W Q QP)
theorem F53.k9_a (C0 C1 C2 : KT) : F53.cw W (F53.d [1, 0, 1, 0, 0, 1, 1, 1, 1, 1, 1, 0]) (thenQ (C2) (thenQ (C1) (blockQ 0 (thenQ (C0) (Q))))) QP s h = F53.t9 s h C0 C1 C2 := by kernel_rfl
theorem F53.k9_ok : F53.cw W (F53.d [1, 0, 1, 0, 0, 1, 1, 1, 1, 1, 1]) (thenQ (F53.k3 W Q QP) (blockQ 0 (thenQ (F53.k1 W Q QP) (Q)))) QP s h = F53.k9 W Q QP s h := nd_seq (a := (F53.d [1, 0, 1, 0, 0, 1, 1, 1, 1, 1, 1, 0])) (b := (F53.d [1, 0, 1, 0, 0, 1, 1, 1, 1, 1, 1, 1])) (by kernel_rfl) (F53.k8_ok W Q QP) (F53.k9_a W Q QP s h (F53.k1 W Q QP) (F53.k3 W Q QP) (F53.k8 W Q QP))
def F53.t10 (s : St) (h : AH) (C0 C1 C2 : KT) : Prop :=
  aIf (s.tm 4) (
  C1 s h) (
  C2 s h)
def F53.k10 (W : Nat → Prop) (Q : Post) (QP : PPost) (s : St) (h : AH) : Prop := F53.t10 s h (F53.k1 W Q QP) (F53.k3 W Q QP) (F53.k9 W Q QP)
theorem F53.k10_a (C0 C1 C2 : KT) : aIf (aev s (.tmp 4)) (F53.cw W (F53.d [1, 0, 1, 0, 0, 1, 1, 1, 1, 1, 0]) (thenQ (C1) (blockQ 0 (thenQ (C0) (Q)))) QP s h) (C2 s h) = F53.t10 s h C0 C1 C2 := by kernel_rfl
theorem F53.k10_ok : F53.cw W (F53.d [1, 0, 1, 0, 0, 1, 1, 1, 1, 1]) (thenQ (F53.k3 W Q QP) (blockQ 0 (thenQ (F53.k1 W Q QP) (Q)))) QP s h = F53.k10 W Q QP s h := nd_cond (a := (F53.d [1, 0, 1, 0, 0, 1, 1, 1, 1, 1, 0])) (b := (F53.d [1, 0, 1, 0, 0, 1, 1, 1, 1, 1, 1])) (by kernel_rfl) rfl (F53.k9_ok W Q QP s h) (F53.k10_a W Q QP s h (F53.k1 W Q QP) (F53.k3 W Q QP) (F53.k9 W Q QP))
def F53.t11 (s : St) (h : AH) (C0 C1 C2 : KT) : Prop :=
  pBin Tryd.prog .eql 9 true (s.tm 3) (.sc (.string ⟨#[103, 97, 116, 101]⟩)) fun t5 =>
  C1 ⟨puts s.tm [(7, t5), (4, t5)], s.ds⟩ h
def F53.k11 (W : Nat → Prop) (Q : Post) (QP : PPost) (s : St) (h : AH) : Prop := F53.t11 s h (F53.k1 W Q QP) (F53.k10 W Q QP) (F53.k3 W Q QP)
theorem F53.k11_a (C0 C1 C2 : KT) : F53.cw W (F53.d [1, 0, 1, 0, 0, 1, 1, 1, 1, 0]) (thenQ (C1) (thenQ (C2) (blockQ 0 (thenQ (C0) (Q))))) QP s h = F53.t11 s h C0 C1 C2 := by kernel_rfl
theorem F53.k11_ok : F53.cw W (F53.d [1, 0, 1, 0, 0, 1, 1, 1, 1]) (thenQ (F53.k3 W Q QP) (blockQ 0 (thenQ (F53.k1 W Q QP) (Q)))) QP s h = F53.k11 W Q QP s h := nd_seq (a := (F53.d [1, 0, 1, 0, 0, 1, 1, 1, 1, 0])) (b := (F53.d [1, 0, 1, 0, 0, 1, 1, 1, 1, 1])) (by kernel_rfl) (F53.k10_ok W Q QP) (F53.k11_a W Q QP s h (F53.k1 W Q QP) (F53.k10 W Q QP) (F53.k3 W Q QP))
def F53.t12 (s : St) (h : AH) (C0 C1 C2 : KT) : Prop :=
  aIf (s.tm 4) (
  C2 s h) (
  C1 s h)
def F53.k12 (W : Nat → Prop) (Q : Post) (QP : PPost) (s : St) (h : AH) : Prop := F53.t12 s h (F53.k1 W Q QP) (F53.k11 W Q QP) (F53.k3 W Q QP)
theorem F53.k12_a (C0 C1 C2 : KT) : aIf (aev s (.tmp 4)) (F53.cw W (F53.d [1, 0, 1, 0, 0, 1, 1, 1, 0]) (thenQ (C2) (blockQ 0 (thenQ (C0) (Q)))) QP s h) (C1 s h) = F53.t12 s h C0 C1 C2 := by kernel_rfl
theorem F53.k12_ok : F53.cw W (F53.d [1, 0, 1, 0, 0, 1, 1, 1]) (thenQ (F53.k3 W Q QP) (blockQ 0 (thenQ (F53.k1 W Q QP) (Q)))) QP s h = F53.k12 W Q QP s h := nd_cond (a := (F53.d [1, 0, 1, 0, 0, 1, 1, 1, 0])) (b := (F53.d [1, 0, 1, 0, 0, 1, 1, 1, 1])) (by kernel_rfl) rfl (F53.k11_ok W Q QP s h) (F53.k12_a W Q QP s h (F53.k1 W Q QP) (F53.k11 W Q QP) (F53.k3 W Q QP))
def F53.t13 (s : St) (h : AH) (C0 C1 C2 : KT) : Prop :=
  pBin Tryd.prog .eql 9 true (s.tm 3) (.sc (.string ⟨#[98, 105, 116, 115]⟩)) fun t6 =>
  C1 ⟨puts s.tm [(6, t6), (4, t6)], s.ds⟩ h
def F53.k13 (W : Nat → Prop) (Q : Post) (QP : PPost) (s : St) (h : AH) : Prop := F53.t13 s h (F53.k1 W Q QP) (F53.k12 W Q QP) (F53.k3 W Q QP)
theorem F53.k13_a (C0 C1 C2 : KT) : F53.cw W (F53.d [1, 0, 1, 0, 0, 1, 1, 0]) (thenQ (C1) (thenQ (C2) (blockQ 0 (thenQ (C0) (Q))))) QP s h = F53.t13 s h C0 C1 C2 := by kernel_rfl
theorem F53.k13_ok : F53.cw W (F53.d [1, 0, 1, 0, 0, 1, 1]) (thenQ (F53.k3 W Q QP) (blockQ 0 (thenQ (F53.k1 W Q QP) (Q)))) QP s h = F53.k13 W Q QP s h := nd_seq (a := (F53.d [1, 0, 1, 0, 0, 1, 1, 0])) (b := (F53.d [1, 0, 1, 0, 0, 1, 1, 1])) (by kernel_rfl) (F53.k12_ok W Q QP) (F53.k13_a W Q QP s h (F53.k1 W Q QP) (F53.k12 W Q QP) (F53.k3 W Q QP))
def F53.t14 (s : St) (h : AH) (C0 C1 C2 : KT) : Prop :=
  aIf (s.tm 4) (
  C2 s h) (
  C1 s h)
def F53.k14 (W : Nat → Prop) (Q : Post) (QP : PPost) (s : St) (h : AH) : Prop := F53.t14 s h (F53.k1 W Q QP) (F53.k13 W Q QP) (F53.k3 W Q QP)
theorem F53.k14_a (C0 C1 C2 : KT) : aIf (aev s (.tmp 4)) (F53.cw W (F53.d [1, 0, 1, 0, 0, 1, 0]) (thenQ (C2) (blockQ 0 (thenQ (C0) (Q)))) QP s h) (C1 s h) = F53.t14 s h C0 C1 C2 := by kernel_rfl
theorem F53.k14_ok : F53.cw W (F53.d [1, 0, 1, 0, 0, 1]) (thenQ (F53.k3 W Q QP) (blockQ 0 (thenQ (F53.k1 W Q QP) (Q)))) QP s h = F53.k14 W Q QP s h := nd_cond (a := (F53.d [1, 0, 1, 0, 0, 1, 0])) (b := (F53.d [1, 0, 1, 0, 0, 1, 1])) (by kernel_rfl) rfl (F53.k13_ok W Q QP s h) (F53.k14_a W Q QP s h (F53.k1 W Q QP) (F53.k13 W Q QP) (F53.k3 W Q QP))
def F53.t15 (s : St) (h : AH) (C0 C1 C2 : KT) : Prop :=
  pBin Tryd.prog .eql 9 true (s.tm 3) (.sc (.string ⟨#[113, 117, 98, 105, 116, 115]⟩)) fun t7 =>
  C1 ⟨puts s.tm [(5, t7), (4, t7)], s.ds⟩ h
def F53.k15 (W : Nat → Prop) (Q : Post) (QP : PPost) (s : St) (h : AH) : Prop := F53.t15 s h (F53.k1 W Q QP) (F53.k14 W Q QP) (F53.k3 W Q QP)
theorem F53.k15_a (C0 C1 C2 : KT) : F53.cw W (F53.d [1, 0, 1, 0, 0, 0]) (thenQ (C1) (thenQ (C2) (blockQ 0 (thenQ (C0) (Q))))) QP s h = F53.t15 s h C0 C1 C2 := by kernel_rfl
theorem F53.k15_ok : F53.cw W (F53.d [1, 0, 1, 0, 0]) (thenQ (F53.k3 W Q QP) (blockQ 0 (thenQ (F53.k1 W Q QP) (Q)))) QP s h = F53.k15 W Q QP s h := nd_seq (a := (F53.d [1, 0, 1, 0, 0, 0])) (b := (F53.d [1, 0, 1, 0, 0, 1])) (by kernel_rfl) (F53.k14_ok W Q QP) (F53.k15_a W Q QP s h (F53.k1 W Q QP) (F53.k14 W Q QP) (F53.k3 W Q QP))
theorem F53.o1 : F53.cw W (F53.d [1, 0, 1, 0]) (blockQ 0 (thenQ (F53.k1 W Q QP) (Q))) QP s h = F53.k15 W Q QP s h := nd_seq (a := (F53.d [1, 0, 1, 0, 0])) (b := (F53.d [1, 0, 1, 0, 1])) (by kernel_rfl) (F53.k3_ok W Q QP) (F53.k15_ok W Q QP s h)
theorem F53.o2 : F53.cw W (F53.d [1, 0, 1]) (thenQ (F53.k1 W Q QP) (Q)) QP s h = F53.k15 W Q QP s h := nd_block (a := (F53.d [1, 0, 1, 0])) (by kernel_rfl) (F53.o1 W Q QP s h)
def F53.t16 (s : St) (h : AH) (C0 C1 : KT) : Prop :=
  C1 ⟨puts s.tm [(3, (s.tm 0))], s.ds⟩ h
def F53.k16 (W : Nat → Prop) (Q : Post) (QP : PPost) (s : St) (h : AH) : Prop := F53.t16 s h (F53.k1 W Q QP) (F53.k15 W Q QP)
theorem F53.k16_a (C0 C1 : KT) : F53.cw W (F53.d [1, 0, 0]) (thenQ (C1) (thenQ (C0) (Q))) QP s h = F53.t16 s h C0 C1 := by kernel_rfl
theorem F53.k16_ok : F53.cw W (F53.d [1, 0]) (thenQ (F53.k1 W Q QP) (Q)) QP s h = F53.k16 W Q QP s h := nd_seq (a := (F53.d [1, 0, 0])) (b := (F53.d [1, 0, 1])) (by kernel_rfl) (F53.o2 W Q QP) (F53.k16_a W Q QP s h (F53.k1 W Q QP) (F53.k15 W Q QP))
theorem F53.o3 : F53.cw W (F53.d [1]) (Q) QP s h = F53.k16 W Q QP s h := nd_seq (a := (F53.d [1, 0])) (b := (F53.d [1, 1])) (by kernel_rfl) (F53.k1_ok W Q QP) (F53.k16_ok W Q QP s h)
def F53.t17 (s : St) (h : AH) (C0 : KT) : Prop :=
  C0 ⟨puts s.tm [(2, (.sc (.bool false)))], s.ds⟩ h
def F53.k17 (W : Nat → Prop) (Q : Post) (QP : PPost) (s : St) (h : AH) : Prop := F53.t17 s h (F53.k16 W Q QP)
theorem F53.k17_a (C0 : KT) : F53.cw W (F53.d [0]) (thenQ (C0) (Q)) QP s h = F53.t17 s h C0 := by kernel_rfl
theorem F53.k17_ok : F53.cw W (F53.d []) (Q) QP s h = F53.k17 W Q QP s h := nd_seq (a := (F53.d [0])) (b := (F53.d [1])) (by kernel_rfl) (F53.o3 W Q QP) (F53.k17_a W Q QP s h (F53.k16 W Q QP))
end
set_option maxRecDepth 100000 in
theorem F53.calls {x0 : AV} {h : AH} {M : Nat → Prop} {R : AE → AH → Prop} (hp : F53.k17 (fun id => M id ∨ h.next ≤ id) (bodyQ Tryd.prog [.tmp 2] R) (bodyP R) (s0 [x0]) h) : ACalls Tryd.prog 53 [x0] h M R :=
  acalls_of (c := F53.code) Tryd.mixed Tryd.func53 (by kernel_rfl) (Nat.le_of_ble_eq_true rfl) F53.ok (by rw [show Tryd.f53.ntmps = 12 from rfl, show Tryd.f53.results.toList = [.tmp 2] from rfl]; exact Eq.mpr (F53.k17_ok _ _ _ _ _) hp)
attribute [simp] F53.k1 F53.t1 F53.k2 F53.t2 F53.k3 F53.t3 F53.k4 F53.t4 F53.k5 F53.t5 F53.k6 F53.t6 F53.k7 F53.t7 F53.k8 F53.t8 F53.k9 F53.t9 F53.k10 F53.t10 F53.k11 F53.t11 F53.k12 F53.t12 F53.k13 F53.t13 F53.k14 F53.t14 F53.k15 F53.t15 F53.k16 F53.t16 F53.k17 F53.t17

section
variable (W : Nat → Prop) (Q : Post) (QP : PPost) (s : St) (h : AH)
noncomputable def F52.code : Code := Tryd.f52.body.getD .skip
def F52.g1 : Grps := [(none, [(0, false), (1, false), (2, false), (3, false), (4, false), (5, false), (6, false), (7, false), (8, false), (9, false), (10, false)]), (some (10, true), [(11, false), (12, false), (13, false), (14, false), (15, false), (16, false), (17, false), (18, false), (19, false), (20, false), (21, false), (22, false)]), (none, [(23, false), (24, false)]), (some (24, true), [(25, false), (26, false), (27, false), (28, false), (29, false), (30, false), (31, false), (32, false), (33, false), (34, false), (35, false), (36, false), (37, false)]), (none, [(38, false), (39, false)])]
def F52.pl : Plans := [(1, ⟨F52.g1, false, [], []⟩)]
theorem F52.ok : okCode Tryd.prog F52.pl F52.code = true := by kernel_rfl
noncomputable abbrev F52.d (p : List Nat) : Code := Code.at F52.code p
abbrev F52.cw (W : Nat → Prop) (c : Code) (Q : Post) (QP : PPost) : KT := Go.Ab.aw Tryd.prog 44 W F52.pl c Q QP
def F52.t1 (Q : Post) (s : St) (h : AH) : Prop :=
  Q .ret s h
def F52.k1 (W : Nat → Prop) (Q : Post) (QP : PPost) (s : St) (h : AH) : Prop := F52.t1 Q s h
theorem F52.k1_a : F52.cw W (F52.d [1, 1]) (Q) QP s h = F52.t1 Q s h := by kernel_rfl
theorem F52.k1_ok : F52.cw W (F52.d [1, 1]) (Q) QP s h = F52.k1 W Q QP s h := (F52.k1_a W Q QP s h)
def F52.t2 (s : St) (h : AH) (C0 : KT) : Prop :=
  pPick (s.tm 29) (s.tm 42) (.sc (.bool false)) fun t1 =>
  C0 ⟨puts s.tm [(43, t1), (4, t1)], s.ds⟩ h
def F52.k2 (W : Nat → Prop) (Q : Post) (QP : PPost) (s : St) (h : AH) : Prop := F52.t2 s h (F52.k1 W Q QP)
theorem F52.k2_a (C0 : KT) : evI Tryd.prog 44 (fun _ => W) nobody QP (regOps (F52.d [1, 0])) (isAt F52.g1 4) ((thenQ (C0) (Q)) .normal) s h = F52.t2 s h C0 := by kernel_rfl
theorem F52.k2_ok : evG Tryd.prog 44 (fun _ => W) nobody QP (regOps (F52.d [1, 0])) (F52.g1.drop 4) ((thenQ (F52.k1 W Q QP) (Q)) .normal) s h = F52.k2 W Q QP s h := nd_g (is := isAt F52.g1 4) (rest := F52.g1.drop 5) (by kernel_rfl) (fun _ _ => rfl) (F52.k2_a W Q QP s h (F52.k1 W Q QP))
def F52.t3 (s : St) (h : AH) (C0 : KT) : Prop :=
  aIg true (s.tm 29) (
  pNil (s.tm 0) fun t2 =>
  pFld (some 0) t2 fun t3 =>
  lLd (some false) (some 1) t3 h fun t4 _ =>
  pNil (s.tm 0) fun t6 =>
  pFld (some 1) t6 fun t7 =>
  lLd (some false) (some 1) t7 h fun t8 _ =>
  pIxA (some (3, none)) t4 t8 fun t10 =>
  pFld (some 1) t10 fun t11 =>
  lLd (some false) (some 1) t11 h fun t12 _ =>
  pBin Tryd.prog .eql 9 false t12 (s.tm 1) fun t14 =>
  C0 ⟨puts s.tm [(30, (s.tm 0)), (31, t2), (32, t3), (33, t4), (34, (s.tm 0)), (35, t6), (36, t7), (37, t8), (38, t10), (39, t11), (40, t12), (41, (s.tm 1)), (42, t14)], s.ds⟩ h) (
  C0 ⟨puts s.tm [(30, noA), (31, noA), (32, noA), (33, noA), (34, noA), (35, noA), (36, noA), (37, noA), (38, noA), (39, noA), (40, noA), (41, noA), (42, noA)], s.ds⟩ h)
def F52.k3 (W : Nat → Prop) (Q : Post) (QP : PPost) (s : St) (h : AH) : Prop := F52.t3 s h (F52.k2 W Q QP)
theorem F52.k3_a (C0 : KT) : aIg true (s.tm 29) (evI Tryd.prog 44 (fun _ => W) nobody QP (regOps (F52.d [1, 0])) (isAt F52.g1 3) (C0) s h) ((C0) (skI 44 (regOps (F52.d [1, 0])) (isAt F52.g1 3) s) h) = F52.t3 s h C0 := by kernel_rfl
theorem F52.k3_ok : evG Tryd.prog 44 (fun _ => W) nobody QP (regOps (F52.d [1, 0])) (F52.g1.drop 3) ((thenQ (F52.k1 W Q QP) (Q)) .normal) s h = F52.k3 W Q QP s h := nd_gw (j := 24) (is := isAt F52.g1 3) (rest := F52.g1.drop 4) (by kernel_rfl) (d := 29) (by kernel_rfl) (F52.k2_ok W Q QP) (F52.k3_a W QP s h (F52.k2 W Q QP))
def F52.t4 (s : St) (h : AH) (C0 : KT) : Prop :=
  pPick (s.tm 15) (s.tm 27) (.sc (.bool false)) fun t15 =>
  C0 ⟨puts s.tm [(28, t15), (29, t15)], s.ds⟩ h
def F52.k4 (W : Nat → Prop) (Q : Post) (QP : PPost) (s : St) (h : AH) : Prop := F52.t4 s h (F52.k3 W Q QP)
theorem F52.k4_a (C0 : KT) : evI Tryd.prog 44 (fun _ => W) nobody QP (regOps (F52.d [1, 0])) (isAt F52.g1 2) (C0) s h = F52.t4 s h C0 := by kernel_rfl
theorem F52.k4_ok : evG Tryd.prog 44 (fun _ => W) nobody QP (regOps (F52.d [1, 0])) (F52.g1.drop 2) ((thenQ (F52.k1 W Q QP) (Q)) .normal) s h = F52.k4 W Q QP s h := nd_g (is := isAt F52.g1 2) (rest := F52.g1.drop 3) (by kernel_rfl) (F52.k3_ok W Q QP) (F52.k4_a W QP s h (F52.k3 W Q QP))
def F52.t5 (s : St) (h : AH) (C0 : KT) : Prop :=
  aIg true (s.tm 15) (
  pNil (s.tm 0) fun t16 =>
  pFld (some 0) t16 fun t17 =>
  lLd (some false) (some 1) t17 h fun t18 _ =>
  pNil (s.tm 0) fun t20 =>
  pFld (some 1) t20 fun t21 =>
  lLd (some false) (some 1) t21 h fun t22 _ =>
  pIxA (some (3, none)) t18 t22 fun t24 =>
  pFld (some 0) t24 fun t25 =>
  lLd (some false) (some 1) t25 h fun t26 _ =>
  pBin Tryd.prog .eql 3 true t26 (.sc (.int .i64 3)) fun t28 =>
  C0 ⟨puts s.tm [(16, (s.tm 0)), (17, t16), (18, t17), (19, t18), (20, (s.tm 0)), (21, t20), (22, t21), (23, t22), (24, t24), (25, t25), (26, t26), (27, t28)], s.ds⟩ h) (
  C0 ⟨puts s.tm [(16, noA), (17, noA), (18, noA), (19, noA), (20, noA), (21, noA), (22, noA), (23, noA), (24, noA), (25, noA), (26, noA), (27, noA)], s.ds⟩ h)
def F52.k5 (W : Nat → Prop) (Q : Post) (QP : PPost) (s : St) (h : AH) : Prop := F52.t5 s h (F52.k4 W Q QP)
theorem F52.k5_a (C0 : KT) : aIg true (s.tm 15) (evI Tryd.prog 44 (fun _ => W) nobody QP (regOps (F52.d [1, 0])) (isAt F52.g1 1) (C0) s h) ((C0) (skI 44 (regOps (F52.d [1, 0])) (isAt F52.g1 1) s) h) = F52.t5 s h C0 := by kernel_rfl
theorem F52.k5_ok : evG Tryd.prog 44 (fun _ => W) nobody QP (regOps (F52.d [1, 0])) (F52.g1.drop 1) ((thenQ (F52.k1 W Q QP) (Q)) .normal) s h = F52.k5 W Q QP s h := nd_gw (j := 10) (is := isAt F52.g1 1) (rest := F52.g1.drop 2) (by kernel_rfl) (d := 15) (by kernel_rfl) (F52.k4_ok W Q QP) (F52.k5_a W QP s h (F52.k4 W Q QP))
def F52.t6 (s : St) (h : AH) (C0 : KT) : Prop :=
  pNil (s.tm 0) fun t29 =>
  pFld (some 1) t29 fun t30 =>
  lLd (some false) (some 1) t30 h fun t31 _ =>
  pNil (s.tm 0) fun t33 =>
  pFld (some 0) t33 fun t34 =>
  lLd (some false) (some 1) t34 h fun t35 _ =>
  (strArg t35 = false) ∧ pLen t35 fun t37 =>
  pBin Tryd.prog .lss 3 false t31 t37 fun t38 =>
  C0 ⟨puts s.tm [(5, (s.tm 0)), (6, t29), (7, t30), (8, t31), (9, (s.tm 0)), (10, t33), (11, t34), (12, t35), (13, t37), (14, t38), (15, t38)], s.ds⟩ h
def F52.k6 (W : Nat → Prop) (Q : Post) (QP : PPost) (s : St) (h : AH) : Prop := F52.t6 s h (F52.k5 W Q QP)
theorem F52.k6_a (C0 : KT) : evI Tryd.prog 44 (fun _ => W) nobody QP (regOps (F52.d [1, 0])) (isAt F52.g1 0) (C0) s h = F52.t6 s h C0 := by kernel_rfl
theorem F52.k6_ok : evG Tryd.prog 44 (fun _ => W) nobody QP (regOps (F52.d [1, 0])) (F52.g1.drop 0) ((thenQ (F52.k1 W Q QP) (Q)) .normal) s h = F52.k6 W Q QP s h := nd_g (is := isAt F52.g1 0) (rest := F52.g1.drop 1) (by kernel_rfl) (F52.k5_ok W Q QP) (F52.k6_a W QP s h (F52.k5 W Q QP))
theorem F52.o1 : F52.cw W (F52.d [1, 0]) (thenQ (F52.k1 W Q QP) (Q)) QP s h = F52.k6 W Q QP s h := nd_groups (id := 1) (draw := true) (ops := (regOps (F52.d [1, 0]))) (gs := F52.g1.drop 0) (by kernel_rfl) (by kernel_rfl) (F52.k6_ok W Q QP s h)
theorem F52.o2 : F52.cw W (F52.d [1]) (Q) QP s h = F52.k6 W Q QP s h := nd_seq (a := (F52.d [1, 0])) (b := (F52.d [1, 1])) (by kernel_rfl) (F52.k1_ok W Q QP) (F52.o1 W Q QP s h)
def F52.t7 (s : St) (h : AH) (C0 : KT) : Prop :=
  C0 ⟨puts s.tm [(4, (.sc (.bool false)))], s.ds⟩ h
def F52.k7 (W : Nat → Prop) (Q : Post) (QP : PPost) (s : St) (h : AH) : Prop := F52.t7 s h (F52.k6 W Q QP)
theorem F52.k7_a (C0 : KT) : F52.cw W (F52.d [0]) (thenQ (C0) (Q)) QP s h = F52.t7 s h C0 := by kernel_rfl
theorem F52.k7_ok : F52.cw W (F52.d []) (Q) QP s h = F52.k7 W Q QP s h := nd_seq (a := (F52.d [0])) (b := (F52.d [1])) (by kernel_rfl) (F52.o2 W Q QP) (F52.k7_a W Q QP s h (F52.k6 W Q QP))
end
set_option maxRecDepth 100000 in
theorem F52.calls {x0 x1 : AV} {h : AH} {M : Nat → Prop} {R : AE → AH → Prop} (hp : F52.k7 (fun id => M id ∨ h.next ≤ id) (bodyQ Tryd.prog [.tmp 4] R) (bodyP R) (s0 [x0, x1]) h) : ACalls Tryd.prog 52 [x0, x1] h M R :=
  acalls_of (c := F52.code) Tryd.mixed Tryd.func52 (by kernel_rfl) (Nat.le_of_ble_eq_true rfl) F52.ok (by rw [show Tryd.f52.ntmps = 44 from rfl, show Tryd.f52.results.toList = [.tmp 4] from rfl]; exact Eq.mpr (F52.k7_ok _ _ _ _ _) hp)
attribute [simp] F52.k1 F52.t1 F52.k2 F52.t2 F52.k3 F52.t3 F52.k4 F52.t4 F52.k5 F52.t5 F52.k6 F52.t6 F52.k7 F52.t7

section
variable (W : Nat → Prop) (Q : Post) (QP : PPost) (s : St) (h : AH)
noncomputable def F38.code : Code := Tryd.f38.body.getD .skip
def F38.g1 : Grps := [(none, [(0, false), (1, false), (2, false), (3, false), (4, false), (5, false), (6, false), (7, false), (8, false), (9, false), (10, false)]), (some (10, true), [(11, false), (12, false), (13, false), (14, false), (15, false), (16, false), (17, false), (18, false), (19, false), (20, false), (21, false), (22, false)]), (none, [(23, false), (24, false)]), (some (24, true), [(25, false), (26, false), (27, false), (28, false), (29, false), (30, false), (31, false), (32, false), (33, false), (34, false), (35, false), (36, false), (37, false)]), (none, [(38, false), (39, false)])]
def F38.pl : Plans := [(1, ⟨F38.g1, false, [], []⟩)]
theorem F38.ok : okCode Tryd.prog F38.pl F38.code = true := by kernel_rfl
noncomputable abbrev F38.d (p : List Nat) : Code := Code.at F38.code p
abbrev F38.cw (W : Nat → Prop) (c : Code) (Q : Post) (QP : PPost) : KT := Go.Ab.aw Tryd.prog 42 W F38.pl c Q QP
def F38.t1 (Q : Post) (s : St) (h : AH) : Prop :=
  Q .ret s h
def F38.k1 (W : Nat → Prop) (Q : Post) (QP : PPost) (s : St) (h : AH) : Prop := F38.t1 Q s h
theorem F38.k1_a : F38.cw W (F38.d [1, 1]) (Q) QP s h = F38.t1 Q s h := by kernel_rfl
theorem F38.k1_ok : F38.cw W (F38.d [1, 1]) (Q) QP s h = F38.k1 W Q QP s h := (F38.k1_a W Q QP s h)
def F38.t2 (s : St) (h : AH) (C0 : KT) : Prop :=
  pPick (s.tm 27) (s.tm 40) (.sc (.bool false)) fun t1 =>
  C0 ⟨puts s.tm [(41, t1), (2, t1)], s.ds⟩ h
def F38.k2 (W : Nat → Prop) (Q : Post) (QP : PPost) (s : St) (h : AH) : Prop := F38.t2 s h (F38.k1 W Q QP)
theorem F38.k2_a (C0 : KT) : evI Tryd.prog 42 (fun _ => W) nobody QP (regOps (F38.d [1, 0])) (isAt F38.g1 4) ((thenQ (C0) (Q)) .normal) s h = F38.t2 s h C0 := by kernel_rfl
theorem F38.k2_ok : evG Tryd.prog 42 (fun _ => W) nobody QP (regOps (F38.d [1, 0])) (F38.g1.drop 4) ((thenQ (F38.k1 W Q QP) (Q)) .normal) s h = F38.k2 W Q QP s h := nd_g (is := isAt F38.g1 4) (rest := F38.g1.drop 5) (by kernel_rfl) (fun _ _ => rfl) (F38.k2_a W Q QP s h (F38.k1 W Q QP))
def F38.t3 (W : Nat → Prop) (QP : PPost) (s : St) (h : AH) (C0 : KT) : Prop :=
  aIg true (s.tm 27) (
  pNil (s.tm 0) fun t2 =>
  pFld (some 0) t2 fun t3 =>
  lLd (some false) (some 1) t3 h fun t4 _ =>
  pNil (s.tm 0) fun t6 =>
  pFld (some 1) t6 fun t7 =>
  lLd (some false) (some 1) t7 h fun t8 _ =>
  pIxA (some (3, none)) t4 t8 fun t10 =>
  pFld (some 1) t10 fun t11 =>
  lLd (some false) (some 1) t11 h fun t12 _ =>
  aCall Tryd.prog W 53 [t12] h (fun t14 h15 =>
  pUn .not t14 fun t16 =>
  C0 ⟨puts s.tm [(28, (s.tm 0)), (29, t2), (30, t3), (31, t4), (32, (s.tm 0)), (33, t6), (34, t7), (35, t8), (36, t10), (37, t11), (38, t12), (39, t14), (40, t16)], s.ds⟩ h15) (QP s.ds)) (
  C0 ⟨puts s.tm [(28, noA), (29, noA), (30, noA), (31, noA), (32, noA), (33, noA), (34, noA), (35, noA), (36, noA), (37, noA), (38, noA), (39, noA), (40, noA)], s.ds⟩ h)
def F38.k3 (W : Nat → Prop) (Q : Post) (QP : PPost) (s : St) (h : AH) : Prop := F38.t3 W QP s h (F38.k2 W Q QP)
theorem F38.k3_a (C0 : KT) : aIg true (s.tm 27) (evI Tryd.prog 42 (fun _ => W) nobody QP (regOps (F38.d [1, 0])) (isAt F38.g1 3) (C0) s h) ((C0) (skI 42 (regOps (F38.d [1, 0])) (isAt F38.g1 3) s) h) = F38.t3 W QP s h C0 := by kernel_rfl
theorem F38.k3_ok : evG Tryd.prog 42 (fun _ => W) nobody QP (regOps (F38.d [1, 0])) (F38.g1.drop 3) ((thenQ (F38.k1 W Q QP) (Q)) .normal) s h = F38.k3 W Q QP s h := nd_gw (j := 24) (is := isAt F38.g1 3) (rest := F38.g1.drop 4) (by kernel_rfl) (d := 27) (by kernel_rfl) (F38.k2_ok W Q QP) (F38.k3_a W QP s h (F38.k2 W Q QP))
def F38.t4 (s : St) (h : AH) (C0 : KT) : Prop :=
  pPick (s.tm 13) (s.tm 25) (.sc (.bool false)) fun t17 =>
  C0 ⟨puts s.tm [(26, t17), (27, t17)], s.ds⟩ h
def F38.k4 (W : Nat → Prop) (Q : Post) (QP : PPost) (s : St) (h : AH) : Prop := F38.t4 s h (F38.k3 W Q QP)
theorem F38.k4_a (C0 : KT) : evI Tryd.prog 42 (fun _ => W) nobody QP (regOps (F38.d [1, 0])) (isAt F38.g1 2) (C0) s h = F38.t4 s h C0 := by kernel_rfl
theorem F38.k4_ok : evG Tryd.prog 42 (fun _ => W) nobody QP (regOps (F38.d [1, 0])) (F38.g1.drop 2) ((thenQ (F38.k1 W Q QP) (Q)) .normal) s h = F38.k4 W Q QP s h := nd_g (is := isAt F38.g1 2) (rest := F38.g1.drop 3) (by kernel_rfl) (F38.k3_ok W Q QP) (F38.k4_a W QP s h (F38.k3 W Q QP))
def F38.t5 (s : St) (h : AH) (C0 : KT) : Prop :=
  aIg true (s.tm 13) (
  pNil (s.tm 0) fun t18 =>
  pFld (some 0) t18 fun t19 =>
  lLd (some false) (some 1) t19 h fun t20 _ =>
  pNil (s.tm 0) fun t22 =>
  pFld (some 1) t22 fun t23 =>
  lLd (some false) (some 1) t23 h fun t24 _ =>
  pIxA (some (3, none)) t20 t24 fun t26 =>
  pFld (some 0) t26 fun t27 =>
  lLd (some false) (some 1) t27 h fun t28 _ =>
  pBin Tryd.prog .eql 3 true t28 (.sc (.int .i64 1)) fun t30 =>
  C0 ⟨puts s.tm [(14, (s.tm 0)), (15, t18), (16, t19), (17, t20), (18, (s.tm 0)), (19, t22), (20, t23), (21, t24), (22, t26), (23, t27), (24, t28), (25, t30)], s.ds⟩ h) (
  C0 ⟨puts s.tm [(14, noA), (15, noA), (16, noA), (17, noA), (18, noA), (19, noA), (20, noA), (21, noA), (22, noA), (23, noA), (24, noA), (25, noA)], s.ds⟩ h)
def F38.k5 (W : Nat → Prop) (Q : Post) (QP : PPost) (s : St) (h : AH) : Prop := F38.t5 s h (F38.k4 W Q QP)
theorem F38.k5_a (C0 : KT) : aIg true (s.tm 13) (evI Tryd.prog 42 (fun _ => W) nobody QP (regOps (F38.d [1, 0])) (isAt F38.g1 1) (C0) s h) ((C0) (skI 42 (regOps (F38.d [1, 0])) (isAt F38.g1 1) s) h) = F38.t5 s h C0 := by kernel_rfl
theorem F38.k5_ok : evG Tryd.prog 42 (fun _ => W) nobody QP (regOps (F38.d [1, 0])) (F38.g1.drop 1) ((thenQ (F38.k1 W Q QP) (Q)) .normal) s h = F38.k5 W Q QP s h := nd_gw (j := 10) (is := isAt F38.g1 1) (rest := F38.g1.drop 2) (by kernel_rfl) (d := 13) (by kernel_rfl) (F38.k4_ok W Q QP) (F38.k5_a W QP s h (F38.k4 W Q QP))
def F38.t6 (s : St) (h : AH) (C0 : KT) : Prop :=
  pNil (s.tm 0) fun t31 =>
  pFld (some 1) t31 fun t32 =>
  lLd (some false) (some 1) t32 h fun t33 _ =>
  pNil (s.tm 0) fun t35 =>
  pFld (some 0) t35 fun t36 =>
  lLd (some false) (some 1) t36 h fun t37 _ =>
  (strArg t37 = false) ∧ pLen t37 fun t39 =>
  pBin Tryd.prog .lss 3 false t33 t39 fun t40 =>
  C0 ⟨puts s.tm [(3, (s.tm 0)), (4, t31), (5, t32), (6, t33), (7, (s.tm 0)), (8, t35), (9, t36), (10, t37), (11, t39), (12, t40), (13, t40)], s.ds⟩ h
def F38.k6 (W : Nat → Prop) (Q : Post) (QP : PPost) (s : St) (h : AH) : Prop := F38.t6 s h (F38.k5 W Q QP)
theorem F38.k6_a (C0 : KT) : evI Tryd.prog 42 (fun _ => W) nobody QP (regOps (F38.d [1, 0])) (isAt F38.g1 0) (C0) s h = F38.t6 s h C0 := by kernel_rfl
theorem F38.k6_ok : evG Tryd.prog 42 (fun _ => W) nobody QP (regOps (F38.d [1, 0])) (F38.g1.drop 0) ((thenQ (F38.k1 W Q QP) (Q)) .normal) s h = F38.k6 W Q QP s h := nd_g (is := isAt F38.g1 0) (rest := F38.g1.drop 1) (by kernel_rfl) (F38.k5_ok W Q QP) (F38.k6_a W QP s h (F38.k5 W Q QP))
theorem F38.o1 : F38.cw W (F38.d [1, 0]) (thenQ (F38.k1 W Q QP) (Q)) QP s h = F38.k6 W Q QP s h := nd_groups (id := 1) (draw := true) (ops := (regOps (F38.d [1, 0]))) (gs := F38.g1.drop 0) (by kernel_rfl) (by kernel_rfl) (F38.k6_ok W Q QP s h)
theorem F38.o2 : F38.cw W (F38.d [1]) (Q) QP s h = F38.k6 W Q QP s h := nd_seq (a := (F38.d [1, 0])) (b := (F38.d [1, 1])) (by kernel_rfl) (F38.k1_ok W Q QP) (F38.o1 W Q QP s h)
def F38.t7 (s : St) (h : AH) (C0 : KT) : Prop :=
  C0 ⟨puts s.tm [(2, (.sc (.bool false)))], s.ds⟩ h
def F38.k7 (W : Nat → Prop) (Q : Post) (QP : PPost) (s : St) (h : AH) : Prop := F38.t7 s h (F38.k6 W Q QP)
theorem F38.k7_a (C0 : KT) : F38.cw W (F38.d [0]) (thenQ (C0) (Q)) QP s h = F38.t7 s h C0 := by kernel_rfl
theorem F38.k7_ok : F38.cw W (F38.d []) (Q) QP s h = F38.k7 W Q QP s h := nd_seq (a := (F38.d [0])) (b := (F38.d [1])) (by kernel_rfl) (F38.o2 W Q QP) (F38.k7_a W Q QP s h (F38.k6 W Q QP))
end
set_option maxRecDepth 100000 in
theorem F38.calls {x0 : AV} {h : AH} {M : Nat → Prop} {R : AE → AH → Prop} (hp : F38.k7 (fun id => M id ∨ h.next ≤ id) (bodyQ Tryd.prog [.tmp 2] R) (bodyP R) (s0 [x0]) h) : ACalls Tryd.prog 38 [x0] h M R :=
  acalls_of (c := F38.code) Tryd.mixed Tryd.func38 (by kernel_rfl) (Nat.le_of_ble_eq_true rfl) F38.ok (by rw [show Tryd.f38.ntmps = 42 from rfl, show Tryd.f38.results.toList = [.tmp 2] from rfl]; exact Eq.mpr (F38.k7_ok _ _ _ _ _) hp)
attribute [simp] F38.k1 F38.t1 F38.k2 F38.t2 F38.k3 F38.t3 F38.k4 F38.t4 F38.k5 F38.t5 F38.k6 F38.t6 F38.k7 F38.t7

section
variable (W : Nat → Prop) (Q : Post) (QP : PPost) (s : St) (h : AH)
noncomputable def F34.code : Code := Tryd.f34.body.getD .skip
def F34.pl : Plans := [(1, ⟨[(none, [(0, false), (1, false), (2, false), (3, false), (4, false), (5, false), (6, false), (7, false), (8, false), (9, false)])], false, [], []⟩), (3, ⟨[(none, [(0, false), (1, false), (2, false), (3, false), (4, false), (5, false), (6, false), (7, false), (8, false), (9, false), (10, false), (11, false)])], false, [], []⟩)]
theorem F34.ok : okCode Tryd.prog F34.pl F34.code = true := by kernel_rfl
noncomputable abbrev F34.d (p : List Nat) : Code := Code.at F34.code p
abbrev F34.cw (W : Nat → Prop) (c : Code) (Q : Post) (QP : PPost) : KT := Go.Ab.aw Tryd.prog 46 W F34.pl c Q QP
def F34.t1 (W : Nat → Prop) (Q : Post) (s : St) (h : AH) : Prop :=
  lLd (some true) (some 3) (s.tm 5) h fun t1 _ =>
  eStore (some 3) (s.tm 4) t1 h W fun h3 =>
  Q .ret ⟨puts s.tm [(45, t1)], s.ds⟩ h3
def F34.k1 (W : Nat → Prop) (Q : Post) (QP : PPost) (s : St) (h : AH) : Prop := F34.t1 W Q s h
theorem F34.k1_a : F34.cw W (F34.d [1, 1, 1, 1, 1, 0]) (thenQ (F34.cw W (F34.d [1, 1, 1, 1, 1, 1]) (Q) QP) (Q)) QP s h = F34.t1 W Q s h := by kernel_rfl
theorem F34.k1_ok : F34.cw W (F34.d [1, 1, 1, 1, 1]) (Q) QP s h = F34.k1 W Q QP s h := nd_seq (a := (F34.d [1, 1, 1, 1, 1, 0])) (b := (F34.d [1, 1, 1, 1, 1, 1])) (by kernel_rfl) (fun _ _ => rfl) (F34.k1_a W Q QP s h)
def F34.t2 (W : Nat → Prop) (s : St) (h : AH) (C0 : KT) : Prop :=
  pNil (s.tm 0) fun t4 =>
  pFld (some 1) t4 fun t5 =>
  lLd (some false) (some 1) t5 h fun t6 _ =>
  pBin Tryd.prog .add 3 true t6 (.sc (.int .i64 1)) fun t8 =>
  pNil (s.tm 0) fun t9 =>
  pFld (some 1) t9 fun t10 =>
  eStore (some 1) t10 t8 h W fun h11 =>
  C0 ⟨puts s.tm [(38, (s.tm 0)), (39, t4), (40, t5), (41, t6), (42, t8), (43, t9), (44, t10)], s.ds⟩ h11
def F34.k2 (W : Nat → Prop) (Q : Post) (QP : PPost) (s : St) (h : AH) : Prop := F34.t2 W s h (F34.k1 W Q QP)
theorem F34.k2_a (C0 : KT) : F34.cw W (F34.d [1, 1, 1, 1, 0]) (thenQ (C0) (Q)) QP s h = F34.t2 W s h C0 := by kernel_rfl
theorem F34.k2_ok : F34.cw W (F34.d [1, 1, 1, 1]) (Q) QP s h = F34.k2 W Q QP s h := nd_seq (a := (F34.d [1, 1, 1, 1, 0])) (b := (F34.d [1, 1, 1, 1, 1])) (by kernel_rfl) (F34.k1_ok W Q QP) (F34.k2_a W Q QP s h (F34.k1 W Q QP))
def F34.t3 (QP : PPost) (s : St) (h : AH) (C0 : KT) : Prop :=
  aIf (s.tm 33) (
  pFld (some 2) (s.tm 5) fun t12 =>
  lLd (some false) (some 1) t12 h fun t13 _ =>
  pBld (some ([.int .i64 0, .int .i64 0], .inl [(0, 1), (1, 1)])) [(0, t13), (1, (.sc (.int .i64 100)))] fun t15 =>
  pMkI (some false) 58 t15 fun t16 =>
  aPan t16 h (QP s.ds)) (
  C0 s h)
def F34.k3 (W : Nat → Prop) (Q : Post) (QP : PPost) (s : St) (h : AH) : Prop := F34.t3 QP s h (F34.k2 W Q QP)
theorem F34.k3_a (C0 : KT) : aIf (aev s (.tmp 33)) (F34.cw W (F34.d [1, 1, 1, 0, 1, 0]) (thenQ (C0) (Q)) QP s h) (F34.cw W (F34.d [1, 1, 1, 0, 1, 1]) (thenQ (C0) (Q)) QP s h) = F34.t3 QP s h C0 := by kernel_rfl
theorem F34.k3_ok : F34.cw W (F34.d [1, 1, 1, 0, 1]) (thenQ (F34.k2 W Q QP) (Q)) QP s h = F34.k3 W Q QP s h := nd_cond (a := (F34.d [1, 1, 1, 0, 1, 0])) (b := (F34.d [1, 1, 1, 0, 1, 1])) (by kernel_rfl) rfl rfl (F34.k3_a W Q QP s h (F34.k2 W Q QP))
def F34.t4 (s : St) (h : AH) (C0 C1 : KT) : Prop :=
  pUn .not (s.tm 1) fun t17 =>
  C1 ⟨puts s.tm [(32, (s.tm 1)), (33, t17)], s.ds⟩ h
def F34.k4 (W : Nat → Prop) (Q : Post) (QP : PPost) (s : St) (h : AH) : Prop := F34.t4 s h (F34.k2 W Q QP) (F34.k3 W Q QP)
theorem F34.k4_a (C0 C1 : KT) : F34.cw W (F34.d [1, 1, 1, 0, 0]) (thenQ (C1) (thenQ (C0) (Q))) QP s h = F34.t4 s h C0 C1 := by kernel_rfl
theorem F34.k4_ok : F34.cw W (F34.d [1, 1, 1, 0]) (thenQ (F34.k2 W Q QP) (Q)) QP s h = F34.k4 W Q QP s h := nd_seq (a := (F34.d [1, 1, 1, 0, 0])) (b := (F34.d [1, 1, 1, 0, 1])) (by kernel_rfl) (F34.k3_ok W Q QP) (F34.k4_a W Q QP s h (F34.k2 W Q QP) (F34.k3 W Q QP))
theorem F34.o1 : F34.cw W (F34.d [1, 1, 1]) (Q) QP s h = F34.k4 W Q QP s h := nd_seq (a := (F34.d [1, 1, 1, 0])) (b := (F34.d [1, 1, 1, 1])) (by kernel_rfl) (F34.k2_ok W Q QP) (F34.k4_ok W Q QP s h)
def F34.t5 (W : Nat → Prop) (s : St) (h : AH) (C0 : KT) : Prop :=
  pNil (s.tm 0) fun t18 =>
  pFld (some 0) t18 fun t19 =>
  lLd (some false) (some 1) t19 h fun t20 _ =>
  pNil (s.tm 0) fun t22 =>
  pFld (some 1) t22 fun t23 =>
  lLd (some false) (some 1) t23 h fun t24 _ =>
  pIxA (some (3, none)) t20 t24 fun t26 =>
  lLd (some true) (some 3) t26 h fun t27 _ =>
  eAlloc (some [.int .i64 0, .string ⟨#[]⟩, .int .i64 0]) 3 77 h fun t29 h30 =>
  eStore (some 3) t29 t27 h30 W fun h31 =>
  C0 ⟨puts s.tm [(22, (s.tm 0)), (23, t18), (24, t19), (25, t20), (26, (s.tm 0)), (27, t22), (28, t23), (29, t24), (30, t26), (31, t27), (5, t29)], s.ds⟩ h31
def F34.k5 (W : Nat → Prop) (Q : Post) (QP : PPost) (s : St) (h : AH) : Prop := F34.t5 W s h (F34.k4 W Q QP)
theorem F34.k5_a (C0 : KT) : F34.cw W (F34.d [1, 1, 0]) (thenQ (C0) (Q)) QP s h = F34.t5 W s h C0 := by kernel_rfl
theorem F34.k5_ok : F34.cw W (F34.d [1, 1]) (Q) QP s h = F34.k5 W Q QP s h := nd_seq (a := (F34.d [1, 1, 0])) (b := (F34.d [1, 1, 1])) (by kernel_rfl) (F34.o1 W Q QP) (F34.k5_a W Q QP s h (F34.k4 W Q QP))
def F34.t6 (QP : PPost) (s : St) (h : AH) (C0 : KT) : Prop :=
  aIf (s.tm 15) (
  pNil (s.tm 0) fun t32 =>
  pFld (some 2) t32 fun t33 =>
  lLd (some false) (some 1) t33 h fun t34 _ =>
  pBld (some ([.int .i64 0, .int .i64 0], .inl [(0, 1), (1, 1)])) [(0, t34), (1, (.sc (.int .i64 101)))] fun t36 =>
  pMkI (some false) 58 t36 fun t37 =>
  aPan t37 h (QP s.ds)) (
  C0 s h)
def F34.k6 (W : Nat → Prop) (Q : Post) (QP : PPost) (s : St) (h : AH) : Prop := F34.t6 QP s h (F34.k5 W Q QP)
theorem F34.k6_a (C0 : KT) : aIf (aev s (.tmp 15)) (F34.cw W (F34.d [1, 0, 1, 0]) (thenQ (C0) (Q)) QP s h) (F34.cw W (F34.d [1, 0, 1, 1]) (thenQ (C0) (Q)) QP s h) = F34.t6 QP s h C0 := by kernel_rfl
theorem F34.k6_ok : F34.cw W (F34.d [1, 0, 1]) (thenQ (F34.k5 W Q QP) (Q)) QP s h = F34.k6 W Q QP s h := nd_cond (a := (F34.d [1, 0, 1, 0])) (b := (F34.d [1, 0, 1, 1])) (by kernel_rfl) rfl rfl (F34.k6_a W Q QP s h (F34.k5 W Q QP))
def F34.t7 (s : St) (h : AH) (C0 C1 : KT) : Prop :=
  pNil (s.tm 0) fun t38 =>
  pFld (some 1) t38 fun t39 =>
  lLd (some false) (some 1) t39 h fun t40 _ =>
  pNil (s.tm 0) fun t42 =>
  pFld (some 0) t42 fun t43 =>
  lLd (some false) (some 1) t43 h fun t44 _ =>
  (strArg t44 = false) ∧ pLen t44 fun t46 =>
  pBin Tryd.prog .geq 3 false t40 t46 fun t47 =>
  C1 ⟨puts s.tm [(6, (s.tm 0)), (7, t38), (8, t39), (9, t40), (10, (s.tm 0)), (11, t42), (12, t43), (13, t44), (14, t46), (15, t47)], s.ds⟩ h
def F34.k7 (W : Nat → Prop) (Q : Post) (QP : PPost) (s : St) (h : AH) : Prop := F34.t7 s h (F34.k5 W Q QP) (F34.k6 W Q QP)
theorem F34.k7_a (C0 C1 : KT) : F34.cw W (F34.d [1, 0, 0]) (thenQ (C1) (thenQ (C0) (Q))) QP s h = F34.t7 s h C0 C1 := by kernel_rfl
theorem F34.k7_ok : F34.cw W (F34.d [1, 0]) (thenQ (F34.k5 W Q QP) (Q)) QP s h = F34.k7 W Q QP s h := nd_seq (a := (F34.d [1, 0, 0])) (b := (F34.d [1, 0, 1])) (by kernel_rfl) (F34.k6_ok W Q QP) (F34.k7_a W Q QP s h (F34.k5 W Q QP) (F34.k6 W Q QP))
theorem F34.o2 : F34.cw W (F34.d [1]) (Q) QP s h = F34.k7 W Q QP s h := nd_seq (a := (F34.d [1, 0])) (b := (F34.d [1, 1])) (by kernel_rfl) (F34.k5_ok W Q QP) (F34.k7_ok W Q QP s h)
def F34.t8 (s : St) (h : AH) (C0 : KT) : Prop :=
  eAlloc (some [.int .i64 0, .string ⟨#[]⟩, .int .i64 0]) 3 77 h fun t48 h49 =>
  C0 ⟨puts s.tm [(4, t48)], s.ds⟩ h49
def F34.k8 (W : Nat → Prop) (Q : Post) (QP : PPost) (s : St) (h : AH) : Prop := F34.t8 s h (F34.k7 W Q QP)
theorem F34.k8_a (C0 : KT) : F34.cw W (F34.d [0]) (thenQ (C0) (Q)) QP s h = F34.t8 s h C0 := by kernel_rfl
theorem F34.k8_ok : F34.cw W (F34.d []) (Q) QP s h = F34.k8 W Q QP s h := nd_seq (a := (F34.d [0])) (b := (F34.d [1])) (by kernel_rfl) (F34.o2 W Q QP) (F34.k8_a W Q QP s h (F34.k7 W Q QP))
end
set_option maxRecDepth 100000 in
theorem F34.calls {x0 x1 : AV} {h : AH} {M : Nat → Prop} {R : AE → AH → Prop} (hp : F34.k8 (fun id => M id ∨ h.next ≤ id) (bodyQ Tryd.prog [.cell 4 77] R) (bodyP R) (s0 [x0, x1]) h) : ACalls Tryd.prog 34 [x0, x1] h M R :=
  acalls_of (c := F34.code) Tryd.mixed Tryd.func34 (by kernel_rfl) (Nat.le_of_ble_eq_true rfl) F34.ok (by rw [show Tryd.f34.ntmps = 46 from rfl, show Tryd.f34.results.toList = [.cell 4 77] from rfl]; exact Eq.mpr (F34.k8_ok _ _ _ _ _) hp)
attribute [simp] F34.k1 F34.t1 F34.k2 F34.t2 F34.k3 F34.t3 F34.k4 F34.t4 F34.k5 F34.t5 F34.k6 F34.t6 F34.k7 F34.t7 F34.k8 F34.t8

section
variable (W : Nat → Prop) (Q : Post) (QP : PPost) (s : St) (h : AH)
noncomputable def F37.code : Code := Tryd.f37.body.getD .skip
def F37.pl : Plans := []
theorem F37.ok : okCode Tryd.prog F37.pl F37.code = true := by kernel_rfl
noncomputable abbrev F37.d (p : List Nat) : Code := Code.at F37.code p
abbrev F37.cw (W : Nat → Prop) (c : Code) (Q : Post) (QP : PPost) : KT := Go.Ab.aw Tryd.prog 10 W F37.pl c Q QP
def F37.t1 (W : Nat → Prop) (Q : Post) (QP : PPost) (s : St) (h : AH) : Prop :=
  aCall Tryd.prog W 52 [(s.tm 0), (s.tm 1)] h (fun t1 h2 =>
  aCall Tryd.prog W 34 [(s.tm 0), t1] h2 (fun t3 h4 =>
  eStore (some 3) (s.tm 4) t3 h4 W fun h5 =>
  Q .ret ⟨puts s.tm [(5, (s.tm 0)), (6, (s.tm 0)), (7, (s.tm 1)), (8, t1), (9, t3)], s.ds⟩ h5) (QP s.ds)) (QP s.ds)
def F37.k1 (W : Nat → Prop) (Q : Post) (QP : PPost) (s : St) (h : AH) : Prop := F37.t1 W Q QP s h
theorem F37.k1_a : F37.cw W (F37.d [1, 0]) (thenQ (F37.cw W (F37.d [1, 1]) (Q) QP) (Q)) QP s h = F37.t1 W Q QP s h := by kernel_rfl
theorem F37.k1_ok : F37.cw W (F37.d [1]) (Q) QP s h = F37.k1 W Q QP s h := nd_seq (a := (F37.d [1, 0])) (b := (F37.d [1, 1])) (by kernel_rfl) (fun _ _ => rfl) (F37.k1_a W Q QP s h)
def F37.t2 (s : St) (h : AH) (C0 : KT) : Prop :=
  eAlloc (some [.int .i64 0, .string ⟨#[]⟩, .int .i64 0]) 3 77 h fun t6 h7 =>
  C0 ⟨puts s.tm [(4, t6)], s.ds⟩ h7
def F37.k2 (W : Nat → Prop) (Q : Post) (QP : PPost) (s : St) (h : AH) : Prop := F37.t2 s h (F37.k1 W Q QP)
theorem F37.k2_a (C0 : KT) : F37.cw W (F37.d [0]) (thenQ (C0) (Q)) QP s h = F37.t2 s h C0 := by kernel_rfl
theorem F37.k2_ok : F37.cw W (F37.d []) (Q) QP s h = F37.k2 W Q QP s h := nd_seq (a := (F37.d [0])) (b := (F37.d [1])) (by kernel_rfl) (F37.k1_ok W Q QP) (F37.k2_a W Q QP s h (F37.k1 W Q QP))
end
set_option maxRecDepth 100000 in
theorem F37.calls {x0 x1 : AV} {h : AH} {M : Nat → Prop} {R : AE → AH → Prop} (hp : F37.k2 (fun id => M id ∨ h.next ≤ id) (bodyQ Tryd.prog [.cell 4 77] R) (bodyP R) (s0 [x0, x1]) h) : ACalls Tryd.prog 37 [x0, x1] h M R :=
  acalls_of (c := F37.code) Tryd.mixed Tryd.func37 (by kernel_rfl) (Nat.le_of_ble_eq_true rfl) F37.ok (by rw [show Tryd.f37.ntmps = 10 from rfl, show Tryd.f37.results.toList = [.cell 4 77] from rfl]; exact Eq.mpr (F37.k2_ok _ _ _ _ _) hp)
attribute [simp] F37.k1 F37.t1 F37.k2 F37.t2

section
variable (W : Nat → Prop) (Q : Post) (QP : PPost) (s : St) (h : AH)
noncomputable def F35.code : Code := Tryd.f35.body.getD .skip
def F35.pl : Plans := []
theorem F35.ok : okCode Tryd.prog F35.pl F35.code = true := by kernel_rfl
noncomputable abbrev F35.d (p : List Nat) : Code := Code.at F35.code p
abbrev F35.cw (W : Nat → Prop) (c : Code) (Q : Post) (QP : PPost) : KT := Go.Ab.aw Tryd.prog 8 W F35.pl c Q QP
def F35.t1 (W : Nat → Prop) (Q : Post) (QP : PPost) (s : St) (h : AH) : Prop :=
  aCall Tryd.prog W 38 [(s.tm 0)] h (fun t1 h2 =>
  aCall Tryd.prog W 34 [(s.tm 0), t1] h2 (fun t3 h4 =>
  pFdV (some (1, 1, false)) t3 fun t5 =>
  Q .ret ⟨puts s.tm [(3, (s.tm 0)), (4, (s.tm 0)), (5, t1), (6, t3), (7, t5), (2, t5)], s.ds⟩ h4) (QP s.ds)) (QP s.ds)
def F35.k1 (W : Nat → Prop) (Q : Post) (QP : PPost) (s : St) (h : AH) : Prop := F35.t1 W Q QP s h
theorem F35.k1_a : F35.cw W (F35.d [1, 0]) (thenQ (F35.cw W (F35.d [1, 1]) (Q) QP) (Q)) QP s h = F35.t1 W Q QP s h := by kernel_rfl
theorem F35.k1_ok : F35.cw W (F35.d [1]) (Q) QP s h = F35.k1 W Q QP s h := nd_seq (a := (F35.d [1, 0])) (b := (F35.d [1, 1])) (by kernel_rfl) (fun _ _ => rfl) (F35.k1_a W Q QP s h)
def F35.t2 (s : St) (h : AH) (C0 : KT) : Prop :=
  C0 ⟨puts s.tm [(2, (.sc (.string ⟨#[]⟩)))], s.ds⟩ h
def F35.k2 (W : Nat → Prop) (Q : Post) (QP : PPost) (s : St) (h : AH) : Prop := F35.t2 s h (F35.k1 W Q QP)
theorem F35.k2_a (C0 : KT) : F35.cw W (F35.d [0]) (thenQ (C0) (Q)) QP s h = F35.t2 s h C0 := by kernel_rfl
theorem F35.k2_ok : F35.cw W (F35.d []) (Q) QP s h = F35.k2 W Q QP s h := nd_seq (a := (F35.d [0])) (b := (F35.d [1])) (by kernel_rfl) (F35.k1_ok W Q QP) (F35.k2_a W Q QP s h (F35.k1 W Q QP))
end
set_option maxRecDepth 100000 in
theorem F35.calls {x0 : AV} {h : AH} {M : Nat → Prop} {R : AE → AH → Prop} (hp : F35.k2 (fun id => M id ∨ h.next ≤ id) (bodyQ Tryd.prog [.tmp 2] R) (bodyP R) (s0 [x0]) h) : ACalls Tryd.prog 35 [x0] h M R :=
  acalls_of (c := F35.code) Tryd.mixed Tryd.func35 (by kernel_rfl) (Nat.le_of_ble_eq_true rfl) F35.ok (by rw [show Tryd.f35.ntmps = 8 from rfl, show Tryd.f35.results.toList = [.tmp 2] from rfl]; exact Eq.mpr (F35.k2_ok _ _ _ _ _) hp)
attribute [simp] F35.k1 F35.t1 F35.k2 F35.t2

section
variable (W : Nat → Prop) (Q : Post) (QP : PPost) (s : St) (h : AH)
noncomputable def F36.code : Code := Tryd.f36.body.getD .skip
def F36.pl : Plans := [(1, ⟨[(none, [(0, false), (1, false), (2, false), (3, false), (4, false), (5, false), (6, false), (7, false), (8, false), (9, false), (10, false), (11, false)]), (some (11, true), [(12, false), (13, false), (14, false), (15, false), (16, false), (17, false), (18, false), (19, false), (20, false), (21, false), (22, false), (23, false)]), (none, [(24, false)])], false, [.mk [(25, false), (26, false), (27, false)] [], .mk [(26, false), (25, false), (27, false)] []], []⟩)]
theorem F36.ok : okCode Tryd.prog F36.pl F36.code = true := by kernel_rfl
noncomputable abbrev F36.d (p : List Nat) : Code := Code.at F36.code p
abbrev F36.cw (W : Nat → Prop) (c : Code) (Q : Post) (QP : PPost) : KT := Go.Ab.aw Tryd.prog 52 W F36.pl c Q QP
def F36.t1 (Q : Post) (s : St) (h : AH) : Prop :=
  Q .ret ⟨puts s.tm [(51, (s.tm 4)), (2, (s.tm 4))], s.ds⟩ h
def F36.k1 (W : Nat → Prop) (Q : Post) (QP : PPost) (s : St) (h : AH) : Prop := F36.t1 Q s h
theorem F36.k1_a : F36.cw W (F36.d [1, 1, 1, 1, 0]) (thenQ (F36.cw W (F36.d [1, 1, 1, 1, 1]) (Q) QP) (Q)) QP s h = F36.t1 Q s h := by kernel_rfl
theorem F36.k1_ok : F36.cw W (F36.d [1, 1, 1, 1]) (Q) QP s h = F36.k1 W Q QP s h := nd_seq (a := (F36.d [1, 1, 1, 1, 0])) (b := (F36.d [1, 1, 1, 1, 1])) (by kernel_rfl) (fun _ _ => rfl) (F36.k1_a W Q QP s h)
def F36.t2 (Q : Post) (QP : PPost) (s : St) (h : AH) : Prop :=
  aIf (s.tm 46) (
  pFld (some 2) (s.tm 3) fun t1 =>
  lLd (some false) (some 1) t1 h fun t2 _ =>
  pBld (some ([.int .i64 0, .int .i64 0], .inl [(0, 1), (1, 1)])) [(0, t2), (1, (.sc (.int .i64 1)))] fun t4 =>
  pMkI (some false) 58 t4 fun t5 =>
  aPan t5 h (QP s.ds)) (
  Q .normal s h)
def F36.k2 (W : Nat → Prop) (Q : Post) (QP : PPost) (s : St) (h : AH) : Prop := F36.t2 Q QP s h
theorem F36.k2_a : aIf (aev s (.tmp 46)) (F36.cw W (F36.d [1, 1, 1, 0, 1, 0, 0, 1, 1, 0, 1, 1, 1, 0]) (blockQ 1 (Q)) QP s h) (F36.cw W (F36.d [1, 1, 1, 0, 1, 0, 0, 1, 1, 0, 1, 1, 1, 1]) (blockQ 1 (Q)) QP s h) = F36.t2 Q QP s h := by kernel_rfl
theorem F36.k2_ok : F36.cw W (F36.d [1, 1, 1, 0, 1, 0, 0, 1, 1, 0, 1, 1, 1]) (blockQ 1 (Q)) QP s h = F36.k2 W Q QP s h := nd_cond (a := (F36.d [1, 1, 1, 0, 1, 0, 0, 1, 1, 0, 1, 1, 1, 0])) (b := (F36.d [1, 1, 1, 0, 1, 0, 0, 1, 1, 0, 1, 1, 1, 1])) (by kernel_rfl) rfl rfl (F36.k2_a W Q QP s h)
def F36.t3 (s : St) (h : AH) (C0 : KT) : Prop :=
  pBin Tryd.prog .gtr 3 true (s.tm 4) (.sc (.int .i64 9007199254740991)) fun t6 =>
  C0 ⟨puts s.tm [(45, (s.tm 4)), (46, t6)], s.ds⟩ h
def F36.k3 (W : Nat → Prop) (Q : Post) (QP : PPost) (s : St) (h : AH) : Prop := F36.t3 s h (F36.k2 W Q QP)
theorem F36.k3_a (C0 : KT) : F36.cw W (F36.d [1, 1, 1, 0, 1, 0, 0, 1, 1, 0, 1, 1, 0]) (thenQ (C0) (blockQ 1 (Q))) QP s h = F36.t3 s h C0 := by kernel_rfl
theorem F36.k3_ok : F36.cw W (F36.d [1, 1, 1, 0, 1, 0, 0, 1, 1, 0, 1, 1]) (blockQ 1 (Q)) QP s h = F36.k3 W Q QP s h := nd_seq (a := (F36.d [1, 1, 1, 0, 1, 0, 0, 1, 1, 0, 1, 1, 0])) (b := (F36.d [1, 1, 1, 0, 1, 0, 0, 1, 1, 0, 1, 1, 1])) (by kernel_rfl) (F36.k2_ok W Q QP) (F36.k3_a W Q QP s h (F36.k2 W Q QP))
def F36.t4 (s : St) (h : AH) (C0 : KT) : Prop :=
  pBin Tryd.prog .mul 3 true (s.tm 4) (.sc (.int .i64 10)) fun t7 =>
  pBin Tryd.prog .sub 21 true (s.tm 6) (.sc (.int .i32 48)) fun t8 =>
  pCnv (some .i64) t8 fun t9 =>
  pBin Tryd.prog .add 3 false t7 t9 fun t10 =>
  C0 ⟨puts s.tm [(39, (s.tm 4)), (40, t7), (41, (s.tm 6)), (42, t8), (43, t9), (44, t10), (4, t10)], s.ds⟩ h
def F36.k4 (W : Nat → Prop) (Q : Post) (QP : PPost) (s : St) (h : AH) : Prop := F36.t4 s h (F36.k3 W Q QP)
theorem F36.k4_a (C0 : KT) : F36.cw W (F36.d [1, 1, 1, 0, 1, 0, 0, 1, 1, 0, 1, 0]) (thenQ (C0) (blockQ 1 (Q))) QP s h = F36.t4 s h C0 := by kernel_rfl
theorem F36.k4_ok : F36.cw W (F36.d [1, 1, 1, 0, 1, 0, 0, 1, 1, 0, 1]) (blockQ 1 (Q)) QP s h = F36.k4 W Q QP s h := nd_seq (a := (F36.d [1, 1, 1, 0, 1, 0, 0, 1, 1, 0, 1, 0])) (b := (F36.d [1, 1, 1, 0, 1, 0, 0, 1, 1, 0, 1, 1])) (by kernel_rfl) (F36.k3_ok W Q QP) (F36.k4_a W Q QP s h (F36.k3 W Q QP))
def F36.t5 (s : St) (h : AH) (C0 : KT) : Prop :=
  pExt (s.tm 36) 2 fun t11 =>
  C0 ⟨puts s.tm [(38, t11), (6, t11)], s.ds⟩ h
def F36.k5 (W : Nat → Prop) (Q : Post) (QP : PPost) (s : St) (h : AH) : Prop := F36.t5 s h (F36.k4 W Q QP)
theorem F36.k5_a (C0 : KT) : F36.cw W (F36.d [1, 1, 1, 0, 1, 0, 0, 1, 1, 0, 0]) (thenQ (C0) (blockQ 1 (Q))) QP s h = F36.t5 s h C0 := by kernel_rfl
theorem F36.k5_ok : F36.cw W (F36.d [1, 1, 1, 0, 1, 0, 0, 1, 1, 0]) (blockQ 1 (Q)) QP s h = F36.k5 W Q QP s h := nd_seq (a := (F36.d [1, 1, 1, 0, 1, 0, 0, 1, 1, 0, 0])) (b := (F36.d [1, 1, 1, 0, 1, 0, 0, 1, 1, 0, 1])) (by kernel_rfl) (F36.k4_ok W Q QP) (F36.k5_a W Q QP s h (F36.k4 W Q QP))
theorem F36.o1 : F36.cw W (F36.d [1, 1, 1, 0, 1, 0, 0, 1, 1]) (Q) QP s h = F36.k5 W Q QP s h := nd_block (a := (F36.d [1, 1, 1, 0, 1, 0, 0, 1, 1, 0])) (by kernel_rfl) (F36.k5_ok W Q QP s h)
def F36.t6 (Q : Post) (s : St) (h : AH) (C0 : KT) : Prop :=
  aIf (s.tm 37) (
  C0 s h) (
  Q (.exit 0) s h)
def F36.k6 (W : Nat → Prop) (Q : Post) (QP : PPost) (s : St) (h : AH) : Prop := F36.t6 Q s h (F36.k5 W Q QP)
theorem F36.k6_a (C0 : KT) : aIf (aev s (.tmp 37)) (F36.cw W (F36.d [1, 1, 1, 0, 1, 0, 0, 1, 0, 0]) (thenQ (C0) (Q)) QP s h) (F36.cw W (F36.d [1, 1, 1, 0, 1, 0, 0, 1, 0, 1]) (thenQ (C0) (Q)) QP s h) = F36.t6 Q s h C0 := by kernel_rfl
theorem F36.k6_ok : F36.cw W (F36.d [1, 1, 1, 0, 1, 0, 0, 1, 0]) (thenQ (F36.k5 W Q QP) (Q)) QP s h = F36.k6 W Q QP s h := nd_cond (a := (F36.d [1, 1, 1, 0, 1, 0, 0, 1, 0, 0])) (b := (F36.d [1, 1, 1, 0, 1, 0, 0, 1, 0, 1])) (by kernel_rfl) rfl rfl (F36.k6_a W Q QP s h (F36.k5 W Q QP))
theorem F36.o2 : F36.cw W (F36.d [1, 1, 1, 0, 1, 0, 0, 1]) (Q) QP s h = F36.k6 W Q QP s h := nd_seq (a := (F36.d [1, 1, 1, 0, 1, 0, 0, 1, 0])) (b := (F36.d [1, 1, 1, 0, 1, 0, 0, 1, 1])) (by kernel_rfl) (F36.o1 W Q QP) (F36.k6_ok W Q QP s h)
def F36.t7 (W : Nat → Prop) (s : St) (h : AH) (C0 : KT) : Prop :=
  eNext (s.tm 35) h W fun t12 h13 =>
  pExt t12 0 fun t14 =>
  C0 ⟨puts s.tm [(36, t12), (37, t14)], s.ds⟩ h13
def F36.k7 (W : Nat → Prop) (Q : Post) (QP : PPost) (s : St) (h : AH) : Prop := F36.t7 W s h (F36.k6 W Q QP)
theorem F36.k7_a (C0 : KT) : F36.cw W (F36.d [1, 1, 1, 0, 1, 0, 0, 0]) (thenQ (C0) (Q)) QP s h = F36.t7 W s h C0 := by kernel_rfl
theorem F36.k7_ok : F36.cw W (F36.d [1, 1, 1, 0, 1, 0, 0]) (Q) QP s h = F36.k7 W Q QP s h := nd_seq (a := (F36.d [1, 1, 1, 0, 1, 0, 0, 0])) (b := (F36.d [1, 1, 1, 0, 1, 0, 0, 1])) (by kernel_rfl) (F36.o2 W Q QP) (F36.k7_a W Q QP s h (F36.k6 W Q QP))
noncomputable def F36.c1 : Code := (F36.d [1, 1, 1, 0, 1, 0, 0])
theorem F36.l1 : aw Tryd.prog 52 W F36.pl F36.c1 Q QP s h = F36.k7 W Q QP s h := F36.k7_ok W Q QP s h
def F36.k8 (W : Nat → Prop) (Q : Post) (QP : PPost) (s : St) (h : AH) : Prop := aLoop (aw Tryd.prog 52 W F36.pl F36.c1) (blockQ 0 (thenQ (F36.k1 W Q QP) (Q))) QP s h
theorem F36.k8_ok : F36.cw W (F36.d [1, 1, 1, 0, 1, 0]) (blockQ 0 (thenQ (F36.k1 W Q QP) (Q))) QP s h = F36.k8 W Q QP s h := nd_loop (a := F36.c1) (by kernel_rfl)
theorem F36.o3 : F36.cw W (F36.d [1, 1, 1, 0, 1]) (thenQ (F36.k1 W Q QP) (Q)) QP s h = F36.k8 W Q QP s h := nd_block (a := (F36.d [1, 1, 1, 0, 1, 0])) (by kernel_rfl) (F36.k8_ok W Q QP s h)
def F36.t9 (s : St) (h : AH) (C0 C1 : KT) : Prop :=
  pFld (some 1) (s.tm 3) fun t15 =>
  lLd (some false) (some 1) t15 h fun t16 _ =>
  eRange true t16 h fun t18 h19 =>
  C1 ⟨puts s.tm [(33, t15), (34, t16), (35, t18)], s.ds⟩ h19
def F36.k9 (W : Nat → Prop) (Q : Post) (QP : PPost) (s : St) (h : AH) : Prop := F36.t9 s h (F36.k1 W Q QP) (F36.k8 W Q QP)
theorem F36.k9_a (C0 C1 : KT) : F36.cw W (F36.d [1, 1, 1, 0, 0]) (thenQ (C1) (thenQ (C0) (Q))) QP s h = F36.t9 s h C0 C1 := by kernel_rfl
theorem F36.k9_ok : F36.cw W (F36.d [1, 1, 1, 0]) (thenQ (F36.k1 W Q QP) (Q)) QP s h = F36.k9 W Q QP s h := nd_seq (a := (F36.d [1, 1, 1, 0, 0])) (b := (F36.d [1, 1, 1, 0, 1])) (by kernel_rfl) (F36.o3 W Q QP) (F36.k9_a W Q QP s h (F36.k1 W Q QP) (F36.k8 W Q QP))
theorem F36.o4 : F36.cw W (F36.d [1, 1, 1]) (Q) QP s h = F36.k9 W Q QP s h := nd_seq (a := (F36.d [1, 1, 1, 0])) (b := (F36.d [1, 1, 1, 1])) (by kernel_rfl) (F36.k1_ok W Q QP) (F36.k9_ok W Q QP s h)
def F36.t10 (s : St) (h : AH) (C0 : KT) : Prop :=
  C0 ⟨puts s.tm [(4, (.sc (.int .i64 0)))], s.ds⟩ h
def F36.k10 (W : Nat → Prop) (Q : Post) (QP : PPost) (s : St) (h : AH) : Prop := F36.t10 s h (F36.k9 W Q QP)
theorem F36.k10_a (C0 : KT) : F36.cw W (F36.d [1, 1, 0]) (thenQ (C0) (Q)) QP s h = F36.t10 s h C0 := by kernel_rfl
theorem F36.k10_ok : F36.cw W (F36.d [1, 1]) (Q) QP s h = F36.k10 W Q QP s h := nd_seq (a := (F36.d [1, 1, 0])) (b := (F36.d [1, 1, 1])) (by kernel_rfl) (F36.o4 W Q QP) (F36.k10_a W Q QP s h (F36.k9 W Q QP))
def F36.t11 (W : Nat → Prop) (QP : PPost) (s : St) (h : AH) (C0 : KT) : Prop :=
  pNil (s.tm 0) fun t20 =>
  pFld (some 1) t20 fun t21 =>
  lLd (some false) (some 1) t21 h fun t22 _ =>
  pNil (s.tm 0) fun t24 =>
  pFld (some 0) t24 fun t25 =>
  lLd (some false) (some 1) t25 h fun t26 _ =>
  (strArg t26 = false) ∧ pLen t26 fun t28 =>
  pBin Tryd.prog .lss 3 false t22 t28 fun t29 =>
  aIg true t29 (
  pNil (s.tm 0) fun t30 =>
  pFld (some 0) t30 fun t31 =>
  lLd (some false) (some 1) t31 h fun t32 _ =>
  pNil (s.tm 0) fun t34 =>
  pFld (some 1) t34 fun t35 =>
  lLd (some false) (some 1) t35 h fun t36 _ =>
  pIxA (some (3, none)) t32 t36 fun t38 =>
  pFld (some 0) t38 fun t39 =>
  lLd (some false) (some 1) t39 h fun t40 _ =>
  pBin Tryd.prog .eql 3 true t40 (.sc (.int .i64 2)) fun t42 =>
  pPick t29 t42 (.sc (.bool false)) fun t43 =>
  (
  aCall Tryd.prog W 34 [(s.tm 0), t43] h (fun t44 h45 =>
  eAlloc (some [.int .i64 0, .string ⟨#[]⟩, .int .i64 0]) 3 77 h45 fun t46 h47 =>
  eStore (some 3) t46 t44 h47 W fun h48 =>
  C0 ⟨puts s.tm [(7, (s.tm 0)), (8, (s.tm 0)), (9, t20), (10, t21), (11, t22), (12, (s.tm 0)), (13, t24), (14, t25), (15, t26), (16, t28), (17, t29), (18, t29), (19, (s.tm 0)), (20, t30), (21, t31), (22, t32), (23, (s.tm 0)), (24, t34), (25, t35), (26, t36), (27, t38), (28, t39), (29, t40), (30, t42), (31, t43), (32, t44), (3, t46)], s.ds⟩ h48) (QP s.ds)) ∧ (
  eAlloc (some [.int .i64 0, .string ⟨#[]⟩, .int .i64 0]) 3 77 h fun t49 h50 =>
  aCall Tryd.prog W 34 [(s.tm 0), t43] h50 (fun t51 h52 =>
  eStore (some 3) t49 t51 h52 W fun h53 =>
  C0 ⟨puts s.tm [(7, (s.tm 0)), (8, (s.tm 0)), (9, t20), (10, t21), (11, t22), (12, (s.tm 0)), (13, t24), (14, t25), (15, t26), (16, t28), (17, t29), (18, t29), (19, (s.tm 0)), (20, t30), (21, t31), (22, t32), (23, (s.tm 0)), (24, t34), (25, t35), (26, t36), (27, t38), (28, t39), (29, t40), (30, t42), (31, t43), (3, t49), (32, t51)], s.ds⟩ h53) (QP s.ds)) ∧ True) (
  pPick t29 noA (.sc (.bool false)) fun t54 =>
  (
  aCall Tryd.prog W 34 [(s.tm 0), t54] h (fun t55 h56 =>
  eAlloc (some [.int .i64 0, .string ⟨#[]⟩, .int .i64 0]) 3 77 h56 fun t57 h58 =>
  eStore (some 3) t57 t55 h58 W fun h59 =>
  C0 ⟨puts s.tm [(7, (s.tm 0)), (8, (s.tm 0)), (9, t20), (10, t21), (11, t22), (12, (s.tm 0)), (13, t24), (14, t25), (15, t26), (16, t28), (17, t29), (18, t29), (19, noA), (20, noA), (21, noA), (22, noA), (23, noA), (24, noA), (25, noA), (26, noA), (27, noA), (28, noA), (29, noA), (30, noA), (31, t54), (32, t55), (3, t57)], s.ds⟩ h59) (QP s.ds)) ∧ (
  eAlloc (some [.int .i64 0, .string ⟨#[]⟩, .int .i64 0]) 3 77 h fun t60 h61 =>
  aCall Tryd.prog W 34 [(s.tm 0), t54] h61 (fun t62 h63 =>
  eStore (some 3) t60 t62 h63 W fun h64 =>
  C0 ⟨puts s.tm [(7, (s.tm 0)), (8, (s.tm 0)), (9, t20), (10, t21), (11, t22), (12, (s.tm 0)), (13, t24), (14, t25), (15, t26), (16, t28), (17, t29), (18, t29), (19, noA), (20, noA), (21, noA), (22, noA), (23, noA), (24, noA), (25, noA), (26, noA), (27, noA), (28, noA), (29, noA), (30, noA), (31, t54), (3, t60), (32, t62)], s.ds⟩ h64) (QP s.ds)) ∧ True)
def F36.k11 (W : Nat → Prop) (Q : Post) (QP : PPost) (s : St) (h : AH) : Prop := F36.t11 W QP s h (F36.k10 W Q QP)
theorem F36.k11_a (C0 : KT) : F36.cw W (F36.d [1, 0]) (thenQ (C0) (Q)) QP s h = F36.t11 W QP s h C0 := by kernel_rfl
theorem F36.k11_ok : F36.cw W (F36.d [1, 0]) (thenQ (F36.k10 W Q QP) (Q)) QP s h = F36.k11 W Q QP s h := (F36.k11_a W Q QP s h (F36.k10 W Q QP))
theorem F36.o5 : F36.cw W (F36.d [1]) (Q) QP s h = F36.k11 W Q QP s h := nd_seq (a := (F36.d [1, 0])) (b := (F36.d [1, 1])) (by kernel_rfl) (F36.k10_ok W Q QP) (F36.k11_ok W Q QP s h)
def F36.t12 (s : St) (h : AH) (C0 : KT) : Prop :=
  C0 ⟨puts s.tm [(2, (.sc (.int .i64 0)))], s.ds⟩ h
def F36.k12 (W : Nat → Prop) (Q : Post) (QP : PPost) (s : St) (h : AH) : Prop := F36.t12 s h (F36.k11 W Q QP)
theorem F36.k12_a (C0 : KT) : F36.cw W (F36.d [0]) (thenQ (C0) (Q)) QP s h = F36.t12 s h C0 := by kernel_rfl
theorem F36.k12_ok : F36.cw W (F36.d []) (Q) QP s h = F36.k12 W Q QP s h := nd_seq (a := (F36.d [0])) (b := (F36.d [1])) (by kernel_rfl) (F36.o5 W Q QP) (F36.k12_a W Q QP s h (F36.k11 W Q QP))
end
set_option maxRecDepth 100000 in
theorem F36.calls {x0 : AV} {h : AH} {M : Nat → Prop} {R : AE → AH → Prop} (hp : F36.k12 (fun id => M id ∨ h.next ≤ id) (bodyQ Tryd.prog [.tmp 2] R) (bodyP R) (s0 [x0]) h) : ACalls Tryd.prog 36 [x0] h M R :=
  acalls_of (c := F36.code) Tryd.mixed Tryd.func36 (by kernel_rfl) (Nat.le_of_ble_eq_true rfl) F36.ok (by rw [show Tryd.f36.ntmps = 52 from rfl, show Tryd.f36.results.toList = [.tmp 2] from rfl]; exact Eq.mpr (F36.k12_ok _ _ _ _ _) hp)
attribute [simp] F36.k1 F36.t1 F36.k2 F36.t2 F36.k3 F36.t3 F36.k4 F36.t4 F36.k5 F36.t5 F36.k6 F36.t6 F36.k7 F36.t7 F36.k8 F36.k9 F36.t9 F36.k10 F36.t10 F36.k11 F36.t11 F36.k12 F36.t12

section
variable (W : Nat → Prop) (Q : Post) (QP : PPost) (s : St) (h : AH)
noncomputable def F40.code : Code := Tryd.f40.body.getD .skip
def F40.pl : Plans := []
theorem F40.ok : okCode Tryd.prog F40.pl F40.code = true := by kernel_rfl
noncomputable abbrev F40.d (p : List Nat) : Code := Code.at F40.code p
abbrev F40.cw (W : Nat → Prop) (c : Code) (Q : Post) (QP : PPost) : KT := Go.Ab.aw Tryd.prog 22 W F40.pl c Q QP
def F40.t1 (W : Nat → Prop) (Q : Post) (s : St) (h : AH) : Prop :=
  lLd (some true) (some 2) (s.tm 3) h fun t1 _ =>
  eStore (some 2) (s.tm 2) t1 h W fun h3 =>
  Q .ret ⟨puts s.tm [(21, t1)], s.ds⟩ h3
def F40.k1 (W : Nat → Prop) (Q : Post) (QP : PPost) (s : St) (h : AH) : Prop := F40.t1 W Q s h
theorem F40.k1_a : F40.cw W (F40.d [1, 1, 1, 0]) (thenQ (F40.cw W (F40.d [1, 1, 1, 1]) (Q) QP) (Q)) QP s h = F40.t1 W Q s h := by kernel_rfl
theorem F40.k1_ok : F40.cw W (F40.d [1, 1, 1]) (Q) QP s h = F40.k1 W Q QP s h := nd_seq (a := (F40.d [1, 1, 1, 0])) (b := (F40.d [1, 1, 1, 1])) (by kernel_rfl) (fun _ _ => rfl) (F40.k1_a W Q QP s h)
def F40.t2 (W : Nat → Prop) (QP : PPost) (s : St) (h : AH) (C0 : KT) : Prop :=
  aCall Tryd.prog W 37 [(s.tm 0), (.sc (.string ⟨#[93]⟩))] h (fun t4 h5 =>
  C0 ⟨puts s.tm [(19, (s.tm 0)), (20, t4)], s.ds⟩ h5) (QP s.ds)
def F40.k2 (W : Nat → Prop) (Q : Post) (QP : PPost) (s : St) (h : AH) : Prop := F40.t2 W QP s h (F40.k1 W Q QP)
theorem F40.k2_a (C0 : KT) : F40.cw W (F40.d [1, 1, 0, 1, 0, 1, 1]) (thenQ (C0) (Q)) QP s h = F40.t2 W QP s h C0 := by kernel_rfl
theorem F40.k2_ok : F40.cw W (F40.d [1, 1, 0, 1, 0, 1, 1]) (thenQ (F40.k1 W Q QP) (Q)) QP s h = F40.k2 W Q QP s h := (F40.k2_a W Q QP s h (F40.k1 W Q QP))
def F40.t3 (W : Nat → Prop) (QP : PPost) (s : St) (h : AH) (C0 C1 : KT) : Prop :=
  aCall Tryd.prog W 36 [(s.tm 0)] h (fun t6 h7 =>
  pFld (some 1) (s.tm 3) fun t8 =>
  eStore (some 1) t8 t6 h7 W fun h9 =>
  C1 ⟨puts s.tm [(16, (s.tm 0)), (17, t6), (18, t8)], s.ds⟩ h9) (QP s.ds)
def F40.k3 (W : Nat → Prop) (Q : Post) (QP : PPost) (s : St) (h : AH) : Prop := F40.t3 W QP s h (F40.k1 W Q QP) (F40.k2 W Q QP)
theorem F40.k3_a (C0 C1 : KT) : F40.cw W (F40.d [1, 1, 0, 1, 0, 1, 0]) (thenQ (C1) (thenQ (C0) (Q))) QP s h = F40.t3 W QP s h C0 C1 := by kernel_rfl
theorem F40.k3_ok : F40.cw W (F40.d [1, 1, 0, 1, 0, 1]) (thenQ (F40.k1 W Q QP) (Q)) QP s h = F40.k3 W Q QP s h := nd_seq (a := (F40.d [1, 1, 0, 1, 0, 1, 0])) (b := (F40.d [1, 1, 0, 1, 0, 1, 1])) (by kernel_rfl) (F40.k2_ok W Q QP) (F40.k3_a W Q QP s h (F40.k1 W Q QP) (F40.k2 W Q QP))
def F40.t4 (W : Nat → Prop) (s : St) (h : AH) (C0 C1 : KT) : Prop :=
  pNil (s.tm 0) fun t10 =>
  pFld (some 1) t10 fun t11 =>
  lLd (some false) (some 1) t11 h fun t12 _ =>
  pBin Tryd.prog .add 3 true t12 (.sc (.int .i64 1)) fun t14 =>
  pNil (s.tm 0) fun t15 =>
  pFld (some 1) t15 fun t16 =>
  eStore (some 1) t16 t14 h W fun h17 =>
  C1 ⟨puts s.tm [(9, (s.tm 0)), (10, t10), (11, t11), (12, t12), (13, t14), (14, t15), (15, t16)], s.ds⟩ h17
def F40.k4 (W : Nat → Prop) (Q : Post) (QP : PPost) (s : St) (h : AH) : Prop := F40.t4 W s h (F40.k1 W Q QP) (F40.k3 W Q QP)
theorem F40.k4_a (C0 C1 : KT) : F40.cw W (F40.d [1, 1, 0, 1, 0, 0]) (thenQ (C1) (thenQ (C0) (Q))) QP s h = F40.t4 W s h C0 C1 := by kernel_rfl
theorem F40.k4_ok : F40.cw W (F40.d [1, 1, 0, 1, 0]) (thenQ (F40.k1 W Q QP) (Q)) QP s h = F40.k4 W Q QP s h := nd_seq (a := (F40.d [1, 1, 0, 1, 0, 0])) (b := (F40.d [1, 1, 0, 1, 0, 1])) (by kernel_rfl) (F40.k3_ok W Q QP) (F40.k4_a W Q QP s h (F40.k1 W Q QP) (F40.k3 W Q QP))
def F40.t5 (s : St) (h : AH) (C0 C1 : KT) : Prop :=
  aIf (s.tm 8) (
  C1 s h) (
  C0 s h)
def F40.k5 (W : Nat → Prop) (Q : Post) (QP : PPost) (s : St) (h : AH) : Prop := F40.t5 s h (F40.k1 W Q QP) (F40.k4 W Q QP)
theorem F40.k5_a (C0 C1 : KT) : aIf (aev s (.tmp 8)) (C1 s h) (F40.cw W (F40.d [1, 1, 0, 1, 1]) (thenQ (C0) (Q)) QP s h) = F40.t5 s h C0 C1 := by kernel_rfl
theorem F40.k5_ok : F40.cw W (F40.d [1, 1, 0, 1]) (thenQ (F40.k1 W Q QP) (Q)) QP s h = F40.k5 W Q QP s h := nd_cond (a := (F40.d [1, 1, 0, 1, 0])) (b := (F40.d [1, 1, 0, 1, 1])) (by kernel_rfl) (F40.k4_ok W Q QP s h) rfl (F40.k5_a W Q QP s h (F40.k1 W Q QP) (F40.k4 W Q QP))
def F40.t6 (W : Nat → Prop) (QP : PPost) (s : St) (h : AH) (C0 C1 : KT) : Prop :=
  aCall Tryd.prog W 52 [(s.tm 0), (.sc (.string ⟨#[91]⟩))] h (fun t18 h19 =>
  C1 ⟨puts s.tm [(7, (s.tm 0)), (8, t18)], s.ds⟩ h19) (QP s.ds)
def F40.k6 (W : Nat → Prop) (Q : Post) (QP : PPost) (s : St) (h : AH) : Prop := F40.t6 W QP s h (F40.k1 W Q QP) (F40.k5 W Q QP)
theorem F40.k6_a (C0 C1 : KT) : F40.cw W (F40.d [1, 1, 0, 0]) (thenQ (C1) (thenQ (C0) (Q))) QP s h = F40.t6 W QP s h C0 C1 := by kernel_rfl
theorem F40.k6_ok : F40.cw W (F40.d [1, 1, 0]) (thenQ (F40.k1 W Q QP) (Q)) QP s h = F40.k6 W Q QP s h := nd_seq (a := (F40.d [1, 1, 0, 0])) (b := (F40.d [1, 1, 0, 1])) (by kernel_rfl) (F40.k5_ok W Q QP) (F40.k6_a W Q QP s h (F40.k1 W Q QP) (F40.k5 W Q QP))
theorem F40.o1 : F40.cw W (F40.d [1, 1]) (Q) QP s h = F40.k6 W Q QP s h := nd_seq (a := (F40.d [1, 1, 0])) (b := (F40.d [1, 1, 1])) (by kernel_rfl) (F40.k1_ok W Q QP) (F40.k6_ok W Q QP s h)
def F40.t7 (W : Nat → Prop) (QP : PPost) (s : St) (h : AH) (C0 : KT) : Prop :=
  aCall Tryd.prog W 35 [(s.tm 0)] h (fun t20 h21 =>
  pBld (some ([.string ⟨#[]⟩, .int .i64 0], .inl [(0, 1), (1, 1)])) [(0, t20), (1, (.sc (.int .i64 (-1))))] fun t22 =>
  eAlloc (some [.string ⟨#[]⟩, .int .i64 0]) 2 41 h21 fun t23 h24 =>
  eStore (some 2) t23 t22 h24 W fun h25 =>
  C0 ⟨puts s.tm [(4, (s.tm 0)), (5, t20), (6, t22), (3, t23)], s.ds⟩ h25) (QP s.ds)
def F40.k7 (W : Nat → Prop) (Q : Post) (QP : PPost) (s : St) (h : AH) : Prop := F40.t7 W QP s h (F40.k6 W Q QP)
theorem F40.k7_a (C0 : KT) : F40.cw W (F40.d [1, 0]) (thenQ (C0) (Q)) QP s h = F40.t7 W QP s h C0 := by kernel_rfl
theorem F40.k7_ok : F40.cw W (F40.d [1]) (Q) QP s h = F40.k7 W Q QP s h := nd_seq (a := (F40.d [1, 0])) (b := (F40.d [1, 1])) (by kernel_rfl) (F40.o1 W Q QP) (F40.k7_a W Q QP s h (F40.k6 W Q QP))
def F40.t8 (s : St) (h : AH) (C0 : KT) : Prop :=
  eAlloc (some [.string ⟨#[]⟩, .int .i64 0]) 2 41 h fun t26 h27 =>
  C0 ⟨puts s.tm [(2, t26)], s.ds⟩ h27
def F40.k8 (W : Nat → Prop) (Q : Post) (QP : PPost) (s : St) (h : AH) : Prop := F40.t8 s h (F40.k7 W Q QP)
theorem F40.k8_a (C0 : KT) : F40.cw W (F40.d [0]) (thenQ (C0) (Q)) QP s h = F40.t8 s h C0 := by kernel_rfl
theorem F40.k8_ok : F40.cw W (F40.d []) (Q) QP s h = F40.k8 W Q QP s h := nd_seq (a := (F40.d [0])) (b := (F40.d [1])) (by kernel_rfl) (F40.k7_ok W Q QP) (F40.k8_a W Q QP s h (F40.k7 W Q QP))
end
set_option maxRecDepth 100000 in
theorem F40.calls {x0 : AV} {h : AH} {M : Nat → Prop} {R : AE → AH → Prop} (hp : F40.k8 (fun id => M id ∨ h.next ≤ id) (bodyQ Tryd.prog [.cell 2 41] R) (bodyP R) (s0 [x0]) h) : ACalls Tryd.prog 40 [x0] h M R :=
  acalls_of (c := F40.code) Tryd.mixed Tryd.func40 (by kernel_rfl) (Nat.le_of_ble_eq_true rfl) F40.ok (by rw [show Tryd.f40.ntmps = 22 from rfl, show Tryd.f40.results.toList = [.cell 2 41] from rfl]; exact Eq.mpr (F40.k8_ok _ _ _ _ _) hp)
attribute [simp] F40.k1 F40.t1 F40.k2 F40.t2 F40.k3 F40.t3 F40.k4 F40.t4 F40.k5 F40.t5 F40.k6 F40.t6 F40.k7 F40.t7 F40.k8 F40.t8

section
variable (W : Nat → Prop) (Q : Post) (QP : PPost) (s : St) (h : AH)
noncomputable def F39.code : Code := Tryd.f39.body.getD .skip
def F39.pl : Plans := []
theorem F39.ok : okCode Tryd.prog F39.pl F39.code = true := by kernel_rfl
noncomputable abbrev F39.d (p : List Nat) : Code := Code.at F39.code p
abbrev F39.cw (W : Nat → Prop) (c : Code) (Q : Post) (QP : PPost) : KT := Go.Ab.aw Tryd.prog 40 W F39.pl c Q QP
def F39.t1 (Q : Post) (s : St) (h : AH) : Prop :=
  pNil (s.tm 0) fun t1 =>
  pFld (some 3) t1 fun t2 =>
  lLd (some false) (some 1) t2 h fun t3 _ =>
  (strArg t3 = false) ∧ pLen t3 fun t5 =>
  pBin Tryd.prog .sub 3 false t5 (s.tm 6) fun t6 =>
  Q .ret ⟨puts s.tm [(33, (s.tm 0)), (34, t1), (35, t2), (36, t3), (37, t5), (38, (s.tm 6)), (39, t6), (4, t6)], s.ds⟩ h
def F39.k1 (W : Nat → Prop) (Q : Post) (QP : PPost) (s : St) (h : AH) : Prop := F39.t1 Q s h
theorem F39.k1_a : F39.cw W (F39.d [1, 1, 1, 1, 1, 1, 0]) (thenQ (F39.cw W (F39.d [1, 1, 1, 1, 1, 1, 1]) (Q) QP) (Q)) QP s h = F39.t1 Q s h := by kernel_rfl
theorem F39.k1_ok : F39.cw W (F39.d [1, 1, 1, 1, 1, 1]) (Q) QP s h = F39.k1 W Q QP s h := nd_seq (a := (F39.d [1, 1, 1, 1, 1, 1, 0])) (b := (F39.d [1, 1, 1, 1, 1, 1, 1])) (by kernel_rfl) (fun _ _ => rfl) (F39.k1_a W Q QP s h)
def F39.t2 (W : Nat → Prop) (s : St) (h : AH) (C0 : KT) : Prop :=
  pNil (s.tm 0) fun t7 =>
  pFld (some 1) t7 fun t8 =>
  lLd (some false) (some 1) t8 h fun t9 _ =>
  pBin Tryd.prog .add 3 true t9 (.sc (.int .i64 1)) fun t11 =>
  pNil (s.tm 0) fun t12 =>
  pFld (some 1) t12 fun t13 =>
  eStore (some 1) t13 t11 h W fun h14 =>
  C0 ⟨puts s.tm [(26, (s.tm 0)), (27, t7), (28, t8), (29, t9), (30, t11), (31, t12), (32, t13)], s.ds⟩ h14
def F39.k2 (W : Nat → Prop) (Q : Post) (QP : PPost) (s : St) (h : AH) : Prop := F39.t2 W s h (F39.k1 W Q QP)
theorem F39.k2_a (C0 : KT) : F39.cw W (F39.d [1, 1, 1, 1, 1, 0]) (thenQ (C0) (Q)) QP s h = F39.t2 W s h C0 := by kernel_rfl
theorem F39.k2_ok : F39.cw W (F39.d [1, 1, 1, 1, 1]) (Q) QP s h = F39.k2 W Q QP s h := nd_seq (a := (F39.d [1, 1, 1, 1, 1, 0])) (b := (F39.d [1, 1, 1, 1, 1, 1])) (by kernel_rfl) (F39.k1_ok W Q QP) (F39.k2_a W Q QP s h (F39.k1 W Q QP))
def F39.t3 (W : Nat → Prop) (Q : Post) (QP : PPost) (s : St) (h : AH) : Prop :=
  aCall Tryd.prog W 20 [(s.tm 0), (s.tm 1)] h (fun t15 h16 =>
  Q .normal ⟨puts s.tm [(23, (s.tm 0)), (24, (s.tm 1)), (25, t15)], s.ds⟩ h16) (QP s.ds)
def F39.k3 (W : Nat → Prop) (Q : Post) (QP : PPost) (s : St) (h : AH) : Prop := F39.t3 W Q QP s h
theorem F39.k3_a : F39.cw W (F39.d [1, 1, 1, 1, 0, 0, 0, 1, 0]) (blockQ 1 (Q)) QP s h = F39.t3 W Q QP s h := by kernel_rfl
theorem F39.k3_ok : F39.cw W (F39.d [1, 1, 1, 1, 0, 0, 0, 1, 0]) (blockQ 1 (Q)) QP s h = F39.k3 W Q QP s h := (F39.k3_a W Q QP s h)
theorem F39.o1 : F39.cw W (F39.d [1, 1, 1, 1, 0, 0, 0, 1]) (Q) QP s h = F39.k3 W Q QP s h := nd_block (a := (F39.d [1, 1, 1, 1, 0, 0, 0, 1, 0])) (by kernel_rfl) (F39.k3_ok W Q QP s h)
def F39.t4 (Q : Post) (s : St) (h : AH) (C0 : KT) : Prop :=
  aIf (s.tm 22) (
  C0 s h) (
  Q (.exit 0) s h)
def F39.k4 (W : Nat → Prop) (Q : Post) (QP : PPost) (s : St) (h : AH) : Prop := F39.t4 Q s h (F39.k3 W Q QP)
theorem F39.k4_a (C0 : KT) : aIf (aev s (.tmp 22)) (F39.cw W (F39.d [1, 1, 1, 1, 0, 0, 0, 0, 1, 0]) (thenQ (C0) (Q)) QP s h) (F39.cw W (F39.d [1, 1, 1, 1, 0, 0, 0, 0, 1, 1]) (thenQ (C0) (Q)) QP s h) = F39.t4 Q s h C0 := by kernel_rfl
theorem F39.k4_ok : F39.cw W (F39.d [1, 1, 1, 1, 0, 0, 0, 0, 1]) (thenQ (F39.k3 W Q QP) (Q)) QP s h = F39.k4 W Q QP s h := nd_cond (a := (F39.d [1, 1, 1, 1, 0, 0, 0, 0, 1, 0])) (b := (F39.d [1, 1, 1, 1, 0, 0, 0, 0, 1, 1])) (by kernel_rfl) rfl rfl (F39.k4_a W Q QP s h (F39.k3 W Q QP))
def F39.t5 (W : Nat → Prop) (QP : PPost) (s : St) (h : AH) (C0 C1 : KT) : Prop :=
  aCall Tryd.prog W 52 [(s.tm 0), (.sc (.string ⟨#[125]⟩))] h (fun t17 h18 =>
  pUn .not t17 fun t19 =>
  C1 ⟨puts s.tm [(20, (s.tm 0)), (21, t17), (22, t19)], s.ds⟩ h18) (QP s.ds)
def F39.k5 (W : Nat → Prop) (Q : Post) (QP : PPost) (s : St) (h : AH) : Prop := F39.t5 W QP s h (F39.k3 W Q QP) (F39.k4 W Q QP)
theorem F39.k5_a (C0 C1 : KT) : F39.cw W (F39.d [1, 1, 1, 1, 0, 0, 0, 0, 0]) (thenQ (C1) (thenQ (C0) (Q))) QP s h = F39.t5 W QP s h C0 C1 := by kernel_rfl
theorem F39.k5_ok : F39.cw W (F39.d [1, 1, 1, 1, 0, 0, 0, 0]) (thenQ (F39.k3 W Q QP) (Q)) QP s h = F39.k5 W Q QP s h := nd_seq (a := (F39.d [1, 1, 1, 1, 0, 0, 0, 0, 0])) (b := (F39.d [1, 1, 1, 1, 0, 0, 0, 0, 1])) (by kernel_rfl) (F39.k4_ok W Q QP) (F39.k5_a W Q QP s h (F39.k3 W Q QP) (F39.k4 W Q QP))
theorem F39.o2 : F39.cw W (F39.d [1, 1, 1, 1, 0, 0, 0]) (Q) QP s h = F39.k5 W Q QP s h := nd_seq (a := (F39.d [1, 1, 1, 1, 0, 0, 0, 0])) (b := (F39.d [1, 1, 1, 1, 0, 0, 0, 1])) (by kernel_rfl) (F39.o1 W Q QP) (F39.k5_ok W Q QP s h)
noncomputable def F39.c1 : Code := (F39.d [1, 1, 1, 1, 0, 0, 0])
theorem F39.l1 : aw Tryd.prog 40 W F39.pl F39.c1 Q QP s h = F39.k5 W Q QP s h := F39.o2 W Q QP s h
def F39.k6 (W : Nat → Prop) (Q : Post) (QP : PPost) (s : St) (h : AH) : Prop := aLoop (aw Tryd.prog 40 W F39.pl F39.c1) (blockQ 0 (thenQ (F39.k2 W Q QP) (Q))) QP s h
theorem F39.k6_ok : F39.cw W (F39.d [1, 1, 1, 1, 0, 0]) (blockQ 0 (thenQ (F39.k2 W Q QP) (Q))) QP s h = F39.k6 W Q QP s h := nd_loop (a := F39.c1) (by kernel_rfl)
theorem F39.o3 : F39.cw W (F39.d [1, 1, 1, 1, 0]) (thenQ (F39.k2 W Q QP) (Q)) QP s h = F39.k6 W Q QP s h := nd_block (a := (F39.d [1, 1, 1, 1, 0, 0])) (by kernel_rfl) (F39.k6_ok W Q QP s h)
theorem F39.o4 : F39.cw W (F39.d [1, 1, 1, 1]) (Q) QP s h = F39.k6 W Q QP s h := nd_seq (a := (F39.d [1, 1, 1, 1, 0])) (b := (F39.d [1, 1, 1, 1, 1])) (by kernel_rfl) (F39.k2_ok W Q QP) (F39.o3 W Q QP s h)
def F39.t7 (s : St) (h : AH) (C0 : KT) : Prop :=
  pNil (s.tm 0) fun t20 =>
  pFld (some 3) t20 fun t21 =>
  lLd (some false) (some 1) t21 h fun t22 _ =>
  (strArg t22 = false) ∧ pLen t22 fun t24 =>
  C0 ⟨puts s.tm [(15, (s.tm 0)), (16, t20), (17, t21), (18, t22), (19, t24), (6, t24)], s.ds⟩ h
def F39.k7 (W : Nat → Prop) (Q : Post) (QP : PPost) (s : St) (h : AH) : Prop := F39.t7 s h (F39.k6 W Q QP)
theorem F39.k7_a (C0 : KT) : F39.cw W (F39.d [1, 1, 1, 0]) (thenQ (C0) (Q)) QP s h = F39.t7 s h C0 := by kernel_rfl
theorem F39.k7_ok : F39.cw W (F39.d [1, 1, 1]) (Q) QP s h = F39.k7 W Q QP s h := nd_seq (a := (F39.d [1, 1, 1, 0])) (b := (F39.d [1, 1, 1, 1])) (by kernel_rfl) (F39.o4 W Q QP) (F39.k7_a W Q QP s h (F39.k6 W Q QP))
def F39.t8 (QP : PPost) (s : St) (h : AH) (C0 : KT) : Prop :=
  aIf (s.tm 10) (
  pFld (some 2) (s.tm 5) fun t25 =>
  lLd (some false) (some 1) t25 h fun t26 _ =>
  pBld (some ([.int .i64 0, .int .i64 0], .inl [(0, 1), (1, 1)])) [(0, t26), (1, (.sc (.int .i64 102)))] fun t28 =>
  pMkI (some false) 58 t28 fun t29 =>
  aPan t29 h (QP s.ds)) (
  C0 s h)
def F39.k8 (W : Nat → Prop) (Q : Post) (QP : PPost) (s : St) (h : AH) : Prop := F39.t8 QP s h (F39.k7 W Q QP)
theorem F39.k8_a (C0 : KT) : aIf (aev s (.tmp 10)) (F39.cw W (F39.d [1, 1, 0, 1, 0]) (thenQ (C0) (Q)) QP s h) (F39.cw W (F39.d [1, 1, 0, 1, 1]) (thenQ (C0) (Q)) QP s h) = F39.t8 QP s h C0 := by kernel_rfl
theorem F39.k8_ok : F39.cw W (F39.d [1, 1, 0, 1]) (thenQ (F39.k7 W Q QP) (Q)) QP s h = F39.k8 W Q QP s h := nd_cond (a := (F39.d [1, 1, 0, 1, 0])) (b := (F39.d [1, 1, 0, 1, 1])) (by kernel_rfl) rfl rfl (F39.k8_a W Q QP s h (F39.k7 W Q QP))
def F39.t9 (s : St) (h : AH) (C0 C1 : KT) : Prop :=
  pBin Tryd.prog .gtr 3 true (s.tm 1) (.sc (.int .i64 32)) fun t30 =>
  C1 ⟨puts s.tm [(9, (s.tm 1)), (10, t30)], s.ds⟩ h
def F39.k9 (W : Nat → Prop) (Q : Post) (QP : PPost) (s : St) (h : AH) : Prop := F39.t9 s h (F39.k7 W Q QP) (F39.k8 W Q QP)
theorem F39.k9_a (C0 C1 : KT) : F39.cw W (F39.d [1, 1, 0, 0]) (thenQ (C1) (thenQ (C0) (Q))) QP s h = F39.t9 s h C0 C1 := by kernel_rfl
theorem F39.k9_ok : F39.cw W (F39.d [1, 1, 0]) (thenQ (F39.k7 W Q QP) (Q)) QP s h = F39.k9 W Q QP s h := nd_seq (a := (F39.d [1, 1, 0, 0])) (b := (F39.d [1, 1, 0, 1])) (by kernel_rfl) (F39.k8_ok W Q QP) (F39.k9_a W Q QP s h (F39.k7 W Q QP) (F39.k8 W Q QP))
theorem F39.o5 : F39.cw W (F39.d [1, 1]) (Q) QP s h = F39.k9 W Q QP s h := nd_seq (a := (F39.d [1, 1, 0])) (b := (F39.d [1, 1, 1])) (by kernel_rfl) (F39.k7_ok W Q QP) (F39.k9_ok W Q QP s h)
def F39.t10 (W : Nat → Prop) (QP : PPost) (s : St) (h : AH) (C0 : KT) : Prop :=
  aCall Tryd.prog W 37 [(s.tm 0), (.sc (.string ⟨#[123]⟩))] h (fun t31 h32 =>
  eAlloc (some [.int .i64 0, .string ⟨#[]⟩, .int .i64 0]) 3 77 h32 fun t33 h34 =>
  eStore (some 3) t33 t31 h34 W fun h35 =>
  C0 ⟨puts s.tm [(7, (s.tm 0)), (8, t31), (5, t33)], s.ds⟩ h35) (QP s.ds)
def F39.k10 (W : Nat → Prop) (Q : Post) (QP : PPost) (s : St) (h : AH) : Prop := F39.t10 W QP s h (F39.k9 W Q QP)
theorem F39.k10_a (C0 : KT) : F39.cw W (F39.d [1, 0]) (thenQ (C0) (Q)) QP s h = F39.t10 W QP s h C0 := by kernel_rfl
theorem F39.k10_ok : F39.cw W (F39.d [1]) (Q) QP s h = F39.k10 W Q QP s h := nd_seq (a := (F39.d [1, 0])) (b := (F39.d [1, 1])) (by kernel_rfl) (F39.o5 W Q QP) (F39.k10_a W Q QP s h (F39.k9 W Q QP))
def F39.t11 (s : St) (h : AH) (C0 : KT) : Prop :=
  C0 ⟨puts s.tm [(4, (.sc (.int .i64 0)))], s.ds⟩ h
def F39.k11 (W : Nat → Prop) (Q : Post) (QP : PPost) (s : St) (h : AH) : Prop := F39.t11 s h (F39.k10 W Q QP)
theorem F39.k11_a (C0 : KT) : F39.cw W (F39.d [0]) (thenQ (C0) (Q)) QP s h = F39.t11 s h C0 := by kernel_rfl
theorem F39.k11_ok : F39.cw W (F39.d []) (Q) QP s h = F39.k11 W Q QP s h := nd_seq (a := (F39.d [0])) (b := (F39.d [1])) (by kernel_rfl) (F39.k10_ok W Q QP) (F39.k11_a W Q QP s h (F39.k10 W Q QP))
end
set_option maxRecDepth 100000 in
theorem F39.calls {x0 x1 : AV} {h : AH} {M : Nat → Prop} {R : AE → AH → Prop} (hp : F39.k11 (fun id => M id ∨ h.next ≤ id) (bodyQ Tryd.prog [.tmp 4] R) (bodyP R) (s0 [x0, x1]) h) : ACalls Tryd.prog 39 [x0, x1] h M R :=
  acalls_of (c := F39.code) Tryd.mixed Tryd.func39 (by kernel_rfl) (Nat.le_of_ble_eq_true rfl) F39.ok (by rw [show Tryd.f39.ntmps = 40 from rfl, show Tryd.f39.results.toList = [.tmp 4] from rfl]; exact Eq.mpr (F39.k11_ok _ _ _ _ _) hp)
attribute [simp] F39.k1 F39.t1 F39.k2 F39.t2 F39.k3 F39.t3 F39.k4 F39.t4 F39.k5 F39.t5 F39.k6 F39.k7 F39.t7 F39.k8 F39.t8 F39.k9 F39.t9 F39.k10 F39.t10 F39.k11 F39.t11

section
variable (W : Nat → Prop) (Q : Post) (QP : PPost) (s : St) (h : AH)
noncomputable def F20.code : Code := Tryd.f20.body.getD .skip
def F20.pl : Plans := [(0, ⟨[(none, [(0, false), (1, false), (2, false), (3, false), (4, false), (5, false), (6, false), (7, false), (8, false), (9, false), (10, false), (11, false)]), (some (11, true), [(12, false), (13, false), (14, false), (15, false), (16, false), (17, false), (18, false), (19, false), (20, false), (21, false), (22, false), (23, false)]), (none, [(24, false)])], false, [.mk [(25, false), (26, false), (27, false)] [], .mk [(26, false), (25, false), (27, false)] []], []⟩), (3, ⟨[(none, [(0, false), (1, false), (2, false), (3, false), (4, false), (5, false), (6, false), (7, false), (8, false), (9, false), (10, false)])], false, [], []⟩), (5, ⟨[(none, [(0, false), (1, true), (2, false), (3, false), (4, false), (5, false)])], true, [], []⟩), (7, ⟨[(none, [(0, false), (1, true), (2, false), (3, false), (4, false), (5, false), (6, false), (7, false)])], true, [], []⟩), (17, ⟨[(none, [(0, false), (1, true), (2, false), (3, false), (4, false), (5, false), (6, false), (7, false), (8, false)])], true, [], []⟩), (27, ⟨[(none, [(0, false), (1, true), (2, false), (4, false), (3, false), (5, false), (6, false), (7, false), (8, false), (9, false)])], true, [], []⟩), (30, ⟨[(none, [(0, false), (1, true), (2, false), (3, false), (4, false), (5, false), (6, false), (7, false)])], true, [], []⟩), (32, ⟨[(none, [(0, false), (1, false), (2, false), (3, false), (4, false), (5, false), (6, false), (7, false)])], false, [], []⟩)]
theorem F20.ok : okCode Tryd.prog F20.pl F20.code = true := by kernel_rfl
noncomputable abbrev F20.d (p : List Nat) : Code := Code.at F20.code p
abbrev F20.cw (W : Nat → Prop) (c : Code) (Q : Post) (QP : PPost) : KT := Go.Ab.aw Tryd.prog 155 W F20.pl c Q QP
def F20.t1 (W : Nat → Prop) (Q : Post) (s : St) (h : AH) : Prop :=
  pNil (s.tm 0) fun t1 =>
  pFld (some 3) t1 fun t2 =>
  lLd (some false) (some 1) t2 h fun t3 _ =>
  lLd (some true) (some 6) (s.tm 5) h fun t5 _ =>
  pIxA (some (6, none)) t3 (s.tm 6) fun t7 =>
  eStore (some 6) t7 t5 h W fun h8 =>
  Q .normal ⟨puts s.tm [(148, (s.tm 0)), (149, t1), (150, t2), (151, t3), (152, (s.tm 6)), (153, t5), (154, t7)], s.ds⟩ h8
def F20.k1 (W : Nat → Prop) (Q : Post) (QP : PPost) (s : St) (h : AH) : Prop := F20.t1 W Q s h
theorem F20.k1_a : F20.cw W (F20.d [1, 1, 1, 1, 1]) (Q) QP s h = F20.t1 W Q s h := by kernel_rfl
theorem F20.k1_ok : F20.cw W (F20.d [1, 1, 1, 1, 1]) (Q) QP s h = F20.k1 W Q QP s h := (F20.k1_a W Q QP s h)
def F20.t2 (W : Nat → Prop) (QP : PPost) (s : St) (h : AH) (C0 : KT) : Prop :=
  aCall Tryd.prog W 37 [(s.tm 0), (.sc (.string ⟨#[59]⟩))] h (fun t9 h10 =>
  C0 ⟨puts s.tm [(79, (s.tm 0)), (80, t9)], s.ds⟩ h10) (QP s.ds)
def F20.k2 (W : Nat → Prop) (Q : Post) (QP : PPost) (s : St) (h : AH) : Prop := F20.t2 W QP s h (F20.k1 W Q QP)
theorem F20.k2_a (C0 : KT) : F20.cw W (F20.d [1, 1, 1, 1, 0, 1, 0, 1, 0, 1, 1]) (blockQ 0 (thenQ (C0) (Q))) QP s h = F20.t2 W QP s h C0 := by kernel_rfl
theorem F20.k2_ok : F20.cw W (F20.d [1, 1, 1, 1, 0, 1, 0, 1, 0, 1, 1]) (blockQ 0 (thenQ (F20.k1 W Q QP) (Q))) QP s h = F20.k2 W Q QP s h := (F20.k2_a W Q QP s h (F20.k1 W Q QP))
def F20.t3 (W : Nat → Prop) (QP : PPost) (s : St) (h : AH) (C0 C1 : KT) : Prop :=
  aCall Tryd.prog W 36 [(s.tm 0)] h (fun t11 h12 =>
  pFld (some 3) (s.tm 5) fun t13 =>
  eStore (some 1) t13 t11 h12 W fun h14 =>
  C1 ⟨puts s.tm [(76, (s.tm 0)), (77, t11), (78, t13)], s.ds⟩ h14) (QP s.ds)
def F20.k3 (W : Nat → Prop) (Q : Post) (QP : PPost) (s : St) (h : AH) : Prop := F20.t3 W QP s h (F20.k1 W Q QP) (F20.k2 W Q QP)
theorem F20.k3_a (C0 C1 : KT) : F20.cw W (F20.d [1, 1, 1, 1, 0, 1, 0, 1, 0, 1, 0]) (thenQ (C1) (blockQ 0 (thenQ (C0) (Q)))) QP s h = F20.t3 W QP s h C0 C1 := by kernel_rfl
theorem F20.k3_ok : F20.cw W (F20.d [1, 1, 1, 1, 0, 1, 0, 1, 0, 1]) (blockQ 0 (thenQ (F20.k1 W Q QP) (Q))) QP s h = F20.k3 W Q QP s h := nd_seq (a := (F20.d [1, 1, 1, 1, 0, 1, 0, 1, 0, 1, 0])) (b := (F20.d [1, 1, 1, 1, 0, 1, 0, 1, 0, 1, 1])) (by kernel_rfl) (F20.k2_ok W Q QP) (F20.k3_a W Q QP s h (F20.k1 W Q QP) (F20.k2 W Q QP))
def F20.t4 (W : Nat → Prop) (QP : PPost) (s : St) (h : AH) (C0 C1 : KT) : Prop :=
  aCall Tryd.prog W 35 [(s.tm 0)] h (fun t15 h16 =>
  pFld (some 1) (s.tm 5) fun t17 =>
  eStore (some 1) t17 t15 h16 W fun h18 =>
  C1 ⟨puts s.tm [(73, (s.tm 0)), (74, t15), (75, t17)], s.ds⟩ h18) (QP s.ds)
def F20.k4 (W : Nat → Prop) (Q : Post) (QP : PPost) (s : St) (h : AH) : Prop := F20.t4 W QP s h (F20.k1 W Q QP) (F20.k3 W Q QP)
theorem F20.k4_a (C0 C1 : KT) : F20.cw W (F20.d [1, 1, 1, 1, 0, 1, 0, 1, 0, 0]) (thenQ (C1) (blockQ 0 (thenQ (C0) (Q)))) QP s h = F20.t4 W QP s h C0 C1 := by kernel_rfl
theorem F20.k4_ok : F20.cw W (F20.d [1, 1, 1, 1, 0, 1, 0, 1, 0]) (blockQ 0 (thenQ (F20.k1 W Q QP) (Q))) QP s h = F20.k4 W Q QP s h := nd_seq (a := (F20.d [1, 1, 1, 1, 0, 1, 0, 1, 0, 0])) (b := (F20.d [1, 1, 1, 1, 0, 1, 0, 1, 0, 1])) (by kernel_rfl) (F20.k3_ok W Q QP) (F20.k4_a W Q QP s h (F20.k1 W Q QP) (F20.k3 W Q QP))
def F20.t5 (W : Nat → Prop) (QP : PPost) (s : St) (h : AH) (C0 : KT) : Prop :=
  pBin Tryd.prog .add 3 true (s.tm 1) (.sc (.int .i64 1)) fun t19 =>
  aCall Tryd.prog W 39 [(s.tm 0), t19] h (fun t20 h21 =>
  pFld (some 4) (s.tm 5) fun t22 =>
  eStore (some 1) t22 t20 h21 W fun h23 =>
  C0 ⟨puts s.tm [(96, (s.tm 0)), (97, (s.tm 1)), (98, t19), (99, t20), (100, t22)], s.ds⟩ h23) (QP s.ds)
def F20.k5 (W : Nat → Prop) (Q : Post) (QP : PPost) (s : St) (h : AH) : Prop := F20.t5 W QP s h (F20.k1 W Q QP)
theorem F20.k5_a (C0 : KT) : F20.cw W (F20.d [1, 1, 1, 1, 0, 1, 0, 1, 1, 1, 0, 1, 1]) (blockQ 0 (thenQ (C0) (Q))) QP s h = F20.t5 W QP s h C0 := by kernel_rfl
theorem F20.k5_ok : F20.cw W (F20.d [1, 1, 1, 1, 0, 1, 0, 1, 1, 1, 0, 1, 1]) (blockQ 0 (thenQ (F20.k1 W Q QP) (Q))) QP s h = F20.k5 W Q QP s h := (F20.k5_a W Q QP s h (F20.k1 W Q QP))
def F20.t6 (W : Nat → Prop) (Q : Post) (QP : PPost) (s : St) (h : AH) : Prop :=
  ∃ Hd : Nat → Nat, (∀ i ∈ [1], h.obj (Hd i) ≠ none) ∧ (
  pFld (some 2) (s.tm 5) fun t24 =>
  lLd (some false) (some 1) t24 h fun t25 i26 =>
  (i26 = Hd 1) ∧ (
  aCall Tryd.prog (banL W Hd [1]) 35 [(s.tm 0)] h (fun t27 h28 =>
  pBld (some ([.string ⟨#[]⟩, .int .i64 0], .inl [(0, 1), (1, 1)])) [(0, t27), (1, (.sc (.int .i64 (-1))))] fun t29 =>
  eBSl (some (2, 41, [.string ⟨#[]⟩, .int .i64 0])) 1 [(0, t29)] h28 fun t30 h31 =>
  eApp (some (2, 24, 41)) t25 t30 h31 W fun t32 h33 =>
  pFld (some 2) (s.tm 5) fun t34 =>
  eStore (some 1) t34 t32 h33 W fun h35 =>
  Q .normal ⟨puts s.tm [(88, t24), (89, t25), (90, (s.tm 0)), (91, t27), (92, t29), (93, t30), (94, t32), (95, t34)], s.ds⟩ h35) (QP s.ds)))
def F20.k6 (W : Nat → Prop) (Q : Post) (QP : PPost) (s : St) (h : AH) : Prop := F20.t6 W Q QP s h
theorem F20.k6_a : F20.cw W (F20.d [1, 1, 1, 1, 0, 1, 0, 1, 1, 1, 0, 1, 0, 0, 0, 1, 0]) (blockQ 4 (Q)) QP s h = F20.t6 W Q QP s h := by kernel_rfl
theorem F20.k6_ok : F20.cw W (F20.d [1, 1, 1, 1, 0, 1, 0, 1, 1, 1, 0, 1, 0, 0, 0, 1, 0]) (blockQ 4 (Q)) QP s h = F20.k6 W Q QP s h := (F20.k6_a W Q QP s h)
theorem F20.o1 : F20.cw W (F20.d [1, 1, 1, 1, 0, 1, 0, 1, 1, 1, 0, 1, 0, 0, 0, 1]) (Q) QP s h = F20.k6 W Q QP s h := nd_block (a := (F20.d [1, 1, 1, 1, 0, 1, 0, 1, 1, 1, 0, 1, 0, 0, 0, 1, 0])) (by kernel_rfl) (F20.k6_ok W Q QP s h)
def F20.t7 (Q : Post) (s : St) (h : AH) (C0 : KT) : Prop :=
  aIf (s.tm 87) (
  C0 s h) (
  Q (.exit 3) s h)
def F20.k7 (W : Nat → Prop) (Q : Post) (QP : PPost) (s : St) (h : AH) : Prop := F20.t7 Q s h (F20.k6 W Q QP)
theorem F20.k7_a (C0 : KT) : aIf (aev s (.tmp 87)) (F20.cw W (F20.d [1, 1, 1, 1, 0, 1, 0, 1, 1, 1, 0, 1, 0, 0, 0, 0, 1, 0]) (thenQ (C0) (Q)) QP s h) (F20.cw W (F20.d [1, 1, 1, 1, 0, 1, 0, 1, 1, 1, 0, 1, 0, 0, 0, 0, 1, 1]) (thenQ (C0) (Q)) QP s h) = F20.t7 Q s h C0 := by kernel_rfl
theorem F20.k7_ok : F20.cw W (F20.d [1, 1, 1, 1, 0, 1, 0, 1, 1, 1, 0, 1, 0, 0, 0, 0, 1]) (thenQ (F20.k6 W Q QP) (Q)) QP s h = F20.k7 W Q QP s h := nd_cond (a := (F20.d [1, 1, 1, 1, 0, 1, 0, 1, 1, 1, 0, 1, 0, 0, 0, 0, 1, 0])) (b := (F20.d [1, 1, 1, 1, 0, 1, 0, 1, 1, 1, 0, 1, 0, 0, 0, 0, 1, 1])) (by kernel_rfl) rfl rfl (F20.k7_a W Q QP s h (F20.k6 W Q QP))
def F20.t8 (W : Nat → Prop) (QP : PPost) (s : St) (h : AH) (C0 C1 : KT) : Prop :=
  aCall Tryd.prog W 38 [(s.tm 0)] h (fun t36 h37 =>
  C1 ⟨puts s.tm [(86, (s.tm 0)), (87, t36)], s.ds⟩ h37) (QP s.ds)
def F20.k8 (W : Nat → Prop) (Q : Post) (QP : PPost) (s : St) (h : AH) : Prop := F20.t8 W QP s h (F20.k6 W Q QP) (F20.k7 W Q QP)
theorem F20.k8_a (C0 C1 : KT) : F20.cw W (F20.d [1, 1, 1, 1, 0, 1, 0, 1, 1, 1, 0, 1, 0, 0, 0, 0, 0]) (thenQ (C1) (thenQ (C0) (Q))) QP s h = F20.t8 W QP s h C0 C1 := by kernel_rfl
theorem F20.k8_ok : F20.cw W (F20.d [1, 1, 1, 1, 0, 1, 0, 1, 1, 1, 0, 1, 0, 0, 0, 0]) (thenQ (F20.k6 W Q QP) (Q)) QP s h = F20.k8 W Q QP s h := nd_seq (a := (F20.d [1, 1, 1, 1, 0, 1, 0, 1, 1, 1, 0, 1, 0, 0, 0, 0, 0])) (b := (F20.d [1, 1, 1, 1, 0, 1, 0, 1, 1, 1, 0, 1, 0, 0, 0, 0, 1])) (by kernel_rfl) (F20.k7_ok W Q QP) (F20.k8_a W Q QP s h (F20.k6 W Q QP) (F20.k7 W Q QP))
theorem F20.o2 : F20.cw W (F20.d [1, 1, 1, 1, 0, 1, 0, 1, 1, 1, 0, 1, 0, 0, 0]) (Q) QP s h = F20.k8 W Q QP s h := nd_seq (a := (F20.d [1, 1, 1, 1, 0, 1, 0, 1, 1, 1, 0, 1, 0, 0, 0, 0])) (b := (F20.d [1, 1, 1, 1, 0, 1, 0, 1, 1, 1, 0, 1, 0, 0, 0, 1])) (by kernel_rfl) (F20.o1 W Q QP) (F20.k8_ok W Q QP s h)
noncomputable def F20.c1 : Code := (F20.d [1, 1, 1, 1, 0, 1, 0, 1, 1, 1, 0, 1, 0, 0, 0])
theorem F20.l1 : aw Tryd.prog 155 W F20.pl F20.c1 Q QP s h = F20.k8 W Q QP s h := F20.o2 W Q QP s h
def F20.k9 (W : Nat → Prop) (Q : Post) (QP : PPost) (s : St) (h : AH) : Prop := aLoop (aw Tryd.prog 155 W F20.pl F20.c1) (blockQ 3 (thenQ (F20.k5 W Q QP) (blockQ 0 (thenQ (F20.k1 W Q QP) (Q))))) QP s h
theorem F20.k9_ok : F20.cw W (F20.d [1, 1, 1, 1, 0, 1, 0, 1, 1, 1, 0, 1, 0, 0]) (blockQ 3 (thenQ (F20.k5 W Q QP) (blockQ 0 (thenQ (F20.k1 W Q QP) (Q))))) QP s h = F20.k9 W Q QP s h := nd_loop (a := F20.c1) (by kernel_rfl)
theorem F20.o3 : F20.cw W (F20.d [1, 1, 1, 1, 0, 1, 0, 1, 1, 1, 0, 1, 0]) (thenQ (F20.k5 W Q QP) (blockQ 0 (thenQ (F20.k1 W Q QP) (Q)))) QP s h = F20.k9 W Q QP s h := nd_block (a := (F20.d [1, 1, 1, 1, 0, 1, 0, 1, 1, 1, 0, 1, 0, 0])) (by kernel_rfl) (F20.k9_ok W Q QP s h)
theorem F20.o4 : F20.cw W (F20.d [1, 1, 1, 1, 0, 1, 0, 1, 1, 1, 0, 1]) (blockQ 0 (thenQ (F20.k1 W Q QP) (Q))) QP s h = F20.k9 W Q QP s h := nd_seq (a := (F20.d [1, 1, 1, 1, 0, 1, 0, 1, 1, 1, 0, 1, 0])) (b := (F20.d [1, 1, 1, 1, 0, 1, 0, 1, 1, 1, 0, 1, 1])) (by kernel_rfl) (F20.k5_ok W Q QP) (F20.o3 W Q QP s h)
def F20.t10 (W : Nat → Prop) (QP : PPost) (s : St) (h : AH) (C0 C1 : KT) : Prop :=
  aCall Tryd.prog W 35 [(s.tm 0)] h (fun t38 h39 =>
  pFld (some 1) (s.tm 5) fun t40 =>
  eStore (some 1) t40 t38 h39 W fun h41 =>
  C1 ⟨puts s.tm [(83, (s.tm 0)), (84, t38), (85, t40)], s.ds⟩ h41) (QP s.ds)
def F20.k10 (W : Nat → Prop) (Q : Post) (QP : PPost) (s : St) (h : AH) : Prop := F20.t10 W QP s h (F20.k1 W Q QP) (F20.k9 W Q QP)
theorem F20.k10_a (C0 C1 : KT) : F20.cw W (F20.d [1, 1, 1, 1, 0, 1, 0, 1, 1, 1, 0, 0]) (thenQ (C1) (blockQ 0 (thenQ (C0) (Q)))) QP s h = F20.t10 W QP s h C0 C1 := by kernel_rfl
theorem F20.k10_ok : F20.cw W (F20.d [1, 1, 1, 1, 0, 1, 0, 1, 1, 1, 0]) (blockQ 0 (thenQ (F20.k1 W Q QP) (Q))) QP s h = F20.k10 W Q QP s h := nd_seq (a := (F20.d [1, 1, 1, 1, 0, 1, 0, 1, 1, 1, 0, 0])) (b := (F20.d [1, 1, 1, 1, 0, 1, 0, 1, 1, 1, 0, 1])) (by kernel_rfl) (F20.o4 W Q QP) (F20.k10_a W Q QP s h (F20.k1 W Q QP) (F20.k9 W Q QP))
def F20.t11 (W : Nat → Prop) (QP : PPost) (s : St) (h : AH) (C0 : KT) : Prop :=
  pBin Tryd.prog .add 3 true (s.tm 1) (.sc (.int .i64 1)) fun t42 =>
  aCall Tryd.prog W 39 [(s.tm 0), t42] h (fun t43 h44 =>
  pFld (some 4) (s.tm 5) fun t45 =>
  eStore (some 1) t45 t43 h44 W fun h46 =>
  C0 ⟨puts s.tm [(106, (s.tm 0)), (107, (s.tm 1)), (108, t42), (109, t43), (110, t45)], s.ds⟩ h46) (QP s.ds)
def F20.k11 (W : Nat → Prop) (Q : Post) (QP : PPost) (s : St) (h : AH) : Prop := F20.t11 W QP s h (F20.k1 W Q QP)
theorem F20.k11_a (C0 : KT) : F20.cw W (F20.d [1, 1, 1, 1, 0, 1, 0, 1, 1, 1, 1, 1, 0, 1]) (blockQ 0 (thenQ (C0) (Q))) QP s h = F20.t11 W QP s h C0 := by kernel_rfl
theorem F20.k11_ok : F20.cw W (F20.d [1, 1, 1, 1, 0, 1, 0, 1, 1, 1, 1, 1, 0, 1]) (blockQ 0 (thenQ (F20.k1 W Q QP) (Q))) QP s h = F20.k11 W Q QP s h := (F20.k11_a W Q QP s h (F20.k1 W Q QP))
def F20.t12 (W : Nat → Prop) (QP : PPost) (s : St) (h : AH) (C0 C1 : KT) : Prop :=
  aCall Tryd.prog W 36 [(s.tm 0)] h (fun t47 h48 =>
  pFld (some 3) (s.tm 5) fun t49 =>
  eStore (some 1) t49 t47 h48 W fun h50 =>
  C1 ⟨puts s.tm [(103, (s.tm 0)), (104, t47), (105, t49)], s.ds⟩ h50) (QP s.ds)
def F20.k12 (W : Nat → Prop) (Q : Post) (QP : PPost) (s : St) (h : AH) : Prop := F20.t12 W QP s h (F20.k1 W Q QP) (F20.k11 W Q QP)
theorem F20.k12_a (C0 C1 : KT) : F20.cw W (F20.d [1, 1, 1, 1, 0, 1, 0, 1, 1, 1, 1, 1, 0, 0]) (thenQ (C1) (blockQ 0 (thenQ (C0) (Q)))) QP s h = F20.t12 W QP s h C0 C1 := by kernel_rfl
theorem F20.k12_ok : F20.cw W (F20.d [1, 1, 1, 1, 0, 1, 0, 1, 1, 1, 1, 1, 0]) (blockQ 0 (thenQ (F20.k1 W Q QP) (Q))) QP s h = F20.k12 W Q QP s h := nd_seq (a := (F20.d [1, 1, 1, 1, 0, 1, 0, 1, 1, 1, 1, 1, 0, 0])) (b := (F20.d [1, 1, 1, 1, 0, 1, 0, 1, 1, 1, 1, 1, 0, 1])) (by kernel_rfl) (F20.k11_ok W Q QP) (F20.k12_a W Q QP s h (F20.k1 W Q QP) (F20.k11 W Q QP))
def F20.t13 (W : Nat → Prop) (QP : PPost) (s : St) (h : AH) (C0 : KT) : Prop :=
  pBin Tryd.prog .add 3 true (s.tm 1) (.sc (.int .i64 1)) fun t51 =>
  aCall Tryd.prog W 39 [(s.tm 0), t51] h (fun t52 h53 =>
  pFld (some 4) (s.tm 5) fun t54 =>
  eStore (some 1) t54 t52 h53 W fun h55 =>
  C0 ⟨puts s.tm [(119, (s.tm 0)), (120, (s.tm 1)), (121, t51), (122, t52), (123, t54)], s.ds⟩ h55) (QP s.ds)
def F20.k13 (W : Nat → Prop) (Q : Post) (QP : PPost) (s : St) (h : AH) : Prop := F20.t13 W QP s h (F20.k1 W Q QP)
theorem F20.k13_a (C0 : KT) : F20.cw W (F20.d [1, 1, 1, 1, 0, 1, 0, 1, 1, 1, 1, 1, 1, 1, 0, 1, 1]) (blockQ 0 (thenQ (C0) (Q))) QP s h = F20.t13 W QP s h C0 := by kernel_rfl
theorem F20.k13_ok : F20.cw W (F20.d [1, 1, 1, 1, 0, 1, 0, 1, 1, 1, 1, 1, 1, 1, 0, 1, 1]) (blockQ 0 (thenQ (F20.k1 W Q QP) (Q))) QP s h = F20.k13 W Q QP s h := (F20.k13_a W Q QP s h (F20.k1 W Q QP))
def F20.t14 (W : Nat → Prop) (QP : PPost) (s : St) (h : AH) (C0 C1 : KT) : Prop :=
  aCall Tryd.prog W 36 [(s.tm 0)] h (fun t56 h57 =>
  pFld (some 3) (s.tm 5) fun t58 =>
  eStore (some 1) t58 t56 h57 W fun h59 =>
  C1 ⟨puts s.tm [(116, (s.tm 0)), (117, t56), (118, t58)], s.ds⟩ h59) (QP s.ds)
def F20.k14 (W : Nat → Prop) (Q : Post) (QP : PPost) (s : St) (h : AH) : Prop := F20.t14 W QP s h (F20.k1 W Q QP) (F20.k13 W Q QP)
theorem F20.k14_a (C0 C1 : KT) : F20.cw W (F20.d [1, 1, 1, 1, 0, 1, 0, 1, 1, 1, 1, 1, 1, 1, 0, 1, 0]) (thenQ (C1) (blockQ 0 (thenQ (C0) (Q)))) QP s h = F20.t14 W QP s h C0 C1 := by kernel_rfl
theorem F20.k14_ok : F20.cw W (F20.d [1, 1, 1, 1, 0, 1, 0, 1, 1, 1, 1, 1, 1, 1, 0, 1]) (blockQ 0 (thenQ (F20.k1 W Q QP) (Q))) QP s h = F20.k14 W Q QP s h := nd_seq (a := (F20.d [1, 1, 1, 1, 0, 1, 0, 1, 1, 1, 1, 1, 1, 1, 0, 1, 0])) (b := (F20.d [1, 1, 1, 1, 0, 1, 0, 1, 1, 1, 1, 1, 1, 1, 0, 1, 1])) (by kernel_rfl) (F20.k13_ok W Q QP) (F20.k14_a W Q QP s h (F20.k1 W Q QP) (F20.k13 W Q QP))
def F20.t15 (W : Nat → Prop) (QP : PPost) (s : St) (h : AH) (C0 C1 : KT) : Prop :=
  aCall Tryd.prog W 35 [(s.tm 0)] h (fun t60 h61 =>
  pFld (some 1) (s.tm 5) fun t62 =>
  eStore (some 1) t62 t60 h61 W fun h63 =>
  C1 ⟨puts s.tm [(113, (s.tm 0)), (114, t60), (115, t62)], s.ds⟩ h63) (QP s.ds)
def F20.k15 (W : Nat → Prop) (Q : Post) (QP : PPost) (s : St) (h : AH) : Prop := F20.t15 W QP s h (F20.k1 W Q QP) (F20.k14 W Q QP)
theorem F20.k15_a (C0 C1 : KT) : F20.cw W (F20.d [1, 1, 1, 1, 0, 1, 0, 1, 1, 1, 1, 1, 1, 1, 0, 0]) (thenQ (C1) (blockQ 0 (thenQ (C0) (Q)))) QP s h = F20.t15 W QP s h C0 C1 := by kernel_rfl
theorem F20.k15_ok : F20.cw W (F20.d [1, 1, 1, 1, 0, 1, 0, 1, 1, 1, 1, 1, 1, 1, 0]) (blockQ 0 (thenQ (F20.k1 W Q QP) (Q))) QP s h = F20.k15 W Q QP s h := nd_seq (a := (F20.d [1, 1, 1, 1, 0, 1, 0, 1, 1, 1, 1, 1, 1, 1, 0, 0])) (b := (F20.d [1, 1, 1, 1, 0, 1, 0, 1, 1, 1, 1, 1, 1, 1, 0, 1])) (by kernel_rfl) (F20.k14_ok W Q QP) (F20.k15_a W Q QP s h (F20.k1 W Q QP) (F20.k14 W Q QP))
def F20.t16 (W : Nat → Prop) (QP : PPost) (s : St) (h : AH) (C0 : KT) : Prop :=
  aCall Tryd.prog W 37 [(s.tm 0), (.sc (.string ⟨#[59]⟩))] h (fun t64 h65 =>
  C0 ⟨puts s.tm [(135, (s.tm 0)), (136, t64)], s.ds⟩ h65) (QP s.ds)
def F20.k16 (W : Nat → Prop) (Q : Post) (QP : PPost) (s : St) (h : AH) : Prop := F20.t16 W QP s h (F20.k1 W Q QP)
theorem F20.k16_a (C0 : KT) : F20.cw W (F20.d [1, 1, 1, 1, 0, 1, 0, 1, 1, 1, 1, 1, 1, 1, 1, 1, 0, 1]) (blockQ 0 (thenQ (C0) (Q))) QP s h = F20.t16 W QP s h C0 := by kernel_rfl
theorem F20.k16_ok : F20.cw W (F20.d [1, 1, 1, 1, 0, 1, 0, 1, 1, 1, 1, 1, 1, 1, 1, 1, 0, 1]) (blockQ 0 (thenQ (F20.k1 W Q QP) (Q))) QP s h = F20.k16 W Q QP s h := (F20.k16_a W Q QP s h (F20.k1 W Q QP))
def F20.t17 (W : Nat → Prop) (QP : PPost) (s : St) (h : AH) (C0 C1 : KT) : Prop :=
  ∃ Hd : Nat → Nat, (∀ i ∈ [1], h.obj (Hd i) ≠ none) ∧ (
  pFld (some 2) (s.tm 5) fun t66 =>
  lLd (some false) (some 1) t66 h fun t67 i68 =>
  (i68 = Hd 1) ∧ (
  aCall Tryd.prog (banL W Hd [1]) 40 [(s.tm 0)] h (fun t69 h70 =>
  aCall Tryd.prog (banL W Hd [1]) 40 [(s.tm 0)] h70 (fun t71 h72 =>
  eBSl (some (2, 41, [.string ⟨#[]⟩, .int .i64 0, .string ⟨#[]⟩, .int .i64 0])) 2 [(0, t69), (1, t71)] h72 fun t73 h74 =>
  eApp (some (2, 24, 41)) t67 t73 h74 W fun t75 h76 =>
  pFld (some 2) (s.tm 5) fun t77 =>
  eStore (some 1) t77 t75 h76 W fun h78 =>
  C1 ⟨puts s.tm [(126, t66), (127, t67), (128, (s.tm 0)), (130, (s.tm 0)), (129, t69), (131, t71), (132, t73), (133, t75), (134, t77)], s.ds⟩ h78) (QP s.ds)) (QP s.ds)))
def F20.k17 (W : Nat → Prop) (Q : Post) (QP : PPost) (s : St) (h : AH) : Prop := F20.t17 W QP s h (F20.k1 W Q QP) (F20.k16 W Q QP)
theorem F20.k17_a (C0 C1 : KT) : F20.cw W (F20.d [1, 1, 1, 1, 0, 1, 0, 1, 1, 1, 1, 1, 1, 1, 1, 1, 0, 0]) (thenQ (C1) (blockQ 0 (thenQ (C0) (Q)))) QP s h = F20.t17 W QP s h C0 C1 := by kernel_rfl
theorem F20.k17_ok : F20.cw W (F20.d [1, 1, 1, 1, 0, 1, 0, 1, 1, 1, 1, 1, 1, 1, 1, 1, 0, 0]) (thenQ (F20.k16 W Q QP) (blockQ 0 (thenQ (F20.k1 W Q QP) (Q)))) QP s h = F20.k17 W Q QP s h := (F20.k17_a W Q QP s h (F20.k1 W Q QP) (F20.k16 W Q QP))
theorem F20.o5 : F20.cw W (F20.d [1, 1, 1, 1, 0, 1, 0, 1, 1, 1, 1, 1, 1, 1, 1, 1, 0]) (blockQ 0 (thenQ (F20.k1 W Q QP) (Q))) QP s h = F20.k17 W Q QP s h := nd_seq (a := (F20.d [1, 1, 1, 1, 0, 1, 0, 1, 1, 1, 1, 1, 1, 1, 1, 1, 0, 0])) (b := (F20.d [1, 1, 1, 1, 0, 1, 0, 1, 1, 1, 1, 1, 1, 1, 1, 1, 0, 1])) (by kernel_rfl) (F20.k16_ok W Q QP) (F20.k17_ok W Q QP s h)
def F20.t18 (W : Nat → Prop) (QP : PPost) (s : St) (h : AH) (C0 : KT) : Prop :=
  aCall Tryd.prog W 37 [(s.tm 0), (.sc (.string ⟨#[59]⟩))] h (fun t79 h80 =>
  C0 ⟨puts s.tm [(146, (s.tm 0)), (147, t79)], s.ds⟩ h80) (QP s.ds)
def F20.k18 (W : Nat → Prop) (Q : Post) (QP : PPost) (s : St) (h : AH) : Prop := F20.t18 W QP s h (F20.k1 W Q QP)
theorem F20.k18_a (C0 : KT) : F20.cw W (F20.d [1, 1, 1, 1, 0, 1, 0, 1, 1, 1, 1, 1, 1, 1, 1, 1, 1, 1, 0, 1]) (blockQ 0 (thenQ (C0) (Q))) QP s h = F20.t18 W QP s h C0 := by kernel_rfl
theorem F20.k18_ok : F20.cw W (F20.d [1, 1, 1, 1, 0, 1, 0, 1, 1, 1, 1, 1, 1, 1, 1, 1, 1, 1, 0, 1]) (blockQ 0 (thenQ (F20.k1 W Q QP) (Q))) QP s h = F20.k18 W Q QP s h := (F20.k18_a W Q QP s h (F20.k1 W Q QP))
def F20.t19 (W : Nat → Prop) (QP : PPost) (s : St) (h : AH) (C0 C1 : KT) : Prop :=
  ∃ Hd : Nat → Nat, (∀ i ∈ [1], h.obj (Hd i) ≠ none) ∧ (
  pFld (some 2) (s.tm 5) fun t81 =>
  lLd (some false) (some 1) t81 h fun t82 i83 =>
  (i83 = Hd 1) ∧ (
  aCall Tryd.prog (banL W Hd [1]) 40 [(s.tm 0)] h (fun t84 h85 =>
  eBSl (some (2, 41, [.string ⟨#[]⟩, .int .i64 0])) 1 [(0, t84)] h85 fun t86 h87 =>
  eApp (some (2, 24, 41)) t82 t86 h87 W fun t88 h89 =>
  pFld (some 2) (s.tm 5) fun t90 =>
  eStore (some 1) t90 t88 h89 W fun h91 =>
  C1 ⟨puts s.tm [(139, t81), (140, t82), (141, (s.tm 0)), (142, t84), (143, t86), (144, t88), (145, t90)], s.ds⟩ h91) (QP s.ds)))
def F20.k19 (W : Nat → Prop) (Q : Post) (QP : PPost) (s : St) (h : AH) : Prop := F20.t19 W QP s h (F20.k1 W Q QP) (F20.k18 W Q QP)
theorem F20.k19_a (C0 C1 : KT) : F20.cw W (F20.d [1, 1, 1, 1, 0, 1, 0, 1, 1, 1, 1, 1, 1, 1, 1, 1, 1, 1, 0, 0]) (thenQ (C1) (blockQ 0 (thenQ (C0) (Q)))) QP s h = F20.t19 W QP s h C0 C1 := by kernel_rfl
theorem F20.k19_ok : F20.cw W (F20.d [1, 1, 1, 1, 0, 1, 0, 1, 1, 1, 1, 1, 1, 1, 1, 1, 1, 1, 0, 0]) (thenQ (F20.k18 W Q QP) (blockQ 0 (thenQ (F20.k1 W Q QP) (Q)))) QP s h = F20.k19 W Q QP s h := (F20.k19_a W Q QP s h (F20.k1 W Q QP) (F20.k18 W Q QP))
theorem F20.o6 : F20.cw W (F20.d [1, 1, 1, 1, 0, 1, 0, 1, 1, 1, 1, 1, 1, 1, 1, 1, 1, 1, 0]) (blockQ 0 (thenQ (F20.k1 W Q QP) (Q))) QP s h = F20.k19 W Q QP s h := nd_seq (a := (F20.d [1, 1, 1, 1, 0, 1, 0, 1, 1, 1, 1, 1, 1, 1, 1, 1, 1, 1, 0, 0])) (b := (F20.d [1, 1, 1, 1, 0, 1, 0, 1, 1, 1, 1, 1, 1, 1, 1, 1, 1, 1, 0, 1])) (by kernel_rfl) (F20.k18_ok W Q QP) (F20.k19_ok W Q QP s h)
def F20.t20 (W : Nat → Prop) (QP : PPost) (s : St) (h : AH) (C0 : KT) : Prop :=
  aCall Tryd.prog W 37 [(s.tm 0), (.sc (.string ⟨#[59]⟩))] h (fun t92 h93 =>
  C0 ⟨puts s.tm [(68, (s.tm 0)), (69, t92)], s.ds⟩ h93) (QP s.ds)
def F20.k20 (W : Nat → Prop) (Q : Post) (QP : PPost) (s : St) (h : AH) : Prop := F20.t20 W QP s h (F20.k1 W Q QP)
theorem F20.k20_a (C0 : KT) : F20.cw W (F20.d [1, 1, 1, 1, 0, 1, 0, 1, 1, 1, 1, 1, 1, 1, 1, 1, 1, 1, 1, 1, 1]) (blockQ 0 (thenQ (C0) (Q))) QP s h = F20.t20 W QP s h C0 := by kernel_rfl
theorem F20.k20_ok : F20.cw W (F20.d [1, 1, 1, 1, 0, 1, 0, 1, 1, 1, 1, 1, 1, 1, 1, 1, 1, 1, 1, 1, 1]) (blockQ 0 (thenQ (F20.k1 W Q QP) (Q))) QP s h = F20.k20 W Q QP s h := (F20.k20_a W Q QP s h (F20.k1 W Q QP))
def F20.t21 (W : Nat → Prop) (Q : Post) (QP : PPost) (s : St) (h : AH) : Prop :=
  ∃ Hd : Nat → Nat, (∀ i ∈ [1], h.obj (Hd i) ≠ none) ∧ (
  pFld (some 2) (s.tm 5) fun t94 =>
  lLd (some false) (some 1) t94 h fun t95 i96 =>
  (i96 = Hd 1) ∧ (
  aCall Tryd.prog (banL W Hd [1]) 40 [(s.tm 0)] h (fun t97 h98 =>
  eBSl (some (2, 41, [.string ⟨#[]⟩, .int .i64 0])) 1 [(0, t97)] h98 fun t99 h100 =>
  eApp (some (2, 24, 41)) t95 t99 h100 W fun t101 h102 =>
  pFld (some 2) (s.tm 5) fun t103 =>
  eStore (some 1) t103 t101 h102 W fun h104 =>
  Q .normal ⟨puts s.tm [(61, t94), (62, t95), (63, (s.tm 0)), (64, t97), (65, t99), (66, t101), (67, t103)], s.ds⟩ h104) (QP s.ds)))
def F20.k21 (W : Nat → Prop) (Q : Post) (QP : PPost) (s : St) (h : AH) : Prop := F20.t21 W Q QP s h
theorem F20.k21_a : F20.cw W (F20.d [1, 1, 1, 1, 0, 1, 0, 1, 1, 1, 1, 1, 1, 1, 1, 1, 1, 1, 1, 1, 0, 0, 0, 1, 0]) (blockQ 2 (Q)) QP s h = F20.t21 W Q QP s h := by kernel_rfl
theorem F20.k21_ok : F20.cw W (F20.d [1, 1, 1, 1, 0, 1, 0, 1, 1, 1, 1, 1, 1, 1, 1, 1, 1, 1, 1, 1, 0, 0, 0, 1, 0]) (blockQ 2 (Q)) QP s h = F20.k21 W Q QP s h := (F20.k21_a W Q QP s h)
theorem F20.o7 : F20.cw W (F20.d [1, 1, 1, 1, 0, 1, 0, 1, 1, 1, 1, 1, 1, 1, 1, 1, 1, 1, 1, 1, 0, 0, 0, 1]) (Q) QP s h = F20.k21 W Q QP s h := nd_block (a := (F20.d [1, 1, 1, 1, 0, 1, 0, 1, 1, 1, 1, 1, 1, 1, 1, 1, 1, 1, 1, 1, 0, 0, 0, 1, 0])) (by kernel_rfl) (F20.k21_ok W Q QP s h)
def F20.t22 (Q : Post) (s : St) (h : AH) (C0 : KT) : Prop :=
  aIf (s.tm 60) (
  C0 s h) (
  Q (.exit 1) s h)
def F20.k22 (W : Nat → Prop) (Q : Post) (QP : PPost) (s : St) (h : AH) : Prop := F20.t22 Q s h (F20.k21 W Q QP)
theorem F20.k22_a (C0 : KT) : aIf (aev s (.tmp 60)) (F20.cw W (F20.d [1, 1, 1, 1, 0, 1, 0, 1, 1, 1, 1, 1, 1, 1, 1, 1, 1, 1, 1, 1, 0, 0, 0, 0, 1, 0]) (thenQ (C0) (Q)) QP s h) (F20.cw W (F20.d [1, 1, 1, 1, 0, 1, 0, 1, 1, 1, 1, 1, 1, 1, 1, 1, 1, 1, 1, 1, 0, 0, 0, 0, 1, 1]) (thenQ (C0) (Q)) QP s h) = F20.t22 Q s h C0 := by kernel_rfl
theorem F20.k22_ok : F20.cw W (F20.d [1, 1, 1, 1, 0, 1, 0, 1, 1, 1, 1, 1, 1, 1, 1, 1, 1, 1, 1, 1, 0, 0, 0, 0, 1]) (thenQ (F20.k21 W Q QP) (Q)) QP s h = F20.k22 W Q QP s h := nd_cond (a := (F20.d [1, 1, 1, 1, 0, 1, 0, 1, 1, 1, 1, 1, 1, 1, 1, 1, 1, 1, 1, 1, 0, 0, 0, 0, 1, 0])) (b := (F20.d [1, 1, 1, 1, 0, 1, 0, 1, 1, 1, 1, 1, 1, 1, 1, 1, 1, 1, 1, 1, 0, 0, 0, 0, 1, 1])) (by kernel_rfl) rfl rfl (F20.k22_a W Q QP s h (F20.k21 W Q QP))
def F20.t23 (W : Nat → Prop) (QP : PPost) (s : St) (h : AH) (C0 C1 : KT) : Prop :=
  aCall Tryd.prog W 38 [(s.tm 0)] h (fun t105 h106 =>
  C1 ⟨puts s.tm [(59, (s.tm 0)), (60, t105)], s.ds⟩ h106) (QP s.ds)
def F20.k23 (W : Nat → Prop) (Q : Post) (QP : PPost) (s : St) (h : AH) : Prop := F20.t23 W QP s h (F20.k21 W Q QP) (F20.k22 W Q QP)
theorem F20.k23_a (C0 C1 : KT) : F20.cw W (F20.d [1, 1, 1, 1, 0, 1, 0, 1, 1, 1, 1, 1, 1, 1, 1, 1, 1, 1, 1, 1, 0, 0, 0, 0, 0]) (thenQ (C1) (thenQ (C0) (Q))) QP s h = F20.t23 W QP s h C0 C1 := by kernel_rfl
theorem F20.k23_ok : F20.cw W (F20.d [1, 1, 1, 1, 0, 1, 0, 1, 1, 1, 1, 1, 1, 1, 1, 1, 1, 1, 1, 1, 0, 0, 0, 0]) (thenQ (F20.k21 W Q QP) (Q)) QP s h = F20.k23 W Q QP s h := nd_seq (a := (F20.d [1, 1, 1, 1, 0, 1, 0, 1, 1, 1, 1, 1, 1, 1, 1, 1, 1, 1, 1, 1, 0, 0, 0, 0, 0])) (b := (F20.d [1, 1, 1, 1, 0, 1, 0, 1, 1, 1, 1, 1, 1, 1, 1, 1, 1, 1, 1, 1, 0, 0, 0, 0, 1])) (by kernel_rfl) (F20.k22_ok W Q QP) (F20.k23_a W Q QP s h (F20.k21 W Q QP) (F20.k22 W Q QP))
theorem F20.o8 : F20.cw W (F20.d [1, 1, 1, 1, 0, 1, 0, 1, 1, 1, 1, 1, 1, 1, 1, 1, 1, 1, 1, 1, 0, 0, 0]) (Q) QP s h = F20.k23 W Q QP s h := nd_seq (a := (F20.d [1, 1, 1, 1, 0, 1, 0, 1, 1, 1, 1, 1, 1, 1, 1, 1, 1, 1, 1, 1, 0, 0, 0, 0])) (b := (F20.d [1, 1, 1, 1, 0, 1, 0, 1, 1, 1, 1, 1, 1, 1, 1, 1, 1, 1, 1, 1, 0, 0, 0, 1])) (by kernel_rfl) (F20.o7 W Q QP) (F20.k23_ok W Q QP s h)
noncomputable def F20.c2 : Code := (F20.d [1, 1, 1, 1, 0, 1, 0, 1, 1, 1, 1, 1, 1, 1, 1, 1, 1, 1, 1, 1, 0, 0, 0])
theorem F20.l2 : aw Tryd.prog 155 W F20.pl F20.c2 Q QP s h = F20.k23 W Q QP s h := F20.o8 W Q QP s h
def F20.k24 (W : Nat → Prop) (Q : Post) (QP : PPost) (s : St) (h : AH) : Prop := aLoop (aw Tryd.prog 155 W F20.pl F20.c2) (blockQ 1 (thenQ (F20.k20 W Q QP) (blockQ 0 (thenQ (F20.k1 W Q QP) (Q))))) QP s h
theorem F20.k24_ok : F20.cw W (F20.d [1, 1, 1, 1, 0, 1, 0, 1, 1, 1, 1, 1, 1, 1, 1, 1, 1, 1, 1, 1, 0, 0]) (blockQ 1 (thenQ (F20.k20 W Q QP) (blockQ 0 (thenQ (F20.k1 W Q QP) (Q))))) QP s h = F20.k24 W Q QP s h := nd_loop (a := F20.c2) (by kernel_rfl)
theorem F20.o9 : F20.cw W (F20.d [1, 1, 1, 1, 0, 1, 0, 1, 1, 1, 1, 1, 1, 1, 1, 1, 1, 1, 1, 1, 0]) (thenQ (F20.k20 W Q QP) (blockQ 0 (thenQ (F20.k1 W Q QP) (Q)))) QP s h = F20.k24 W Q QP s h := nd_block (a := (F20.d [1, 1, 1, 1, 0, 1, 0, 1, 1, 1, 1, 1, 1, 1, 1, 1, 1, 1, 1, 1, 0, 0])) (by kernel_rfl) (F20.k24_ok W Q QP s h)
theorem F20.o10 : F20.cw W (F20.d [1, 1, 1, 1, 0, 1, 0, 1, 1, 1, 1, 1, 1, 1, 1, 1, 1, 1, 1, 1]) (blockQ 0 (thenQ (F20.k1 W Q QP) (Q))) QP s h = F20.k24 W Q QP s h := nd_seq (a := (F20.d [1, 1, 1, 1, 0, 1, 0, 1, 1, 1, 1, 1, 1, 1, 1, 1, 1, 1, 1, 1, 0])) (b := (F20.d [1, 1, 1, 1, 0, 1, 0, 1, 1, 1, 1, 1, 1, 1, 1, 1, 1, 1, 1, 1, 1])) (by kernel_rfl) (F20.k20_ok W Q QP) (F20.o9 W Q QP s h)
def F20.t25 (W : Nat → Prop) (s : St) (h : AH) (C0 C1 : KT) : Prop :=
  ∃ Hd : Nat → Nat, (∀ i ∈ [1], h.obj (Hd i) ≠ none) ∧ (
  pFld (some 1) (s.tm 4) fun t107 =>
  lLd (some false) (some 1) t107 h fun t108 i109 =>
  (i109 = Hd 1) ∧ (
  pFld (some 0) (s.tm 5) fun t110 =>
  eStore (some 1) t110 (.sc (.string ⟨#[117, 115, 101]⟩)) h (banL W Hd [1]) fun h111 =>
  pFld (some 1) (s.tm 5) fun t112 =>
  eStore (some 1) t112 t108 h111 W fun h113 =>
  C1 ⟨puts s.tm [(55, t107), (56, t108), (57, t110), (58, t112)], s.ds⟩ h113))
def F20.k25 (W : Nat → Prop) (Q : Post) (QP : PPost) (s : St) (h : AH) : Prop := F20.t25 W s h (F20.k1 W Q QP) (F20.k24 W Q QP)
theorem F20.k25_a (C0 C1 : KT) : F20.cw W (F20.d [1, 1, 1, 1, 0, 1, 0, 1, 1, 1, 1, 1, 1, 1, 1, 1, 1, 1, 1, 0]) (thenQ (C1) (blockQ 0 (thenQ (C0) (Q)))) QP s h = F20.t25 W s h C0 C1 := by kernel_rfl
theorem F20.k25_ok : F20.cw W (F20.d [1, 1, 1, 1, 0, 1, 0, 1, 1, 1, 1, 1, 1, 1, 1, 1, 1, 1, 1, 0]) (thenQ (F20.k24 W Q QP) (blockQ 0 (thenQ (F20.k1 W Q QP) (Q)))) QP s h = F20.k25 W Q QP s h := (F20.k25_a W Q QP s h (F20.k1 W Q QP) (F20.k24 W Q QP))
theorem F20.o11 : F20.cw W (F20.d [1, 1, 1, 1, 0, 1, 0, 1, 1, 1, 1, 1, 1, 1, 1, 1, 1, 1, 1]) (blockQ 0 (thenQ (F20.k1 W Q QP) (Q))) QP s h = F20.k25 W Q QP s h := nd_seq (a := (F20.d [1, 1, 1, 1, 0, 1, 0, 1, 1, 1, 1, 1, 1, 1, 1, 1, 1, 1, 1, 0])) (b := (F20.d [1, 1, 1, 1, 0, 1, 0, 1, 1, 1, 1, 1, 1, 1, 1, 1, 1, 1, 1, 1])) (by kernel_rfl) (F20.o10 W Q QP) (F20.k25_ok W Q QP s h)
def F20.t26 (s : St) (h : AH) (C0 C1 : KT) : Prop :=
  aIf (s.tm 137) (
  C0 s h) (
  C1 s h)
def F20.k26 (W : Nat → Prop) (Q : Post) (QP : PPost) (s : St) (h : AH) : Prop := F20.t26 s h (F20.k19 W Q QP) (F20.k25 W Q QP)
theorem F20.k26_a (C0 C1 : KT) : aIf (aev s (.tmp 137)) (C0 s h) (C1 s h) = F20.t26 s h C0 C1 := by kernel_rfl
theorem F20.k26_ok : F20.cw W (F20.d [1, 1, 1, 1, 0, 1, 0, 1, 1, 1, 1, 1, 1, 1, 1, 1, 1, 1]) (blockQ 0 (thenQ (F20.k1 W Q QP) (Q))) QP s h = F20.k26 W Q QP s h := nd_cond (a := (F20.d [1, 1, 1, 1, 0, 1, 0, 1, 1, 1, 1, 1, 1, 1, 1, 1, 1, 1, 0])) (b := (F20.d [1, 1, 1, 1, 0, 1, 0, 1, 1, 1, 1, 1, 1, 1, 1, 1, 1, 1, 1])) (by kernel_rfl) (F20.o6 W Q QP s h) (F20.o11 W Q QP s h) (F20.k26_a s h (F20.k19 W Q QP) (F20.k25 W Q QP))
def F20.t27 (s : St) (h : AH) (C0 C1 : KT) : Prop :=
  pBin Tryd.prog .eql 9 true (s.tm 54) (.sc (.string ⟨#[114, 101, 115, 101, 116]⟩)) fun t114 =>
  C1 ⟨puts s.tm [(138, t114), (137, t114)], s.ds⟩ h
def F20.k27 (W : Nat → Prop) (Q : Post) (QP : PPost) (s : St) (h : AH) : Prop := F20.t27 s h (F20.k1 W Q QP) (F20.k26 W Q QP)
theorem F20.k27_a (C0 C1 : KT) : F20.cw W (F20.d [1, 1, 1, 1, 0, 1, 0, 1, 1, 1, 1, 1, 1, 1, 1, 1, 1, 0]) (thenQ (C1) (blockQ 0 (thenQ (C0) (Q)))) QP s h = F20.t27 s h C0 C1 := by kernel_rfl
theorem F20.k27_ok : F20.cw W (F20.d [1, 1, 1, 1, 0, 1, 0, 1, 1, 1, 1, 1, 1, 1, 1, 1, 1]) (blockQ 0 (thenQ (F20.k1 W Q QP) (Q))) QP s h = F20.k27 W Q QP s h := nd_seq (a := (F20.d [1, 1, 1, 1, 0, 1, 0, 1, 1, 1, 1, 1, 1, 1, 1, 1, 1, 0])) (b := (F20.d [1, 1, 1, 1, 0, 1, 0, 1, 1, 1, 1, 1, 1, 1, 1, 1, 1, 1])) (by kernel_rfl) (F20.k26_ok W Q QP) (F20.k27_a W Q QP s h (F20.k1 W Q QP) (F20.k26 W Q QP))
def F20.t28 (s : St) (h : AH) (C0 C1 : KT) : Prop :=
  aIf (s.tm 124) (
  C0 s h) (
  C1 s h)
def F20.k28 (W : Nat → Prop) (Q : Post) (QP : PPost) (s : St) (h : AH) : Prop := F20.t28 s h (F20.k17 W Q QP) (F20.k27 W Q QP)
theorem F20.k28_a (C0 C1 : KT) : aIf (aev s (.tmp 124)) (C0 s h) (C1 s h) = F20.t28 s h C0 C1 := by kernel_rfl
theorem F20.k28_ok : F20.cw W (F20.d [1, 1, 1, 1, 0, 1, 0, 1, 1, 1, 1, 1, 1, 1, 1, 1]) (blockQ 0 (thenQ (F20.k1 W Q QP) (Q))) QP s h = F20.k28 W Q QP s h := nd_cond (a := (F20.d [1, 1, 1, 1, 0, 1, 0, 1, 1, 1, 1, 1, 1, 1, 1, 1, 0])) (b := (F20.d [1, 1, 1, 1, 0, 1, 0, 1, 1, 1, 1, 1, 1, 1, 1, 1, 1])) (by kernel_rfl) (F20.o5 W Q QP s h) (F20.k27_ok W Q QP s h) (F20.k28_a s h (F20.k17 W Q QP) (F20.k27 W Q QP))
def F20.t29 (s : St) (h : AH) (C0 C1 : KT) : Prop :=
  pBin Tryd.prog .eql 9 true (s.tm 54) (.sc (.string ⟨#[109, 101, 97, 115, 117, 114, 101]⟩)) fun t115 =>
  C1 ⟨puts s.tm [(125, t115), (124, t115)], s.ds⟩ h
def F20.k29 (W : Nat → Prop) (Q : Post) (QP : PPost) (s : St) (h : AH) : Prop := F20.t29 s h (F20.k1 W Q QP) (F20.k28 W Q QP)
theorem F20.k29_a (C0 C1 : KT) : F20.cw W (F20.d [1, 1, 1, 1, 0, 1, 0, 1, 1, 1, 1, 1, 1, 1, 1, 0]) (thenQ (C1) (blockQ 0 (thenQ (C0) (Q)))) QP s h = F20.t29 s h C0 C1 := by kernel_rfl
theorem F20.k29_ok : F20.cw W (F20.d [1, 1, 1, 1, 0, 1, 0, 1, 1, 1, 1, 1, 1, 1, 1]) (blockQ 0 (thenQ (F20.k1 W Q QP) (Q))) QP s h = F20.k29 W Q QP s h := nd_seq (a := (F20.d [1, 1, 1, 1, 0, 1, 0, 1, 1, 1, 1, 1, 1, 1, 1, 0])) (b := (F20.d [1, 1, 1, 1, 0, 1, 0, 1, 1, 1, 1, 1, 1, 1, 1, 1])) (by kernel_rfl) (F20.k28_ok W Q QP) (F20.k29_a W Q QP s h (F20.k1 W Q QP) (F20.k28 W Q QP))
def F20.t30 (s : St) (h : AH) (C0 C1 : KT) : Prop :=
  aIf (s.tm 111) (
  C0 s h) (
  C1 s h)
def F20.k30 (W : Nat → Prop) (Q : Post) (QP : PPost) (s : St) (h : AH) : Prop := F20.t30 s h (F20.k15 W Q QP) (F20.k29 W Q QP)
theorem F20.k30_a (C0 C1 : KT) : aIf (aev s (.tmp 111)) (C0 s h) (C1 s h) = F20.t30 s h C0 C1 := by kernel_rfl
theorem F20.k30_ok : F20.cw W (F20.d [1, 1, 1, 1, 0, 1, 0, 1, 1, 1, 1, 1, 1, 1]) (blockQ 0 (thenQ (F20.k1 W Q QP) (Q))) QP s h = F20.k30 W Q QP s h := nd_cond (a := (F20.d [1, 1, 1, 1, 0, 1, 0, 1, 1, 1, 1, 1, 1, 1, 0])) (b := (F20.d [1, 1, 1, 1, 0, 1, 0, 1, 1, 1, 1, 1, 1, 1, 1])) (by kernel_rfl) (F20.k15_ok W Q QP s h) (F20.k29_ok W Q QP s h) (F20.k30_a s h (F20.k15 W Q QP) (F20.k29 W Q QP))
def F20.t31 (s : St) (h : AH) (C0 C1 : KT) : Prop :=
  pBin Tryd.prog .eql 9 true (s.tm 54) (.sc (.string ⟨#[105, 102]⟩)) fun t116 =>
  C1 ⟨puts s.tm [(112, t116), (111, t116)], s.ds⟩ h
def F20.k31 (W : Nat → Prop) (Q : Post) (QP : PPost) (s : St) (h : AH) : Prop := F20.t31 s h (F20.k1 W Q QP) (F20.k30 W Q QP)
theorem F20.k31_a (C0 C1 : KT) : F20.cw W (F20.d [1, 1, 1, 1, 0, 1, 0, 1, 1, 1, 1, 1, 1, 0]) (thenQ (C1) (blockQ 0 (thenQ (C0) (Q)))) QP s h = F20.t31 s h C0 C1 := by kernel_rfl
theorem F20.k31_ok : F20.cw W (F20.d [1, 1, 1, 1, 0, 1, 0, 1, 1, 1, 1, 1, 1]) (blockQ 0 (thenQ (F20.k1 W Q QP) (Q))) QP s h = F20.k31 W Q QP s h := nd_seq (a := (F20.d [1, 1, 1, 1, 0, 1, 0, 1, 1, 1, 1, 1, 1, 0])) (b := (F20.d [1, 1, 1, 1, 0, 1, 0, 1, 1, 1, 1, 1, 1, 1])) (by kernel_rfl) (F20.k30_ok W Q QP) (F20.k31_a W Q QP s h (F20.k1 W Q QP) (F20.k30 W Q QP))
def F20.t32 (s : St) (h : AH) (C0 C1 : KT) : Prop :=
  aIf (s.tm 101) (
  C0 s h) (
  C1 s h)
def F20.k32 (W : Nat → Prop) (Q : Post) (QP : PPost) (s : St) (h : AH) : Prop := F20.t32 s h (F20.k12 W Q QP) (F20.k31 W Q QP)
theorem F20.k32_a (C0 C1 : KT) : aIf (aev s (.tmp 101)) (C0 s h) (C1 s h) = F20.t32 s h C0 C1 := by kernel_rfl
theorem F20.k32_ok : F20.cw W (F20.d [1, 1, 1, 1, 0, 1, 0, 1, 1, 1, 1, 1]) (blockQ 0 (thenQ (F20.k1 W Q QP) (Q))) QP s h = F20.k32 W Q QP s h := nd_cond (a := (F20.d [1, 1, 1, 1, 0, 1, 0, 1, 1, 1, 1, 1, 0])) (b := (F20.d [1, 1, 1, 1, 0, 1, 0, 1, 1, 1, 1, 1, 1])) (by kernel_rfl) (F20.k12_ok W Q QP s h) (F20.k31_ok W Q QP s h) (F20.k32_a s h (F20.k12 W Q QP) (F20.k31 W Q QP))
def F20.t33 (s : St) (h : AH) (C0 C1 : KT) : Prop :=
  pBin Tryd.prog .eql 9 true (s.tm 54) (.sc (.string ⟨#[114, 101, 112, 101, 97, 116]⟩)) fun t117 =>
  C1 ⟨puts s.tm [(102, t117), (101, t117)], s.ds⟩ h
def F20.k33 (W : Nat → Prop) (Q : Post) (QP : PPost) (s : St) (h : AH) : Prop := F20.t33 s h (F20.k1 W Q QP) (F20.k32 W Q QP)
theorem F20.k33_a (C0 C1 : KT) : F20.cw W (F20.d [1, 1, 1, 1, 0, 1, 0, 1, 1, 1, 1, 0]) (thenQ (C1) (blockQ 0 (thenQ (C0) (Q)))) QP s h = F20.t33 s h C0 C1 := by kernel_rfl
theorem F20.k33_ok : F20.cw W (F20.d [1, 1, 1, 1, 0, 1, 0, 1, 1, 1, 1]) (blockQ 0 (thenQ (F20.k1 W Q QP) (Q))) QP s h = F20.k33 W Q QP s h := nd_seq (a := (F20.d [1, 1, 1, 1, 0, 1, 0, 1, 1, 1, 1, 0])) (b := (F20.d [1, 1, 1, 1, 0, 1, 0, 1, 1, 1, 1, 1])) (by kernel_rfl) (F20.k32_ok W Q QP) (F20.k33_a W Q QP s h (F20.k1 W Q QP) (F20.k32 W Q QP))
def F20.t34 (s : St) (h : AH) (C0 C1 : KT) : Prop :=
  aIf (s.tm 81) (
  C0 s h) (
  C1 s h)
def F20.k34 (W : Nat → Prop) (Q : Post) (QP : PPost) (s : St) (h : AH) : Prop := F20.t34 s h (F20.k10 W Q QP) (F20.k33 W Q QP)
theorem F20.k34_a (C0 C1 : KT) : aIf (aev s (.tmp 81)) (C0 s h) (C1 s h) = F20.t34 s h C0 C1 := by kernel_rfl
theorem F20.k34_ok : F20.cw W (F20.d [1, 1, 1, 1, 0, 1, 0, 1, 1, 1]) (blockQ 0 (thenQ (F20.k1 W Q QP) (Q))) QP s h = F20.k34 W Q QP s h := nd_cond (a := (F20.d [1, 1, 1, 1, 0, 1, 0, 1, 1, 1, 0])) (b := (F20.d [1, 1, 1, 1, 0, 1, 0, 1, 1, 1, 1])) (by kernel_rfl) (F20.k10_ok W Q QP s h) (F20.k33_ok W Q QP s h) (F20.k34_a s h (F20.k10 W Q QP) (F20.k33 W Q QP))
def F20.t35 (s : St) (h : AH) (C0 C1 : KT) : Prop :=
  pBin Tryd.prog .eql 9 true (s.tm 54) (.sc (.string ⟨#[103, 97, 116, 101]⟩)) fun t118 =>
  C1 ⟨puts s.tm [(82, t118), (81, t118)], s.ds⟩ h
def F20.k35 (W : Nat → Prop) (Q : Post) (QP : PPost) (s : St) (h : AH) : Prop := F20.t35 s h (F20.k1 W Q QP) (F20.k34 W Q QP)
theorem F20.k35_a (C0 C1 : KT) : F20.cw W (F20.d [1, 1, 1, 1, 0, 1, 0, 1, 1, 0]) (thenQ (C1) (blockQ 0 (thenQ (C0) (Q)))) QP s h = F20.t35 s h C0 C1 := by kernel_rfl
theorem F20.k35_ok : F20.cw W (F20.d [1, 1, 1, 1, 0, 1, 0, 1, 1]) (blockQ 0 (thenQ (F20.k1 W Q QP) (Q))) QP s h = F20.k35 W Q QP s h := nd_seq (a := (F20.d [1, 1, 1, 1, 0, 1, 0, 1, 1, 0])) (b := (F20.d [1, 1, 1, 1, 0, 1, 0, 1, 1, 1])) (by kernel_rfl) (F20.k34_ok W Q QP) (F20.k35_a W Q QP s h (F20.k1 W Q QP) (F20.k34 W Q QP))
def F20.t36 (s : St) (h : AH) (C0 C1 : KT) : Prop :=
  aIf (s.tm 70) (
  C1 s h) (
  C0 s h)
def F20.k36 (W : Nat → Prop) (Q : Post) (QP : PPost) (s : St) (h : AH) : Prop := F20.t36 s h (F20.k35 W Q QP) (F20.k4 W Q QP)
theorem F20.k36_a (C0 C1 : KT) : aIf (aev s (.tmp 70)) (C1 s h) (C0 s h) = F20.t36 s h C0 C1 := by kernel_rfl
theorem F20.k36_ok : F20.cw W (F20.d [1, 1, 1, 1, 0, 1, 0, 1]) (blockQ 0 (thenQ (F20.k1 W Q QP) (Q))) QP s h = F20.k36 W Q QP s h := nd_cond (a := (F20.d [1, 1, 1, 1, 0, 1, 0, 1, 0])) (b := (F20.d [1, 1, 1, 1, 0, 1, 0, 1, 1])) (by kernel_rfl) (F20.k4_ok W Q QP s h) (F20.k35_ok W Q QP s h) (F20.k36_a s h (F20.k35 W Q QP) (F20.k4 W Q QP))
def F20.t37 (s : St) (h : AH) (C0 C1 : KT) : Prop :=
  aIf (s.tm 70) (
  C1 s h) (
  pBin Tryd.prog .eql 9 true (s.tm 54) (.sc (.string ⟨#[98, 105, 116, 115]⟩)) fun t119 =>
  C1 ⟨puts s.tm [(72, t119), (70, t119)], s.ds⟩ h)
def F20.k37 (W : Nat → Prop) (Q : Post) (QP : PPost) (s : St) (h : AH) : Prop := F20.t37 s h (F20.k1 W Q QP) (F20.k36 W Q QP)
theorem F20.k37_a (C0 C1 : KT) : aIf (aev s (.tmp 70)) (F20.cw W (F20.d [1, 1, 1, 1, 0, 1, 0, 0, 1, 0]) (thenQ (C1) (blockQ 0 (thenQ (C0) (Q)))) QP s h) (F20.cw W (F20.d [1, 1, 1, 1, 0, 1, 0, 0, 1, 1]) (thenQ (C1) (blockQ 0 (thenQ (C0) (Q)))) QP s h) = F20.t37 s h C0 C1 := by kernel_rfl
theorem F20.k37_ok : F20.cw W (F20.d [1, 1, 1, 1, 0, 1, 0, 0, 1]) (thenQ (F20.k36 W Q QP) (blockQ 0 (thenQ (F20.k1 W Q QP) (Q)))) QP s h = F20.k37 W Q QP s h := nd_cond (a := (F20.d [1, 1, 1, 1, 0, 1, 0, 0, 1, 0])) (b := (F20.d [1, 1, 1, 1, 0, 1, 0, 0, 1, 1])) (by kernel_rfl) rfl rfl (F20.k37_a W Q QP s h (F20.k1 W Q QP) (F20.k36 W Q QP))
def F20.t38 (s : St) (h : AH) (C0 C1 C2 : KT) : Prop :=
  pBin Tryd.prog .eql 9 true (s.tm 54) (.sc (.string ⟨#[113, 117, 98, 105, 116, 115]⟩)) fun t120 =>
  C2 ⟨puts s.tm [(71, t120), (70, t120)], s.ds⟩ h
def F20.k38 (W : Nat → Prop) (Q : Post) (QP : PPost) (s : St) (h : AH) : Prop := F20.t38 s h (F20.k1 W Q QP) (F20.k36 W Q QP) (F20.k37 W Q QP)
theorem F20.k38_a (C0 C1 C2 : KT) : F20.cw W (F20.d [1, 1, 1, 1, 0, 1, 0, 0, 0]) (thenQ (C2) (thenQ (C1) (blockQ 0 (thenQ (C0) (Q))))) QP s h = F20.t38 s h C0 C1 C2 := by kernel_rfl
theorem F20.k38_ok : F20.cw W (F20.d [1, 1, 1, 1, 0, 1, 0, 0]) (thenQ (F20.k36 W Q QP) (blockQ 0 (thenQ (F20.k1 W Q QP) (Q)))) QP s h = F20.k38 W Q QP s h := nd_seq (a := (F20.d [1, 1, 1, 1, 0, 1, 0, 0, 0])) (b := (F20.d [1, 1, 1, 1, 0, 1, 0, 0, 1])) (by kernel_rfl) (F20.k37_ok W Q QP) (F20.k38_a W Q QP s h (F20.k1 W Q QP) (F20.k36 W Q QP) (F20.k37 W Q QP))
theorem F20.o12 : F20.cw W (F20.d [1, 1, 1, 1, 0, 1, 0]) (blockQ 0 (thenQ (F20.k1 W Q QP) (Q))) QP s h = F20.k38 W Q QP s h := nd_seq (a := (F20.d [1, 1, 1, 1, 0, 1, 0, 0])) (b := (F20.d [1, 1, 1, 1, 0, 1, 0, 1])) (by kernel_rfl) (F20.k36_ok W Q QP) (F20.k38_ok W Q QP s h)
theorem F20.o13 : F20.cw W (F20.d [1, 1, 1, 1, 0, 1]) (thenQ (F20.k1 W Q QP) (Q)) QP s h = F20.k38 W Q QP s h := nd_block (a := (F20.d [1, 1, 1, 1, 0, 1, 0])) (by kernel_rfl) (F20.o12 W Q QP s h)
def F20.t39 (s : St) (h : AH) (C0 C1 : KT) : Prop :=
  pFld (some 1) (s.tm 4) fun t121 =>
  lLd (some false) (some 1) t121 h fun t122 _ =>
  C1 ⟨puts s.tm [(53, t121), (54, t122)], s.ds⟩ h
def F20.k39 (W : Nat → Prop) (Q : Post) (QP : PPost) (s : St) (h : AH) : Prop := F20.t39 s h (F20.k1 W Q QP) (F20.k38 W Q QP)
theorem F20.k39_a (C0 C1 : KT) : F20.cw W (F20.d [1, 1, 1, 1, 0, 0]) (thenQ (C1) (thenQ (C0) (Q))) QP s h = F20.t39 s h C0 C1 := by kernel_rfl
theorem F20.k39_ok : F20.cw W (F20.d [1, 1, 1, 1, 0]) (thenQ (F20.k1 W Q QP) (Q)) QP s h = F20.k39 W Q QP s h := nd_seq (a := (F20.d [1, 1, 1, 1, 0, 0])) (b := (F20.d [1, 1, 1, 1, 0, 1])) (by kernel_rfl) (F20.o13 W Q QP) (F20.k39_a W Q QP s h (F20.k1 W Q QP) (F20.k38 W Q QP))
theorem F20.o14 : F20.cw W (F20.d [1, 1, 1, 1]) (Q) QP s h = F20.k39 W Q QP s h := nd_seq (a := (F20.d [1, 1, 1, 1, 0])) (b := (F20.d [1, 1, 1, 1, 1])) (by kernel_rfl) (F20.k1_ok W Q QP) (F20.k39_ok W Q QP s h)
def F20.t40 (W : Nat → Prop) (s : St) (h : AH) (C0 : KT) : Prop :=
  pNil (s.tm 0) fun t124 =>
  pFld (some 3) t124 fun t125 =>
  lLd (some false) (some 1) t125 h fun t126 _ =>
  lLd (some true) (some 6) (s.tm 5) h fun t128 _ =>
  eBSl (some (6, 39, [.string ⟨#[]⟩, .string ⟨#[]⟩, .slice none 0 0, .int .i64 0, .int .i64 0, .int .i64 0])) 1 [(0, t128)] h fun t130 h131 =>
  eApp (some (6, 80, 39)) t126 t130 h131 W fun t132 h133 =>
  pNil (s.tm 0) fun t134 =>
  pFld (some 3) t134 fun t135 =>
  eStore (some 1) t135 t132 h133 W fun h136 =>
  C0 ⟨puts s.tm [(43, (s.tm 0)), (44, (s.tm 0)), (45, t124), (46, t125), (47, t126), (48, t128), (49, t130), (50, t132), (51, t134), (52, t135)], s.ds⟩ h136
def F20.k40 (W : Nat → Prop) (Q : Post) (QP : PPost) (s : St) (h : AH) : Prop := F20.t40 W s h (F20.k39 W Q QP)
theorem F20.k40_a (C0 : KT) : F20.cw W (F20.d [1, 1, 1, 0]) (thenQ (C0) (Q)) QP s h = F20.t40 W s h C0 := by kernel_rfl
theorem F20.k40_ok : F20.cw W (F20.d [1, 1, 1]) (Q) QP s h = F20.k40 W Q QP s h := nd_seq (a := (F20.d [1, 1, 1, 0])) (b := (F20.d [1, 1, 1, 1])) (by kernel_rfl) (F20.o14 W Q QP) (F20.k40_a W Q QP s h (F20.k39 W Q QP))
def F20.t41 (s : St) (h : AH) (C0 : KT) : Prop :=
  pNil (s.tm 0) fun t137 =>
  pFld (some 3) t137 fun t138 =>
  lLd (some false) (some 1) t138 h fun t139 _ =>
  (strArg t139 = false) ∧ pLen t139 fun t141 =>
  C0 ⟨puts s.tm [(38, (s.tm 0)), (39, t137), (40, t138), (41, t139), (42, t141), (6, t141)], s.ds⟩ h
def F20.k41 (W : Nat → Prop) (Q : Post) (QP : PPost) (s : St) (h : AH) : Prop := F20.t41 s h (F20.k40 W Q QP)
theorem F20.k41_a (C0 : KT) : F20.cw W (F20.d [1, 1, 0]) (thenQ (C0) (Q)) QP s h = F20.t41 s h C0 := by kernel_rfl
theorem F20.k41_ok : F20.cw W (F20.d [1, 1]) (Q) QP s h = F20.k41 W Q QP s h := nd_seq (a := (F20.d [1, 1, 0])) (b := (F20.d [1, 1, 1])) (by kernel_rfl) (F20.k40_ok W Q QP) (F20.k41_a W Q QP s h (F20.k40 W Q QP))
def F20.t42 (W : Nat → Prop) (s : St) (h : AH) (C0 : KT) : Prop :=
  pFld (some 1) (s.tm 4) fun t142 =>
  lLd (some false) (some 1) t142 h fun t143 _ =>
  pFld (some 2) (s.tm 4) fun t145 =>
  lLd (some false) (some 1) t145 h fun t146 _ =>
  pBld (some ([.string ⟨#[]⟩, .string ⟨#[]⟩, .slice none 0 0, .int .i64 0, .int .i64 0, .int .i64 0], .inl [(0, 1), (1, 1), (2, 1), (3, 1), (4, 1), (5, 1)])) [(0, t143), (5, t146)] fun t148 =>
  eAlloc (some [.string ⟨#[]⟩, .string ⟨#[]⟩, .slice none 0 0, .int .i64 0, .int .i64 0, .int .i64 0]) 6 39 h fun t149 h150 =>
  eStore (some 6) t149 t148 h150 W fun h151 =>
  C0 ⟨puts s.tm [(33, t142), (34, t143), (35, t145), (36, t146), (37, t148), (5, t149)], s.ds⟩ h151
def F20.k42 (W : Nat → Prop) (Q : Post) (QP : PPost) (s : St) (h : AH) : Prop := F20.t42 W s h (F20.k41 W Q QP)
theorem F20.k42_a (C0 : KT) : F20.cw W (F20.d [1, 0]) (thenQ (C0) (Q)) QP s h = F20.t42 W s h C0 := by kernel_rfl
theorem F20.k42_ok : F20.cw W (F20.d [1]) (Q) QP s h = F20.k42 W Q QP s h := nd_seq (a := (F20.d [1, 0])) (b := (F20.d [1, 1])) (by kernel_rfl) (F20.k41_ok W Q QP) (F20.k42_a W Q QP s h (F20.k41 W Q QP))
def F20.t43 (W : Nat → Prop) (QP : PPost) (s : St) (h : AH) (C0 : KT) : Prop :=
  pNil (s.tm 0) fun t152 =>
  pFld (some 1) t152 fun t153 =>
  lLd (some false) (some 1) t153 h fun t154 _ =>
  pNil (s.tm 0) fun t156 =>
  pFld (some 0) t156 fun t157 =>
  lLd (some false) (some 1) t157 h fun t158 _ =>
  (strArg t158 = false) ∧ pLen t158 fun t160 =>
  pBin Tryd.prog .lss 3 false t154 t160 fun t161 =>
  aIg true t161 (
  pNil (s.tm 0) fun t162 =>
  pFld (some 0) t162 fun t163 =>
  lLd (some false) (some 1) t163 h fun t164 _ =>
  pNil (s.tm 0) fun t166 =>
  pFld (some 1) t166 fun t167 =>
  lLd (some false) (some 1) t167 h fun t168 _ =>
  pIxA (some (3, none)) t164 t168 fun t170 =>
  pFld (some 0) t170 fun t171 =>
  lLd (some false) (some 1) t171 h fun t172 _ =>
  pBin Tryd.prog .eql 3 true t172 (.sc (.int .i64 1)) fun t174 =>
  pPick t161 t174 (.sc (.bool false)) fun t175 =>
  (
  aCall Tryd.prog W 34 [(s.tm 0), t175] h (fun t176 h177 =>
  eAlloc (some [.int .i64 0, .string ⟨#[]⟩, .int .i64 0]) 3 77 h177 fun t178 h179 =>
  eStore (some 3) t178 t176 h179 W fun h180 =>
  C0 ⟨puts s.tm [(7, (s.tm 0)), (8, (s.tm 0)), (9, t152), (10, t153), (11, t154), (12, (s.tm 0)), (13, t156), (14, t157), (15, t158), (16, t160), (17, t161), (18, t161), (19, (s.tm 0)), (20, t162), (21, t163), (22, t164), (23, (s.tm 0)), (24, t166), (25, t167), (26, t168), (27, t170), (28, t171), (29, t172), (30, t174), (31, t175), (32, t176), (4, t178)], s.ds⟩ h180) (QP s.ds)) ∧ (
  eAlloc (some [.int .i64 0, .string ⟨#[]⟩, .int .i64 0]) 3 77 h fun t181 h182 =>
  aCall Tryd.prog W 34 [(s.tm 0), t175] h182 (fun t183 h184 =>
  eStore (some 3) t181 t183 h184 W fun h185 =>
  C0 ⟨puts s.tm [(7, (s.tm 0)), (8, (s.tm 0)), (9, t152), (10, t153), (11, t154), (12, (s.tm 0)), (13, t156), (14, t157), (15, t158), (16, t160), (17, t161), (18, t161), (19, (s.tm 0)), (20, t162), (21, t163), (22, t164), (23, (s.tm 0)), (24, t166), (25, t167), (26, t168), (27, t170), (28, t171), (29, t172), (30, t174), (31, t175), (4, t181), (32, t183)], s.ds⟩ h185) (QP s.ds)) ∧ True) (
  pPick t161 noA (.sc (.bool false)) fun t186 =>
  (
  aCall Tryd.prog W 34 [(s.tm 0), t186] h (fun t187 h188 =>
  eAlloc (some [.int .i64 0, .string ⟨#[]⟩, .int .i64 0]) 3 77 h188 fun t189 h190 =>
  eStore (some 3) t189 t187 h190 W fun h191 =>
  C0 ⟨puts s.tm [(7, (s.tm 0)), (8, (s.tm 0)), (9, t152), (10, t153), (11, t154), (12, (s.tm 0)), (13, t156), (14, t157), (15, t158), (16, t160), (17, t161), (18, t161), (19, noA), (20, noA), (21, noA), (22, noA), (23, noA), (24, noA), (25, noA), (26, noA), (27, noA), (28, noA), (29, noA), (30, noA), (31, t186), (32, t187), (4, t189)], s.ds⟩ h191) (QP s.ds)) ∧ (
  eAlloc (some [.int .i64 0, .string ⟨#[]⟩, .int .i64 0]) 3 77 h fun t192 h193 =>
  aCall Tryd.prog W 34 [(s.tm 0), t186] h193 (fun t194 h195 =>
  eStore (some 3) t192 t194 h195 W fun h196 =>
  C0 ⟨puts s.tm [(7, (s.tm 0)), (8, (s.tm 0)), (9, t152), (10, t153), (11, t154), (12, (s.tm 0)), (13, t156), (14, t157), (15, t158), (16, t160), (17, t161), (18, t161), (19, noA), (20, noA), (21, noA), (22, noA), (23, noA), (24, noA), (25, noA), (26, noA), (27, noA), (28, noA), (29, noA), (30, noA), (31, t186), (4, t192), (32, t194)], s.ds⟩ h196) (QP s.ds)) ∧ True)
def F20.k43 (W : Nat → Prop) (Q : Post) (QP : PPost) (s : St) (h : AH) : Prop := F20.t43 W QP s h (F20.k42 W Q QP)
theorem F20.k43_a (C0 : KT) : F20.cw W (F20.d [0]) (thenQ (C0) (Q)) QP s h = F20.t43 W QP s h C0 := by kernel_rfl
theorem F20.k43_ok : F20.cw W (F20.d [0]) (thenQ (F20.k42 W Q QP) (Q)) QP s h = F20.k43 W Q QP s h := (F20.k43_a W Q QP s h (F20.k42 W Q QP))
theorem F20.o15 : F20.cw W (F20.d []) (Q) QP s h = F20.k43 W Q QP s h := nd_seq (a := (F20.d [0])) (b := (F20.d [1])) (by kernel_rfl) (F20.k42_ok W Q QP) (F20.k43_ok W Q QP s h)
end
set_option maxRecDepth 100000 in
theorem F20.calls {x0 x1 : AV} {h : AH} {M : Nat → Prop} {R : AE → AH → Prop} (hp : F20.k43 (fun id => M id ∨ h.next ≤ id) (bodyQ Tryd.prog [] R) (bodyP R) (s0 [x0, x1]) h) : ACalls Tryd.prog 20 [x0, x1] h M R :=
  acalls_of (c := F20.code) Tryd.mixed Tryd.func20 (by kernel_rfl) (Nat.le_of_ble_eq_true rfl) F20.ok (by rw [show Tryd.f20.ntmps = 155 from rfl, show Tryd.f20.results.toList = [] from rfl]; exact Eq.mpr (F20.o15 _ _ _ _ _) hp)
attribute [simp] F20.k1 F20.t1 F20.k2 F20.t2 F20.k3 F20.t3 F20.k4 F20.t4 F20.k5 F20.t5 F20.k6 F20.t6 F20.k7 F20.t7 F20.k8 F20.t8 F20.k9 F20.k10 F20.t10 F20.k11 F20.t11 F20.k12 F20.t12 F20.k13 F20.t13 F20.k14 F20.t14 F20.k15 F20.t15 F20.k16 F20.t16 F20.k17 F20.t17 F20.k18 F20.t18 F20.k19 F20.t19 F20.k20 F20.t20 F20.k21 F20.t21 F20.k22 F20.t22 F20.k23 F20.t23 F20.k24 F20.k25 F20.t25 F20.k26 F20.t26 F20.k27 F20.t27 F20.k28 F20.t28 F20.k29 F20.t29 F20.k30 F20.t30 F20.k31 F20.t31 F20.k32 F20.t32 F20.k33 F20.t33 F20.k34 F20.t34 F20.k35 F20.t35 F20.k36 F20.t36 F20.k37 F20.t37 F20.k38 F20.t38 F20.k39 F20.t39 F20.k40 F20.t40 F20.k41 F20.t41 F20.k42 F20.t42 F20.k43 F20.t43
end Go.Proofs.YthkkgbmjjpcfaaaDoor
namespace Go.Proofs.YthkkgbmjjpcfaaaDoor
open Go.Ab
section
variable (W : Nat → Prop) (Q : Post) (QP : PPost) (s : St) (h : AH)
noncomputable def F5.code : Code := Tryd.f5.body.getD .skip
def F5.g1 : Grps := [(none, [(0, false), (1, false), (2, false)]), (some (2, true), [(3, false), (4, false)]), (none, [(5, false), (6, false)]), (some (6, true), [(7, false), (8, false), (9, false)]), (none, [(10, false), (11, false)]), (some (11, true), [(12, false), (13, false), (14, false), (15, false), (16, false)]), (none, [(17, false), (18, false)]), (some (18, true), [(19, false), (20, false), (21, false), (22, false), (23, false)]), (none, [(24, false), (25, false)]), (some (25, true), [(26, false), (27, false), (28, false), (29, false), (30, false)]), (none, [(31, false), (32, false)]), (some (32, true), [(33, false), (34, false), (35, false), (36, false), (37, false), (38, false)]), (none, [(39, false), (40, false)]), (some (40, true), [(41, false), (42, false)]), (none, [(43, false), (44, false)]), (some (44, true), [(45, false), (46, false)]), (none, [(47, false), (48, false)])]
def F5.pl : Plans := [(3, ⟨F5.g1, false, [], []⟩)]
theorem F5.ok : okCode Tryd.prog F5.pl F5.code = true := by kernel_rfl
noncomputable abbrev F5.d (p : List Nat) : Code := Code.at F5.code p
abbrev F5.cw (W : Nat → Prop) (c : Code) (Q : Post) (QP : PPost) : KT := Go.Ab.aw Tryd.prog 65 W F5.pl c Q QP
def F5.t1 (Q : Post) (s : St) (h : AH) : Prop :=
  Q .ret s h
def F5.k1 (W : Nat → Prop) (Q : Post) (QP : PPost) (s : St) (h : AH) : Prop := F5.t1 Q s h
theorem F5.k1_a : F5.cw W (F5.d [1, 1, 1, 1]) (Q) QP s h = F5.t1 Q s h := by kernel_rfl
theorem F5.k1_ok : F5.cw W (F5.d [1, 1, 1, 1]) (Q) QP s h = F5.k1 W Q QP s h := (F5.k1_a W Q QP s h)
def F5.t2 (s : St) (h : AH) (C0 : KT) : Prop :=
  pPick (s.tm 61) (s.tm 63) (.sc (.bool false)) fun t1 =>
  C0 ⟨puts s.tm [(64, t1), (0, t1)], s.ds⟩ h
def F5.k2 (W : Nat → Prop) (Q : Post) (QP : PPost) (s : St) (h : AH) : Prop := F5.t2 s h (F5.k1 W Q QP)
theorem F5.k2_a (C0 : KT) : evI Tryd.prog 65 (fun _ => W) nobody QP (regOps (F5.d [1, 1, 1, 0])) (isAt F5.g1 16) ((thenQ (C0) (Q)) .normal) s h = F5.t2 s h C0 := by kernel_rfl
theorem F5.k2_ok : evG Tryd.prog 65 (fun _ => W) nobody QP (regOps (F5.d [1, 1, 1, 0])) (F5.g1.drop 16) ((thenQ (F5.k1 W Q QP) (Q)) .normal) s h = F5.k2 W Q QP s h := nd_g (is := isAt F5.g1 16) (rest := F5.g1.drop 17) (by kernel_rfl) (fun _ _ => rfl) (F5.k2_a W Q QP s h (F5.k1 W Q QP))
def F5.t3 (s : St) (h : AH) (C0 : KT) : Prop :=
  aIg true (s.tm 61) (
  pBin Tryd.prog .eql 3 true (s.tm 5) (.sc (.int .i64 6)) fun t2 =>
  C0 ⟨puts s.tm [(62, (s.tm 5)), (63, t2)], s.ds⟩ h) (
  C0 ⟨puts s.tm [(62, noA), (63, noA)], s.ds⟩ h)
def F5.k3 (W : Nat → Prop) (Q : Post) (QP : PPost) (s : St) (h : AH) : Prop := F5.t3 s h (F5.k2 W Q QP)
theorem F5.k3_a (C0 : KT) : aIg true (s.tm 61) (evI Tryd.prog 65 (fun _ => W) nobody QP (regOps (F5.d [1, 1, 1, 0])) (isAt F5.g1 15) (C0) s h) ((C0) (skI 65 (regOps (F5.d [1, 1, 1, 0])) (isAt F5.g1 15) s) h) = F5.t3 s h C0 := by kernel_rfl
theorem F5.k3_ok : evG Tryd.prog 65 (fun _ => W) nobody QP (regOps (F5.d [1, 1, 1, 0])) (F5.g1.drop 15) ((thenQ (F5.k1 W Q QP) (Q)) .normal) s h = F5.k3 W Q QP s h := nd_gw (j := 44) (is := isAt F5.g1 15) (rest := F5.g1.drop 16) (by kernel_rfl) (d := 61) (by kernel_rfl) (F5.k2_ok W Q QP) (F5.k3_a W QP s h (F5.k2 W Q QP))
def F5.t4 (s : St) (h : AH) (C0 : KT) : Prop :=
  pPick (s.tm 57) (s.tm 59) (.sc (.bool false)) fun t3 =>
  C0 ⟨puts s.tm [(60, t3), (61, t3)], s.ds⟩ h
def F5.k4 (W : Nat → Prop) (Q : Post) (QP : PPost) (s : St) (h : AH) : Prop := F5.t4 s h (F5.k3 W Q QP)
theorem F5.k4_a (C0 : KT) : evI Tryd.prog 65 (fun _ => W) nobody QP (regOps (F5.d [1, 1, 1, 0])) (isAt F5.g1 14) (C0) s h = F5.t4 s h C0 := by kernel_rfl
theorem F5.k4_ok : evG Tryd.prog 65 (fun _ => W) nobody QP (regOps (F5.d [1, 1, 1, 0])) (F5.g1.drop 14) ((thenQ (F5.k1 W Q QP) (Q)) .normal) s h = F5.k4 W Q QP s h := nd_g (is := isAt F5.g1 14) (rest := F5.g1.drop 15) (by kernel_rfl) (F5.k3_ok W Q QP) (F5.k4_a W QP s h (F5.k3 W Q QP))
def F5.t5 (s : St) (h : AH) (C0 : KT) : Prop :=
  aIg true (s.tm 57) (
  pBin Tryd.prog .eql 28 true (s.tm 6) (.sc (.int .i64 101)) fun t4 =>
  C0 ⟨puts s.tm [(58, (s.tm 6)), (59, t4)], s.ds⟩ h) (
  C0 ⟨puts s.tm [(58, noA), (59, noA)], s.ds⟩ h)
def F5.k5 (W : Nat → Prop) (Q : Post) (QP : PPost) (s : St) (h : AH) : Prop := F5.t5 s h (F5.k4 W Q QP)
theorem F5.k5_a (C0 : KT) : aIg true (s.tm 57) (evI Tryd.prog 65 (fun _ => W) nobody QP (regOps (F5.d [1, 1, 1, 0])) (isAt F5.g1 13) (C0) s h) ((C0) (skI 65 (regOps (F5.d [1, 1, 1, 0])) (isAt F5.g1 13) s) h) = F5.t5 s h C0 := by kernel_rfl
theorem F5.k5_ok : evG Tryd.prog 65 (fun _ => W) nobody QP (regOps (F5.d [1, 1, 1, 0])) (F5.g1.drop 13) ((thenQ (F5.k1 W Q QP) (Q)) .normal) s h = F5.k5 W Q QP s h := nd_gw (j := 40) (is := isAt F5.g1 13) (rest := F5.g1.drop 14) (by kernel_rfl) (d := 57) (by kernel_rfl) (F5.k4_ok W Q QP) (F5.k5_a W QP s h (F5.k4 W Q QP))
def F5.t6 (s : St) (h : AH) (C0 : KT) : Prop :=
  pPick (s.tm 49) (s.tm 55) (.sc (.bool false)) fun t5 =>
  C0 ⟨puts s.tm [(56, t5), (57, t5)], s.ds⟩ h
def F5.k6 (W : Nat → Prop) (Q : Post) (QP : PPost) (s : St) (h : AH) : Prop := F5.t6 s h (F5.k5 W Q QP)
theorem F5.k6_a (C0 : KT) : evI Tryd.prog 65 (fun _ => W) nobody QP (regOps (F5.d [1, 1, 1, 0])) (isAt F5.g1 12) (C0) s h = F5.t6 s h C0 := by kernel_rfl
theorem F5.k6_ok : evG Tryd.prog 65 (fun _ => W) nobody QP (regOps (F5.d [1, 1, 1, 0])) (F5.g1.drop 12) ((thenQ (F5.k1 W Q QP) (Q)) .normal) s h = F5.k6 W Q QP s h := nd_g (is := isAt F5.g1 12) (rest := F5.g1.drop 13) (by kernel_rfl) (F5.k5_ok W Q QP) (F5.k6_a W QP s h (F5.k5 W Q QP))
def F5.t7 (s : St) (h : AH) (C0 : KT) : Prop :=
  aIg true (s.tm 49) (
  pIxA (some (6, none)) (s.tm 1) (.sc (.int .i64 1)) fun t6 =>
  pFld (some 2) t6 fun t7 =>
  lLd (some false) (some 1) t7 h fun t8 _ =>
  (strArg t8 = false) ∧ pLen t8 fun t10 =>
  pBin Tryd.prog .eql 3 true t10 (.sc (.int .i64 1)) fun t11 =>
  C0 ⟨puts s.tm [(50, (s.tm 1)), (51, t6), (52, t7), (53, t8), (54, t10), (55, t11)], s.ds⟩ h) (
  C0 ⟨puts s.tm [(50, noA), (51, noA), (52, noA), (53, noA), (54, noA), (55, noA)], s.ds⟩ h)
def F5.k7 (W : Nat → Prop) (Q : Post) (QP : PPost) (s : St) (h : AH) : Prop := F5.t7 s h (F5.k6 W Q QP)
theorem F5.k7_a (C0 : KT) : aIg true (s.tm 49) (evI Tryd.prog 65 (fun _ => W) nobody QP (regOps (F5.d [1, 1, 1, 0])) (isAt F5.g1 11) (C0) s h) ((C0) (skI 65 (regOps (F5.d [1, 1, 1, 0])) (isAt F5.g1 11) s) h) = F5.t7 s h C0 := by kernel_rfl
theorem F5.k7_ok : evG Tryd.prog 65 (fun _ => W) nobody QP (regOps (F5.d [1, 1, 1, 0])) (F5.g1.drop 11) ((thenQ (F5.k1 W Q QP) (Q)) .normal) s h = F5.k7 W Q QP s h := nd_gw (j := 32) (is := isAt F5.g1 11) (rest := F5.g1.drop 12) (by kernel_rfl) (d := 49) (by kernel_rfl) (F5.k6_ok W Q QP) (F5.k7_a W QP s h (F5.k6 W Q QP))
def F5.t8 (s : St) (h : AH) (C0 : KT) : Prop :=
  pPick (s.tm 42) (s.tm 47) (.sc (.bool false)) fun t12 =>
  C0 ⟨puts s.tm [(48, t12), (49, t12)], s.ds⟩ h
def F5.k8 (W : Nat → Prop) (Q : Post) (QP : PPost) (s : St) (h : AH) : Prop := F5.t8 s h (F5.k7 W Q QP)
theorem F5.k8_a (C0 : KT) : evI Tryd.prog 65 (fun _ => W) nobody QP (regOps (F5.d [1, 1, 1, 0])) (isAt F5.g1 10) (C0) s h = F5.t8 s h C0 := by kernel_rfl
theorem F5.k8_ok : evG Tryd.prog 65 (fun _ => W) nobody QP (regOps (F5.d [1, 1, 1, 0])) (F5.g1.drop 10) ((thenQ (F5.k1 W Q QP) (Q)) .normal) s h = F5.k8 W Q QP s h := nd_g (is := isAt F5.g1 10) (rest := F5.g1.drop 11) (by kernel_rfl) (F5.k7_ok W Q QP) (F5.k8_a W QP s h (F5.k7 W Q QP))
def F5.t9 (s : St) (h : AH) (C0 : KT) : Prop :=
  aIg true (s.tm 42) (
  pIxA (some (6, none)) (s.tm 1) (.sc (.int .i64 1)) fun t13 =>
  pFld (some 5) t13 fun t14 =>
  lLd (some false) (some 1) t14 h fun t15 _ =>
  pBin Tryd.prog .eql 3 true t15 (.sc (.int .i64 12)) fun t17 =>
  C0 ⟨puts s.tm [(43, (s.tm 1)), (44, t13), (45, t14), (46, t15), (47, t17)], s.ds⟩ h) (
  C0 ⟨puts s.tm [(43, noA), (44, noA), (45, noA), (46, noA), (47, noA)], s.ds⟩ h)
def F5.k9 (W : Nat → Prop) (Q : Post) (QP : PPost) (s : St) (h : AH) : Prop := F5.t9 s h (F5.k8 W Q QP)
theorem F5.k9_a (C0 : KT) : aIg true (s.tm 42) (evI Tryd.prog 65 (fun _ => W) nobody QP (regOps (F5.d [1, 1, 1, 0])) (isAt F5.g1 9) (C0) s h) ((C0) (skI 65 (regOps (F5.d [1, 1, 1, 0])) (isAt F5.g1 9) s) h) = F5.t9 s h C0 := by kernel_rfl
theorem F5.k9_ok : evG Tryd.prog 65 (fun _ => W) nobody QP (regOps (F5.d [1, 1, 1, 0])) (F5.g1.drop 9) ((thenQ (F5.k1 W Q QP) (Q)) .normal) s h = F5.k9 W Q QP s h := nd_gw (j := 25) (is := isAt F5.g1 9) (rest := F5.g1.drop 10) (by kernel_rfl) (d := 42) (by kernel_rfl) (F5.k8_ok W Q QP) (F5.k9_a W QP s h (F5.k8 W Q QP))
def F5.t10 (s : St) (h : AH) (C0 : KT) : Prop :=
  pPick (s.tm 35) (s.tm 40) (.sc (.bool false)) fun t18 =>
  C0 ⟨puts s.tm [(41, t18), (42, t18)], s.ds⟩ h
def F5.k10 (W : Nat → Prop) (Q : Post) (QP : PPost) (s : St) (h : AH) : Prop := F5.t10 s h (F5.k9 W Q QP)
theorem F5.k10_a (C0 : KT) : evI Tryd.prog 65 (fun _ => W) nobody QP (regOps (F5.d [1, 1, 1, 0])) (isAt F5.g1 8) (C0) s h = F5.t10 s h C0 := by kernel_rfl
theorem F5.k10_ok : evG Tryd.prog 65 (fun _ => W) nobody QP (regOps (F5.d [1, 1, 1, 0])) (F5.g1.drop 8) ((thenQ (F5.k1 W Q QP) (Q)) .normal) s h = F5.k10 W Q QP s h := nd_g (is := isAt F5.g1 8) (rest := F5.g1.drop 9) (by kernel_rfl) (F5.k9_ok W Q QP) (F5.k10_a W QP s h (F5.k9 W Q QP))
def F5.t11 (s : St) (h : AH) (C0 : KT) : Prop :=
  aIg true (s.tm 35) (
  pIxA (some (6, none)) (s.tm 1) (.sc (.int .i64 1)) fun t19 =>
  pFld (some 1) t19 fun t20 =>
  lLd (some false) (some 1) t20 h fun t21 _ =>
  pBin Tryd.prog .eql 9 true t21 (.sc (.string ⟨#[104]⟩)) fun t23 =>
  C0 ⟨puts s.tm [(36, (s.tm 1)), (37, t19), (38, t20), (39, t21), (40, t23)], s.ds⟩ h) (
  C0 ⟨puts s.tm [(36, noA), (37, noA), (38, noA), (39, noA), (40, noA)], s.ds⟩ h)
def F5.k11 (W : Nat → Prop) (Q : Post) (QP : PPost) (s : St) (h : AH) : Prop := F5.t11 s h (F5.k10 W Q QP)
theorem F5.k11_a (C0 : KT) : aIg true (s.tm 35) (evI Tryd.prog 65 (fun _ => W) nobody QP (regOps (F5.d [1, 1, 1, 0])) (isAt F5.g1 7) (C0) s h) ((C0) (skI 65 (regOps (F5.d [1, 1, 1, 0])) (isAt F5.g1 7) s) h) = F5.t11 s h C0 := by kernel_rfl
theorem F5.k11_ok : evG Tryd.prog 65 (fun _ => W) nobody QP (regOps (F5.d [1, 1, 1, 0])) (F5.g1.drop 7) ((thenQ (F5.k1 W Q QP) (Q)) .normal) s h = F5.k11 W Q QP s h := nd_gw (j := 18) (is := isAt F5.g1 7) (rest := F5.g1.drop 8) (by kernel_rfl) (d := 35) (by kernel_rfl) (F5.k10_ok W Q QP) (F5.k11_a W QP s h (F5.k10 W Q QP))
def F5.t12 (s : St) (h : AH) (C0 : KT) : Prop :=
  pPick (s.tm 28) (s.tm 33) (.sc (.bool false)) fun t24 =>
  C0 ⟨puts s.tm [(34, t24), (35, t24)], s.ds⟩ h
def F5.k12 (W : Nat → Prop) (Q : Post) (QP : PPost) (s : St) (h : AH) : Prop := F5.t12 s h (F5.k11 W Q QP)
theorem F5.k12_a (C0 : KT) : evI Tryd.prog 65 (fun _ => W) nobody QP (regOps (F5.d [1, 1, 1, 0])) (isAt F5.g1 6) (C0) s h = F5.t12 s h C0 := by kernel_rfl
theorem F5.k12_ok : evG Tryd.prog 65 (fun _ => W) nobody QP (regOps (F5.d [1, 1, 1, 0])) (F5.g1.drop 6) ((thenQ (F5.k1 W Q QP) (Q)) .normal) s h = F5.k12 W Q QP s h := nd_g (is := isAt F5.g1 6) (rest := F5.g1.drop 7) (by kernel_rfl) (F5.k11_ok W Q QP) (F5.k12_a W QP s h (F5.k11 W Q QP))
def F5.t13 (s : St) (h : AH) (C0 : KT) : Prop :=
  aIg true (s.tm 28) (
  pIxA (some (6, none)) (s.tm 1) (.sc (.int .i64 0)) fun t25 =>
  pFld (some 3) t25 fun t26 =>
  lLd (some false) (some 1) t26 h fun t27 _ =>
  pBin Tryd.prog .eql 3 true t27 (.sc (.int .i64 2)) fun t29 =>
  C0 ⟨puts s.tm [(29, (s.tm 1)), (30, t25), (31, t26), (32, t27), (33, t29)], s.ds⟩ h) (
  C0 ⟨puts s.tm [(29, noA), (30, noA), (31, noA), (32, noA), (33, noA)], s.ds⟩ h)
def F5.k13 (W : Nat → Prop) (Q : Post) (QP : PPost) (s : St) (h : AH) : Prop := F5.t13 s h (F5.k12 W Q QP)
theorem F5.k13_a (C0 : KT) : aIg true (s.tm 28) (evI Tryd.prog 65 (fun _ => W) nobody QP (regOps (F5.d [1, 1, 1, 0])) (isAt F5.g1 5) (C0) s h) ((C0) (skI 65 (regOps (F5.d [1, 1, 1, 0])) (isAt F5.g1 5) s) h) = F5.t13 s h C0 := by kernel_rfl
theorem F5.k13_ok : evG Tryd.prog 65 (fun _ => W) nobody QP (regOps (F5.d [1, 1, 1, 0])) (F5.g1.drop 5) ((thenQ (F5.k1 W Q QP) (Q)) .normal) s h = F5.k13 W Q QP s h := nd_gw (j := 11) (is := isAt F5.g1 5) (rest := F5.g1.drop 6) (by kernel_rfl) (d := 28) (by kernel_rfl) (F5.k12_ok W Q QP) (F5.k13_a W QP s h (F5.k12 W Q QP))
def F5.t14 (s : St) (h : AH) (C0 : KT) : Prop :=
  pPick (s.tm 23) (s.tm 26) (.sc (.bool false)) fun t30 =>
  C0 ⟨puts s.tm [(27, t30), (28, t30)], s.ds⟩ h
def F5.k14 (W : Nat → Prop) (Q : Post) (QP : PPost) (s : St) (h : AH) : Prop := F5.t14 s h (F5.k13 W Q QP)
theorem F5.k14_a (C0 : KT) : evI Tryd.prog 65 (fun _ => W) nobody QP (regOps (F5.d [1, 1, 1, 0])) (isAt F5.g1 4) (C0) s h = F5.t14 s h C0 := by kernel_rfl
theorem F5.k14_ok : evG Tryd.prog 65 (fun _ => W) nobody QP (regOps (F5.d [1, 1, 1, 0])) (F5.g1.drop 4) ((thenQ (F5.k1 W Q QP) (Q)) .normal) s h = F5.k14 W Q QP s h := nd_g (is := isAt F5.g1 4) (rest := F5.g1.drop 5) (by kernel_rfl) (F5.k13_ok W Q QP) (F5.k14_a W QP s h (F5.k13 W Q QP))
def F5.t15 (s : St) (h : AH) (C0 : KT) : Prop :=
  aIg true (s.tm 23) (
  (strArg (s.tm 1) = false) ∧ pLen (s.tm 1) fun t31 =>
  pBin Tryd.prog .eql 3 true t31 (.sc (.int .i64 2)) fun t32 =>
  C0 ⟨puts s.tm [(24, (s.tm 1)), (25, t31), (26, t32)], s.ds⟩ h) (
  C0 ⟨puts s.tm [(24, noA), (25, noA), (26, noA)], s.ds⟩ h)
def F5.k15 (W : Nat → Prop) (Q : Post) (QP : PPost) (s : St) (h : AH) : Prop := F5.t15 s h (F5.k14 W Q QP)
theorem F5.k15_a (C0 : KT) : aIg true (s.tm 23) (evI Tryd.prog 65 (fun _ => W) nobody QP (regOps (F5.d [1, 1, 1, 0])) (isAt F5.g1 3) (C0) s h) ((C0) (skI 65 (regOps (F5.d [1, 1, 1, 0])) (isAt F5.g1 3) s) h) = F5.t15 s h C0 := by kernel_rfl
theorem F5.k15_ok : evG Tryd.prog 65 (fun _ => W) nobody QP (regOps (F5.d [1, 1, 1, 0])) (F5.g1.drop 3) ((thenQ (F5.k1 W Q QP) (Q)) .normal) s h = F5.k15 W Q QP s h := nd_gw (j := 6) (is := isAt F5.g1 3) (rest := F5.g1.drop 4) (by kernel_rfl) (d := 23) (by kernel_rfl) (F5.k14_ok W Q QP) (F5.k15_a W QP s h (F5.k14 W Q QP))
def F5.t16 (s : St) (h : AH) (C0 : KT) : Prop :=
  pPick (s.tm 19) (s.tm 21) (.sc (.bool false)) fun t33 =>
  C0 ⟨puts s.tm [(22, t33), (23, t33)], s.ds⟩ h
def F5.k16 (W : Nat → Prop) (Q : Post) (QP : PPost) (s : St) (h : AH) : Prop := F5.t16 s h (F5.k15 W Q QP)
theorem F5.k16_a (C0 : KT) : evI Tryd.prog 65 (fun _ => W) nobody QP (regOps (F5.d [1, 1, 1, 0])) (isAt F5.g1 2) (C0) s h = F5.t16 s h C0 := by kernel_rfl
theorem F5.k16_ok : evG Tryd.prog 65 (fun _ => W) nobody QP (regOps (F5.d [1, 1, 1, 0])) (F5.g1.drop 2) ((thenQ (F5.k1 W Q QP) (Q)) .normal) s h = F5.k16 W Q QP s h := nd_g (is := isAt F5.g1 2) (rest := F5.g1.drop 3) (by kernel_rfl) (F5.k15_ok W Q QP) (F5.k16_a W QP s h (F5.k15 W Q QP))
def F5.t17 (s : St) (h : AH) (C0 : KT) : Prop :=
  aIg true (s.tm 19) (
  pBin Tryd.prog .eql 3 true (s.tm 2) (.sc (.int .i64 0)) fun t34 =>
  C0 ⟨puts s.tm [(20, (s.tm 2)), (21, t34)], s.ds⟩ h) (
  C0 ⟨puts s.tm [(20, noA), (21, noA)], s.ds⟩ h)
def F5.k17 (W : Nat → Prop) (Q : Post) (QP : PPost) (s : St) (h : AH) : Prop := F5.t17 s h (F5.k16 W Q QP)
theorem F5.k17_a (C0 : KT) : aIg true (s.tm 19) (evI Tryd.prog 65 (fun _ => W) nobody QP (regOps (F5.d [1, 1, 1, 0])) (isAt F5.g1 1) (C0) s h) ((C0) (skI 65 (regOps (F5.d [1, 1, 1, 0])) (isAt F5.g1 1) s) h) = F5.t17 s h C0 := by kernel_rfl
theorem F5.k17_ok : evG Tryd.prog 65 (fun _ => W) nobody QP (regOps (F5.d [1, 1, 1, 0])) (F5.g1.drop 1) ((thenQ (F5.k1 W Q QP) (Q)) .normal) s h = F5.k17 W Q QP s h := nd_gw (j := 2) (is := isAt F5.g1 1) (rest := F5.g1.drop 2) (by kernel_rfl) (d := 19) (by kernel_rfl) (F5.k16_ok W Q QP) (F5.k17_a W QP s h (F5.k16 W Q QP))
def F5.t18 (s : St) (h : AH) (C0 : KT) : Prop :=
  pBin Tryd.prog .eql 28 true (s.tm 3) (.sc (.int .i64 0)) fun t35 =>
  C0 ⟨puts s.tm [(17, (s.tm 3)), (18, t35), (19, t35)], s.ds⟩ h
def F5.k18 (W : Nat → Prop) (Q : Post) (QP : PPost) (s : St) (h : AH) : Prop := F5.t18 s h (F5.k17 W Q QP)
theorem F5.k18_a (C0 : KT) : evI Tryd.prog 65 (fun _ => W) nobody QP (regOps (F5.d [1, 1, 1, 0])) (isAt F5.g1 0) (C0) s h = F5.t18 s h C0 := by kernel_rfl
theorem F5.k18_ok : evG Tryd.prog 65 (fun _ => W) nobody QP (regOps (F5.d [1, 1, 1, 0])) (F5.g1.drop 0) ((thenQ (F5.k1 W Q QP) (Q)) .normal) s h = F5.k18 W Q QP s h := nd_g (is := isAt F5.g1 0) (rest := F5.g1.drop 1) (by kernel_rfl) (F5.k17_ok W Q QP) (F5.k18_a W QP s h (F5.k17 W Q QP))
theorem F5.o1 : F5.cw W (F5.d [1, 1, 1, 0]) (thenQ (F5.k1 W Q QP) (Q)) QP s h = F5.k18 W Q QP s h := nd_groups (id := 3) (draw := false) (ops := (regOps (F5.d [1, 1, 1, 0]))) (gs := F5.g1.drop 0) (by kernel_rfl) (by kernel_rfl) (F5.k18_ok W Q QP s h)
theorem F5.o2 : F5.cw W (F5.d [1, 1, 1]) (Q) QP s h = F5.k18 W Q QP s h := nd_seq (a := (F5.d [1, 1, 1, 0])) (b := (F5.d [1, 1, 1, 1])) (by kernel_rfl) (F5.k1_ok W Q QP) (F5.o1 W Q QP s h)
def F5.t19 (W : Nat → Prop) (QP : PPost) (s : St) (h : AH) (C0 : KT) : Prop :=
  aCall Tryd.prog W 11 [(.sc (.string ⟨#[104, 32, 113, 91, 48, 93]⟩))] h (fun t36 h37 =>
  pExt t36 0 fun t38 =>
  pExt t36 1 fun t39 =>
  pExt t36 2 fun t40 =>
  C0 ⟨puts s.tm [(13, t36), (12, t36), (14, t38), (15, t39), (16, t40), (4, t38), (5, t39), (6, t40)], s.ds⟩ h37) (QP s.ds)
def F5.k19 (W : Nat → Prop) (Q : Post) (QP : PPost) (s : St) (h : AH) : Prop := F5.t19 W QP s h (F5.k18 W Q QP)
theorem F5.k19_a (C0 : KT) : F5.cw W (F5.d [1, 1, 0]) (thenQ (C0) (Q)) QP s h = F5.t19 W QP s h C0 := by kernel_rfl
theorem F5.k19_ok : F5.cw W (F5.d [1, 1]) (Q) QP s h = F5.k19 W Q QP s h := nd_seq (a := (F5.d [1, 1, 0])) (b := (F5.d [1, 1, 1])) (by kernel_rfl) (F5.o2 W Q QP) (F5.k19_a W Q QP s h (F5.k18 W Q QP))
def F5.t20 (W : Nat → Prop) (QP : PPost) (s : St) (h : AH) (C0 : KT) : Prop :=
  aCall Tryd.prog W 11 [(.sc (.string ⟨#[113, 117, 98, 105, 116, 115, 32, 113, 32, 50, 59, 32, 104, 32, 113, 91, 48, 93, 59]⟩))] h (fun t41 h42 =>
  pExt t41 0 fun t43 =>
  pExt t41 1 fun t44 =>
  pExt t41 2 fun t45 =>
  C0 ⟨puts s.tm [(8, t41), (7, t41), (9, t43), (10, t44), (11, t45), (1, t43), (2, t44), (3, t45)], s.ds⟩ h42) (QP s.ds)
def F5.k20 (W : Nat → Prop) (Q : Post) (QP : PPost) (s : St) (h : AH) : Prop := F5.t20 W QP s h (F5.k19 W Q QP)
theorem F5.k20_a (C0 : KT) : F5.cw W (F5.d [1, 0]) (thenQ (C0) (Q)) QP s h = F5.t20 W QP s h C0 := by kernel_rfl
theorem F5.k20_ok : F5.cw W (F5.d [1]) (Q) QP s h = F5.k20 W Q QP s h := nd_seq (a := (F5.d [1, 0])) (b := (F5.d [1, 1])) (by kernel_rfl) (F5.k19_ok W Q QP) (F5.k20_a W Q QP s h (F5.k19 W Q QP))
def F5.t21 (s : St) (h : AH) (C0 : KT) : Prop :=
  C0 ⟨puts s.tm [(0, (.sc (.bool false)))], s.ds⟩ h
def F5.k21 (W : Nat → Prop) (Q : Post) (QP : PPost) (s : St) (h : AH) : Prop := F5.t21 s h (F5.k20 W Q QP)
theorem F5.k21_a (C0 : KT) : F5.cw W (F5.d [0]) (thenQ (C0) (Q)) QP s h = F5.t21 s h C0 := by kernel_rfl
theorem F5.k21_ok : F5.cw W (F5.d []) (Q) QP s h = F5.k21 W Q QP s h := nd_seq (a := (F5.d [0])) (b := (F5.d [1])) (by kernel_rfl) (F5.k20_ok W Q QP) (F5.k21_a W Q QP s h (F5.k20 W Q QP))
end
set_option maxRecDepth 100000 in
theorem F5.calls {h : AH} {M : Nat → Prop} {R : AE → AH → Prop} (hp : F5.k21 (fun id => M id ∨ h.next ≤ id) (bodyQ Tryd.prog [.tmp 0] R) (bodyP R) (s0 []) h) : ACalls Tryd.prog 5 [] h M R :=
  acalls_of (c := F5.code) Tryd.mixed Tryd.func5 (by kernel_rfl) (Nat.le_of_ble_eq_true rfl) F5.ok (by rw [show Tryd.f5.ntmps = 65 from rfl, show Tryd.f5.results.toList = [.tmp 0] from rfl]; exact Eq.mpr (F5.k21_ok _ _ _ _ _) hp)
attribute [simp] F5.k1 F5.t1 F5.k2 F5.t2 F5.k3 F5.t3 F5.k4 F5.t4 F5.k5 F5.t5 F5.k6 F5.t6 F5.k7 F5.t7 F5.k8 F5.t8 F5.k9 F5.t9 F5.k10 F5.t10 F5.k11 F5.t11 F5.k12 F5.t12 F5.k13 F5.t13 F5.k14 F5.t14 F5.k15 F5.t15 F5.k16 F5.t16 F5.k17 F5.t17 F5.k18 F5.t18 F5.k19 F5.t19 F5.k20 F5.t20 F5.k21 F5.t21

section
variable (W : Nat → Prop) (Q : Post) (QP : PPost) (s : St) (h : AH)
noncomputable def F11.code : Code := Tryd.f11.body.getD .skip
def F11.pl : Plans := [(3, ⟨[(none, [(0, true), (1, true), (2, false), (3, false), (4, false)])], true, [], []⟩)]
def F11.t1 (W : Nat → Prop) (Q : Post) (s : St) (h : AH) : Prop :=
  pNil (s.tm 6) fun t1 =>
  pFld (some 3) t1 fun t2 =>
  lLd (some false) (some 1) t2 h fun t3 _ =>
  eStore (some 1) (s.tm 2) t3 h W fun h5 =>
  eStore (some 1) (s.tm 3) (.sc (.int .i64 0)) h5 W fun h6 =>
  eStore (some 1) (s.tm 4) (.sc (.int .i64 0)) h6 W fun h7 =>
  Q .ret ⟨puts s.tm [(32, (s.tm 6)), (33, t1), (34, t2), (35, t3)], s.ds⟩ h7
def F11.k1 (W : Nat → Prop) (Q : Post) (QP : PPost) (s : St) (h : AH) : Prop := F11.t1 W Q s h
theorem F11.k1_a : aw Tryd.prog 36 W F11.pl (Code.at F11.code [1, 1, 1, 1, 1, 1, 0]) (thenQ (aw Tryd.prog 36 W F11.pl (Code.at F11.code [1, 1, 1, 1, 1, 1, 1]) (Q) QP) (Q)) QP s h = F11.t1 W Q s h := by kernel_rfl
theorem F11.k1_ok : aw Tryd.prog 36 W F11.pl (Code.at F11.code [1, 1, 1, 1, 1, 1]) (Q) QP s h = F11.k1 W Q QP s h := nd_seq (a := (Code.at F11.code [1, 1, 1, 1, 1, 1, 0])) (b := (Code.at F11.code [1, 1, 1, 1, 1, 1, 1])) (by kernel_rfl) (fun _ _ => rfl) (F11.k1_a W Q QP s h)
def F11.t3 (Q : Post) (s : St) (h : AH) (C0 : KT) : Prop :=
  aIf (s.tm 29) (
  C0 s h) (
  Q (.exit 0) s h)
theorem F11.k3_a (C0 : KT) : aIf (aev s (.tmp 29)) (aw Tryd.prog 36 W F11.pl (Code.at F11.code [1, 1, 1, 1, 1, 0, 0, 0, 0, 1, 0]) (thenQ (C0) (Q)) QP s h) (aw Tryd.prog 36 W F11.pl (Code.at F11.code [1, 1, 1, 1, 1, 0, 0, 0, 0, 1, 1]) (thenQ (C0) (Q)) QP s h) = F11.t3 Q s h C0 := by kernel_rfl
def F11.t4 (s : St) (h : AH) (C0 C1 : KT) : Prop :=
  pNil (s.tm 6) fun t10 =>
  pFld (some 1) t10 fun t11 =>
  lLd (some false) (some 1) t11 h fun t12 _ =>
  (strArg (s.tm 5) = false) ∧ pLen (s.tm 5) fun t14 =>
  pBin Tryd.prog .lss 3 false t12 t14 fun t15 =>
  C1 ⟨puts s.tm [(23, (s.tm 6)), (24, t10), (25, t11), (26, t12), (27, (s.tm 5)), (28, t14), (29, t15)], s.ds⟩ h
theorem F11.k4_a (C0 C1 : KT) : aw Tryd.prog 36 W F11.pl (Code.at F11.code [1, 1, 1, 1, 1, 0, 0, 0, 0, 0]) (thenQ (C1) (thenQ (C0) (Q))) QP s h = F11.t4 s h C0 C1 := by kernel_rfl
noncomputable def F11.c1 : Code := (Code.at F11.code [1, 1, 1, 1, 1, 0, 0, 0])
def F11.t6 (s : St) (h : AH) (C0 : KT) : Prop :=
  (strArg (s.tm 0) = true) ∧ pLen (s.tm 0) fun t16 =>
  pBld (some ([.slice none 0 0, .int .i64 0, .int .i64 0, .slice none 0 0], .inl [(0, 1), (1, 1), (2, 1), (3, 1)])) [(0, (s.tm 5)), (2, t16)] fun t17 =>
  eBox 4 62 t17 h fun t18 h19 =>
  C0 ⟨puts s.tm [(18, (s.tm 5)), (19, (s.tm 0)), (20, t16), (21, t17), (22, t18), (6, t18)], s.ds⟩ h19
theorem F11.k6_a (C0 : KT) : aw Tryd.prog 36 W F11.pl (Code.at F11.code [1, 1, 1, 1, 0]) (thenQ (C0) (Q)) QP s h = F11.t6 s h C0 := by kernel_rfl
def F11.t7 (s : St) (h : AH) (C0 : KT) : Prop :=
  aDef (.fn (.func 19) [] [(s.tm 2), (s.tm 3), (s.tm 4)]) [] s.ds fun d20 =>
  C0 ⟨puts s.tm [(17, (.fn (.func 19) [] [(s.tm 2), (s.tm 3), (s.tm 4)]))], d20⟩ h
theorem F11.k7_a (C0 : KT) : aw Tryd.prog 36 W F11.pl (Code.at F11.code [1, 1, 1, 0]) (thenQ (C0) (Q)) QP s h = F11.t7 s h C0 := by kernel_rfl
def F11.t8 (Q : Post) (s : St) (h : AH) (C0 : KT) : Prop :=
  Q .ret s h
theorem F11.k8_a (C0 : KT) : aw Tryd.prog 36 W F11.pl (Code.at F11.code [1, 1, 0, 1, 0, 1]) (thenQ (C0) (Q)) QP s h = F11.t8 Q s h C0 := by kernel_rfl
def F11.t9 (W : Nat → Prop) (s : St) (h : AH) (C0 C1 : KT) : Prop :=
  ∃ Hd : Nat → Nat, (∀ i ∈ [0, 1], h.obj (Hd i) ≠ none) ∧ (
  lLd (some false) (some 1) (s.tm 3) h fun t21 i22 =>
  (i22 = Hd 0) ∧ (
  lLd (some false) (some 1) (s.tm 4) h fun t23 i24 =>
  (i24 = Hd 1) ∧ (
  eStore (some 1) (s.tm 2) (.sc (.slice none 0 0)) h (banL W Hd [0, 1]) fun h25 =>
  eStore (some 1) (s.tm 3) t21 h25 (banL W Hd [1]) fun h26 =>
  eStore (some 1) (s.tm 4) t23 h26 W fun h27 =>
  C1 ⟨puts s.tm [(15, t21), (16, t23)], s.ds⟩ h27)))
theorem F11.k9_a (C0 C1 : KT) : aw Tryd.prog 36 W F11.pl (Code.at F11.code [1, 1, 0, 1, 0, 0]) (thenQ (C1) (thenQ (C0) (Q))) QP s h = F11.t9 W s h C0 C1 := by kernel_rfl
def F11.t10 (s : St) (h : AH) (C0 C1 : KT) : Prop :=
  aIf (s.tm 14) (
  C1 s h) (
  C0 s h)
theorem F11.k10_a (C0 C1 : KT) : aIf (aev s (.tmp 14)) (C1 s h) (aw Tryd.prog 36 W F11.pl (Code.at F11.code [1, 1, 0, 1, 1]) (thenQ (C0) (Q)) QP s h) = F11.t10 s h C0 C1 := by kernel_rfl
def F11.t11 (s : St) (h : AH) (C0 C1 : KT) : Prop :=
  lLd (some false) (some 1) (s.tm 4) h fun t28 _ =>
  pBin Tryd.prog .neq 28 true t28 (.sc (.int .i64 0)) fun t30 =>
  C0 ⟨puts s.tm [(13, t28), (14, t30)], s.ds⟩ h
theorem F11.k11_a (C0 C1 : KT) : aw Tryd.prog 36 W F11.pl (Code.at F11.code [1, 1, 0, 0]) (thenQ (C0) (thenQ (C1) (Q))) QP s h = F11.t11 s h C0 C1 := by kernel_rfl
def F11.t12 (W : Nat → Prop) (QP : PPost) (s : St) (h : AH) (C0 : KT) : Prop :=
  aCall Tryd.prog W 18 [(s.tm 0)] h (fun t31 h32 =>
  pExt t31 0 fun t33 =>
  pExt t31 1 fun t34 =>
  pExt t31 2 fun t35 =>
  eStore (some 1) (s.tm 3) t34 h32 W fun h36 =>
  eStore (some 1) (s.tm 4) t35 h36 W fun h37 =>
  C0 ⟨puts s.tm [(8, (s.tm 0)), (9, t31), (7, t31), (10, t33), (11, t34), (12, t35), (5, t33)], s.ds⟩ h37) (QP s.ds)
theorem F11.k12_a (C0 : KT) : aw Tryd.prog 36 W F11.pl (Code.at F11.code [1, 0]) (thenQ (C0) (Q)) QP s h = F11.t12 W QP s h C0 := by kernel_rfl
def F11.t13 (s : St) (h : AH) (C0 : KT) : Prop :=
  eAlloc (some [.slice none 0 0]) 1 22 h fun t38 h39 =>
  eAlloc (some [.int .i64 0]) 1 3 h39 fun t40 h41 =>
  eAlloc (some [.int .i64 0]) 1 28 h41 fun t42 h43 =>
  C0 ⟨puts s.tm [(2, t38), (3, t40), (4, t42)], s.ds⟩ h43
theorem F11.k13_a (C0 : KT) : aw Tryd.prog 36 W F11.pl (Code.at F11.code [0]) (thenQ (C0) (Q)) QP s h = F11.t13 s h C0 := by kernel_rfl
end
attribute [simp] F11.k1 F11.t1 F11.t3 F11.t4 F11.t6 F11.t7 F11.t8 F11.t9 F11.t10 F11.t11 F11.t12 F11.t13
end Go.Proofs.YthkkgbmjjpcfaaaDoor

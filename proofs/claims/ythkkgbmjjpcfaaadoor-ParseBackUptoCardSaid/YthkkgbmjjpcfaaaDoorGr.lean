/- Bodies of the small functions of the writer; printed by a program of this session. No condition. -/
import Derived.Test.YthkkgbmjjpcfaaaDoorGl
namespace Go.Proofs.YthkkgbmjjpcfaaaDoor
open Go.Ab
end Go.Proofs.YthkkgbmjjpcfaaaDoor
namespace Go.Proofs.YthkkgbmjjpcfaaaDoor
open Go.Ab
section
variable (W : Nat → Prop) (Q : Post) (QP : PPost) (s : St) (h : AH)
noncomputable def F16.code : Code := Tryd.f16.body.getD .skip
def F16.pl : Plans := []
theorem F16.ok : okCode Tryd.prog F16.pl F16.code = true := by kernel_rfl
noncomputable abbrev F16.d (p : List Nat) : Code := Code.at F16.code p
abbrev F16.cw (W : Nat → Prop) (c : Code) (Q : Post) (QP : PPost) : KT := Go.Ab.aw Tryd.prog 8 W F16.pl c Q QP
def F16.t1 (Q : Post) (s : St) (h : AH) : Prop :=
  pNil (s.tm 0) fun t1 =>
  pFld (some 1) t1 fun t2 =>
  lLd (some false) (some 1) t2 h fun t3 _ =>
  (strArg t3 = false) ∧ pLen t3 fun t5 =>
  Q .ret ⟨puts s.tm [(3, (s.tm 0)), (4, t1), (5, t2), (6, t3), (7, t5), (2, t5)], s.ds⟩ h
def F16.k1 (W : Nat → Prop) (Q : Post) (QP : PPost) (s : St) (h : AH) : Prop := F16.t1 Q s h
theorem F16.k1_a : F16.cw W (F16.d [1, 0]) (thenQ (F16.cw W (F16.d [1, 1]) (Q) QP) (Q)) QP s h = F16.t1 Q s h := by kernel_rfl
theorem F16.k1_ok : F16.cw W (F16.d [1]) (Q) QP s h = F16.k1 W Q QP s h := nd_seq (a := (F16.d [1, 0])) (b := (F16.d [1, 1])) (by kernel_rfl) (fun _ _ => rfl) (F16.k1_a W Q QP s h)
def F16.t2 (s : St) (h : AH) (C0 : KT) : Prop :=
  C0 ⟨puts s.tm [(2, (.sc (.int .i64 0)))], s.ds⟩ h
def F16.k2 (W : Nat → Prop) (Q : Post) (QP : PPost) (s : St) (h : AH) : Prop := F16.t2 s h (F16.k1 W Q QP)
theorem F16.k2_a (C0 : KT) : F16.cw W (F16.d [0]) (thenQ (C0) (Q)) QP s h = F16.t2 s h C0 := by kernel_rfl
theorem F16.k2_ok : F16.cw W (F16.d []) (Q) QP s h = F16.k2 W Q QP s h := nd_seq (a := (F16.d [0])) (b := (F16.d [1])) (by kernel_rfl) (F16.k1_ok W Q QP) (F16.k2_a W Q QP s h (F16.k1 W Q QP))
end
set_option maxRecDepth 100000 in
theorem F16.calls {x0 : AV} {h : AH} {M : Nat → Prop} {R : AE → AH → Prop} (hp : F16.k2 (fun id => M id ∨ h.next ≤ id) (bodyQ Tryd.prog [.tmp 2] R) (bodyP R) (s0 [x0]) h) : ACalls Tryd.prog 16 [x0] h M R :=
  acalls_of (c := F16.code) Tryd.mixed Tryd.func16 (by kernel_rfl) (Nat.le_of_ble_eq_true rfl) F16.ok (by rw [show Tryd.f16.ntmps = 8 from rfl, show Tryd.f16.results.toList = [.tmp 2] from rfl]; exact Eq.mpr (F16.k2_ok _ _ _ _ _) hp)
attribute [simp] F16.k1 F16.t1 F16.k2 F16.t2

section
variable (W : Nat → Prop) (Q : Post) (QP : PPost) (s : St) (h : AH)
noncomputable def F23.code : Code := Tryd.f23.body.getD .skip
def F23.pl : Plans := []
theorem F23.ok : okCode Tryd.prog F23.pl F23.code = true := by kernel_rfl
noncomputable abbrev F23.d (p : List Nat) : Code := Code.at F23.code p
abbrev F23.cw (W : Nat → Prop) (c : Code) (Q : Post) (QP : PPost) : KT := Go.Ab.aw Tryd.prog 28 W F23.pl c Q QP
def F23.t1 (W : Nat → Prop) (Q : Post) (s : St) (h : AH) : Prop :=
  pBld (some ([.bool false, .bool false, .int .i64 0, .bool false], .inl [(0, 1), (1, 1), (2, 1), (3, 1)])) [] fun t1 =>
  eStore (some 4) (s.tm 2) t1 h W fun h2 =>
  Q .ret ⟨puts s.tm [(27, t1), (3, (.sc (.bool false)))], s.ds⟩ h2
def F23.k1 (W : Nat → Prop) (Q : Post) (QP : PPost) (s : St) (h : AH) : Prop := F23.t1 W Q s h
theorem F23.k1_a : F23.cw W (F23.d [1, 1, 0]) (thenQ (F23.cw W (F23.d [1, 1, 1]) (Q) QP) (Q)) QP s h = F23.t1 W Q s h := by kernel_rfl
theorem F23.k1_ok : F23.cw W (F23.d [1, 1]) (Q) QP s h = F23.k1 W Q QP s h := nd_seq (a := (F23.d [1, 1, 0])) (b := (F23.d [1, 1, 1])) (by kernel_rfl) (fun _ _ => rfl) (F23.k1_a W Q QP s h)
def F23.t2 (W : Nat → Prop) (Q : Post) (s : St) (h : AH) (C0 : KT) : Prop :=
  pBld (some ([.bool false, .bool false, .int .i64 0, .bool false], .inl [(0, 1), (1, 1), (2, 1), (3, 1)])) [(0, (.sc (.bool true))), (1, (.sc (.bool true)))] fun t3 =>
  eStore (some 4) (s.tm 2) t3 h W fun h4 =>
  Q .ret ⟨puts s.tm [(8, t3), (3, (.sc (.bool true)))], s.ds⟩ h4
def F23.k2 (W : Nat → Prop) (Q : Post) (QP : PPost) (s : St) (h : AH) : Prop := F23.t2 W Q s h (F23.k1 W Q QP)
theorem F23.k2_a (C0 : KT) : F23.cw W (F23.d [1, 0, 1, 0, 1, 0, 0]) (thenQ (F23.cw W (F23.d [1, 0, 1, 0, 1, 0, 1]) (blockQ 0 (thenQ (C0) (Q))) QP) (blockQ 0 (thenQ (C0) (Q)))) QP s h = F23.t2 W Q s h C0 := by kernel_rfl
theorem F23.k2_ok : F23.cw W (F23.d [1, 0, 1, 0, 1, 0]) (blockQ 0 (thenQ (F23.k1 W Q QP) (Q))) QP s h = F23.k2 W Q QP s h := nd_seq (a := (F23.d [1, 0, 1, 0, 1, 0, 0])) (b := (F23.d [1, 0, 1, 0, 1, 0, 1])) (by kernel_rfl) (fun _ _ => rfl) (F23.k2_a W Q QP s h (F23.k1 W Q QP))
def F23.t3 (W : Nat → Prop) (Q : Post) (s : St) (h : AH) (C0 : KT) : Prop :=
  pBld (some ([.bool false, .bool false, .int .i64 0, .bool false], .inl [(0, 1), (1, 1), (2, 1), (3, 1)])) [(0, (.sc (.bool true))), (2, (.sc (.int .i64 (-1)))), (3, (.sc (.bool true)))] fun t5 =>
  eStore (some 4) (s.tm 2) t5 h W fun h6 =>
  Q .ret ⟨puts s.tm [(11, t5), (3, (.sc (.bool true)))], s.ds⟩ h6
def F23.k3 (W : Nat → Prop) (Q : Post) (QP : PPost) (s : St) (h : AH) : Prop := F23.t3 W Q s h (F23.k1 W Q QP)
theorem F23.k3_a (C0 : KT) : F23.cw W (F23.d [1, 0, 1, 0, 1, 1, 1, 0, 0]) (thenQ (F23.cw W (F23.d [1, 0, 1, 0, 1, 1, 1, 0, 1]) (blockQ 0 (thenQ (C0) (Q))) QP) (blockQ 0 (thenQ (C0) (Q)))) QP s h = F23.t3 W Q s h C0 := by kernel_rfl
theorem F23.k3_ok : F23.cw W (F23.d [1, 0, 1, 0, 1, 1, 1, 0]) (blockQ 0 (thenQ (F23.k1 W Q QP) (Q))) QP s h = F23.k3 W Q QP s h := nd_seq (a := (F23.d [1, 0, 1, 0, 1, 1, 1, 0, 0])) (b := (F23.d [1, 0, 1, 0, 1, 1, 1, 0, 1])) (by kernel_rfl) (fun _ _ => rfl) (F23.k3_a W Q QP s h (F23.k1 W Q QP))
def F23.t4 (W : Nat → Prop) (Q : Post) (s : St) (h : AH) (C0 : KT) : Prop :=
  pBld (some ([.bool false, .bool false, .int .i64 0, .bool false], .inl [(0, 1), (1, 1), (2, 1), (3, 1)])) [(1, (.sc (.bool true))), (3, (.sc (.bool true)))] fun t7 =>
  eStore (some 4) (s.tm 2) t7 h W fun h8 =>
  Q .ret ⟨puts s.tm [(14, t7), (3, (.sc (.bool true)))], s.ds⟩ h8
def F23.k4 (W : Nat → Prop) (Q : Post) (QP : PPost) (s : St) (h : AH) : Prop := F23.t4 W Q s h (F23.k1 W Q QP)
theorem F23.k4_a (C0 : KT) : F23.cw W (F23.d [1, 0, 1, 0, 1, 1, 1, 1, 1, 0, 0]) (thenQ (F23.cw W (F23.d [1, 0, 1, 0, 1, 1, 1, 1, 1, 0, 1]) (blockQ 0 (thenQ (C0) (Q))) QP) (blockQ 0 (thenQ (C0) (Q)))) QP s h = F23.t4 W Q s h C0 := by kernel_rfl
theorem F23.k4_ok : F23.cw W (F23.d [1, 0, 1, 0, 1, 1, 1, 1, 1, 0]) (blockQ 0 (thenQ (F23.k1 W Q QP) (Q))) QP s h = F23.k4 W Q QP s h := nd_seq (a := (F23.d [1, 0, 1, 0, 1, 1, 1, 1, 1, 0, 0])) (b := (F23.d [1, 0, 1, 0, 1, 1, 1, 1, 1, 0, 1])) (by kernel_rfl) (fun _ _ => rfl) (F23.k4_a W Q QP s h (F23.k1 W Q QP))
def F23.t5 (W : Nat → Prop) (Q : Post) (s : St) (h : AH) (C0 : KT) : Prop :=
  pBld (some ([.bool false, .bool false, .int .i64 0, .bool false], .inl [(0, 1), (1, 1), (2, 1), (3, 1)])) [(0, (.sc (.bool true))), (1, (.sc (.bool true))), (3, (.sc (.bool true)))] fun t9 =>
  eStore (some 4) (s.tm 2) t9 h W fun h10 =>
  Q .ret ⟨puts s.tm [(17, t9), (3, (.sc (.bool true)))], s.ds⟩ h10
def F23.k5 (W : Nat → Prop) (Q : Post) (QP : PPost) (s : St) (h : AH) : Prop := F23.t5 W Q s h (F23.k1 W Q QP)
theorem F23.k5_a (C0 : KT) : F23.cw W (F23.d [1, 0, 1, 0, 1, 1, 1, 1, 1, 1, 1, 0, 0]) (thenQ (F23.cw W (F23.d [1, 0, 1, 0, 1, 1, 1, 1, 1, 1, 1, 0, 1]) (blockQ 0 (thenQ (C0) (Q))) QP) (blockQ 0 (thenQ (C0) (Q)))) QP s h = F23.t5 W Q s h C0 := by kernel_rfl
theorem F23.k5_ok : F23.cw W (F23.d [1, 0, 1, 0, 1, 1, 1, 1, 1, 1, 1, 0]) (blockQ 0 (thenQ (F23.k1 W Q QP) (Q))) QP s h = F23.k5 W Q QP s h := nd_seq (a := (F23.d [1, 0, 1, 0, 1, 1, 1, 1, 1, 1, 1, 0, 0])) (b := (F23.d [1, 0, 1, 0, 1, 1, 1, 1, 1, 1, 1, 0, 1])) (by kernel_rfl) (fun _ _ => rfl) (F23.k5_a W Q QP s h (F23.k1 W Q QP))
def F23.t6 (W : Nat → Prop) (Q : Post) (s : St) (h : AH) (C0 : KT) : Prop :=
  pBld (some ([.bool false, .bool false, .int .i64 0, .bool false], .inl [(0, 1), (1, 1), (2, 1), (3, 1)])) [(2, (.sc (.int .i64 2)))] fun t11 =>
  eStore (some 4) (s.tm 2) t11 h W fun h12 =>
  Q .ret ⟨puts s.tm [(20, t11), (3, (.sc (.bool true)))], s.ds⟩ h12
def F23.k6 (W : Nat → Prop) (Q : Post) (QP : PPost) (s : St) (h : AH) : Prop := F23.t6 W Q s h (F23.k1 W Q QP)
theorem F23.k6_a (C0 : KT) : F23.cw W (F23.d [1, 0, 1, 0, 1, 1, 1, 1, 1, 1, 1, 1, 1, 0, 0]) (thenQ (F23.cw W (F23.d [1, 0, 1, 0, 1, 1, 1, 1, 1, 1, 1, 1, 1, 0, 1]) (blockQ 0 (thenQ (C0) (Q))) QP) (blockQ 0 (thenQ (C0) (Q)))) QP s h = F23.t6 W Q s h C0 := by kernel_rfl
theorem F23.k6_ok : F23.cw W (F23.d [1, 0, 1, 0, 1, 1, 1, 1, 1, 1, 1, 1, 1, 0]) (blockQ 0 (thenQ (F23.k1 W Q QP) (Q))) QP s h = F23.k6 W Q QP s h := nd_seq (a := (F23.d [1, 0, 1, 0, 1, 1, 1, 1, 1, 1, 1, 1, 1, 0, 0])) (b := (F23.d [1, 0, 1, 0, 1, 1, 1, 1, 1, 1, 1, 1, 1, 0, 1])) (by kernel_rfl) (fun _ _ => rfl) (F23.k6_a W Q QP s h (F23.k1 W Q QP))
def F23.t7 (W : Nat → Prop) (Q : Post) (s : St) (h : AH) (C0 : KT) : Prop :=
  pBld (some ([.bool false, .bool false, .int .i64 0, .bool false], .inl [(0, 1), (1, 1), (2, 1), (3, 1)])) [(2, (.sc (.int .i64 1)))] fun t13 =>
  eStore (some 4) (s.tm 2) t13 h W fun h14 =>
  Q .ret ⟨puts s.tm [(23, t13), (3, (.sc (.bool true)))], s.ds⟩ h14
def F23.k7 (W : Nat → Prop) (Q : Post) (QP : PPost) (s : St) (h : AH) : Prop := F23.t7 W Q s h (F23.k1 W Q QP)
theorem F23.k7_a (C0 : KT) : F23.cw W (F23.d [1, 0, 1, 0, 1, 1, 1, 1, 1, 1, 1, 1, 1, 1, 1, 0, 0]) (thenQ (F23.cw W (F23.d [1, 0, 1, 0, 1, 1, 1, 1, 1, 1, 1, 1, 1, 1, 1, 0, 1]) (blockQ 0 (thenQ (C0) (Q))) QP) (blockQ 0 (thenQ (C0) (Q)))) QP s h = F23.t7 W Q s h C0 := by kernel_rfl
theorem F23.k7_ok : F23.cw W (F23.d [1, 0, 1, 0, 1, 1, 1, 1, 1, 1, 1, 1, 1, 1, 1, 0]) (blockQ 0 (thenQ (F23.k1 W Q QP) (Q))) QP s h = F23.k7 W Q QP s h := nd_seq (a := (F23.d [1, 0, 1, 0, 1, 1, 1, 1, 1, 1, 1, 1, 1, 1, 1, 0, 0])) (b := (F23.d [1, 0, 1, 0, 1, 1, 1, 1, 1, 1, 1, 1, 1, 1, 1, 0, 1])) (by kernel_rfl) (fun _ _ => rfl) (F23.k7_a W Q QP s h (F23.k1 W Q QP))
def F23.t8 (W : Nat → Prop) (Q : Post) (s : St) (h : AH) (C0 : KT) : Prop :=
  pBld (some ([.bool false, .bool false, .int .i64 0, .bool false], .inl [(0, 1), (1, 1), (2, 1), (3, 1)])) [(0, (.sc (.bool true))), (2, (.sc (.int .i64 (-1))))] fun t15 =>
  eStore (some 4) (s.tm 2) t15 h W fun h16 =>
  Q .ret ⟨puts s.tm [(26, t15), (3, (.sc (.bool true)))], s.ds⟩ h16
def F23.k8 (W : Nat → Prop) (Q : Post) (QP : PPost) (s : St) (h : AH) : Prop := F23.t8 W Q s h (F23.k1 W Q QP)
theorem F23.k8_a (C0 : KT) : F23.cw W (F23.d [1, 0, 1, 0, 1, 1, 1, 1, 1, 1, 1, 1, 1, 1, 1, 1, 1, 0, 0]) (thenQ (F23.cw W (F23.d [1, 0, 1, 0, 1, 1, 1, 1, 1, 1, 1, 1, 1, 1, 1, 1, 1, 0, 1]) (blockQ 0 (thenQ (C0) (Q))) QP) (blockQ 0 (thenQ (C0) (Q)))) QP s h = F23.t8 W Q s h C0 := by kernel_rfl
theorem F23.k8_ok : F23.cw W (F23.d [1, 0, 1, 0, 1, 1, 1, 1, 1, 1, 1, 1, 1, 1, 1, 1, 1, 0]) (blockQ 0 (thenQ (F23.k1 W Q QP) (Q))) QP s h = F23.k8 W Q QP s h := nd_seq (a := (F23.d [1, 0, 1, 0, 1, 1, 1, 1, 1, 1, 1, 1, 1, 1, 1, 1, 1, 0, 0])) (b := (F23.d [1, 0, 1, 0, 1, 1, 1, 1, 1, 1, 1, 1, 1, 1, 1, 1, 1, 0, 1])) (by kernel_rfl) (fun _ _ => rfl) (F23.k8_a W Q QP s h (F23.k1 W Q QP))
def F23.t9 (s : St) (h : AH) (C0 C1 : KT) : Prop :=
  aIf (s.tm 24) (
  C1 s h) (
  C0 s h)
def F23.k9 (W : Nat → Prop) (Q : Post) (QP : PPost) (s : St) (h : AH) : Prop := F23.t9 s h (F23.k1 W Q QP) (F23.k8 W Q QP)
theorem F23.k9_a (C0 C1 : KT) : aIf (aev s (.tmp 24)) (C1 s h) (F23.cw W (F23.d [1, 0, 1, 0, 1, 1, 1, 1, 1, 1, 1, 1, 1, 1, 1, 1, 1, 1]) (blockQ 0 (thenQ (C0) (Q))) QP s h) = F23.t9 s h C0 C1 := by kernel_rfl
theorem F23.k9_ok : F23.cw W (F23.d [1, 0, 1, 0, 1, 1, 1, 1, 1, 1, 1, 1, 1, 1, 1, 1, 1]) (blockQ 0 (thenQ (F23.k1 W Q QP) (Q))) QP s h = F23.k9 W Q QP s h := nd_cond (a := (F23.d [1, 0, 1, 0, 1, 1, 1, 1, 1, 1, 1, 1, 1, 1, 1, 1, 1, 0])) (b := (F23.d [1, 0, 1, 0, 1, 1, 1, 1, 1, 1, 1, 1, 1, 1, 1, 1, 1, 1])) (by kernel_rfl) (F23.k8_ok W Q QP s h) rfl (F23.k9_a W Q QP s h (F23.k1 W Q QP) (F23.k8 W Q QP))
def F23.t10 (s : St) (h : AH) (C0 C1 : KT) : Prop :=
  pBin Tryd.prog .eql 9 true (s.tm 4) (.sc (.string ⟨#[117, 115, 101]⟩)) fun t17 =>
  C1 ⟨puts s.tm [(25, t17), (24, t17)], s.ds⟩ h
def F23.k10 (W : Nat → Prop) (Q : Post) (QP : PPost) (s : St) (h : AH) : Prop := F23.t10 s h (F23.k1 W Q QP) (F23.k9 W Q QP)
theorem F23.k10_a (C0 C1 : KT) : F23.cw W (F23.d [1, 0, 1, 0, 1, 1, 1, 1, 1, 1, 1, 1, 1, 1, 1, 1, 0]) (thenQ (C1) (blockQ 0 (thenQ (C0) (Q)))) QP s h = F23.t10 s h C0 C1 := by kernel_rfl
theorem F23.k10_ok : F23.cw W (F23.d [1, 0, 1, 0, 1, 1, 1, 1, 1, 1, 1, 1, 1, 1, 1, 1]) (blockQ 0 (thenQ (F23.k1 W Q QP) (Q))) QP s h = F23.k10 W Q QP s h := nd_seq (a := (F23.d [1, 0, 1, 0, 1, 1, 1, 1, 1, 1, 1, 1, 1, 1, 1, 1, 0])) (b := (F23.d [1, 0, 1, 0, 1, 1, 1, 1, 1, 1, 1, 1, 1, 1, 1, 1, 1])) (by kernel_rfl) (F23.k9_ok W Q QP) (F23.k10_a W Q QP s h (F23.k1 W Q QP) (F23.k9 W Q QP))
def F23.t11 (s : St) (h : AH) (C0 C1 : KT) : Prop :=
  aIf (s.tm 21) (
  C1 s h) (
  C0 s h)
def F23.k11 (W : Nat → Prop) (Q : Post) (QP : PPost) (s : St) (h : AH) : Prop := F23.t11 s h (F23.k10 W Q QP) (F23.k7 W Q QP)
theorem F23.k11_a (C0 C1 : KT) : aIf (aev s (.tmp 21)) (C1 s h) (C0 s h) = F23.t11 s h C0 C1 := by kernel_rfl
theorem F23.k11_ok : F23.cw W (F23.d [1, 0, 1, 0, 1, 1, 1, 1, 1, 1, 1, 1, 1, 1, 1]) (blockQ 0 (thenQ (F23.k1 W Q QP) (Q))) QP s h = F23.k11 W Q QP s h := nd_cond (a := (F23.d [1, 0, 1, 0, 1, 1, 1, 1, 1, 1, 1, 1, 1, 1, 1, 0])) (b := (F23.d [1, 0, 1, 0, 1, 1, 1, 1, 1, 1, 1, 1, 1, 1, 1, 1])) (by kernel_rfl) (F23.k7_ok W Q QP s h) (F23.k10_ok W Q QP s h) (F23.k11_a s h (F23.k10 W Q QP) (F23.k7 W Q QP))
def F23.t12 (s : St) (h : AH) (C0 C1 : KT) : Prop :=
  pBin Tryd.prog .eql 9 true (s.tm 4) (.sc (.string ⟨#[114, 101, 115, 101, 116]⟩)) fun t18 =>
  C1 ⟨puts s.tm [(22, t18), (21, t18)], s.ds⟩ h
def F23.k12 (W : Nat → Prop) (Q : Post) (QP : PPost) (s : St) (h : AH) : Prop := F23.t12 s h (F23.k1 W Q QP) (F23.k11 W Q QP)
theorem F23.k12_a (C0 C1 : KT) : F23.cw W (F23.d [1, 0, 1, 0, 1, 1, 1, 1, 1, 1, 1, 1, 1, 1, 0]) (thenQ (C1) (blockQ 0 (thenQ (C0) (Q)))) QP s h = F23.t12 s h C0 C1 := by kernel_rfl
theorem F23.k12_ok : F23.cw W (F23.d [1, 0, 1, 0, 1, 1, 1, 1, 1, 1, 1, 1, 1, 1]) (blockQ 0 (thenQ (F23.k1 W Q QP) (Q))) QP s h = F23.k12 W Q QP s h := nd_seq (a := (F23.d [1, 0, 1, 0, 1, 1, 1, 1, 1, 1, 1, 1, 1, 1, 0])) (b := (F23.d [1, 0, 1, 0, 1, 1, 1, 1, 1, 1, 1, 1, 1, 1, 1])) (by kernel_rfl) (F23.k11_ok W Q QP) (F23.k12_a W Q QP s h (F23.k1 W Q QP) (F23.k11 W Q QP))
def F23.t13 (s : St) (h : AH) (C0 C1 : KT) : Prop :=
  aIf (s.tm 18) (
  C1 s h) (
  C0 s h)
def F23.k13 (W : Nat → Prop) (Q : Post) (QP : PPost) (s : St) (h : AH) : Prop := F23.t13 s h (F23.k12 W Q QP) (F23.k6 W Q QP)
theorem F23.k13_a (C0 C1 : KT) : aIf (aev s (.tmp 18)) (C1 s h) (C0 s h) = F23.t13 s h C0 C1 := by kernel_rfl
theorem F23.k13_ok : F23.cw W (F23.d [1, 0, 1, 0, 1, 1, 1, 1, 1, 1, 1, 1, 1]) (blockQ 0 (thenQ (F23.k1 W Q QP) (Q))) QP s h = F23.k13 W Q QP s h := nd_cond (a := (F23.d [1, 0, 1, 0, 1, 1, 1, 1, 1, 1, 1, 1, 1, 0])) (b := (F23.d [1, 0, 1, 0, 1, 1, 1, 1, 1, 1, 1, 1, 1, 1])) (by kernel_rfl) (F23.k6_ok W Q QP s h) (F23.k12_ok W Q QP s h) (F23.k13_a s h (F23.k12 W Q QP) (F23.k6 W Q QP))
def F23.t14 (s : St) (h : AH) (C0 C1 : KT) : Prop :=
  pBin Tryd.prog .eql 9 true (s.tm 4) (.sc (.string ⟨#[109, 101, 97, 115, 117, 114, 101]⟩)) fun t19 =>
  C1 ⟨puts s.tm [(19, t19), (18, t19)], s.ds⟩ h
def F23.k14 (W : Nat → Prop) (Q : Post) (QP : PPost) (s : St) (h : AH) : Prop := F23.t14 s h (F23.k1 W Q QP) (F23.k13 W Q QP)
theorem F23.k14_a (C0 C1 : KT) : F23.cw W (F23.d [1, 0, 1, 0, 1, 1, 1, 1, 1, 1, 1, 1, 0]) (thenQ (C1) (blockQ 0 (thenQ (C0) (Q)))) QP s h = F23.t14 s h C0 C1 := by kernel_rfl
theorem F23.k14_ok : F23.cw W (F23.d [1, 0, 1, 0, 1, 1, 1, 1, 1, 1, 1, 1]) (blockQ 0 (thenQ (F23.k1 W Q QP) (Q))) QP s h = F23.k14 W Q QP s h := nd_seq (a := (F23.d [1, 0, 1, 0, 1, 1, 1, 1, 1, 1, 1, 1, 0])) (b := (F23.d [1, 0, 1, 0, 1, 1, 1, 1, 1, 1, 1, 1, 1])) (by kernel_rfl) (F23.k13_ok W Q QP) (F23.k14_a W Q QP s h (F23.k1 W Q QP) (F23.k13 W Q QP))
def F23.t15 (s : St) (h : AH) (C0 C1 : KT) : Prop :=
  aIf (s.tm 15) (
  C1 s h) (
  C0 s h)
def F23.k15 (W : Nat → Prop) (Q : Post) (QP : PPost) (s : St) (h : AH) : Prop := F23.t15 s h (F23.k14 W Q QP) (F23.k5 W Q QP)
theorem F23.k15_a (C0 C1 : KT) : aIf (aev s (.tmp 15)) (C1 s h) (C0 s h) = F23.t15 s h C0 C1 := by kernel_rfl
theorem F23.k15_ok : F23.cw W (F23.d [1, 0, 1, 0, 1, 1, 1, 1, 1, 1, 1]) (blockQ 0 (thenQ (F23.k1 W Q QP) (Q))) QP s h = F23.k15 W Q QP s h := nd_cond (a := (F23.d [1, 0, 1, 0, 1, 1, 1, 1, 1, 1, 1, 0])) (b := (F23.d [1, 0, 1, 0, 1, 1, 1, 1, 1, 1, 1, 1])) (by kernel_rfl) (F23.k5_ok W Q QP s h) (F23.k14_ok W Q QP s h) (F23.k15_a s h (F23.k14 W Q QP) (F23.k5 W Q QP))
def F23.t16 (s : St) (h : AH) (C0 C1 : KT) : Prop :=
  pBin Tryd.prog .eql 9 true (s.tm 4) (.sc (.string ⟨#[105, 102]⟩)) fun t20 =>
  C1 ⟨puts s.tm [(16, t20), (15, t20)], s.ds⟩ h
def F23.k16 (W : Nat → Prop) (Q : Post) (QP : PPost) (s : St) (h : AH) : Prop := F23.t16 s h (F23.k1 W Q QP) (F23.k15 W Q QP)
theorem F23.k16_a (C0 C1 : KT) : F23.cw W (F23.d [1, 0, 1, 0, 1, 1, 1, 1, 1, 1, 0]) (thenQ (C1) (blockQ 0 (thenQ (C0) (Q)))) QP s h = F23.t16 s h C0 C1 := by kernel_rfl
theorem F23.k16_ok : F23.cw W (F23.d [1, 0, 1, 0, 1, 1, 1, 1, 1, 1]) (blockQ 0 (thenQ (F23.k1 W Q QP) (Q))) QP s h = F23.k16 W Q QP s h := nd_seq (a := (F23.d [1, 0, 1, 0, 1, 1, 1, 1, 1, 1, 0])) (b := (F23.d [1, 0, 1, 0, 1, 1, 1, 1, 1, 1, 1])) (by kernel_rfl) (F23.k15_ok W Q QP) (F23.k16_a W Q QP s h (F23.k1 W Q QP) (F23.k15 W Q QP))
def F23.t17 (s : St) (h : AH) (C0 C1 : KT) : Prop :=
  aIf (s.tm 12) (
  C1 s h) (
  C0 s h)
def F23.k17 (W : Nat → Prop) (Q : Post) (QP : PPost) (s : St) (h : AH) : Prop := F23.t17 s h (F23.k16 W Q QP) (F23.k4 W Q QP)
theorem F23.k17_a (C0 C1 : KT) : aIf (aev s (.tmp 12)) (C1 s h) (C0 s h) = F23.t17 s h C0 C1 := by kernel_rfl
theorem F23.k17_ok : F23.cw W (F23.d [1, 0, 1, 0, 1, 1, 1, 1, 1]) (blockQ 0 (thenQ (F23.k1 W Q QP) (Q))) QP s h = F23.k17 W Q QP s h := nd_cond (a := (F23.d [1, 0, 1, 0, 1, 1, 1, 1, 1, 0])) (b := (F23.d [1, 0, 1, 0, 1, 1, 1, 1, 1, 1])) (by kernel_rfl) (F23.k4_ok W Q QP s h) (F23.k16_ok W Q QP s h) (F23.k17_a s h (F23.k16 W Q QP) (F23.k4 W Q QP))
def F23.t18 (s : St) (h : AH) (C0 C1 : KT) : Prop :=
  pBin Tryd.prog .eql 9 true (s.tm 4) (.sc (.string ⟨#[114, 101, 112, 101, 97, 116]⟩)) fun t21 =>
  C1 ⟨puts s.tm [(13, t21), (12, t21)], s.ds⟩ h
def F23.k18 (W : Nat → Prop) (Q : Post) (QP : PPost) (s : St) (h : AH) : Prop := F23.t18 s h (F23.k1 W Q QP) (F23.k17 W Q QP)
theorem F23.k18_a (C0 C1 : KT) : F23.cw W (F23.d [1, 0, 1, 0, 1, 1, 1, 1, 0]) (thenQ (C1) (blockQ 0 (thenQ (C0) (Q)))) QP s h = F23.t18 s h C0 C1 := by kernel_rfl
theorem F23.k18_ok : F23.cw W (F23.d [1, 0, 1, 0, 1, 1, 1, 1]) (blockQ 0 (thenQ (F23.k1 W Q QP) (Q))) QP s h = F23.k18 W Q QP s h := nd_seq (a := (F23.d [1, 0, 1, 0, 1, 1, 1, 1, 0])) (b := (F23.d [1, 0, 1, 0, 1, 1, 1, 1, 1])) (by kernel_rfl) (F23.k17_ok W Q QP) (F23.k18_a W Q QP s h (F23.k1 W Q QP) (F23.k17 W Q QP))
def F23.t19 (s : St) (h : AH) (C0 C1 : KT) : Prop :=
  aIf (s.tm 9) (
  C1 s h) (
  C0 s h)
def F23.k19 (W : Nat → Prop) (Q : Post) (QP : PPost) (s : St) (h : AH) : Prop := F23.t19 s h (F23.k18 W Q QP) (F23.k3 W Q QP)
theorem F23.k19_a (C0 C1 : KT) : aIf (aev s (.tmp 9)) (C1 s h) (C0 s h) = F23.t19 s h C0 C1 := by kernel_rfl
theorem F23.k19_ok : F23.cw W (F23.d [1, 0, 1, 0, 1, 1, 1]) (blockQ 0 (thenQ (F23.k1 W Q QP) (Q))) QP s h = F23.k19 W Q QP s h := nd_cond (a := (F23.d [1, 0, 1, 0, 1, 1, 1, 0])) (b := (F23.d [1, 0, 1, 0, 1, 1, 1, 1])) (by kernel_rfl) (F23.k3_ok W Q QP s h) (F23.k18_ok W Q QP s h) (F23.k19_a s h (F23.k18 W Q QP) (F23.k3 W Q QP))
def F23.t20 (s : St) (h : AH) (C0 C1 : KT) : Prop :=
  pBin Tryd.prog .eql 9 true (s.tm 4) (.sc (.string ⟨#[103, 97, 116, 101]⟩)) fun t22 =>
  C1 ⟨puts s.tm [(10, t22), (9, t22)], s.ds⟩ h
def F23.k20 (W : Nat → Prop) (Q : Post) (QP : PPost) (s : St) (h : AH) : Prop := F23.t20 s h (F23.k1 W Q QP) (F23.k19 W Q QP)
theorem F23.k20_a (C0 C1 : KT) : F23.cw W (F23.d [1, 0, 1, 0, 1, 1, 0]) (thenQ (C1) (blockQ 0 (thenQ (C0) (Q)))) QP s h = F23.t20 s h C0 C1 := by kernel_rfl
theorem F23.k20_ok : F23.cw W (F23.d [1, 0, 1, 0, 1, 1]) (blockQ 0 (thenQ (F23.k1 W Q QP) (Q))) QP s h = F23.k20 W Q QP s h := nd_seq (a := (F23.d [1, 0, 1, 0, 1, 1, 0])) (b := (F23.d [1, 0, 1, 0, 1, 1, 1])) (by kernel_rfl) (F23.k19_ok W Q QP) (F23.k20_a W Q QP s h (F23.k1 W Q QP) (F23.k19 W Q QP))
def F23.t21 (s : St) (h : AH) (C0 C1 : KT) : Prop :=
  aIf (s.tm 5) (
  C0 s h) (
  C1 s h)
def F23.k21 (W : Nat → Prop) (Q : Post) (QP : PPost) (s : St) (h : AH) : Prop := F23.t21 s h (F23.k2 W Q QP) (F23.k20 W Q QP)
theorem F23.k21_a (C0 C1 : KT) : aIf (aev s (.tmp 5)) (C0 s h) (C1 s h) = F23.t21 s h C0 C1 := by kernel_rfl
theorem F23.k21_ok : F23.cw W (F23.d [1, 0, 1, 0, 1]) (blockQ 0 (thenQ (F23.k1 W Q QP) (Q))) QP s h = F23.k21 W Q QP s h := nd_cond (a := (F23.d [1, 0, 1, 0, 1, 0])) (b := (F23.d [1, 0, 1, 0, 1, 1])) (by kernel_rfl) (F23.k2_ok W Q QP s h) (F23.k20_ok W Q QP s h) (F23.k21_a s h (F23.k2 W Q QP) (F23.k20 W Q QP))
def F23.t22 (s : St) (h : AH) (C0 C1 : KT) : Prop :=
  aIf (s.tm 5) (
  C1 s h) (
  pBin Tryd.prog .eql 9 true (s.tm 4) (.sc (.string ⟨#[98, 105, 116, 115]⟩)) fun t23 =>
  C1 ⟨puts s.tm [(7, t23), (5, t23)], s.ds⟩ h)
def F23.k22 (W : Nat → Prop) (Q : Post) (QP : PPost) (s : St) (h : AH) : Prop := F23.t22 s h (F23.k1 W Q QP) (F23.k21 W Q QP)
theorem F23.k22_a (C0 C1 : KT) : aIf (aev s (.tmp 5)) (F23.cw W (F23.d [1, 0, 1, 0, 0, 1, 0]) (thenQ (C1) (blockQ 0 (thenQ (C0) (Q)))) QP s h) (F23.cw W (F23.d [1, 0, 1, 0, 0, 1, 1]) (thenQ (C1) (blockQ 0 (thenQ (C0) (Q)))) QP s h) = F23.t22 s h C0 C1 := by kernel_rfl
theorem F23.k22_ok : F23.cw W (F23.d [1, 0, 1, 0, 0, 1]) (thenQ (F23.k21 W Q QP) (blockQ 0 (thenQ (F23.k1 W Q QP) (Q)))) QP s h = F23.k22 W Q QP s h := nd_cond (a := (F23.d [1, 0, 1, 0, 0, 1, 0])) (b := (F23.d [1, 0, 1, 0, 0, 1, 1])) (by kernel_rfl) rfl rfl (F23.k22_a W Q QP s h (F23.k1 W Q QP) (F23.k21 W Q QP))
def F23.t23 (s : St) (h : AH) (C0 C1 C2 : KT) : Prop :=
  pBin Tryd.prog .eql 9 true (s.tm 4) (.sc (.string ⟨#[113, 117, 98, 105, 116, 115]⟩)) fun t24 =>
  C2 ⟨puts s.tm [(6, t24), (5, t24)], s.ds⟩ h
def F23.k23 (W : Nat → Prop) (Q : Post) (QP : PPost) (s : St) (h : AH) : Prop := F23.t23 s h (F23.k1 W Q QP) (F23.k21 W Q QP) (F23.k22 W Q QP)
theorem F23.k23_a (C0 C1 C2 : KT) : F23.cw W (F23.d [1, 0, 1, 0, 0, 0]) (thenQ (C2) (thenQ (C1) (blockQ 0 (thenQ (C0) (Q))))) QP s h = F23.t23 s h C0 C1 C2 := by kernel_rfl
theorem F23.k23_ok : F23.cw W (F23.d [1, 0, 1, 0, 0]) (thenQ (F23.k21 W Q QP) (blockQ 0 (thenQ (F23.k1 W Q QP) (Q)))) QP s h = F23.k23 W Q QP s h := nd_seq (a := (F23.d [1, 0, 1, 0, 0, 0])) (b := (F23.d [1, 0, 1, 0, 0, 1])) (by kernel_rfl) (F23.k22_ok W Q QP) (F23.k23_a W Q QP s h (F23.k1 W Q QP) (F23.k21 W Q QP) (F23.k22 W Q QP))
theorem F23.o1 : F23.cw W (F23.d [1, 0, 1, 0]) (blockQ 0 (thenQ (F23.k1 W Q QP) (Q))) QP s h = F23.k23 W Q QP s h := nd_seq (a := (F23.d [1, 0, 1, 0, 0])) (b := (F23.d [1, 0, 1, 0, 1])) (by kernel_rfl) (F23.k21_ok W Q QP) (F23.k23_ok W Q QP s h)
theorem F23.o2 : F23.cw W (F23.d [1, 0, 1]) (thenQ (F23.k1 W Q QP) (Q)) QP s h = F23.k23 W Q QP s h := nd_block (a := (F23.d [1, 0, 1, 0])) (by kernel_rfl) (F23.o1 W Q QP s h)
def F23.t24 (s : St) (h : AH) (C0 C1 : KT) : Prop :=
  C1 ⟨puts s.tm [(4, (s.tm 0))], s.ds⟩ h
def F23.k24 (W : Nat → Prop) (Q : Post) (QP : PPost) (s : St) (h : AH) : Prop := F23.t24 s h (F23.k1 W Q QP) (F23.k23 W Q QP)
theorem F23.k24_a (C0 C1 : KT) : F23.cw W (F23.d [1, 0, 0]) (thenQ (C1) (thenQ (C0) (Q))) QP s h = F23.t24 s h C0 C1 := by kernel_rfl
theorem F23.k24_ok : F23.cw W (F23.d [1, 0]) (thenQ (F23.k1 W Q QP) (Q)) QP s h = F23.k24 W Q QP s h := nd_seq (a := (F23.d [1, 0, 0])) (b := (F23.d [1, 0, 1])) (by kernel_rfl) (F23.o2 W Q QP) (F23.k24_a W Q QP s h (F23.k1 W Q QP) (F23.k23 W Q QP))
theorem F23.o3 : F23.cw W (F23.d [1]) (Q) QP s h = F23.k24 W Q QP s h := nd_seq (a := (F23.d [1, 0])) (b := (F23.d [1, 1])) (by kernel_rfl) (F23.k1_ok W Q QP) (F23.k24_ok W Q QP s h)
def F23.t25 (s : St) (h : AH) (C0 : KT) : Prop :=
  eAlloc (some [.bool false, .bool false, .int .i64 0, .bool false]) 4 67 h fun t25 h26 =>
  C0 ⟨puts s.tm [(2, t25), (3, (.sc (.bool false)))], s.ds⟩ h26
def F23.k25 (W : Nat → Prop) (Q : Post) (QP : PPost) (s : St) (h : AH) : Prop := F23.t25 s h (F23.k24 W Q QP)
theorem F23.k25_a (C0 : KT) : F23.cw W (F23.d [0]) (thenQ (C0) (Q)) QP s h = F23.t25 s h C0 := by kernel_rfl
theorem F23.k25_ok : F23.cw W (F23.d []) (Q) QP s h = F23.k25 W Q QP s h := nd_seq (a := (F23.d [0])) (b := (F23.d [1])) (by kernel_rfl) (F23.o3 W Q QP) (F23.k25_a W Q QP s h (F23.k24 W Q QP))
end
set_option maxRecDepth 100000 in
theorem F23.calls {x0 : AV} {h : AH} {M : Nat → Prop} {R : AE → AH → Prop} (hp : F23.k25 (fun id => M id ∨ h.next ≤ id) (bodyQ Tryd.prog [.cell 2 67, .tmp 3] R) (bodyP R) (s0 [x0]) h) : ACalls Tryd.prog 23 [x0] h M R :=
  acalls_of (c := F23.code) Tryd.mixed Tryd.func23 (by kernel_rfl) (Nat.le_of_ble_eq_true rfl) F23.ok (by rw [show Tryd.f23.ntmps = 28 from rfl, show Tryd.f23.results.toList = [.cell 2 67, .tmp 3] from rfl]; exact Eq.mpr (F23.k25_ok _ _ _ _ _) hp)
attribute [simp] F23.k1 F23.t1 F23.k2 F23.t2 F23.k3 F23.t3 F23.k4 F23.t4 F23.k5 F23.t5 F23.k6 F23.t6 F23.k7 F23.t7 F23.k8 F23.t8 F23.k9 F23.t9 F23.k10 F23.t10 F23.k11 F23.t11 F23.k12 F23.t12 F23.k13 F23.t13 F23.k14 F23.t14 F23.k15 F23.t15 F23.k16 F23.t16 F23.k17 F23.t17 F23.k18 F23.t18 F23.k19 F23.t19 F23.k20 F23.t20 F23.k21 F23.t21 F23.k22 F23.t22 F23.k23 F23.t23 F23.k24 F23.t24 F23.k25 F23.t25

section
variable (W : Nat → Prop) (Q : Post) (QP : PPost) (s : St) (h : AH)
noncomputable def F45.code : Code := Tryd.f45.body.getD .skip
def F45.g1 : Grps := [(none, [(0, false), (1, false), (2, false)]), (some (2, true), [(3, false), (4, false), (5, false)]), (none, [(6, false), (7, false)])]
def F45.pl : Plans := [(1, ⟨F45.g1, false, [], []⟩)]
theorem F45.ok : okCode Tryd.prog F45.pl F45.code = true := by kernel_rfl
noncomputable abbrev F45.d (p : List Nat) : Code := Code.at F45.code p
abbrev F45.cw (W : Nat → Prop) (c : Code) (Q : Post) (QP : PPost) : KT := Go.Ab.aw Tryd.prog 10 W F45.pl c Q QP
def F45.t1 (Q : Post) (s : St) (h : AH) : Prop :=
  Q .ret s h
def F45.k1 (W : Nat → Prop) (Q : Post) (QP : PPost) (s : St) (h : AH) : Prop := F45.t1 Q s h
theorem F45.k1_a : F45.cw W (F45.d [1, 1]) (Q) QP s h = F45.t1 Q s h := by kernel_rfl
theorem F45.k1_ok : F45.cw W (F45.d [1, 1]) (Q) QP s h = F45.k1 W Q QP s h := (F45.k1_a W Q QP s h)
def F45.t2 (s : St) (h : AH) (C0 : KT) : Prop :=
  pPick (s.tm 5) (s.tm 8) (.sc (.bool false)) fun t1 =>
  C0 ⟨puts s.tm [(9, t1), (2, t1)], s.ds⟩ h
def F45.k2 (W : Nat → Prop) (Q : Post) (QP : PPost) (s : St) (h : AH) : Prop := F45.t2 s h (F45.k1 W Q QP)
theorem F45.k2_a (C0 : KT) : evI Tryd.prog 10 (fun _ => W) nobody QP (regOps (F45.d [1, 0])) (isAt F45.g1 2) ((thenQ (C0) (Q)) .normal) s h = F45.t2 s h C0 := by kernel_rfl
theorem F45.k2_ok : evG Tryd.prog 10 (fun _ => W) nobody QP (regOps (F45.d [1, 0])) (F45.g1.drop 2) ((thenQ (F45.k1 W Q QP) (Q)) .normal) s h = F45.k2 W Q QP s h := nd_g (is := isAt F45.g1 2) (rest := F45.g1.drop 3) (by kernel_rfl) (fun _ _ => rfl) (F45.k2_a W Q QP s h (F45.k1 W Q QP))
def F45.t3 (W : Nat → Prop) (QP : PPost) (s : St) (h : AH) (C0 : KT) : Prop :=
  aIg true (s.tm 5) (
  aCall Tryd.prog W 53 [(s.tm 0)] h (fun t2 h3 =>
  pUn .not t2 fun t4 =>
  C0 ⟨puts s.tm [(6, (s.tm 0)), (7, t2), (8, t4)], s.ds⟩ h3) (QP s.ds)) (
  C0 ⟨puts s.tm [(6, noA), (7, noA), (8, noA)], s.ds⟩ h)
def F45.k3 (W : Nat → Prop) (Q : Post) (QP : PPost) (s : St) (h : AH) : Prop := F45.t3 W QP s h (F45.k2 W Q QP)
theorem F45.k3_a (C0 : KT) : aIg true (s.tm 5) (evI Tryd.prog 10 (fun _ => W) nobody QP (regOps (F45.d [1, 0])) (isAt F45.g1 1) (C0) s h) ((C0) (skI 10 (regOps (F45.d [1, 0])) (isAt F45.g1 1) s) h) = F45.t3 W QP s h C0 := by kernel_rfl
theorem F45.k3_ok : evG Tryd.prog 10 (fun _ => W) nobody QP (regOps (F45.d [1, 0])) (F45.g1.drop 1) ((thenQ (F45.k1 W Q QP) (Q)) .normal) s h = F45.k3 W Q QP s h := nd_gw (j := 2) (is := isAt F45.g1 1) (rest := F45.g1.drop 2) (by kernel_rfl) (d := 5) (by kernel_rfl) (F45.k2_ok W Q QP) (F45.k3_a W QP s h (F45.k2 W Q QP))
def F45.t4 (W : Nat → Prop) (QP : PPost) (s : St) (h : AH) (C0 : KT) : Prop :=
  aCall Tryd.prog W 56 [(s.tm 0)] h (fun t5 h6 =>
  C0 ⟨puts s.tm [(3, (s.tm 0)), (4, t5), (5, t5)], s.ds⟩ h6) (QP s.ds)
def F45.k4 (W : Nat → Prop) (Q : Post) (QP : PPost) (s : St) (h : AH) : Prop := F45.t4 W QP s h (F45.k3 W Q QP)
theorem F45.k4_a (C0 : KT) : evI Tryd.prog 10 (fun _ => W) nobody QP (regOps (F45.d [1, 0])) (isAt F45.g1 0) (C0) s h = F45.t4 W QP s h C0 := by kernel_rfl
theorem F45.k4_ok : evG Tryd.prog 10 (fun _ => W) nobody QP (regOps (F45.d [1, 0])) (F45.g1.drop 0) ((thenQ (F45.k1 W Q QP) (Q)) .normal) s h = F45.k4 W Q QP s h := nd_g (is := isAt F45.g1 0) (rest := F45.g1.drop 1) (by kernel_rfl) (F45.k3_ok W Q QP) (F45.k4_a W QP s h (F45.k3 W Q QP))
theorem F45.o1 : F45.cw W (F45.d [1, 0]) (thenQ (F45.k1 W Q QP) (Q)) QP s h = F45.k4 W Q QP s h := nd_groups (id := 1) (draw := false) (ops := (regOps (F45.d [1, 0]))) (gs := F45.g1.drop 0) (by kernel_rfl) (by kernel_rfl) (F45.k4_ok W Q QP s h)
theorem F45.o2 : F45.cw W (F45.d [1]) (Q) QP s h = F45.k4 W Q QP s h := nd_seq (a := (F45.d [1, 0])) (b := (F45.d [1, 1])) (by kernel_rfl) (F45.k1_ok W Q QP) (F45.o1 W Q QP s h)
def F45.t5 (s : St) (h : AH) (C0 : KT) : Prop :=
  C0 ⟨puts s.tm [(2, (.sc (.bool false)))], s.ds⟩ h
def F45.k5 (W : Nat → Prop) (Q : Post) (QP : PPost) (s : St) (h : AH) : Prop := F45.t5 s h (F45.k4 W Q QP)
theorem F45.k5_a (C0 : KT) : F45.cw W (F45.d [0]) (thenQ (C0) (Q)) QP s h = F45.t5 s h C0 := by kernel_rfl
theorem F45.k5_ok : F45.cw W (F45.d []) (Q) QP s h = F45.k5 W Q QP s h := nd_seq (a := (F45.d [0])) (b := (F45.d [1])) (by kernel_rfl) (F45.o2 W Q QP) (F45.k5_a W Q QP s h (F45.k4 W Q QP))
end
set_option maxRecDepth 100000 in
theorem F45.calls {x0 : AV} {h : AH} {M : Nat → Prop} {R : AE → AH → Prop} (hp : F45.k5 (fun id => M id ∨ h.next ≤ id) (bodyQ Tryd.prog [.tmp 2] R) (bodyP R) (s0 [x0]) h) : ACalls Tryd.prog 45 [x0] h M R :=
  acalls_of (c := F45.code) Tryd.mixed Tryd.func45 (by kernel_rfl) (Nat.le_of_ble_eq_true rfl) F45.ok (by rw [show Tryd.f45.ntmps = 10 from rfl, show Tryd.f45.results.toList = [.tmp 2] from rfl]; exact Eq.mpr (F45.k5_ok _ _ _ _ _) hp)
attribute [simp] F45.k1 F45.t1 F45.k2 F45.t2 F45.k3 F45.t3 F45.k4 F45.t4 F45.k5 F45.t5

section
variable (W : Nat → Prop) (Q : Post) (QP : PPost) (s : St) (h : AH)
noncomputable def F46.code : Code := Tryd.f46.body.getD .skip
def F46.g1 : Grps := [(none, [(0, false), (1, false), (2, false)]), (some (2, true), [(3, false), (4, false)]), (none, [(5, false), (6, false)])]
def F46.pl : Plans := [(1, ⟨F46.g1, false, [], []⟩)]
theorem F46.ok : okCode Tryd.prog F46.pl F46.code = true := by kernel_rfl
noncomputable abbrev F46.d (p : List Nat) : Code := Code.at F46.code p
abbrev F46.cw (W : Nat → Prop) (c : Code) (Q : Post) (QP : PPost) : KT := Go.Ab.aw Tryd.prog 9 W F46.pl c Q QP
def F46.t1 (Q : Post) (s : St) (h : AH) : Prop :=
  Q .ret s h
def F46.k1 (W : Nat → Prop) (Q : Post) (QP : PPost) (s : St) (h : AH) : Prop := F46.t1 Q s h
theorem F46.k1_a : F46.cw W (F46.d [1, 1]) (Q) QP s h = F46.t1 Q s h := by kernel_rfl
theorem F46.k1_ok : F46.cw W (F46.d [1, 1]) (Q) QP s h = F46.k1 W Q QP s h := (F46.k1_a W Q QP s h)
def F46.t2 (s : St) (h : AH) (C0 : KT) : Prop :=
  pPick (s.tm 5) (s.tm 7) (.sc (.bool false)) fun t1 =>
  C0 ⟨puts s.tm [(8, t1), (2, t1)], s.ds⟩ h
def F46.k2 (W : Nat → Prop) (Q : Post) (QP : PPost) (s : St) (h : AH) : Prop := F46.t2 s h (F46.k1 W Q QP)
theorem F46.k2_a (C0 : KT) : evI Tryd.prog 9 (fun _ => W) nobody QP (regOps (F46.d [1, 0])) (isAt F46.g1 2) ((thenQ (C0) (Q)) .normal) s h = F46.t2 s h C0 := by kernel_rfl
theorem F46.k2_ok : evG Tryd.prog 9 (fun _ => W) nobody QP (regOps (F46.d [1, 0])) (F46.g1.drop 2) ((thenQ (F46.k1 W Q QP) (Q)) .normal) s h = F46.k2 W Q QP s h := nd_g (is := isAt F46.g1 2) (rest := F46.g1.drop 3) (by kernel_rfl) (fun _ _ => rfl) (F46.k2_a W Q QP s h (F46.k1 W Q QP))
def F46.t3 (s : St) (h : AH) (C0 : KT) : Prop :=
  aIg true (s.tm 5) (
  pBin Tryd.prog .leq 3 true (s.tm 0) (.sc (.int .i64 9007199254740991)) fun t2 =>
  C0 ⟨puts s.tm [(6, (s.tm 0)), (7, t2)], s.ds⟩ h) (
  C0 ⟨puts s.tm [(6, noA), (7, noA)], s.ds⟩ h)
def F46.k3 (W : Nat → Prop) (Q : Post) (QP : PPost) (s : St) (h : AH) : Prop := F46.t3 s h (F46.k2 W Q QP)
theorem F46.k3_a (C0 : KT) : aIg true (s.tm 5) (evI Tryd.prog 9 (fun _ => W) nobody QP (regOps (F46.d [1, 0])) (isAt F46.g1 1) (C0) s h) ((C0) (skI 9 (regOps (F46.d [1, 0])) (isAt F46.g1 1) s) h) = F46.t3 s h C0 := by kernel_rfl
theorem F46.k3_ok : evG Tryd.prog 9 (fun _ => W) nobody QP (regOps (F46.d [1, 0])) (F46.g1.drop 1) ((thenQ (F46.k1 W Q QP) (Q)) .normal) s h = F46.k3 W Q QP s h := nd_gw (j := 2) (is := isAt F46.g1 1) (rest := F46.g1.drop 2) (by kernel_rfl) (d := 5) (by kernel_rfl) (F46.k2_ok W Q QP) (F46.k3_a W QP s h (F46.k2 W Q QP))
def F46.t4 (s : St) (h : AH) (C0 : KT) : Prop :=
  pBin Tryd.prog .geq 3 true (s.tm 0) (.sc (.int .i64 0)) fun t3 =>
  C0 ⟨puts s.tm [(3, (s.tm 0)), (4, t3), (5, t3)], s.ds⟩ h
def F46.k4 (W : Nat → Prop) (Q : Post) (QP : PPost) (s : St) (h : AH) : Prop := F46.t4 s h (F46.k3 W Q QP)
theorem F46.k4_a (C0 : KT) : evI Tryd.prog 9 (fun _ => W) nobody QP (regOps (F46.d [1, 0])) (isAt F46.g1 0) (C0) s h = F46.t4 s h C0 := by kernel_rfl
theorem F46.k4_ok : evG Tryd.prog 9 (fun _ => W) nobody QP (regOps (F46.d [1, 0])) (F46.g1.drop 0) ((thenQ (F46.k1 W Q QP) (Q)) .normal) s h = F46.k4 W Q QP s h := nd_g (is := isAt F46.g1 0) (rest := F46.g1.drop 1) (by kernel_rfl) (F46.k3_ok W Q QP) (F46.k4_a W QP s h (F46.k3 W Q QP))
theorem F46.o1 : F46.cw W (F46.d [1, 0]) (thenQ (F46.k1 W Q QP) (Q)) QP s h = F46.k4 W Q QP s h := nd_groups (id := 1) (draw := false) (ops := (regOps (F46.d [1, 0]))) (gs := F46.g1.drop 0) (by kernel_rfl) (by kernel_rfl) (F46.k4_ok W Q QP s h)
theorem F46.o2 : F46.cw W (F46.d [1]) (Q) QP s h = F46.k4 W Q QP s h := nd_seq (a := (F46.d [1, 0])) (b := (F46.d [1, 1])) (by kernel_rfl) (F46.k1_ok W Q QP) (F46.o1 W Q QP s h)
def F46.t5 (s : St) (h : AH) (C0 : KT) : Prop :=
  C0 ⟨puts s.tm [(2, (.sc (.bool false)))], s.ds⟩ h
def F46.k5 (W : Nat → Prop) (Q : Post) (QP : PPost) (s : St) (h : AH) : Prop := F46.t5 s h (F46.k4 W Q QP)
theorem F46.k5_a (C0 : KT) : F46.cw W (F46.d [0]) (thenQ (C0) (Q)) QP s h = F46.t5 s h C0 := by kernel_rfl
theorem F46.k5_ok : F46.cw W (F46.d []) (Q) QP s h = F46.k5 W Q QP s h := nd_seq (a := (F46.d [0])) (b := (F46.d [1])) (by kernel_rfl) (F46.o2 W Q QP) (F46.k5_a W Q QP s h (F46.k4 W Q QP))
end
set_option maxRecDepth 100000 in
theorem F46.calls {x0 : AV} {h : AH} {M : Nat → Prop} {R : AE → AH → Prop} (hp : F46.k5 (fun id => M id ∨ h.next ≤ id) (bodyQ Tryd.prog [.tmp 2] R) (bodyP R) (s0 [x0]) h) : ACalls Tryd.prog 46 [x0] h M R :=
  acalls_of (c := F46.code) Tryd.mixed Tryd.func46 (by kernel_rfl) (Nat.le_of_ble_eq_true rfl) F46.ok (by rw [show Tryd.f46.ntmps = 9 from rfl, show Tryd.f46.results.toList = [.tmp 2] from rfl]; exact Eq.mpr (F46.k5_ok _ _ _ _ _) hp)
attribute [simp] F46.k1 F46.t1 F46.k2 F46.t2 F46.k3 F46.t3 F46.k4 F46.t4 F46.k5 F46.t5

section
variable (W : Nat → Prop) (Q : Post) (QP : PPost) (s : St) (h : AH)
noncomputable def F50.code : Code := Tryd.f50.body.getD .skip
def F50.pl : Plans := []
theorem F50.ok : okCode Tryd.prog F50.pl F50.code = true := by kernel_rfl
noncomputable abbrev F50.d (p : List Nat) : Code := Code.at F50.code p
abbrev F50.cw (W : Nat → Prop) (c : Code) (Q : Post) (QP : PPost) : KT := Go.Ab.aw Tryd.prog 19 W F50.pl c Q QP
def F50.t1 (Q : Post) (s : St) (h : AH) : Prop :=
  (strArg (s.tm 1) = true) ∧ pLen (s.tm 1) fun t1 =>
  Q .ret ⟨puts s.tm [(17, (s.tm 1)), (18, t1), (4, t1), (5, (.sc (.nilIface)))], s.ds⟩ h
def F50.k1 (W : Nat → Prop) (Q : Post) (QP : PPost) (s : St) (h : AH) : Prop := F50.t1 Q s h
theorem F50.k1_a : F50.cw W (F50.d [1, 1, 1, 0]) (thenQ (F50.cw W (F50.d [1, 1, 1, 1]) (Q) QP) (Q)) QP s h = F50.t1 Q s h := by kernel_rfl
theorem F50.k1_ok : F50.cw W (F50.d [1, 1, 1]) (Q) QP s h = F50.k1 W Q QP s h := nd_seq (a := (F50.d [1, 1, 1, 0])) (b := (F50.d [1, 1, 1, 1])) (by kernel_rfl) (fun _ _ => rfl) (F50.k1_a W Q QP s h)
def F50.t2 (W : Nat → Prop) (s : St) (h : AH) (C0 : KT) : Prop :=
  pNil (s.tm 0) fun t2 =>
  pFld (some 1) t2 fun t3 =>
  lLd (some false) (some 1) t3 h fun t4 _ =>
  eAppS (some 5) t4 (s.tm 1) h W fun t6 h7 =>
  pNil (s.tm 0) fun t8 =>
  pFld (some 1) t8 fun t9 =>
  eStore (some 1) t9 t6 h7 W fun h10 =>
  C0 ⟨puts s.tm [(8, (s.tm 0)), (9, (s.tm 0)), (10, t2), (11, t3), (12, t4), (13, (s.tm 1)), (14, t6), (15, t8), (16, t9)], s.ds⟩ h10
def F50.k2 (W : Nat → Prop) (Q : Post) (QP : PPost) (s : St) (h : AH) : Prop := F50.t2 W s h (F50.k1 W Q QP)
theorem F50.k2_a (C0 : KT) : F50.cw W (F50.d [1, 1, 0]) (thenQ (C0) (Q)) QP s h = F50.t2 W s h C0 := by kernel_rfl
theorem F50.k2_ok : F50.cw W (F50.d [1, 1]) (Q) QP s h = F50.k2 W Q QP s h := nd_seq (a := (F50.d [1, 1, 0])) (b := (F50.d [1, 1, 1])) (by kernel_rfl) (F50.k1_ok W Q QP) (F50.k2_a W Q QP s h (F50.k1 W Q QP))
def F50.t3 (W : Nat → Prop) (QP : PPost) (s : St) (h : AH) (C0 : KT) : Prop :=
  aCall Tryd.prog W 61 [(s.tm 0)] h (fun t11 h12 =>
  C0 ⟨puts s.tm [(6, (s.tm 0)), (7, t11)], s.ds⟩ h12) (QP s.ds)
def F50.k3 (W : Nat → Prop) (Q : Post) (QP : PPost) (s : St) (h : AH) : Prop := F50.t3 W QP s h (F50.k2 W Q QP)
theorem F50.k3_a (C0 : KT) : F50.cw W (F50.d [1, 0]) (thenQ (C0) (Q)) QP s h = F50.t3 W QP s h C0 := by kernel_rfl
theorem F50.k3_ok : F50.cw W (F50.d [1]) (Q) QP s h = F50.k3 W Q QP s h := nd_seq (a := (F50.d [1, 0])) (b := (F50.d [1, 1])) (by kernel_rfl) (F50.k2_ok W Q QP) (F50.k3_a W Q QP s h (F50.k2 W Q QP))
def F50.t4 (s : St) (h : AH) (C0 : KT) : Prop :=
  C0 ⟨puts s.tm [(4, (.sc (.int .i64 0))), (5, (.sc (.nilIface)))], s.ds⟩ h
def F50.k4 (W : Nat → Prop) (Q : Post) (QP : PPost) (s : St) (h : AH) : Prop := F50.t4 s h (F50.k3 W Q QP)
theorem F50.k4_a (C0 : KT) : F50.cw W (F50.d [0]) (thenQ (C0) (Q)) QP s h = F50.t4 s h C0 := by kernel_rfl
theorem F50.k4_ok : F50.cw W (F50.d []) (Q) QP s h = F50.k4 W Q QP s h := nd_seq (a := (F50.d [0])) (b := (F50.d [1])) (by kernel_rfl) (F50.k3_ok W Q QP) (F50.k4_a W Q QP s h (F50.k3 W Q QP))
end
set_option maxRecDepth 100000 in
theorem F50.calls {x0 x1 : AV} {h : AH} {M : Nat → Prop} {R : AE → AH → Prop} (hp : F50.k4 (fun id => M id ∨ h.next ≤ id) (bodyQ Tryd.prog [.tmp 4, .tmp 5] R) (bodyP R) (s0 [x0, x1]) h) : ACalls Tryd.prog 50 [x0, x1] h M R :=
  acalls_of (c := F50.code) Tryd.mixed Tryd.func50 (by kernel_rfl) (Nat.le_of_ble_eq_true rfl) F50.ok (by rw [show Tryd.f50.ntmps = 19 from rfl, show Tryd.f50.results.toList = [.tmp 4, .tmp 5] from rfl]; exact Eq.mpr (F50.k4_ok _ _ _ _ _) hp)
attribute [simp] F50.k1 F50.t1 F50.k2 F50.t2 F50.k3 F50.t3 F50.k4 F50.t4

section
variable (W : Nat → Prop) (Q : Post) (QP : PPost) (s : St) (h : AH)
noncomputable def F56.code : Code := Tryd.f56.body.getD .skip
def F56.g1 : Grps := [(none, [(0, false), (1, false), (2, false)]), (some (2, true), [(3, false), (4, false), (5, false)]), (none, [(6, false), (7, false)]), (some (7, true), [(8, false), (9, false), (10, false), (11, false), (12, false)]), (none, [(13, false), (14, false)])]
def F56.pl : Plans := [(1, ⟨F56.g1, false, [], []⟩)]
theorem F56.ok : okCode Tryd.prog F56.pl F56.code = true := by kernel_rfl
noncomputable abbrev F56.d (p : List Nat) : Code := Code.at F56.code p
abbrev F56.cw (W : Nat → Prop) (c : Code) (Q : Post) (QP : PPost) : KT := Go.Ab.aw Tryd.prog 17 W F56.pl c Q QP
def F56.t1 (Q : Post) (s : St) (h : AH) : Prop :=
  Q .ret s h
def F56.k1 (W : Nat → Prop) (Q : Post) (QP : PPost) (s : St) (h : AH) : Prop := F56.t1 Q s h
theorem F56.k1_a : F56.cw W (F56.d [1, 1]) (Q) QP s h = F56.t1 Q s h := by kernel_rfl
theorem F56.k1_ok : F56.cw W (F56.d [1, 1]) (Q) QP s h = F56.k1 W Q QP s h := (F56.k1_a W Q QP s h)
def F56.t2 (s : St) (h : AH) (C0 : KT) : Prop :=
  pPick (s.tm 10) (s.tm 15) (.sc (.bool false)) fun t1 =>
  C0 ⟨puts s.tm [(16, t1), (2, t1)], s.ds⟩ h
def F56.k2 (W : Nat → Prop) (Q : Post) (QP : PPost) (s : St) (h : AH) : Prop := F56.t2 s h (F56.k1 W Q QP)
theorem F56.k2_a (C0 : KT) : evI Tryd.prog 17 (fun _ => W) nobody QP (regOps (F56.d [1, 0])) (isAt F56.g1 4) ((thenQ (C0) (Q)) .normal) s h = F56.t2 s h C0 := by kernel_rfl
theorem F56.k2_ok : evG Tryd.prog 17 (fun _ => W) nobody QP (regOps (F56.d [1, 0])) (F56.g1.drop 4) ((thenQ (F56.k1 W Q QP) (Q)) .normal) s h = F56.k2 W Q QP s h := nd_g (is := isAt F56.g1 4) (rest := F56.g1.drop 5) (by kernel_rfl) (fun _ _ => rfl) (F56.k2_a W Q QP s h (F56.k1 W Q QP))
def F56.t3 (W : Nat → Prop) (QP : PPost) (s : St) (h : AH) (C0 : KT) : Prop :=
  aIg true (s.tm 10) (
  aCall Tryd.prog W 28 [(s.tm 0), (.sc (.int .i64 0)), (.fn (.func 31) [] [])] h (fun t2 h3 =>
  (strArg (s.tm 0) = true) ∧ pLen (s.tm 0) fun t4 =>
  pBin Tryd.prog .eql 3 false t2 t4 fun t5 =>
  C0 ⟨puts s.tm [(11, (s.tm 0)), (12, t2), (13, (s.tm 0)), (14, t4), (15, t5)], s.ds⟩ h3) (QP s.ds)) (
  C0 ⟨puts s.tm [(11, noA), (12, noA), (13, noA), (14, noA), (15, noA)], s.ds⟩ h)
def F56.k3 (W : Nat → Prop) (Q : Post) (QP : PPost) (s : St) (h : AH) : Prop := F56.t3 W QP s h (F56.k2 W Q QP)
theorem F56.k3_a (C0 : KT) : aIg true (s.tm 10) (evI Tryd.prog 17 (fun _ => W) nobody QP (regOps (F56.d [1, 0])) (isAt F56.g1 3) (C0) s h) ((C0) (skI 17 (regOps (F56.d [1, 0])) (isAt F56.g1 3) s) h) = F56.t3 W QP s h C0 := by kernel_rfl
theorem F56.k3_ok : evG Tryd.prog 17 (fun _ => W) nobody QP (regOps (F56.d [1, 0])) (F56.g1.drop 3) ((thenQ (F56.k1 W Q QP) (Q)) .normal) s h = F56.k3 W Q QP s h := nd_gw (j := 7) (is := isAt F56.g1 3) (rest := F56.g1.drop 4) (by kernel_rfl) (d := 10) (by kernel_rfl) (F56.k2_ok W Q QP) (F56.k3_a W QP s h (F56.k2 W Q QP))
def F56.t4 (s : St) (h : AH) (C0 : KT) : Prop :=
  pPick (s.tm 5) (s.tm 8) (.sc (.bool false)) fun t6 =>
  C0 ⟨puts s.tm [(9, t6), (10, t6)], s.ds⟩ h
def F56.k4 (W : Nat → Prop) (Q : Post) (QP : PPost) (s : St) (h : AH) : Prop := F56.t4 s h (F56.k3 W Q QP)
theorem F56.k4_a (C0 : KT) : evI Tryd.prog 17 (fun _ => W) nobody QP (regOps (F56.d [1, 0])) (isAt F56.g1 2) (C0) s h = F56.t4 s h C0 := by kernel_rfl
theorem F56.k4_ok : evG Tryd.prog 17 (fun _ => W) nobody QP (regOps (F56.d [1, 0])) (F56.g1.drop 2) ((thenQ (F56.k1 W Q QP) (Q)) .normal) s h = F56.k4 W Q QP s h := nd_g (is := isAt F56.g1 2) (rest := F56.g1.drop 3) (by kernel_rfl) (F56.k3_ok W Q QP) (F56.k4_a W QP s h (F56.k3 W Q QP))
def F56.t5 (W : Nat → Prop) (QP : PPost) (s : St) (h : AH) (C0 : KT) : Prop :=
  aIg true (s.tm 5) (
  pIxS true (s.tm 0) (.sc (.int .i64 0)) fun t7 =>
  aCall Tryd.prog W 30 [t7] h (fun t8 h9 =>
  C0 ⟨puts s.tm [(6, (s.tm 0)), (7, t7), (8, t8)], s.ds⟩ h9) (QP s.ds)) (
  C0 ⟨puts s.tm [(6, noA), (7, noA), (8, noA)], s.ds⟩ h)
def F56.k5 (W : Nat → Prop) (Q : Post) (QP : PPost) (s : St) (h : AH) : Prop := F56.t5 W QP s h (F56.k4 W Q QP)
theorem F56.k5_a (C0 : KT) : aIg true (s.tm 5) (evI Tryd.prog 17 (fun _ => W) nobody QP (regOps (F56.d [1, 0])) (isAt F56.g1 1) (C0) s h) ((C0) (skI 17 (regOps (F56.d [1, 0])) (isAt F56.g1 1) s) h) = F56.t5 W QP s h C0 := by kernel_rfl
theorem F56.k5_ok : evG Tryd.prog 17 (fun _ => W) nobody QP (regOps (F56.d [1, 0])) (F56.g1.drop 1) ((thenQ (F56.k1 W Q QP) (Q)) .normal) s h = F56.k5 W Q QP s h := nd_gw (j := 2) (is := isAt F56.g1 1) (rest := F56.g1.drop 2) (by kernel_rfl) (d := 5) (by kernel_rfl) (F56.k4_ok W Q QP) (F56.k5_a W QP s h (F56.k4 W Q QP))
def F56.t6 (s : St) (h : AH) (C0 : KT) : Prop :=
  pBin Tryd.prog .neq 9 true (s.tm 0) (.sc (.string ⟨#[]⟩)) fun t10 =>
  C0 ⟨puts s.tm [(3, (s.tm 0)), (4, t10), (5, t10)], s.ds⟩ h
def F56.k6 (W : Nat → Prop) (Q : Post) (QP : PPost) (s : St) (h : AH) : Prop := F56.t6 s h (F56.k5 W Q QP)
theorem F56.k6_a (C0 : KT) : evI Tryd.prog 17 (fun _ => W) nobody QP (regOps (F56.d [1, 0])) (isAt F56.g1 0) (C0) s h = F56.t6 s h C0 := by kernel_rfl
theorem F56.k6_ok : evG Tryd.prog 17 (fun _ => W) nobody QP (regOps (F56.d [1, 0])) (F56.g1.drop 0) ((thenQ (F56.k1 W Q QP) (Q)) .normal) s h = F56.k6 W Q QP s h := nd_g (is := isAt F56.g1 0) (rest := F56.g1.drop 1) (by kernel_rfl) (F56.k5_ok W Q QP) (F56.k6_a W QP s h (F56.k5 W Q QP))
theorem F56.o1 : F56.cw W (F56.d [1, 0]) (thenQ (F56.k1 W Q QP) (Q)) QP s h = F56.k6 W Q QP s h := nd_groups (id := 1) (draw := false) (ops := (regOps (F56.d [1, 0]))) (gs := F56.g1.drop 0) (by kernel_rfl) (by kernel_rfl) (F56.k6_ok W Q QP s h)
theorem F56.o2 : F56.cw W (F56.d [1]) (Q) QP s h = F56.k6 W Q QP s h := nd_seq (a := (F56.d [1, 0])) (b := (F56.d [1, 1])) (by kernel_rfl) (F56.k1_ok W Q QP) (F56.o1 W Q QP s h)
def F56.t7 (s : St) (h : AH) (C0 : KT) : Prop :=
  C0 ⟨puts s.tm [(2, (.sc (.bool false)))], s.ds⟩ h
def F56.k7 (W : Nat → Prop) (Q : Post) (QP : PPost) (s : St) (h : AH) : Prop := F56.t7 s h (F56.k6 W Q QP)
theorem F56.k7_a (C0 : KT) : F56.cw W (F56.d [0]) (thenQ (C0) (Q)) QP s h = F56.t7 s h C0 := by kernel_rfl
theorem F56.k7_ok : F56.cw W (F56.d []) (Q) QP s h = F56.k7 W Q QP s h := nd_seq (a := (F56.d [0])) (b := (F56.d [1])) (by kernel_rfl) (F56.o2 W Q QP) (F56.k7_a W Q QP s h (F56.k6 W Q QP))
end
set_option maxRecDepth 100000 in
theorem F56.calls {x0 : AV} {h : AH} {M : Nat → Prop} {R : AE → AH → Prop} (hp : F56.k7 (fun id => M id ∨ h.next ≤ id) (bodyQ Tryd.prog [.tmp 2] R) (bodyP R) (s0 [x0]) h) : ACalls Tryd.prog 56 [x0] h M R :=
  acalls_of (c := F56.code) Tryd.mixed Tryd.func56 (by kernel_rfl) (Nat.le_of_ble_eq_true rfl) F56.ok (by rw [show Tryd.f56.ntmps = 17 from rfl, show Tryd.f56.results.toList = [.tmp 2] from rfl]; exact Eq.mpr (F56.k7_ok _ _ _ _ _) hp)
attribute [simp] F56.k1 F56.t1 F56.k2 F56.t2 F56.k3 F56.t3 F56.k4 F56.t4 F56.k5 F56.t5 F56.k6 F56.t6 F56.k7 F56.t7
end Go.Proofs.YthkkgbmjjpcfaaaDoor
namespace Go.Proofs.YthkkgbmjjpcfaaaDoor
open Go.Ab
end Go.Proofs.YthkkgbmjjpcfaaaDoor

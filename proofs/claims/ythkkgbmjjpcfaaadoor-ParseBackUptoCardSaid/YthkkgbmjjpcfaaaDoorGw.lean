/- Bodies of the writer of package parse and of the law; printed by a program of this session. No condition. -/
import Derived.Test.YthkkgbmjjpcfaaaDoorGl
namespace Go.Proofs.YthkkgbmjjpcfaaaDoor
open Go.Ab
section
variable (W : Nat → Prop) (QR QN : VK) (QE : Nat → VK) (QP : AV → AH → Prop) (s : St) (h : AH)
noncomputable def F9.code : Code := Tryd.f9.body.getD .skip
def F9.pl : Plans := []
theorem F9.ok : okCode Tryd.prog F9.pl F9.code = true := by kernel_rfl
noncomputable abbrev F9.d (p : List Nat) : Code := Code.at F9.code p
abbrev F9.cw (W : Nat → Prop) (c : Code) (q : Post) (QP : AV → AH → Prop) : KT := Go.Ab.aw Tryd.prog 22 W F9.pl c q (kP QP)
def F9.el0 (_ : Nat) (_ : Nat → AV) : List AV := []
def F9.q0 (QR QN : VK) (QE : Nat → VK) : Post := fun x s h => match x with | .normal => QN [s.tm 2, s.tm 3] h | .ret => QR [s.tm 2, s.tm 3] h | .exit j => QE j (F9.el0 j s.tm) h | .goto _ => False
def F9.n1 (W : WK) (QR _ : VK) (_ : EK) (QP : PK) (x4 : AV) (h : AH) : Prop :=
pNil x4 fun t1 =>
pFld (some 1) t1 fun t2 =>
aCall Tryd.prog W 17 [t2] h (fun t3 h4 =>
QR [t3, (.sc (.int .i64 0))] h4) QP
def F9.f1 : KT := fun s h => F9.n1 W QR QN QE QP (s.tm 4) h
theorem F9.e1 : F9.cw W (F9.d [1, 1, 1, 1]) (F9.q0 QR QN QE) QP s h = F9.f1 W QR QN QE QP s h := nd_seq (a := (F9.d [1, 1, 1, 1, 0])) (b := (F9.d [1, 1, 1, 1, 1])) (by kernel_rfl) (fun _ _ => rfl) (by kernel_rfl)
def F9.n2 (_ : WK) (QR _ : VK) (_ : EK) (_ : PK) (h : AH) : Prop :=
QR [(.sc (.string ⟨#[]⟩)), (.sc (.int .i64 1))] h
def F9.f2 : KT := fun _ h => F9.n2 W QR QN QE QP h
theorem F9.e2 : F9.cw W (F9.d [1, 1, 1, 0, 1, 0]) (thenQ (F9.f1 W QR QN QE QP) (F9.q0 QR QN QE)) QP s h = F9.f2 W QR QN QE QP s h := nd_seq (a := (F9.d [1, 1, 1, 0, 1, 0, 0])) (b := (F9.d [1, 1, 1, 0, 1, 0, 1])) (by kernel_rfl) (fun _ _ => rfl) (by kernel_rfl)
def F9.n3 (W : WK) (QR QN : VK) (QE : EK) (QP : PK) (x4 x17 : AV) (h : AH) : Prop :=
aIf x17 (
F9.n2 W QR QN QE QP h) (
F9.n1 W QR QN QE QP x4 h)
def F9.f3 : KT := fun s h => F9.n3 W QR QN QE QP (s.tm 4) (s.tm 17) h
theorem F9.e3 : F9.cw W (F9.d [1, 1, 1, 0, 1]) (thenQ (F9.f1 W QR QN QE QP) (F9.q0 QR QN QE)) QP s h = F9.f3 W QR QN QE QP s h := nd_cond (o := (.tmp 17)) (a := (F9.d [1, 1, 1, 0, 1, 0])) (b := (F9.d [1, 1, 1, 0, 1, 1])) (by kernel_rfl) (F9.e2 W QR QN QE QP s h) rfl (by kernel_rfl)
def F9.n4 (W : WK) (QR QN : VK) (QE : EK) (QP : PK) (x4 : AV) (h : AH) : Prop :=
pNil x4 fun t5 =>
pFld (some 1) t5 fun t6 =>
aCall Tryd.prog W 16 [t6] h (fun t7 h8 =>
pBin Tryd.prog .gtr 3 true t7 (.sc (.int .i64 65536)) fun t9 =>
F9.n3 W QR QN QE QP x4 t9 h8) QP
def F9.f4 : KT := fun s h => F9.n4 W QR QN QE QP (s.tm 4) h
theorem F9.e4 : F9.cw W (F9.d [1, 1, 1, 0]) (thenQ (F9.f1 W QR QN QE QP) (F9.q0 QR QN QE)) QP s h = F9.f4 W QR QN QE QP s h := nd_seq (a := (F9.d [1, 1, 1, 0, 0])) (b := (F9.d [1, 1, 1, 0, 1])) (by kernel_rfl) (F9.e3 W QR QN QE QP) (by kernel_rfl)
theorem F9.o1 : F9.cw W (F9.d [1, 1, 1]) (F9.q0 QR QN QE) QP s h = F9.f4 W QR QN QE QP s h := nd_seq (a := (F9.d [1, 1, 1, 0])) (b := (F9.d [1, 1, 1, 1])) (by kernel_rfl) (F9.e1 W QR QN QE QP) (F9.e4 W QR QN QE QP s h)
def F9.n5 (_ : WK) (QR _ : VK) (_ : EK) (_ : PK) (h : AH) : Prop :=
QR [(.sc (.string ⟨#[]⟩)), (.sc (.int .i64 100))] h
def F9.f5 : KT := fun _ h => F9.n5 W QR QN QE QP h
theorem F9.e5 : F9.cw W (F9.d [1, 1, 0, 1, 0]) (thenQ (F9.f4 W QR QN QE QP) (F9.q0 QR QN QE)) QP s h = F9.f5 W QR QN QE QP s h := nd_seq (a := (F9.d [1, 1, 0, 1, 0, 0])) (b := (F9.d [1, 1, 0, 1, 0, 1])) (by kernel_rfl) (fun _ _ => rfl) (by kernel_rfl)
def F9.n6 (W : WK) (QR QN : VK) (QE : EK) (QP : PK) (x4 x12 : AV) (h : AH) : Prop :=
aIf x12 (
F9.n5 W QR QN QE QP h) (
F9.n4 W QR QN QE QP x4 h)
def F9.f6 : KT := fun s h => F9.n6 W QR QN QE QP (s.tm 4) (s.tm 12) h
theorem F9.e6 : F9.cw W (F9.d [1, 1, 0, 1]) (thenQ (F9.f4 W QR QN QE QP) (F9.q0 QR QN QE)) QP s h = F9.f6 W QR QN QE QP s h := nd_cond (o := (.tmp 12)) (a := (F9.d [1, 1, 0, 1, 0])) (b := (F9.d [1, 1, 0, 1, 1])) (by kernel_rfl) (F9.e5 W QR QN QE QP s h) rfl (by kernel_rfl)
def F9.n7 (W : WK) (QR QN : VK) (QE : EK) (QP : PK) (x0 x4 : AV) (h : AH) : Prop :=
(strArg x0 = false) ∧ pLen x0 fun t10 =>
aCall Tryd.prog W 15 [x4, (.sc (.int .i64 0)), t10, (.sc (.int .i64 0))] h (fun t11 h12 =>
pUn .not t11 fun t13 =>
F9.n6 W QR QN QE QP x4 t13 h12) QP
def F9.f7 : KT := fun s h => F9.n7 W QR QN QE QP (s.tm 0) (s.tm 4) h
theorem F9.e7 : F9.cw W (F9.d [1, 1, 0]) (thenQ (F9.f4 W QR QN QE QP) (F9.q0 QR QN QE)) QP s h = F9.f7 W QR QN QE QP s h := nd_seq (a := (F9.d [1, 1, 0, 0])) (b := (F9.d [1, 1, 0, 1])) (by kernel_rfl) (F9.e6 W QR QN QE QP) (by kernel_rfl)
theorem F9.o2 : F9.cw W (F9.d [1, 1]) (F9.q0 QR QN QE) QP s h = F9.f7 W QR QN QE QP s h := nd_seq (a := (F9.d [1, 1, 0])) (b := (F9.d [1, 1, 1])) (by kernel_rfl) (F9.o1 W QR QN QE QP) (F9.e7 W QR QN QE QP s h)
def F9.n8 (W : WK) (QR QN : VK) (QE : EK) (QP : PK) (x0 : AV) (h : AH) : Prop :=
pBld (some ([.slice none 0 0, .pointer none, .slice none 0 0], .inl [(0, 1), (1, 2)])) [(0, x0)] fun t14 =>
eBox 3 50 t14 h fun t15 h16 =>
F9.n7 W QR QN QE QP x0 t15 h16
def F9.f8 : KT := fun s h => F9.n8 W QR QN QE QP (s.tm 0) h
theorem F9.e8 : F9.cw W (F9.d [1]) (F9.q0 QR QN QE) QP s h = F9.f8 W QR QN QE QP s h := nd_seq (a := (F9.d [1, 0])) (b := (F9.d [1, 1])) (by kernel_rfl) (F9.o2 W QR QN QE QP) (by kernel_rfl)
def F9.n9 (W : WK) (QR QN : VK) (QE : EK) (QP : PK) (x0 : AV) (h : AH) : Prop :=
F9.n8 W QR QN QE QP x0 h
def F9.f9 : KT := fun s h => F9.n9 W QR QN QE QP (s.tm 0) h
theorem F9.e9 : F9.cw W (F9.d []) (F9.q0 QR QN QE) QP s h = F9.f9 W QR QN QE QP s h := nd_seq (a := (F9.d [0])) (b := (F9.d [1])) (by kernel_rfl) (F9.e8 W QR QN QE QP) (by kernel_rfl)
end
set_option maxRecDepth 100000 in
theorem F9.callsN {x0 : AV} {h : AH} {M : Nat → Prop} {R : AE → AH → Prop} (hp : F9.n9 (fun id => M id ∨ h.next ≤ id) (retV Tryd.prog [.tmp 2, .tmp 3] R) (retV Tryd.prog [.tmp 2, .tmp 3] R) (fun _ _ _ => False) (fun v h => R (.pan v) h) x0 h) : ACalls Tryd.prog 9 [x0] h M R :=
  acalls_of (c := F9.code) Tryd.mixed Tryd.func9 (by kernel_rfl) (Nat.le_of_ble_eq_true rfl) F9.ok (by rw [show Tryd.f9.ntmps = 22 from rfl, show Tryd.f9.results.toList = [.tmp 2, .tmp 3] from rfl]; exact body_D (q := F9.q0 (retV Tryd.prog [.tmp 2, .tmp 3] R) (retV Tryd.prog [.tmp 2, .tmp 3] R) (fun _ _ _ => False)) (by kernel_rfl) (fun _ _ => rfl) (fun _ _ => rfl) (fun _ _ _ h => h) (fun _ _ _ h => h) rfl (Eq.mpr (F9.e9 (fun id => M id ∨ h.next ≤ id) (retV Tryd.prog [.tmp 2, .tmp 3] R) (retV Tryd.prog [.tmp 2, .tmp 3] R) (fun _ _ _ => False) (fun v h => R (.pan v) h) (s0 [x0]) h) hp))
attribute [simp] F9.n1 F9.n2 F9.n3 F9.n4 F9.n5 F9.n6 F9.n7 F9.n8 F9.n9

section
variable (W : Nat → Prop) (QR QN : VK) (QE : Nat → VK) (QP : AV → AH → Prop) (s : St) (h : AH)
noncomputable def F15.code : Code := Tryd.f15.body.getD .skip
def F15.g1 : Grps := [(none, [(0, false), (1, false), (2, false), (3, false)]), (some (3, false), [(4, false), (5, false), (6, false)]), (none, [(7, false), (8, false)]), (some (8, false), [(9, false), (10, false), (11, false), (12, false), (13, false), (14, false), (15, false)]), (none, [(16, false), (17, false)]), (some (17, false), [(18, false), (19, false)]), (none, [(20, false), (21, false)]), (some (21, false), [(22, false), (23, false), (24, false)]), (some (24, true), [(25, false), (26, false)]), (some (21, false), [(27, false)]), (none, [(28, false)])]
def F15.pl : Plans := [(5, ⟨F15.g1, false, [], []⟩)]
theorem F15.ok : okCode Tryd.prog F15.pl F15.code = true := by kernel_rfl
noncomputable abbrev F15.d (p : List Nat) : Code := Code.at F15.code p
abbrev F15.cw (W : Nat → Prop) (c : Code) (q : Post) (QP : AV → AH → Prop) : KT := Go.Ab.aw Tryd.prog 86 W F15.pl c q (kP QP)
def F15.el0 (_ : Nat) (_ : Nat → AV) : List AV := []
def F15.q0 (QR QN : VK) (QE : Nat → VK) : Post := fun x s h => match x with | .normal => QN [s.tm 8] h | .ret => QR [s.tm 8] h | .exit j => QE j (F15.el0 j s.tm) h | .goto _ => False
def F15.n1 (_ : WK) (QR _ : VK) (_ : EK) (_ : PK) (h : AH) : Prop :=
QR [(.sc (.bool true))] h
def F15.f1 : KT := fun _ h => F15.n1 W QR QN QE QP h
theorem F15.e1 : F15.cw W (F15.d [1, 1]) (F15.q0 QR QN QE) QP s h = F15.f1 W QR QN QE QP s h := nd_seq (a := (F15.d [1, 1, 0])) (b := (F15.d [1, 1, 1])) (by kernel_rfl) (fun _ _ => rfl) (by kernel_rfl)
def F15.el1 (j : Nat) (_ : Nat → AV) : List AV := if j = 0 then [] else []
def F15.q1 (QR QN : VK) (QE : Nat → VK) : Post := fun x s h => match x with | .normal => QN [s.tm 0, s.tm 2, s.tm 3, s.tm 9] h | .ret => QR [s.tm 8] h | .exit j => QE j (F15.el1 j s.tm) h | .goto _ => False
def F15.n2 (_ : WK) (_ QN : VK) (_ : EK) (_ : PK) (x0 x2 x3 x13 : AV) (h : AH) : Prop :=
QN [x0, x2, x3, x13] h
def F15.f2 : KT := fun s h => F15.n2 W QR QN QE QP (s.tm 0) (s.tm 2) (s.tm 3) (s.tm 13) h
theorem F15.e2 : F15.cw W (F15.d [1, 0, 1, 0, 0, 1, 0, 1, 1, 1, 1, 1, 1]) (blockQ 1 (F15.q1 QR QN QE)) QP s h = F15.f2 W QR QN QE QP s h := by kernel_rfl
def F15.n3 (W : WK) (QR QN : VK) (QE : EK) (QP : PK) (x0 x2 x3 x13 : AV) (h : AH) : Prop :=
aCall Tryd.prog W 27 [x0, (.sc (.string ⟨#[125, 10]⟩))] h (fun t1 h2 =>
F15.n2 W QR QN QE QP x0 x2 x3 x13 h2) QP
def F15.f3 : KT := fun s h => F15.n3 W QR QN QE QP (s.tm 0) (s.tm 2) (s.tm 3) (s.tm 13) h
theorem F15.e3 : F15.cw W (F15.d [1, 0, 1, 0, 0, 1, 0, 1, 1, 1, 1, 1, 0, 1, 0, 1, 1]) (thenQ (F15.f2 W QR QN QE QP) (blockQ 1 (F15.q1 QR QN QE))) QP s h = F15.f3 W QR QN QE QP s h := by kernel_rfl
def F15.n4 (W : WK) (QR QN : VK) (QE : EK) (QP : PK) (x0 x2 x3 x13 : AV) (h : AH) : Prop :=
aCall Tryd.prog W 26 [x0, x3] h (fun t3 h4 =>
F15.n3 W QR QN QE QP x0 x2 x3 x13 h4) QP
def F15.f4 : KT := fun s h => F15.n4 W QR QN QE QP (s.tm 0) (s.tm 2) (s.tm 3) (s.tm 13) h
theorem F15.e4 : F15.cw W (F15.d [1, 0, 1, 0, 0, 1, 0, 1, 1, 1, 1, 1, 0, 1, 0, 1]) (thenQ (F15.f2 W QR QN QE QP) (blockQ 1 (F15.q1 QR QN QE))) QP s h = F15.f4 W QR QN QE QP s h := nd_seq (a := (F15.d [1, 0, 1, 0, 0, 1, 0, 1, 1, 1, 1, 1, 0, 1, 0, 1, 0])) (b := (F15.d [1, 0, 1, 0, 0, 1, 0, 1, 1, 1, 1, 1, 0, 1, 0, 1, 1])) (by kernel_rfl) (F15.e3 W QR QN QE QP) (by kernel_rfl)
def F15.n5 (_ : WK) (QR _ : VK) (_ : EK) (_ : PK) (h : AH) : Prop :=
QR [(.sc (.bool false))] h
def F15.f5 : KT := fun _ h => F15.n5 W QR QN QE QP h
theorem F15.e5 : F15.cw W (F15.d [1, 0, 1, 0, 0, 1, 0, 1, 1, 1, 1, 1, 0, 1, 0, 0, 1, 0]) (thenQ (F15.f4 W QR QN QE QP) (thenQ (F15.f2 W QR QN QE QP) (blockQ 1 (F15.q1 QR QN QE)))) QP s h = F15.f5 W QR QN QE QP s h := nd_seq (a := (F15.d [1, 0, 1, 0, 0, 1, 0, 1, 1, 1, 1, 1, 0, 1, 0, 0, 1, 0, 0])) (b := (F15.d [1, 0, 1, 0, 0, 1, 0, 1, 1, 1, 1, 1, 0, 1, 0, 0, 1, 0, 1])) (by kernel_rfl) (fun _ _ => rfl) (by kernel_rfl)
def F15.n6 (W : WK) (QR QN : VK) (QE : EK) (QP : PK) (x0 x2 x3 x13 x79 : AV) (h : AH) : Prop :=
aIf x79 (
F15.n5 W QR QN QE QP h) (
F15.n4 W QR QN QE QP x0 x2 x3 x13 h)
def F15.f6 : KT := fun s h => F15.n6 W QR QN QE QP (s.tm 0) (s.tm 2) (s.tm 3) (s.tm 13) (s.tm 79) h
theorem F15.e6 : F15.cw W (F15.d [1, 0, 1, 0, 0, 1, 0, 1, 1, 1, 1, 1, 0, 1, 0, 0, 1]) (thenQ (F15.f4 W QR QN QE QP) (thenQ (F15.f2 W QR QN QE QP) (blockQ 1 (F15.q1 QR QN QE)))) QP s h = F15.f6 W QR QN QE QP s h := nd_cond (o := (.tmp 79)) (a := (F15.d [1, 0, 1, 0, 0, 1, 0, 1, 1, 1, 1, 1, 0, 1, 0, 0, 1, 0])) (b := (F15.d [1, 0, 1, 0, 0, 1, 0, 1, 1, 1, 1, 1, 0, 1, 0, 0, 1, 1])) (by kernel_rfl) (F15.e5 W QR QN QE QP s h) rfl (by kernel_rfl)
def F15.n7 (W : WK) (QR QN : VK) (QE : EK) (QP : PK) (x0 x2 x3 x9 x13 : AV) (h : AH) : Prop :=
pBin Tryd.prog .add 3 true x9 (.sc (.int .i64 1)) fun t5 =>
pBin Tryd.prog .add 3 true x3 (.sc (.int .i64 1)) fun t6 =>
aCall Tryd.prog W 15 [x0, t5, x13, t6] h (fun t7 h8 =>
pUn .not t7 fun t9 =>
F15.n6 W QR QN QE QP x0 x2 x3 x13 t9 h8) QP
def F15.f7 : KT := fun s h => F15.n7 W QR QN QE QP (s.tm 0) (s.tm 2) (s.tm 3) (s.tm 9) (s.tm 13) h
theorem F15.e7 : F15.cw W (F15.d [1, 0, 1, 0, 0, 1, 0, 1, 1, 1, 1, 1, 0, 1, 0, 0]) (thenQ (F15.f4 W QR QN QE QP) (thenQ (F15.f2 W QR QN QE QP) (blockQ 1 (F15.q1 QR QN QE)))) QP s h = F15.f7 W QR QN QE QP s h := nd_seq (a := (F15.d [1, 0, 1, 0, 0, 1, 0, 1, 1, 1, 1, 1, 0, 1, 0, 0, 0])) (b := (F15.d [1, 0, 1, 0, 0, 1, 0, 1, 1, 1, 1, 1, 0, 1, 0, 0, 1])) (by kernel_rfl) (F15.e6 W QR QN QE QP) (by kernel_rfl)
theorem F15.o1 : F15.cw W (F15.d [1, 0, 1, 0, 0, 1, 0, 1, 1, 1, 1, 1, 0, 1, 0]) (thenQ (F15.f2 W QR QN QE QP) (blockQ 1 (F15.q1 QR QN QE))) QP s h = F15.f7 W QR QN QE QP s h := nd_seq (a := (F15.d [1, 0, 1, 0, 0, 1, 0, 1, 1, 1, 1, 1, 0, 1, 0, 0])) (b := (F15.d [1, 0, 1, 0, 0, 1, 0, 1, 1, 1, 1, 1, 0, 1, 0, 1])) (by kernel_rfl) (F15.e4 W QR QN QE QP) (F15.e7 W QR QN QE QP s h)
def F15.n8 (W : WK) (QR QN : VK) (QE : EK) (QP : PK) (x0 x2 x3 x9 x13 x71 : AV) (h : AH) : Prop :=
aIf x71 (
F15.n7 W QR QN QE QP x0 x2 x3 x9 x13 h) (
F15.n2 W QR QN QE QP x0 x2 x3 x13 h)
def F15.f8 : KT := fun s h => F15.n8 W QR QN QE QP (s.tm 0) (s.tm 2) (s.tm 3) (s.tm 9) (s.tm 13) (s.tm 71) h
theorem F15.e8 : F15.cw W (F15.d [1, 0, 1, 0, 0, 1, 0, 1, 1, 1, 1, 1, 0, 1]) (thenQ (F15.f2 W QR QN QE QP) (blockQ 1 (F15.q1 QR QN QE))) QP s h = F15.f8 W QR QN QE QP s h := nd_cond (o := (.tmp 71)) (a := (F15.d [1, 0, 1, 0, 0, 1, 0, 1, 1, 1, 1, 1, 0, 1, 0])) (b := (F15.d [1, 0, 1, 0, 0, 1, 0, 1, 1, 1, 1, 1, 0, 1, 1])) (by kernel_rfl) (F15.o1 W QR QN QE QP s h) rfl (by kernel_rfl)
def F15.n9 (W : WK) (QR QN : VK) (QE : EK) (QP : PK) (x0 x2 x3 x9 x11 x13 : AV) (h : AH) : Prop :=
pFld (some 3) x11 fun t10 =>
lLd (some false) (some 1) t10 h fun t11 _ =>
F15.n8 W QR QN QE QP x0 x2 x3 x9 x13 t11 h
def F15.f9 : KT := fun s h => F15.n9 W QR QN QE QP (s.tm 0) (s.tm 2) (s.tm 3) (s.tm 9) (s.tm 11) (s.tm 13) h
theorem F15.e9 : F15.cw W (F15.d [1, 0, 1, 0, 0, 1, 0, 1, 1, 1, 1, 1, 0]) (thenQ (F15.f2 W QR QN QE QP) (blockQ 1 (F15.q1 QR QN QE))) QP s h = F15.f9 W QR QN QE QP s h := nd_seq (a := (F15.d [1, 0, 1, 0, 0, 1, 0, 1, 1, 1, 1, 1, 0, 0])) (b := (F15.d [1, 0, 1, 0, 0, 1, 0, 1, 1, 1, 1, 1, 0, 1])) (by kernel_rfl) (F15.e8 W QR QN QE QP) (by kernel_rfl)
theorem F15.o2 : F15.cw W (F15.d [1, 0, 1, 0, 0, 1, 0, 1, 1, 1, 1, 1]) (blockQ 1 (F15.q1 QR QN QE)) QP s h = F15.f9 W QR QN QE QP s h := nd_seq (a := (F15.d [1, 0, 1, 0, 0, 1, 0, 1, 1, 1, 1, 1, 0])) (b := (F15.d [1, 0, 1, 0, 0, 1, 0, 1, 1, 1, 1, 1, 1])) (by kernel_rfl) (F15.e2 W QR QN QE QP) (F15.e9 W QR QN QE QP s h)
def F15.n10 (W : WK) (QR QN : VK) (QE : EK) (QP : PK) (x0 x2 x3 x9 x10 x11 : AV) (h : AH) : Prop :=
pBin Tryd.prog .add 3 true x9 (.sc (.int .i64 1)) fun t13 =>
pFld (some 4) x10 fun t14 =>
lLd (some false) (some 1) t14 h fun t15 _ =>
pBin Tryd.prog .add 3 false t13 t15 fun t17 =>
F15.n9 W QR QN QE QP x0 x2 x3 x9 x11 t17 h
def F15.f10 : KT := fun s h => F15.n10 W QR QN QE QP (s.tm 0) (s.tm 2) (s.tm 3) (s.tm 9) (s.tm 10) (s.tm 11) h
theorem F15.e10 : F15.cw W (F15.d [1, 0, 1, 0, 0, 1, 0, 1, 1, 1, 1]) (blockQ 1 (F15.q1 QR QN QE)) QP s h = F15.f10 W QR QN QE QP s h := nd_seq (a := (F15.d [1, 0, 1, 0, 0, 1, 0, 1, 1, 1, 1, 0])) (b := (F15.d [1, 0, 1, 0, 0, 1, 0, 1, 1, 1, 1, 1])) (by kernel_rfl) (F15.o2 W QR QN QE QP) (by kernel_rfl)
def F15.n11 (W : WK) (QR QN : VK) (QE : EK) (QP : PK) (x0 x2 x3 x9 x10 x11 : AV) (h : AH) : Prop :=
lLd (some true) (some 6) x10 h fun t18 _ =>
lLd (some true) (some 4) x11 h fun t20 _ =>
aCall Tryd.prog W 25 [x0, t18, t20, x3] h (fun t22 h23 =>
F15.n10 W QR QN QE QP x0 x2 x3 x9 x10 x11 h23) QP
def F15.f11 : KT := fun s h => F15.n11 W QR QN QE QP (s.tm 0) (s.tm 2) (s.tm 3) (s.tm 9) (s.tm 10) (s.tm 11) h
theorem F15.e11 : F15.cw W (F15.d [1, 0, 1, 0, 0, 1, 0, 1, 1, 1]) (blockQ 1 (F15.q1 QR QN QE)) QP s h = F15.f11 W QR QN QE QP s h := nd_seq (a := (F15.d [1, 0, 1, 0, 0, 1, 0, 1, 1, 1, 0])) (b := (F15.d [1, 0, 1, 0, 0, 1, 0, 1, 1, 1, 1])) (by kernel_rfl) (F15.e10 W QR QN QE QP) (by kernel_rfl)
def F15.n12 (_ : WK) (QR _ : VK) (_ : EK) (_ : PK) (h : AH) : Prop :=
QR [(.sc (.bool false))] h
def F15.f12 : KT := fun _ h => F15.n12 W QR QN QE QP h
theorem F15.e12 : F15.cw W (F15.d [1, 0, 1, 0, 0, 1, 0, 1, 1, 0, 1, 0]) (thenQ (F15.f11 W QR QN QE QP) (blockQ 1 (F15.q1 QR QN QE))) QP s h = F15.f12 W QR QN QE QP s h := nd_seq (a := (F15.d [1, 0, 1, 0, 0, 1, 0, 1, 1, 0, 1, 0, 0])) (b := (F15.d [1, 0, 1, 0, 0, 1, 0, 1, 1, 0, 1, 0, 1])) (by kernel_rfl) (fun _ _ => rfl) (by kernel_rfl)
def F15.n13 (W : WK) (QR QN : VK) (QE : EK) (QP : PK) (x0 x2 x3 x9 x10 x11 x59 : AV) (h : AH) : Prop :=
aIf x59 (
F15.n12 W QR QN QE QP h) (
F15.n11 W QR QN QE QP x0 x2 x3 x9 x10 x11 h)
def F15.f13 : KT := fun s h => F15.n13 W QR QN QE QP (s.tm 0) (s.tm 2) (s.tm 3) (s.tm 9) (s.tm 10) (s.tm 11) (s.tm 59) h
theorem F15.e13 : F15.cw W (F15.d [1, 0, 1, 0, 0, 1, 0, 1, 1, 0, 1]) (thenQ (F15.f11 W QR QN QE QP) (blockQ 1 (F15.q1 QR QN QE))) QP s h = F15.f13 W QR QN QE QP s h := nd_cond (o := (.tmp 59)) (a := (F15.d [1, 0, 1, 0, 0, 1, 0, 1, 1, 0, 1, 0])) (b := (F15.d [1, 0, 1, 0, 0, 1, 0, 1, 1, 0, 1, 1])) (by kernel_rfl) (F15.e12 W QR QN QE QP s h) rfl (by kernel_rfl)
def F15.n14 (W : WK) (QR QN : VK) (QE : EK) (QP : PK) (x0 x2 x3 x9 x10 x11 x52 x58 : AV) (h : AH) : Prop :=
pPick x52 (.sc (.bool true)) x58 fun t24 =>
F15.n13 W QR QN QE QP x0 x2 x3 x9 x10 x11 t24 h
def F15.f14 : KT := fun s h => F15.n14 W QR QN QE QP (s.tm 0) (s.tm 2) (s.tm 3) (s.tm 9) (s.tm 10) (s.tm 11) (s.tm 52) (s.tm 58) h
theorem F15.e14 : evG Tryd.prog 86 (fun _ => W) nobody (kP QP) (regOps (F15.d [1, 0, 1, 0, 0, 1, 0, 1, 1, 0, 0])) (F15.g1.drop 10) ((thenQ (F15.f13 W QR QN QE QP) (thenQ (F15.f11 W QR QN QE QP) (blockQ 1 (F15.q1 QR QN QE)))) .normal) s h = F15.f14 W QR QN QE QP s h := nd_g (is := isAt F15.g1 10) (rest := F15.g1.drop 11) (by kernel_rfl) (fun _ _ => rfl) (by kernel_rfl)
def F15.n15 (W : WK) (QR QN : VK) (QE : EK) (QP : PK) (x0 x2 x3 x9 x10 x11 x52 x55 x57 : AV) (h : AH) : Prop :=
aIg false x52 (
pPick x55 x57 (.sc (.bool false)) fun t25 =>
F15.n14 W QR QN QE QP x0 x2 x3 x9 x10 x11 x52 t25 h) (
F15.n14 W QR QN QE QP x0 x2 x3 x9 x10 x11 x52 noA h)
def F15.f15 : KT := fun s h => F15.n15 W QR QN QE QP (s.tm 0) (s.tm 2) (s.tm 3) (s.tm 9) (s.tm 10) (s.tm 11) (s.tm 52) (s.tm 55) (s.tm 57) h
theorem F15.e15 : evG Tryd.prog 86 (fun _ => W) nobody (kP QP) (regOps (F15.d [1, 0, 1, 0, 0, 1, 0, 1, 1, 0, 0])) (F15.g1.drop 9) ((thenQ (F15.f13 W QR QN QE QP) (thenQ (F15.f11 W QR QN QE QP) (blockQ 1 (F15.q1 QR QN QE)))) .normal) s h = F15.f15 W QR QN QE QP s h := nd_gw (want := false) (j := 21) (is := isAt F15.g1 9) (rest := F15.g1.drop 10) (by kernel_rfl) (d := 52) (by kernel_rfl) (F15.e14 W QR QN QE QP) (by kernel_rfl)
def F15.n16 (W : WK) (QR QN : VK) (QE : EK) (QP : PK) (x0 x2 x3 x9 x10 x11 x52 x55 : AV) (h : AH) : Prop :=
aIg true x55 (
pBin Tryd.prog .eql 3 true x3 (.sc (.int .i64 32)) fun t26 =>
F15.n15 W QR QN QE QP x0 x2 x3 x9 x10 x11 x52 x55 t26 h) (
F15.n15 W QR QN QE QP x0 x2 x3 x9 x10 x11 x52 x55 noA h)
def F15.f16 : KT := fun s h => F15.n16 W QR QN QE QP (s.tm 0) (s.tm 2) (s.tm 3) (s.tm 9) (s.tm 10) (s.tm 11) (s.tm 52) (s.tm 55) h
theorem F15.e16 : evG Tryd.prog 86 (fun _ => W) nobody (kP QP) (regOps (F15.d [1, 0, 1, 0, 0, 1, 0, 1, 1, 0, 0])) (F15.g1.drop 8) ((thenQ (F15.f13 W QR QN QE QP) (thenQ (F15.f11 W QR QN QE QP) (blockQ 1 (F15.q1 QR QN QE)))) .normal) s h = F15.f16 W QR QN QE QP s h := nd_gw (want := true) (j := 24) (is := isAt F15.g1 8) (rest := F15.g1.drop 9) (by kernel_rfl) (d := 55) (by kernel_rfl) (F15.e15 W QR QN QE QP) (by kernel_rfl)
def F15.n17 (W : WK) (QR QN : VK) (QE : EK) (QP : PK) (x0 x2 x3 x9 x10 x11 x52 : AV) (h : AH) : Prop :=
aIg false x52 (
pFld (some 3) x11 fun t27 =>
lLd (some false) (some 1) t27 h fun t28 _ =>
F15.n16 W QR QN QE QP x0 x2 x3 x9 x10 x11 x52 t28 h) (
F15.n16 W QR QN QE QP x0 x2 x3 x9 x10 x11 x52 noA h)
def F15.f17 : KT := fun s h => F15.n17 W QR QN QE QP (s.tm 0) (s.tm 2) (s.tm 3) (s.tm 9) (s.tm 10) (s.tm 11) (s.tm 52) h
theorem F15.e17 : evG Tryd.prog 86 (fun _ => W) nobody (kP QP) (regOps (F15.d [1, 0, 1, 0, 0, 1, 0, 1, 1, 0, 0])) (F15.g1.drop 7) ((thenQ (F15.f13 W QR QN QE QP) (thenQ (F15.f11 W QR QN QE QP) (blockQ 1 (F15.q1 QR QN QE)))) .normal) s h = F15.f17 W QR QN QE QP s h := nd_gw (want := false) (j := 21) (is := isAt F15.g1 7) (rest := F15.g1.drop 8) (by kernel_rfl) (d := 52) (by kernel_rfl) (F15.e16 W QR QN QE QP) (by kernel_rfl)
def F15.n18 (W : WK) (QR QN : VK) (QE : EK) (QP : PK) (x0 x2 x3 x9 x10 x11 x48 x50 : AV) (h : AH) : Prop :=
pPick x48 (.sc (.bool true)) x50 fun t30 =>
F15.n17 W QR QN QE QP x0 x2 x3 x9 x10 x11 t30 h
def F15.f18 : KT := fun s h => F15.n18 W QR QN QE QP (s.tm 0) (s.tm 2) (s.tm 3) (s.tm 9) (s.tm 10) (s.tm 11) (s.tm 48) (s.tm 50) h
theorem F15.e18 : evG Tryd.prog 86 (fun _ => W) nobody (kP QP) (regOps (F15.d [1, 0, 1, 0, 0, 1, 0, 1, 1, 0, 0])) (F15.g1.drop 6) ((thenQ (F15.f13 W QR QN QE QP) (thenQ (F15.f11 W QR QN QE QP) (blockQ 1 (F15.q1 QR QN QE)))) .normal) s h = F15.f18 W QR QN QE QP s h := nd_g (is := isAt F15.g1 6) (rest := F15.g1.drop 7) (by kernel_rfl) (F15.e17 W QR QN QE QP) (by kernel_rfl)
def F15.n19 (W : WK) (QR QN : VK) (QE : EK) (QP : PK) (x0 x2 x3 x9 x10 x11 x48 : AV) (h : AH) : Prop :=
aIg false x48 (
pBin Tryd.prog .gtr 3 true x3 (.sc (.int .i64 32)) fun t31 =>
F15.n18 W QR QN QE QP x0 x2 x3 x9 x10 x11 x48 t31 h) (
F15.n18 W QR QN QE QP x0 x2 x3 x9 x10 x11 x48 noA h)
def F15.f19 : KT := fun s h => F15.n19 W QR QN QE QP (s.tm 0) (s.tm 2) (s.tm 3) (s.tm 9) (s.tm 10) (s.tm 11) (s.tm 48) h
theorem F15.e19 : evG Tryd.prog 86 (fun _ => W) nobody (kP QP) (regOps (F15.d [1, 0, 1, 0, 0, 1, 0, 1, 1, 0, 0])) (F15.g1.drop 5) ((thenQ (F15.f13 W QR QN QE QP) (thenQ (F15.f11 W QR QN QE QP) (blockQ 1 (F15.q1 QR QN QE)))) .normal) s h = F15.f19 W QR QN QE QP s h := nd_gw (want := false) (j := 17) (is := isAt F15.g1 5) (rest := F15.g1.drop 6) (by kernel_rfl) (d := 48) (by kernel_rfl) (F15.e18 W QR QN QE QP) (by kernel_rfl)
def F15.n20 (W : WK) (QR QN : VK) (QE : EK) (QP : PK) (x0 x2 x3 x9 x10 x11 x39 x46 : AV) (h : AH) : Prop :=
pPick x39 (.sc (.bool true)) x46 fun t32 =>
F15.n19 W QR QN QE QP x0 x2 x3 x9 x10 x11 t32 h
def F15.f20 : KT := fun s h => F15.n20 W QR QN QE QP (s.tm 0) (s.tm 2) (s.tm 3) (s.tm 9) (s.tm 10) (s.tm 11) (s.tm 39) (s.tm 46) h
theorem F15.e20 : evG Tryd.prog 86 (fun _ => W) nobody (kP QP) (regOps (F15.d [1, 0, 1, 0, 0, 1, 0, 1, 1, 0, 0])) (F15.g1.drop 4) ((thenQ (F15.f13 W QR QN QE QP) (thenQ (F15.f11 W QR QN QE QP) (blockQ 1 (F15.q1 QR QN QE)))) .normal) s h = F15.f20 W QR QN QE QP s h := nd_g (is := isAt F15.g1 4) (rest := F15.g1.drop 5) (by kernel_rfl) (F15.e19 W QR QN QE QP) (by kernel_rfl)
def F15.n21 (W : WK) (QR QN : VK) (QE : EK) (QP : PK) (x0 x2 x3 x9 x10 x11 x39 : AV) (h : AH) : Prop :=
aIg false x39 (
pFld (some 4) x10 fun t33 =>
lLd (some false) (some 1) t33 h fun t34 _ =>
pBin Tryd.prog .sub 3 false x2 x9 fun t36 =>
pBin Tryd.prog .sub 3 true t36 (.sc (.int .i64 1)) fun t37 =>
pBin Tryd.prog .gtr 3 false t34 t37 fun t38 =>
F15.n20 W QR QN QE QP x0 x2 x3 x9 x10 x11 x39 t38 h) (
F15.n20 W QR QN QE QP x0 x2 x3 x9 x10 x11 x39 noA h)
def F15.f21 : KT := fun s h => F15.n21 W QR QN QE QP (s.tm 0) (s.tm 2) (s.tm 3) (s.tm 9) (s.tm 10) (s.tm 11) (s.tm 39) h
theorem F15.e21 : evG Tryd.prog 86 (fun _ => W) nobody (kP QP) (regOps (F15.d [1, 0, 1, 0, 0, 1, 0, 1, 1, 0, 0])) (F15.g1.drop 3) ((thenQ (F15.f13 W QR QN QE QP) (thenQ (F15.f11 W QR QN QE QP) (blockQ 1 (F15.q1 QR QN QE)))) .normal) s h = F15.f21 W QR QN QE QP s h := nd_gw (want := false) (j := 8) (is := isAt F15.g1 3) (rest := F15.g1.drop 4) (by kernel_rfl) (d := 39) (by kernel_rfl) (F15.e20 W QR QN QE QP) (by kernel_rfl)
def F15.n22 (W : WK) (QR QN : VK) (QE : EK) (QP : PK) (x0 x2 x3 x9 x10 x11 x34 x37 : AV) (h : AH) : Prop :=
pPick x34 (.sc (.bool true)) x37 fun t39 =>
F15.n21 W QR QN QE QP x0 x2 x3 x9 x10 x11 t39 h
def F15.f22 : KT := fun s h => F15.n22 W QR QN QE QP (s.tm 0) (s.tm 2) (s.tm 3) (s.tm 9) (s.tm 10) (s.tm 11) (s.tm 34) (s.tm 37) h
theorem F15.e22 : evG Tryd.prog 86 (fun _ => W) nobody (kP QP) (regOps (F15.d [1, 0, 1, 0, 0, 1, 0, 1, 1, 0, 0])) (F15.g1.drop 2) ((thenQ (F15.f13 W QR QN QE QP) (thenQ (F15.f11 W QR QN QE QP) (blockQ 1 (F15.q1 QR QN QE)))) .normal) s h = F15.f22 W QR QN QE QP s h := nd_g (is := isAt F15.g1 2) (rest := F15.g1.drop 3) (by kernel_rfl) (F15.e21 W QR QN QE QP) (by kernel_rfl)
def F15.n23 (W : WK) (QR QN : VK) (QE : EK) (QP : PK) (x0 x2 x3 x9 x10 x11 x34 : AV) (h : AH) : Prop :=
aIg false x34 (
pFld (some 4) x10 fun t40 =>
lLd (some false) (some 1) t40 h fun t41 _ =>
pBin Tryd.prog .lss 3 true t41 (.sc (.int .i64 0)) fun t43 =>
F15.n22 W QR QN QE QP x0 x2 x3 x9 x10 x11 x34 t43 h) (
F15.n22 W QR QN QE QP x0 x2 x3 x9 x10 x11 x34 noA h)
def F15.f23 : KT := fun s h => F15.n23 W QR QN QE QP (s.tm 0) (s.tm 2) (s.tm 3) (s.tm 9) (s.tm 10) (s.tm 11) (s.tm 34) h
theorem F15.e23 : evG Tryd.prog 86 (fun _ => W) nobody (kP QP) (regOps (F15.d [1, 0, 1, 0, 0, 1, 0, 1, 1, 0, 0])) (F15.g1.drop 1) ((thenQ (F15.f13 W QR QN QE QP) (thenQ (F15.f11 W QR QN QE QP) (blockQ 1 (F15.q1 QR QN QE)))) .normal) s h = F15.f23 W QR QN QE QP s h := nd_gw (want := false) (j := 3) (is := isAt F15.g1 1) (rest := F15.g1.drop 2) (by kernel_rfl) (d := 34) (by kernel_rfl) (F15.e22 W QR QN QE QP) (by kernel_rfl)
def F15.n24 (W : WK) (QR QN : VK) (QE : EK) (QP : PK) (x0 x2 x3 x9 x10 x11 : AV) (h : AH) : Prop :=
lLd (some true) (some 6) x10 h fun t44 _ =>
aCall Tryd.prog W 24 [t44] h (fun t46 h47 =>
pUn .not t46 fun t48 =>
F15.n23 W QR QN QE QP x0 x2 x3 x9 x10 x11 t48 h47) QP
def F15.f24 : KT := fun s h => F15.n24 W QR QN QE QP (s.tm 0) (s.tm 2) (s.tm 3) (s.tm 9) (s.tm 10) (s.tm 11) h
theorem F15.e24 : evG Tryd.prog 86 (fun _ => W) nobody (kP QP) (regOps (F15.d [1, 0, 1, 0, 0, 1, 0, 1, 1, 0, 0])) (F15.g1.drop 0) ((thenQ (F15.f13 W QR QN QE QP) (thenQ (F15.f11 W QR QN QE QP) (blockQ 1 (F15.q1 QR QN QE)))) .normal) s h = F15.f24 W QR QN QE QP s h := nd_g (is := isAt F15.g1 0) (rest := F15.g1.drop 1) (by kernel_rfl) (F15.e23 W QR QN QE QP) (by kernel_rfl)
theorem F15.o3 : F15.cw W (F15.d [1, 0, 1, 0, 0, 1, 0, 1, 1, 0, 0]) (thenQ (F15.f13 W QR QN QE QP) (thenQ (F15.f11 W QR QN QE QP) (blockQ 1 (F15.q1 QR QN QE)))) QP s h = F15.f24 W QR QN QE QP s h := nd_groups (id := 5) (draw := false) (ops := (regOps (F15.d [1, 0, 1, 0, 0, 1, 0, 1, 1, 0, 0]))) (gs := F15.g1.drop 0) (by kernel_rfl) (by kernel_rfl) (F15.e24 W QR QN QE QP s h)
theorem F15.o4 : F15.cw W (F15.d [1, 0, 1, 0, 0, 1, 0, 1, 1, 0]) (thenQ (F15.f11 W QR QN QE QP) (blockQ 1 (F15.q1 QR QN QE))) QP s h = F15.f24 W QR QN QE QP s h := nd_seq (a := (F15.d [1, 0, 1, 0, 0, 1, 0, 1, 1, 0, 0])) (b := (F15.d [1, 0, 1, 0, 0, 1, 0, 1, 1, 0, 1])) (by kernel_rfl) (F15.e13 W QR QN QE QP) (F15.o3 W QR QN QE QP s h)
theorem F15.o5 : F15.cw W (F15.d [1, 0, 1, 0, 0, 1, 0, 1, 1]) (blockQ 1 (F15.q1 QR QN QE)) QP s h = F15.f24 W QR QN QE QP s h := nd_seq (a := (F15.d [1, 0, 1, 0, 0, 1, 0, 1, 1, 0])) (b := (F15.d [1, 0, 1, 0, 0, 1, 0, 1, 1, 1])) (by kernel_rfl) (F15.e11 W QR QN QE QP) (F15.o4 W QR QN QE QP s h)
def F15.n25 (W : WK) (QR QN : VK) (QE : EK) (QP : PK) (x0 x2 x3 x9 x10 : AV) (h : AH) : Prop :=
pFld (some 0) x10 fun t49 =>
lLd (some false) (some 1) t49 h fun t50 _ =>
aCall Tryd.prog W 23 [t50] h (fun t52 h53 =>
pExt t52 0 fun t54 =>
pExt t52 1 fun t55 =>
eAlloc (some [.bool false, .bool false, .int .i64 0, .bool false]) 4 67 h53 fun t56 h57 =>
eStore (some 4) t56 t54 h57 W fun h58 =>
F15.n24 W QR QN QE QP x0 x2 x3 x9 x10 t56 h58) QP
def F15.f25 : KT := fun s h => F15.n25 W QR QN QE QP (s.tm 0) (s.tm 2) (s.tm 3) (s.tm 9) (s.tm 10) h
theorem F15.e25 : F15.cw W (F15.d [1, 0, 1, 0, 0, 1, 0, 1]) (blockQ 1 (F15.q1 QR QN QE)) QP s h = F15.f25 W QR QN QE QP s h := nd_seq (a := (F15.d [1, 0, 1, 0, 0, 1, 0, 1, 0])) (b := (F15.d [1, 0, 1, 0, 0, 1, 0, 1, 1])) (by kernel_rfl) (F15.o5 W QR QN QE QP) (by kernel_rfl)
def F15.n26 (W : WK) (QR QN : VK) (QE : EK) (QP : PK) (x0 x2 x3 x9 : AV) (h : AH) : Prop :=
pNil x0 fun t59 =>
pFld (some 0) t59 fun t60 =>
lLd (some false) (some 1) t60 h fun t61 _ =>
pIxA (some (6, none)) t61 x9 fun t63 =>
lLd (some true) (some 6) t63 h fun t64 _ =>
eAlloc (some [.string ⟨#[]⟩, .string ⟨#[]⟩, .slice none 0 0, .int .i64 0, .int .i64 0, .int .i64 0]) 6 39 h fun t66 h67 =>
eStore (some 6) t66 t64 h67 W fun h68 =>
F15.n25 W QR QN QE QP x0 x2 x3 x9 t66 h68
def F15.f26 : KT := fun s h => F15.n26 W QR QN QE QP (s.tm 0) (s.tm 2) (s.tm 3) (s.tm 9) h
theorem F15.e26 : F15.cw W (F15.d [1, 0, 1, 0, 0, 1, 0]) (blockQ 1 (F15.q1 QR QN QE)) QP s h = F15.f26 W QR QN QE QP s h := nd_seq (a := (F15.d [1, 0, 1, 0, 0, 1, 0, 0])) (b := (F15.d [1, 0, 1, 0, 0, 1, 0, 1])) (by kernel_rfl) (F15.e25 W QR QN QE QP) (by kernel_rfl)
theorem F15.o6 : F15.cw W (F15.d [1, 0, 1, 0, 0, 1]) (F15.q1 QR QN QE) QP s h = F15.f26 W QR QN QE QP s h := nd_block (a := (F15.d [1, 0, 1, 0, 0, 1, 0])) (by kernel_rfl) (F15.e26 W QR QN QE QP s h)
def F15.n27 (W : WK) (QR QN : VK) (QE : EK) (QP : PK) (x0 x2 x3 x9 x17 : AV) (h : AH) : Prop :=
aIf x17 (
F15.n26 W QR QN QE QP x0 x2 x3 x9 h) (
QE 0 [] h)
def F15.f27 : KT := fun s h => F15.n27 W QR QN QE QP (s.tm 0) (s.tm 2) (s.tm 3) (s.tm 9) (s.tm 17) h
theorem F15.e27 : F15.cw W (F15.d [1, 0, 1, 0, 0, 0, 1]) (thenQ (F15.f26 W QR QN QE QP) (F15.q1 QR QN QE)) QP s h = F15.f27 W QR QN QE QP s h := nd_cond (o := (.tmp 17)) (a := (F15.d [1, 0, 1, 0, 0, 0, 1, 0])) (b := (F15.d [1, 0, 1, 0, 0, 0, 1, 1])) (by kernel_rfl) rfl rfl (by kernel_rfl)
def F15.n28 (W : WK) (QR QN : VK) (QE : EK) (QP : PK) (x0 x2 x3 x9 : AV) (h : AH) : Prop :=
pBin Tryd.prog .lss 3 false x9 x2 fun t69 =>
F15.n27 W QR QN QE QP x0 x2 x3 x9 t69 h
def F15.f28 : KT := fun s h => F15.n28 W QR QN QE QP (s.tm 0) (s.tm 2) (s.tm 3) (s.tm 9) h
theorem F15.e28 : F15.cw W (F15.d [1, 0, 1, 0, 0, 0]) (thenQ (F15.f26 W QR QN QE QP) (F15.q1 QR QN QE)) QP s h = F15.f28 W QR QN QE QP s h := nd_seq (a := (F15.d [1, 0, 1, 0, 0, 0, 0])) (b := (F15.d [1, 0, 1, 0, 0, 0, 1])) (by kernel_rfl) (F15.e27 W QR QN QE QP) (by kernel_rfl)
theorem F15.o7 : F15.cw W (F15.d [1, 0, 1, 0, 0]) (F15.q1 QR QN QE) QP s h = F15.f28 W QR QN QE QP s h := nd_seq (a := (F15.d [1, 0, 1, 0, 0, 0])) (b := (F15.d [1, 0, 1, 0, 0, 1])) (by kernel_rfl) (F15.o6 W QR QN QE QP) (F15.e28 W QR QN QE QP s h)
noncomputable def F15.c1 : Code := (F15.d [1, 0, 1, 0, 0])
theorem F15.l1 : aw Tryd.prog 86 W F15.pl F15.c1 (F15.q1 QR QN QE) (kP QP) s h = F15.f28 W QR QN QE QP s h := F15.o7 W QR QN QE QP s h
def F15.g1_ (W : WK) (QR QN : VK) (QE : EK) (QP : PK) : VK → VK := fun QN' vs h => F15.n28 W QR QN' (fun (i : Nat) (vs : List AV) (h : AH) => if i = 0 then F15.n1 W QR QN QE QP h else QE i vs h) QP (vs.getD 0 noA) (vs.getD 1 noA) (vs.getD 2 noA) (vs.getD 3 noA) h
theorem F15.p1 {Kn : VK} {KQ : KT} (hK : ∀ s h, KQ s h = Kn [s.tm 0, s.tm 2, s.tm 3, s.tm 9] h) : thenQ KQ (blockQ 0 (thenQ (F15.f1 W QR QN QE QP) (F15.q0 QR QN QE))) = F15.q1 QR Kn (fun (i : Nat) (vs : List AV) (h : AH) => if i = 0 then F15.n1 W QR QN QE QP h else QE i vs h) := by
  funext x s h
  cases x with
  | normal => exact hK s h
  | ret => kernel_rfl
  | goto l => kernel_rfl
  | exit j =>
    by_cases h0 : j = 0
    · subst h0; kernel_rfl
    simp only [thenQ, blockQ, noGotoQ, if_neg h0, F15.q1, F15.el1, F15.q0, F15.el0]
def F15.n29 (W : WK) (QR QN : VK) (QE : EK) (QP : PK) (x0 x2 x3 x9 : AV) (h : AH) : Prop :=
vLoop (F15.g1_ W QR QN QE QP) [x0, x2, x3, x9] h
def F15.f29 : KT := fun s h => F15.n29 W QR QN QE QP (s.tm 0) (s.tm 2) (s.tm 3) (s.tm 9) h
theorem F15.e29 : F15.cw W (F15.d [1, 0, 1, 0]) (blockQ 0 (thenQ (F15.f1 W QR QN QE QP) (F15.q0 QR QN QE))) QP s h = F15.f29 W QR QN QE QP s h := (nd_loop (a := F15.c1) (by kernel_rfl)).trans (vloopD (L := fun tm => [tm 0, tm 2, tm 3, tm 9]) (G := F15.g1_ W QR QN QE QP) (fun Kn KQ hK s h => (congrArg (fun q => aw Tryd.prog 86 W F15.pl F15.c1 q (kP QP) s h) (F15.p1 W QR QN QE QP hK)).trans (F15.l1 W QR Kn (fun (i : Nat) (vs : List AV) (h : AH) => if i = 0 then F15.n1 W QR QN QE QP h else QE i vs h) QP s h)) s h)
theorem F15.o8 : F15.cw W (F15.d [1, 0, 1]) (thenQ (F15.f1 W QR QN QE QP) (F15.q0 QR QN QE)) QP s h = F15.f29 W QR QN QE QP s h := nd_block (a := (F15.d [1, 0, 1, 0])) (by kernel_rfl) (F15.e29 W QR QN QE QP s h)
def F15.n30 (W : WK) (QR QN : VK) (QE : EK) (QP : PK) (x0 x1 x2 x3 : AV) (h : AH) : Prop :=
F15.n29 W QR QN QE QP x0 x2 x3 x1 h
def F15.f30 : KT := fun s h => F15.n30 W QR QN QE QP (s.tm 0) (s.tm 1) (s.tm 2) (s.tm 3) h
theorem F15.e30 : F15.cw W (F15.d [1, 0]) (thenQ (F15.f1 W QR QN QE QP) (F15.q0 QR QN QE)) QP s h = F15.f30 W QR QN QE QP s h := nd_seq (a := (F15.d [1, 0, 0])) (b := (F15.d [1, 0, 1])) (by kernel_rfl) (F15.o8 W QR QN QE QP) (by kernel_rfl)
theorem F15.o9 : F15.cw W (F15.d [1]) (F15.q0 QR QN QE) QP s h = F15.f30 W QR QN QE QP s h := nd_seq (a := (F15.d [1, 0])) (b := (F15.d [1, 1])) (by kernel_rfl) (F15.e1 W QR QN QE QP) (F15.e30 W QR QN QE QP s h)
def F15.n31 (W : WK) (QR QN : VK) (QE : EK) (QP : PK) (x0 x1 x2 x3 : AV) (h : AH) : Prop :=
F15.n30 W QR QN QE QP x0 x1 x2 x3 h
def F15.f31 : KT := fun s h => F15.n31 W QR QN QE QP (s.tm 0) (s.tm 1) (s.tm 2) (s.tm 3) h
theorem F15.e31 : F15.cw W (F15.d []) (F15.q0 QR QN QE) QP s h = F15.f31 W QR QN QE QP s h := nd_seq (a := (F15.d [0])) (b := (F15.d [1])) (by kernel_rfl) (F15.o9 W QR QN QE QP) (by kernel_rfl)
end
set_option maxRecDepth 100000 in
theorem F15.callsN {x0 x1 x2 x3 : AV} {h : AH} {M : Nat → Prop} {R : AE → AH → Prop} (hp : F15.n31 (fun id => M id ∨ h.next ≤ id) (retV Tryd.prog [.tmp 8] R) (retV Tryd.prog [.tmp 8] R) (fun _ _ _ => False) (fun v h => R (.pan v) h) x0 x1 x2 x3 h) : ACalls Tryd.prog 15 [x0, x1, x2, x3] h M R :=
  acalls_of (c := F15.code) Tryd.mixed Tryd.func15 (by kernel_rfl) (Nat.le_of_ble_eq_true rfl) F15.ok (by rw [show Tryd.f15.ntmps = 86 from rfl, show Tryd.f15.results.toList = [.tmp 8] from rfl]; exact body_D (q := F15.q0 (retV Tryd.prog [.tmp 8] R) (retV Tryd.prog [.tmp 8] R) (fun _ _ _ => False)) (by kernel_rfl) (fun _ _ => rfl) (fun _ _ => rfl) (fun _ _ _ h => h) (fun _ _ _ h => h) rfl (Eq.mpr (F15.e31 (fun id => M id ∨ h.next ≤ id) (retV Tryd.prog [.tmp 8] R) (retV Tryd.prog [.tmp 8] R) (fun _ _ _ => False) (fun v h => R (.pan v) h) (s0 [x0, x1, x2, x3]) h) hp))
attribute [simp] F15.n1 F15.n2 F15.n3 F15.n4 F15.n5 F15.n6 F15.n7 F15.n8 F15.n9 F15.n10 F15.n11 F15.n12 F15.n13 F15.n14 F15.n15 F15.n16 F15.n17 F15.n18 F15.n19 F15.n20 F15.n21 F15.n22 F15.n23 F15.n24 F15.n25 F15.n26 F15.n27 F15.n28 F15.n30 F15.n31

section
variable (W : Nat → Prop) (QR QN : VK) (QE : Nat → VK) (QP : AV → AH → Prop) (s : St) (h : AH)
noncomputable def F24.code : Code := Tryd.f24.body.getD .skip
def F24.g1 : Grps := [(none, [(0, false), (1, false), (2, false), (3, false), (4, false)]), (some (4, false), [(5, false), (6, false), (7, false)]), (none, [(8, false), (9, false)]), (some (9, false), [(10, false), (11, false), (12, false)]), (none, [(13, false), (14, false)]), (some (14, false), [(15, false), (16, false), (17, false), (18, false)]), (some (18, true), [(19, false), (20, false), (21, false)]), (some (14, false), [(22, false)]), (none, [(23, false)])]
def F24.g2 : Grps := [(none, [(0, false), (1, false), (2, false)]), (some (2, false), [(3, false), (4, false), (5, false), (6, false), (7, false), (8, false)]), (none, [(9, false), (10, false)]), (some (10, false), [(11, false), (12, false), (13, false), (14, false)]), (some (14, true), [(15, false), (16, false), (17, false)]), (some (10, false), [(18, false)]), (none, [(19, false), (20, false)]), (some (20, false), [(21, false), (22, false), (23, false)]), (some (23, true), [(24, false), (25, false), (26, false), (27, false)]), (some (20, false), [(28, false)]), (none, [(29, false), (30, false)]), (some (30, false), [(31, false), (32, false), (33, false), (34, false)]), (some (34, true), [(35, false), (36, false), (37, false)]), (some (30, false), [(38, false)]), (none, [(39, false), (40, false)]), (some (40, false), [(41, false), (42, false), (43, false), (44, false)]), (some (44, true), [(45, false), (46, false), (47, false), (48, false), (49, false), (50, false)]), (some (40, false), [(51, false)]), (none, [(52, false), (53, false)]), (some (53, false), [(54, false), (55, false), (56, false), (57, false)]), (some (57, true), [(58, false), (59, false), (60, false)]), (some (53, false), [(61, false)]), (none, [(62, false)])]
def F24.pl : Plans := [(2, ⟨F24.g2, false, [], [7, 26]⟩), (7, ⟨F24.g1, false, [], []⟩)]
theorem F24.ok : okCode Tryd.prog F24.pl F24.code = true := by kernel_rfl
noncomputable abbrev F24.d (p : List Nat) : Code := Code.at F24.code p
abbrev F24.cw (W : Nat → Prop) (c : Code) (q : Post) (QP : AV → AH → Prop) : KT := Go.Ab.aw Tryd.prog 108 W F24.pl c q (kP QP)
def F24.el0 (_ : Nat) (_ : Nat → AV) : List AV := []
def F24.q0 (QR QN : VK) (QE : Nat → VK) : Post := fun x s h => match x with | .normal => QN [s.tm 2] h | .ret => QR [s.tm 2] h | .exit j => QE j (F24.el0 j s.tm) h | .goto _ => False
def F24.n1 (_ : WK) (QR _ : VK) (_ : EK) (_ : PK) (h : AH) : Prop :=
QR [(.sc (.bool true))] h
def F24.f1 : KT := fun _ h => F24.n1 W QR QN QE QP h
theorem F24.e1 : F24.cw W (F24.d [1, 1, 1, 1]) (F24.q0 QR QN QE) QP s h = F24.f1 W QR QN QE QP s h := nd_seq (a := (F24.d [1, 1, 1, 1, 0])) (b := (F24.d [1, 1, 1, 1, 1])) (by kernel_rfl) (fun _ _ => rfl) (by kernel_rfl)
def F24.el1 (j : Nat) (_ : Nat → AV) : List AV := if j = 0 then [] else []
def F24.q1 (QR QN : VK) (QE : Nat → VK) : Post := fun x s h => match x with | .normal => QN [s.tm 1, s.tm 77, s.tm 78, s.tm 79] h | .ret => QR [s.tm 2] h | .exit j => QE j (F24.el1 j s.tm) h | .goto _ => False
def F24.n2 (_ : WK) (_ QN : VK) (_ : EK) (_ : PK) (x1 x77 x78 x79 : AV) (h : AH) : Prop :=
pBin Tryd.prog .add 3 true x79 (.sc (.int .i64 1)) fun t1 =>
QN [x1, x77, x78, t1] h
def F24.f2 : KT := fun s h => F24.n2 W QR QN QE QP (s.tm 1) (s.tm 77) (s.tm 78) (s.tm 79) h
theorem F24.e2 : F24.cw W (F24.d [1, 1, 1, 0, 1, 0, 0, 1, 1, 1]) (F24.q1 QR QN QE) QP s h = F24.f2 W QR QN QE QP s h := by kernel_rfl
def F24.n3 (_ : WK) (QR _ : VK) (_ : EK) (_ : PK) (h : AH) : Prop :=
QR [(.sc (.bool false))] h
def F24.f3 : KT := fun _ h => F24.n3 W QR QN QE QP h
theorem F24.e3 : F24.cw W (F24.d [1, 1, 1, 0, 1, 0, 0, 1, 1, 0, 0, 1, 1, 0]) (blockQ 1 (thenQ (F24.f2 W QR QN QE QP) (F24.q1 QR QN QE))) QP s h = F24.f3 W QR QN QE QP s h := nd_seq (a := (F24.d [1, 1, 1, 0, 1, 0, 0, 1, 1, 0, 0, 1, 1, 0, 0])) (b := (F24.d [1, 1, 1, 0, 1, 0, 0, 1, 1, 0, 0, 1, 1, 0, 1])) (by kernel_rfl) (fun _ _ => rfl) (by kernel_rfl)
def F24.n4 (W : WK) (QR QN : VK) (QE : EK) (QP : PK) (x1 x77 x78 x79 x106 : AV) (h : AH) : Prop :=
aIf x106 (
F24.n3 W QR QN QE QP h) (
F24.n2 W QR QN QE QP x1 x77 x78 x79 h)
def F24.f4 : KT := fun s h => F24.n4 W QR QN QE QP (s.tm 1) (s.tm 77) (s.tm 78) (s.tm 79) (s.tm 106) h
theorem F24.e4 : F24.cw W (F24.d [1, 1, 1, 0, 1, 0, 0, 1, 1, 0, 0, 1, 1]) (blockQ 1 (thenQ (F24.f2 W QR QN QE QP) (F24.q1 QR QN QE))) QP s h = F24.f4 W QR QN QE QP s h := nd_cond (o := (.tmp 106)) (a := (F24.d [1, 1, 1, 0, 1, 0, 0, 1, 1, 0, 0, 1, 1, 0])) (b := (F24.d [1, 1, 1, 0, 1, 0, 0, 1, 1, 0, 0, 1, 1, 1])) (by kernel_rfl) (F24.e3 W QR QN QE QP s h) rfl (by kernel_rfl)
def F24.n5 (W : WK) (QR QN : VK) (QE : EK) (QP : PK) (x1 x77 x78 x79 x97 x105 : AV) (h : AH) : Prop :=
pPick x97 (.sc (.bool true)) x105 fun t2 =>
F24.n4 W QR QN QE QP x1 x77 x78 x79 t2 h
def F24.f5 : KT := fun s h => F24.n5 W QR QN QE QP (s.tm 1) (s.tm 77) (s.tm 78) (s.tm 79) (s.tm 97) (s.tm 105) h
theorem F24.e5 : evG Tryd.prog 108 (fun _ => W) nobody (kP QP) (regOps (F24.d [1, 1, 1, 0, 1, 0, 0, 1, 1, 0, 0, 1, 0])) (F24.g1.drop 8) ((thenQ (F24.f4 W QR QN QE QP) (blockQ 1 (thenQ (F24.f2 W QR QN QE QP) (F24.q1 QR QN QE)))) .normal) s h = F24.f5 W QR QN QE QP s h := nd_g (is := isAt F24.g1 8) (rest := F24.g1.drop 9) (by kernel_rfl) (fun _ _ => rfl) (by kernel_rfl)
def F24.n6 (W : WK) (QR QN : VK) (QE : EK) (QP : PK) (x1 x77 x78 x79 x97 x101 x104 : AV) (h : AH) : Prop :=
aIg false x97 (
pPick x101 x104 (.sc (.bool false)) fun t3 =>
F24.n5 W QR QN QE QP x1 x77 x78 x79 x97 t3 h) (
F24.n5 W QR QN QE QP x1 x77 x78 x79 x97 noA h)
def F24.f6 : KT := fun s h => F24.n6 W QR QN QE QP (s.tm 1) (s.tm 77) (s.tm 78) (s.tm 79) (s.tm 97) (s.tm 101) (s.tm 104) h
theorem F24.e6 : evG Tryd.prog 108 (fun _ => W) nobody (kP QP) (regOps (F24.d [1, 1, 1, 0, 1, 0, 0, 1, 1, 0, 0, 1, 0])) (F24.g1.drop 7) ((thenQ (F24.f4 W QR QN QE QP) (blockQ 1 (thenQ (F24.f2 W QR QN QE QP) (F24.q1 QR QN QE)))) .normal) s h = F24.f6 W QR QN QE QP s h := nd_gw (want := false) (j := 14) (is := isAt F24.g1 7) (rest := F24.g1.drop 8) (by kernel_rfl) (d := 97) (by kernel_rfl) (F24.e5 W QR QN QE QP) (by kernel_rfl)
def F24.n7 (W : WK) (QR QN : VK) (QE : EK) (QP : PK) (x1 x6 x77 x78 x79 x97 x101 : AV) (h : AH) : Prop :=
aIg true x101 (
pFld (some 1) x6 fun t4 =>
lLd (some false) (some 1) t4 h fun t5 _ =>
pBin Tryd.prog .neq 3 true t5 (.sc (.int .i64 (-1))) fun t7 =>
F24.n6 W QR QN QE QP x1 x77 x78 x79 x97 x101 t7 h) (
F24.n6 W QR QN QE QP x1 x77 x78 x79 x97 x101 noA h)
def F24.f7 : KT := fun s h => F24.n7 W QR QN QE QP (s.tm 1) (s.tm 6) (s.tm 77) (s.tm 78) (s.tm 79) (s.tm 97) (s.tm 101) h
theorem F24.e7 : evG Tryd.prog 108 (fun _ => W) nobody (kP QP) (regOps (F24.d [1, 1, 1, 0, 1, 0, 0, 1, 1, 0, 0, 1, 0])) (F24.g1.drop 6) ((thenQ (F24.f4 W QR QN QE QP) (blockQ 1 (thenQ (F24.f2 W QR QN QE QP) (F24.q1 QR QN QE)))) .normal) s h = F24.f7 W QR QN QE QP s h := nd_gw (want := true) (j := 18) (is := isAt F24.g1 6) (rest := F24.g1.drop 7) (by kernel_rfl) (d := 101) (by kernel_rfl) (F24.e6 W QR QN QE QP) (by kernel_rfl)
def F24.n8 (W : WK) (QR QN : VK) (QE : EK) (QP : PK) (x1 x6 x77 x78 x79 x97 : AV) (h : AH) : Prop :=
aIg false x97 (
pFld (some 0) x1 fun t8 =>
lLd (some false) (some 1) t8 h fun t9 _ =>
pBin Tryd.prog .eql 9 true t9 (.sc (.string ⟨#[103, 97, 116, 101]⟩)) fun t11 =>
F24.n7 W QR QN QE QP x1 x6 x77 x78 x79 x97 t11 h) (
F24.n7 W QR QN QE QP x1 x6 x77 x78 x79 x97 noA h)
def F24.f8 : KT := fun s h => F24.n8 W QR QN QE QP (s.tm 1) (s.tm 6) (s.tm 77) (s.tm 78) (s.tm 79) (s.tm 97) h
theorem F24.e8 : evG Tryd.prog 108 (fun _ => W) nobody (kP QP) (regOps (F24.d [1, 1, 1, 0, 1, 0, 0, 1, 1, 0, 0, 1, 0])) (F24.g1.drop 5) ((thenQ (F24.f4 W QR QN QE QP) (blockQ 1 (thenQ (F24.f2 W QR QN QE QP) (F24.q1 QR QN QE)))) .normal) s h = F24.f8 W QR QN QE QP s h := nd_gw (want := false) (j := 14) (is := isAt F24.g1 5) (rest := F24.g1.drop 6) (by kernel_rfl) (d := 97) (by kernel_rfl) (F24.e7 W QR QN QE QP) (by kernel_rfl)
def F24.n9 (W : WK) (QR QN : VK) (QE : EK) (QP : PK) (x1 x6 x77 x78 x79 x92 x95 : AV) (h : AH) : Prop :=
pPick x92 (.sc (.bool true)) x95 fun t12 =>
F24.n8 W QR QN QE QP x1 x6 x77 x78 x79 t12 h
def F24.f9 : KT := fun s h => F24.n9 W QR QN QE QP (s.tm 1) (s.tm 6) (s.tm 77) (s.tm 78) (s.tm 79) (s.tm 92) (s.tm 95) h
theorem F24.e9 : evG Tryd.prog 108 (fun _ => W) nobody (kP QP) (regOps (F24.d [1, 1, 1, 0, 1, 0, 0, 1, 1, 0, 0, 1, 0])) (F24.g1.drop 4) ((thenQ (F24.f4 W QR QN QE QP) (blockQ 1 (thenQ (F24.f2 W QR QN QE QP) (F24.q1 QR QN QE)))) .normal) s h = F24.f9 W QR QN QE QP s h := nd_g (is := isAt F24.g1 4) (rest := F24.g1.drop 5) (by kernel_rfl) (F24.e8 W QR QN QE QP) (by kernel_rfl)
def F24.n10 (W : WK) (QR QN : VK) (QE : EK) (QP : PK) (x1 x6 x77 x78 x79 x92 : AV) (h : AH) : Prop :=
aIg false x92 (
pFld (some 1) x6 fun t13 =>
lLd (some false) (some 1) t13 h fun t14 _ =>
pBin Tryd.prog .gtr 3 true t14 (.sc (.int .i64 9007199254740991)) fun t16 =>
F24.n9 W QR QN QE QP x1 x6 x77 x78 x79 x92 t16 h) (
F24.n9 W QR QN QE QP x1 x6 x77 x78 x79 x92 noA h)
def F24.f10 : KT := fun s h => F24.n10 W QR QN QE QP (s.tm 1) (s.tm 6) (s.tm 77) (s.tm 78) (s.tm 79) (s.tm 92) h
theorem F24.e10 : evG Tryd.prog 108 (fun _ => W) nobody (kP QP) (regOps (F24.d [1, 1, 1, 0, 1, 0, 0, 1, 1, 0, 0, 1, 0])) (F24.g1.drop 3) ((thenQ (F24.f4 W QR QN QE QP) (blockQ 1 (thenQ (F24.f2 W QR QN QE QP) (F24.q1 QR QN QE)))) .normal) s h = F24.f10 W QR QN QE QP s h := nd_gw (want := false) (j := 9) (is := isAt F24.g1 3) (rest := F24.g1.drop 4) (by kernel_rfl) (d := 92) (by kernel_rfl) (F24.e9 W QR QN QE QP) (by kernel_rfl)
def F24.n11 (W : WK) (QR QN : VK) (QE : EK) (QP : PK) (x1 x6 x77 x78 x79 x87 x90 : AV) (h : AH) : Prop :=
pPick x87 (.sc (.bool true)) x90 fun t17 =>
F24.n10 W QR QN QE QP x1 x6 x77 x78 x79 t17 h
def F24.f11 : KT := fun s h => F24.n11 W QR QN QE QP (s.tm 1) (s.tm 6) (s.tm 77) (s.tm 78) (s.tm 79) (s.tm 87) (s.tm 90) h
theorem F24.e11 : evG Tryd.prog 108 (fun _ => W) nobody (kP QP) (regOps (F24.d [1, 1, 1, 0, 1, 0, 0, 1, 1, 0, 0, 1, 0])) (F24.g1.drop 2) ((thenQ (F24.f4 W QR QN QE QP) (blockQ 1 (thenQ (F24.f2 W QR QN QE QP) (F24.q1 QR QN QE)))) .normal) s h = F24.f11 W QR QN QE QP s h := nd_g (is := isAt F24.g1 2) (rest := F24.g1.drop 3) (by kernel_rfl) (F24.e10 W QR QN QE QP) (by kernel_rfl)
def F24.n12 (W : WK) (QR QN : VK) (QE : EK) (QP : PK) (x1 x6 x77 x78 x79 x87 : AV) (h : AH) : Prop :=
aIg false x87 (
pFld (some 1) x6 fun t18 =>
lLd (some false) (some 1) t18 h fun t19 _ =>
pBin Tryd.prog .lss 3 true t19 (.sc (.int .i64 (-1))) fun t21 =>
F24.n11 W QR QN QE QP x1 x6 x77 x78 x79 x87 t21 h) (
F24.n11 W QR QN QE QP x1 x6 x77 x78 x79 x87 noA h)
def F24.f12 : KT := fun s h => F24.n12 W QR QN QE QP (s.tm 1) (s.tm 6) (s.tm 77) (s.tm 78) (s.tm 79) (s.tm 87) h
theorem F24.e12 : evG Tryd.prog 108 (fun _ => W) nobody (kP QP) (regOps (F24.d [1, 1, 1, 0, 1, 0, 0, 1, 1, 0, 0, 1, 0])) (F24.g1.drop 1) ((thenQ (F24.f4 W QR QN QE QP) (blockQ 1 (thenQ (F24.f2 W QR QN QE QP) (F24.q1 QR QN QE)))) .normal) s h = F24.f12 W QR QN QE QP s h := nd_gw (want := false) (j := 4) (is := isAt F24.g1 1) (rest := F24.g1.drop 2) (by kernel_rfl) (d := 87) (by kernel_rfl) (F24.e11 W QR QN QE QP) (by kernel_rfl)
def F24.n13 (W : WK) (QR QN : VK) (QE : EK) (QP : PK) (x1 x6 x77 x78 x79 : AV) (h : AH) : Prop :=
pFld (some 0) x6 fun t22 =>
lLd (some false) (some 1) t22 h fun t23 _ =>
aCall Tryd.prog W 45 [t23] h (fun t25 h26 =>
pUn .not t25 fun t27 =>
F24.n12 W QR QN QE QP x1 x6 x77 x78 x79 t27 h26) QP
def F24.f13 : KT := fun s h => F24.n13 W QR QN QE QP (s.tm 1) (s.tm 6) (s.tm 77) (s.tm 78) (s.tm 79) h
theorem F24.e13 : evG Tryd.prog 108 (fun _ => W) nobody (kP QP) (regOps (F24.d [1, 1, 1, 0, 1, 0, 0, 1, 1, 0, 0, 1, 0])) (F24.g1.drop 0) ((thenQ (F24.f4 W QR QN QE QP) (blockQ 1 (thenQ (F24.f2 W QR QN QE QP) (F24.q1 QR QN QE)))) .normal) s h = F24.f13 W QR QN QE QP s h := nd_g (is := isAt F24.g1 0) (rest := F24.g1.drop 1) (by kernel_rfl) (F24.e12 W QR QN QE QP) (by kernel_rfl)
theorem F24.o1 : F24.cw W (F24.d [1, 1, 1, 0, 1, 0, 0, 1, 1, 0, 0, 1, 0]) (thenQ (F24.f4 W QR QN QE QP) (blockQ 1 (thenQ (F24.f2 W QR QN QE QP) (F24.q1 QR QN QE)))) QP s h = F24.f13 W QR QN QE QP s h := nd_groups (id := 7) (draw := false) (ops := (regOps (F24.d [1, 1, 1, 0, 1, 0, 0, 1, 1, 0, 0, 1, 0]))) (gs := F24.g1.drop 0) (by kernel_rfl) (by kernel_rfl) (F24.e13 W QR QN QE QP s h)
theorem F24.o2 : F24.cw W (F24.d [1, 1, 1, 0, 1, 0, 0, 1, 1, 0, 0, 1]) (blockQ 1 (thenQ (F24.f2 W QR QN QE QP) (F24.q1 QR QN QE))) QP s h = F24.f13 W QR QN QE QP s h := nd_seq (a := (F24.d [1, 1, 1, 0, 1, 0, 0, 1, 1, 0, 0, 1, 0])) (b := (F24.d [1, 1, 1, 0, 1, 0, 0, 1, 1, 0, 0, 1, 1])) (by kernel_rfl) (F24.e4 W QR QN QE QP) (F24.o1 W QR QN QE QP s h)
def F24.n14 (W : WK) (QR QN : VK) (QE : EK) (QP : PK) (x1 x77 x78 x79 : AV) (h : AH) : Prop :=
pIxA (some (2, none)) x77 x79 fun t28 =>
lLd (some true) (some 2) t28 h fun t29 _ =>
eAlloc (some [.string ⟨#[]⟩, .int .i64 0]) 2 41 h fun t31 h32 =>
eStore (some 2) t31 t29 h32 W fun h33 =>
F24.n13 W QR QN QE QP x1 t31 x77 x78 x79 h33
def F24.f14 : KT := fun s h => F24.n14 W QR QN QE QP (s.tm 1) (s.tm 77) (s.tm 78) (s.tm 79) h
theorem F24.e14 : F24.cw W (F24.d [1, 1, 1, 0, 1, 0, 0, 1, 1, 0, 0]) (blockQ 1 (thenQ (F24.f2 W QR QN QE QP) (F24.q1 QR QN QE))) QP s h = F24.f14 W QR QN QE QP s h := nd_seq (a := (F24.d [1, 1, 1, 0, 1, 0, 0, 1, 1, 0, 0, 0])) (b := (F24.d [1, 1, 1, 0, 1, 0, 0, 1, 1, 0, 0, 1])) (by kernel_rfl) (F24.o2 W QR QN QE QP) (by kernel_rfl)
theorem F24.o3 : F24.cw W (F24.d [1, 1, 1, 0, 1, 0, 0, 1, 1, 0]) (thenQ (F24.f2 W QR QN QE QP) (F24.q1 QR QN QE)) QP s h = F24.f14 W QR QN QE QP s h := nd_block (a := (F24.d [1, 1, 1, 0, 1, 0, 0, 1, 1, 0, 0])) (by kernel_rfl) (F24.e14 W QR QN QE QP s h)
theorem F24.o4 : F24.cw W (F24.d [1, 1, 1, 0, 1, 0, 0, 1, 1]) (F24.q1 QR QN QE) QP s h = F24.f14 W QR QN QE QP s h := nd_seq (a := (F24.d [1, 1, 1, 0, 1, 0, 0, 1, 1, 0])) (b := (F24.d [1, 1, 1, 0, 1, 0, 0, 1, 1, 1])) (by kernel_rfl) (F24.e2 W QR QN QE QP) (F24.o3 W QR QN QE QP s h)
def F24.n15 (W : WK) (QR QN : VK) (QE : EK) (QP : PK) (x1 x77 x78 x79 x80 : AV) (h : AH) : Prop :=
aIf x80 (
F24.n14 W QR QN QE QP x1 x77 x78 x79 h) (
QE 0 [] h)
def F24.f15 : KT := fun s h => F24.n15 W QR QN QE QP (s.tm 1) (s.tm 77) (s.tm 78) (s.tm 79) (s.tm 80) h
theorem F24.e15 : F24.cw W (F24.d [1, 1, 1, 0, 1, 0, 0, 1, 0]) (thenQ (F24.f14 W QR QN QE QP) (F24.q1 QR QN QE)) QP s h = F24.f15 W QR QN QE QP s h := nd_cond (o := (.tmp 80)) (a := (F24.d [1, 1, 1, 0, 1, 0, 0, 1, 0, 0])) (b := (F24.d [1, 1, 1, 0, 1, 0, 0, 1, 0, 1])) (by kernel_rfl) rfl rfl (by kernel_rfl)
theorem F24.o5 : F24.cw W (F24.d [1, 1, 1, 0, 1, 0, 0, 1]) (F24.q1 QR QN QE) QP s h = F24.f15 W QR QN QE QP s h := nd_seq (a := (F24.d [1, 1, 1, 0, 1, 0, 0, 1, 0])) (b := (F24.d [1, 1, 1, 0, 1, 0, 0, 1, 1])) (by kernel_rfl) (F24.o4 W QR QN QE QP) (F24.e15 W QR QN QE QP s h)
def F24.n16 (W : WK) (QR QN : VK) (QE : EK) (QP : PK) (x1 x77 x78 x79 : AV) (h : AH) : Prop :=
pBin Tryd.prog .lss 3 false x79 x78 fun t34 =>
F24.n15 W QR QN QE QP x1 x77 x78 x79 t34 h
def F24.f16 : KT := fun s h => F24.n16 W QR QN QE QP (s.tm 1) (s.tm 77) (s.tm 78) (s.tm 79) h
theorem F24.e16 : F24.cw W (F24.d [1, 1, 1, 0, 1, 0, 0]) (F24.q1 QR QN QE) QP s h = F24.f16 W QR QN QE QP s h := nd_seq (a := (F24.d [1, 1, 1, 0, 1, 0, 0, 0])) (b := (F24.d [1, 1, 1, 0, 1, 0, 0, 1])) (by kernel_rfl) (F24.o5 W QR QN QE QP) (by kernel_rfl)
noncomputable def F24.c1 : Code := (F24.d [1, 1, 1, 0, 1, 0, 0])
theorem F24.l1 : aw Tryd.prog 108 W F24.pl F24.c1 (F24.q1 QR QN QE) (kP QP) s h = F24.f16 W QR QN QE QP s h := F24.e16 W QR QN QE QP s h
def F24.g1_ (W : WK) (QR QN : VK) (QE : EK) (QP : PK) : VK → VK := fun QN' vs h => F24.n16 W QR QN' (fun (i : Nat) (vs : List AV) (h : AH) => if i = 0 then F24.n1 W QR QN QE QP h else QE i vs h) QP (vs.getD 0 noA) (vs.getD 1 noA) (vs.getD 2 noA) (vs.getD 3 noA) h
theorem F24.p1 {Kn : VK} {KQ : KT} (hK : ∀ s h, KQ s h = Kn [s.tm 1, s.tm 77, s.tm 78, s.tm 79] h) : thenQ KQ (blockQ 0 (thenQ (F24.f1 W QR QN QE QP) (F24.q0 QR QN QE))) = F24.q1 QR Kn (fun (i : Nat) (vs : List AV) (h : AH) => if i = 0 then F24.n1 W QR QN QE QP h else QE i vs h) := by
  funext x s h
  cases x with
  | normal => exact hK s h
  | ret => kernel_rfl
  | goto l => kernel_rfl
  | exit j =>
    by_cases h0 : j = 0
    · subst h0; kernel_rfl
    simp only [thenQ, blockQ, noGotoQ, if_neg h0, F24.q1, F24.el1, F24.q0, F24.el0]
def F24.n17 (W : WK) (QR QN : VK) (QE : EK) (QP : PK) (x1 x77 x78 x79 : AV) (h : AH) : Prop :=
vLoop (F24.g1_ W QR QN QE QP) [x1, x77, x78, x79] h
def F24.f17 : KT := fun s h => F24.n17 W QR QN QE QP (s.tm 1) (s.tm 77) (s.tm 78) (s.tm 79) h
theorem F24.e17 : F24.cw W (F24.d [1, 1, 1, 0, 1, 0]) (blockQ 0 (thenQ (F24.f1 W QR QN QE QP) (F24.q0 QR QN QE))) QP s h = F24.f17 W QR QN QE QP s h := (nd_loop (a := F24.c1) (by kernel_rfl)).trans (vloopD (L := fun tm => [tm 1, tm 77, tm 78, tm 79]) (G := F24.g1_ W QR QN QE QP) (fun Kn KQ hK s h => (congrArg (fun q => aw Tryd.prog 108 W F24.pl F24.c1 q (kP QP) s h) (F24.p1 W QR QN QE QP hK)).trans (F24.l1 W QR Kn (fun (i : Nat) (vs : List AV) (h : AH) => if i = 0 then F24.n1 W QR QN QE QP h else QE i vs h) QP s h)) s h)
theorem F24.o6 : F24.cw W (F24.d [1, 1, 1, 0, 1]) (thenQ (F24.f1 W QR QN QE QP) (F24.q0 QR QN QE)) QP s h = F24.f17 W QR QN QE QP s h := nd_block (a := (F24.d [1, 1, 1, 0, 1, 0])) (by kernel_rfl) (F24.e17 W QR QN QE QP s h)
def F24.n18 (W : WK) (QR QN : VK) (QE : EK) (QP : PK) (x1 : AV) (h : AH) : Prop :=
pFld (some 2) x1 fun t35 =>
lLd (some false) (some 1) t35 h fun t36 _ =>
(strArg t36 = false) ∧ pLen t36 fun t38 =>
F24.n17 W QR QN QE QP x1 t36 t38 (.sc (.int .i64 0)) h
def F24.f18 : KT := fun s h => F24.n18 W QR QN QE QP (s.tm 1) h
theorem F24.e18 : F24.cw W (F24.d [1, 1, 1, 0]) (thenQ (F24.f1 W QR QN QE QP) (F24.q0 QR QN QE)) QP s h = F24.f18 W QR QN QE QP s h := nd_seq (a := (F24.d [1, 1, 1, 0, 0])) (b := (F24.d [1, 1, 1, 0, 1])) (by kernel_rfl) (F24.o6 W QR QN QE QP) (by kernel_rfl)
theorem F24.o7 : F24.cw W (F24.d [1, 1, 1]) (F24.q0 QR QN QE) QP s h = F24.f18 W QR QN QE QP s h := nd_seq (a := (F24.d [1, 1, 1, 0])) (b := (F24.d [1, 1, 1, 1])) (by kernel_rfl) (F24.e1 W QR QN QE QP) (F24.e18 W QR QN QE QP s h)
def F24.n19 (_ : WK) (QR _ : VK) (_ : EK) (_ : PK) (h : AH) : Prop :=
QR [(.sc (.bool false))] h
def F24.f19 : KT := fun _ h => F24.n19 W QR QN QE QP h
theorem F24.e19 : F24.cw W (F24.d [1, 1, 0, 1, 0]) (thenQ (F24.f18 W QR QN QE QP) (F24.q0 QR QN QE)) QP s h = F24.f19 W QR QN QE QP s h := nd_seq (a := (F24.d [1, 1, 0, 1, 0, 0])) (b := (F24.d [1, 1, 0, 1, 0, 1])) (by kernel_rfl) (fun _ _ => rfl) (by kernel_rfl)
def F24.n20 (W : WK) (QR QN : VK) (QE : EK) (QP : PK) (x1 x75 : AV) (h : AH) : Prop :=
aIf x75 (
F24.n19 W QR QN QE QP h) (
F24.n18 W QR QN QE QP x1 h)
def F24.f20 : KT := fun s h => F24.n20 W QR QN QE QP (s.tm 1) (s.tm 75) h
theorem F24.e20 : F24.cw W (F24.d [1, 1, 0, 1]) (thenQ (F24.f18 W QR QN QE QP) (F24.q0 QR QN QE)) QP s h = F24.f20 W QR QN QE QP s h := nd_cond (o := (.tmp 75)) (a := (F24.d [1, 1, 0, 1, 0])) (b := (F24.d [1, 1, 0, 1, 1])) (by kernel_rfl) (F24.e19 W QR QN QE QP s h) rfl (by kernel_rfl)
def F24.n21 (W : WK) (QR QN : VK) (QE : EK) (QP : PK) (x1 x66 x74 : AV) (h : AH) : Prop :=
pPick x66 (.sc (.bool true)) x74 fun t39 =>
F24.n20 W QR QN QE QP x1 t39 h
def F24.f21 : KT := fun s h => F24.n21 W QR QN QE QP (s.tm 1) (s.tm 66) (s.tm 74) h
theorem F24.e21 : evG Tryd.prog 108 (puW [7, 26] fun _ => W) nobody (kP QP) (regOps (F24.d [1, 1, 0, 0])) (F24.g2.drop 22) ((thenQ (F24.f20 W QR QN QE QP) (thenQ (F24.f18 W QR QN QE QP) (F24.q0 QR QN QE))) .normal) s h = F24.f21 W QR QN QE QP s h := nd_g (is := isAt F24.g2 22) (rest := F24.g2.drop 23) (by kernel_rfl) (fun _ _ => rfl) (by kernel_rfl)
def F24.n22 (W : WK) (QR QN : VK) (QE : EK) (QP : PK) (x1 x66 x70 x73 : AV) (h : AH) : Prop :=
aIg false x66 (
pPick x70 x73 (.sc (.bool false)) fun t40 =>
F24.n21 W QR QN QE QP x1 x66 t40 h) (
F24.n21 W QR QN QE QP x1 x66 noA h)
def F24.f22 : KT := fun s h => F24.n22 W QR QN QE QP (s.tm 1) (s.tm 66) (s.tm 70) (s.tm 73) h
theorem F24.e22 : evG Tryd.prog 108 (puW [7, 26] fun _ => W) nobody (kP QP) (regOps (F24.d [1, 1, 0, 0])) (F24.g2.drop 21) ((thenQ (F24.f20 W QR QN QE QP) (thenQ (F24.f18 W QR QN QE QP) (F24.q0 QR QN QE))) .normal) s h = F24.f22 W QR QN QE QP s h := nd_gw (want := false) (j := 53) (is := isAt F24.g2 21) (rest := F24.g2.drop 22) (by kernel_rfl) (d := 66) (by kernel_rfl) (F24.e21 W QR QN QE QP) (by kernel_rfl)
def F24.n23 (W : WK) (QR QN : VK) (QE : EK) (QP : PK) (x1 x66 x70 : AV) (h : AH) : Prop :=
aIg true x70 (
pFld (some 4) x1 fun t41 =>
lLd (some false) (some 1) t41 h fun t42 _ =>
pBin Tryd.prog .neq 3 true t42 (.sc (.int .i64 0)) fun t44 =>
F24.n22 W QR QN QE QP x1 x66 x70 t44 h) (
F24.n22 W QR QN QE QP x1 x66 x70 noA h)
def F24.f23 : KT := fun s h => F24.n23 W QR QN QE QP (s.tm 1) (s.tm 66) (s.tm 70) h
theorem F24.e23 : evG Tryd.prog 108 (puW [7, 26] fun _ => W) nobody (kP QP) (regOps (F24.d [1, 1, 0, 0])) (F24.g2.drop 20) ((thenQ (F24.f20 W QR QN QE QP) (thenQ (F24.f18 W QR QN QE QP) (F24.q0 QR QN QE))) .normal) s h = F24.f23 W QR QN QE QP s h := nd_gw (want := true) (j := 57) (is := isAt F24.g2 20) (rest := F24.g2.drop 21) (by kernel_rfl) (d := 70) (by kernel_rfl) (F24.e22 W QR QN QE QP) (by kernel_rfl)
def F24.n24 (W : WK) (QR QN : VK) (QE : EK) (QP : PK) (x1 x3 x66 : AV) (h : AH) : Prop :=
aIg false x66 (
pFld (some 3) x3 fun t45 =>
lLd (some false) (some 1) t45 h fun t46 _ =>
pUn .not t46 fun t48 =>
F24.n23 W QR QN QE QP x1 x66 t48 h) (
F24.n23 W QR QN QE QP x1 x66 noA h)
def F24.f24 : KT := fun s h => F24.n24 W QR QN QE QP (s.tm 1) (s.tm 3) (s.tm 66) h
theorem F24.e24 : evG Tryd.prog 108 (puW [7, 26] fun _ => W) nobody (kP QP) (regOps (F24.d [1, 1, 0, 0])) (F24.g2.drop 19) ((thenQ (F24.f20 W QR QN QE QP) (thenQ (F24.f18 W QR QN QE QP) (F24.q0 QR QN QE))) .normal) s h = F24.f24 W QR QN QE QP s h := nd_gw (want := false) (j := 53) (is := isAt F24.g2 19) (rest := F24.g2.drop 20) (by kernel_rfl) (d := 66) (by kernel_rfl) (F24.e23 W QR QN QE QP) (by kernel_rfl)
def F24.n25 (W : WK) (QR QN : VK) (QE : EK) (QP : PK) (x1 x3 x53 x64 : AV) (h : AH) : Prop :=
pPick x53 (.sc (.bool true)) x64 fun t49 =>
F24.n24 W QR QN QE QP x1 x3 t49 h
def F24.f25 : KT := fun s h => F24.n25 W QR QN QE QP (s.tm 1) (s.tm 3) (s.tm 53) (s.tm 64) h
theorem F24.e25 : evG Tryd.prog 108 (puW [7, 26] fun _ => W) nobody (kP QP) (regOps (F24.d [1, 1, 0, 0])) (F24.g2.drop 18) ((thenQ (F24.f20 W QR QN QE QP) (thenQ (F24.f18 W QR QN QE QP) (F24.q0 QR QN QE))) .normal) s h = F24.f25 W QR QN QE QP s h := nd_g (is := isAt F24.g2 18) (rest := F24.g2.drop 19) (by kernel_rfl) (F24.e24 W QR QN QE QP) (by kernel_rfl)
def F24.n26 (W : WK) (QR QN : VK) (QE : EK) (QP : PK) (x1 x3 x53 x57 x63 : AV) (h : AH) : Prop :=
aIg false x53 (
pPick x57 x63 (.sc (.bool false)) fun t50 =>
F24.n25 W QR QN QE QP x1 x3 x53 t50 h) (
F24.n25 W QR QN QE QP x1 x3 x53 noA h)
def F24.f26 : KT := fun s h => F24.n26 W QR QN QE QP (s.tm 1) (s.tm 3) (s.tm 53) (s.tm 57) (s.tm 63) h
theorem F24.e26 : evG Tryd.prog 108 (puW [7, 26] fun _ => W) nobody (kP QP) (regOps (F24.d [1, 1, 0, 0])) (F24.g2.drop 17) ((thenQ (F24.f20 W QR QN QE QP) (thenQ (F24.f18 W QR QN QE QP) (F24.q0 QR QN QE))) .normal) s h = F24.f26 W QR QN QE QP s h := nd_gw (want := false) (j := 40) (is := isAt F24.g2 17) (rest := F24.g2.drop 18) (by kernel_rfl) (d := 53) (by kernel_rfl) (F24.e25 W QR QN QE QP) (by kernel_rfl)
def F24.n27 (W : WK) (QR QN : VK) (QE : EK) (QP : PK) (x1 x3 x53 x57 : AV) (h : AH) : Prop :=
aIg true x57 (
pFld (some 2) x1 fun t51 =>
lLd (some false) (some 1) t51 h fun t52 _ =>
(strArg t52 = false) ∧ pLen t52 fun t54 =>
pFld (some 2) x3 fun t55 =>
lLd (some false) (some 1) t55 h fun t56 _ =>
pBin Tryd.prog .neq 3 false t54 t56 fun t58 =>
F24.n26 W QR QN QE QP x1 x3 x53 x57 t58 h) (
F24.n26 W QR QN QE QP x1 x3 x53 x57 noA h)
def F24.f27 : KT := fun s h => F24.n27 W QR QN QE QP (s.tm 1) (s.tm 3) (s.tm 53) (s.tm 57) h
theorem F24.e27 : evG Tryd.prog 108 (puW [7, 26] fun _ => W) nobody (kP QP) (regOps (F24.d [1, 1, 0, 0])) (F24.g2.drop 16) ((thenQ (F24.f20 W QR QN QE QP) (thenQ (F24.f18 W QR QN QE QP) (F24.q0 QR QN QE))) .normal) s h = F24.f27 W QR QN QE QP s h := nd_gw (want := true) (j := 44) (is := isAt F24.g2 16) (rest := F24.g2.drop 17) (by kernel_rfl) (d := 57) (by kernel_rfl) (F24.e26 W QR QN QE QP) (by kernel_rfl)
def F24.n28 (W : WK) (QR QN : VK) (QE : EK) (QP : PK) (x1 x3 x53 : AV) (h : AH) : Prop :=
aIg false x53 (
pFld (some 2) x3 fun t59 =>
lLd (some false) (some 1) t59 h fun t60 _ =>
pBin Tryd.prog .geq 3 true t60 (.sc (.int .i64 0)) fun t62 =>
F24.n27 W QR QN QE QP x1 x3 x53 t62 h) (
F24.n27 W QR QN QE QP x1 x3 x53 noA h)
def F24.f28 : KT := fun s h => F24.n28 W QR QN QE QP (s.tm 1) (s.tm 3) (s.tm 53) h
theorem F24.e28 : evG Tryd.prog 108 (puW [7, 26] fun _ => W) nobody (kP QP) (regOps (F24.d [1, 1, 0, 0])) (F24.g2.drop 15) ((thenQ (F24.f20 W QR QN QE QP) (thenQ (F24.f18 W QR QN QE QP) (F24.q0 QR QN QE))) .normal) s h = F24.f28 W QR QN QE QP s h := nd_gw (want := false) (j := 40) (is := isAt F24.g2 15) (rest := F24.g2.drop 16) (by kernel_rfl) (d := 53) (by kernel_rfl) (F24.e27 W QR QN QE QP) (by kernel_rfl)
def F24.n29 (W : WK) (QR QN : VK) (QE : EK) (QP : PK) (x1 x3 x43 x51 : AV) (h : AH) : Prop :=
pPick x43 (.sc (.bool true)) x51 fun t63 =>
F24.n28 W QR QN QE QP x1 x3 t63 h
def F24.f29 : KT := fun s h => F24.n29 W QR QN QE QP (s.tm 1) (s.tm 3) (s.tm 43) (s.tm 51) h
theorem F24.e29 : evG Tryd.prog 108 (puW [7, 26] fun _ => W) nobody (kP QP) (regOps (F24.d [1, 1, 0, 0])) (F24.g2.drop 14) ((thenQ (F24.f20 W QR QN QE QP) (thenQ (F24.f18 W QR QN QE QP) (F24.q0 QR QN QE))) .normal) s h = F24.f29 W QR QN QE QP s h := nd_g (is := isAt F24.g2 14) (rest := F24.g2.drop 15) (by kernel_rfl) (F24.e28 W QR QN QE QP) (by kernel_rfl)
def F24.n30 (W : WK) (QR QN : VK) (QE : EK) (QP : PK) (x1 x3 x43 x47 x50 : AV) (h : AH) : Prop :=
aIg false x43 (
pPick x47 x50 (.sc (.bool false)) fun t64 =>
F24.n29 W QR QN QE QP x1 x3 x43 t64 h) (
F24.n29 W QR QN QE QP x1 x3 x43 noA h)
def F24.f30 : KT := fun s h => F24.n30 W QR QN QE QP (s.tm 1) (s.tm 3) (s.tm 43) (s.tm 47) (s.tm 50) h
theorem F24.e30 : evG Tryd.prog 108 (puW [7, 26] fun _ => W) nobody (kP QP) (regOps (F24.d [1, 1, 0, 0])) (F24.g2.drop 13) ((thenQ (F24.f20 W QR QN QE QP) (thenQ (F24.f18 W QR QN QE QP) (F24.q0 QR QN QE))) .normal) s h = F24.f30 W QR QN QE QP s h := nd_gw (want := false) (j := 30) (is := isAt F24.g2 13) (rest := F24.g2.drop 14) (by kernel_rfl) (d := 43) (by kernel_rfl) (F24.e29 W QR QN QE QP) (by kernel_rfl)
def F24.n31 (W : WK) (QR QN : VK) (QE : EK) (QP : PK) (x1 x3 x43 x47 : AV) (h : AH) : Prop :=
aIg true x47 (
pFld (some 3) x1 fun t65 =>
lLd (some false) (some 1) t65 h fun t66 _ =>
pBin Tryd.prog .neq 3 true t66 (.sc (.int .i64 0)) fun t68 =>
F24.n30 W QR QN QE QP x1 x3 x43 x47 t68 h) (
F24.n30 W QR QN QE QP x1 x3 x43 x47 noA h)
def F24.f31 : KT := fun s h => F24.n31 W QR QN QE QP (s.tm 1) (s.tm 3) (s.tm 43) (s.tm 47) h
theorem F24.e31 : evG Tryd.prog 108 (puW [7, 26] fun _ => W) nobody (kP QP) (regOps (F24.d [1, 1, 0, 0])) (F24.g2.drop 12) ((thenQ (F24.f20 W QR QN QE QP) (thenQ (F24.f18 W QR QN QE QP) (F24.q0 QR QN QE))) .normal) s h = F24.f31 W QR QN QE QP s h := nd_gw (want := true) (j := 34) (is := isAt F24.g2 12) (rest := F24.g2.drop 13) (by kernel_rfl) (d := 47) (by kernel_rfl) (F24.e30 W QR QN QE QP) (by kernel_rfl)
def F24.n32 (W : WK) (QR QN : VK) (QE : EK) (QP : PK) (x1 x3 x43 : AV) (h : AH) : Prop :=
aIg false x43 (
pFld (some 1) x3 fun t69 =>
lLd (some false) (some 1) t69 h fun t70 _ =>
pUn .not t70 fun t72 =>
F24.n31 W QR QN QE QP x1 x3 x43 t72 h) (
F24.n31 W QR QN QE QP x1 x3 x43 noA h)
def F24.f32 : KT := fun s h => F24.n32 W QR QN QE QP (s.tm 1) (s.tm 3) (s.tm 43) h
theorem F24.e32 : evG Tryd.prog 108 (puW [7, 26] fun _ => W) nobody (kP QP) (regOps (F24.d [1, 1, 0, 0])) (F24.g2.drop 11) ((thenQ (F24.f20 W QR QN QE QP) (thenQ (F24.f18 W QR QN QE QP) (F24.q0 QR QN QE))) .normal) s h = F24.f32 W QR QN QE QP s h := nd_gw (want := false) (j := 30) (is := isAt F24.g2 11) (rest := F24.g2.drop 12) (by kernel_rfl) (d := 43) (by kernel_rfl) (F24.e31 W QR QN QE QP) (by kernel_rfl)
def F24.n33 (W : WK) (QR QN : VK) (QE : EK) (QP : PK) (x1 x3 x33 x41 : AV) (h : AH) : Prop :=
pPick x33 (.sc (.bool true)) x41 fun t73 =>
F24.n32 W QR QN QE QP x1 x3 t73 h
def F24.f33 : KT := fun s h => F24.n33 W QR QN QE QP (s.tm 1) (s.tm 3) (s.tm 33) (s.tm 41) h
theorem F24.e33 : evG Tryd.prog 108 (puW [7, 26] fun _ => W) nobody (kP QP) (regOps (F24.d [1, 1, 0, 0])) (F24.g2.drop 10) ((thenQ (F24.f20 W QR QN QE QP) (thenQ (F24.f18 W QR QN QE QP) (F24.q0 QR QN QE))) .normal) s h = F24.f33 W QR QN QE QP s h := nd_g (is := isAt F24.g2 10) (rest := F24.g2.drop 11) (by kernel_rfl) (F24.e32 W QR QN QE QP) (by kernel_rfl)
def F24.n34 (W : WK) (QR QN : VK) (QE : EK) (QP : PK) (x1 x3 x33 x36 x40 : AV) (h : AH) : Prop :=
aIg false x33 (
pPick x36 x40 (.sc (.bool false)) fun t74 =>
F24.n33 W QR QN QE QP x1 x3 x33 t74 h) (
F24.n33 W QR QN QE QP x1 x3 x33 noA h)
def F24.f34 : KT := fun s h => F24.n34 W QR QN QE QP (s.tm 1) (s.tm 3) (s.tm 33) (s.tm 36) (s.tm 40) h
theorem F24.e34 : evG Tryd.prog 108 (puW [7, 26] fun _ => W) nobody (kP QP) (regOps (F24.d [1, 1, 0, 0])) (F24.g2.drop 9) ((thenQ (F24.f20 W QR QN QE QP) (thenQ (F24.f18 W QR QN QE QP) (F24.q0 QR QN QE))) .normal) s h = F24.f34 W QR QN QE QP s h := nd_gw (want := false) (j := 20) (is := isAt F24.g2 9) (rest := F24.g2.drop 10) (by kernel_rfl) (d := 33) (by kernel_rfl) (F24.e33 W QR QN QE QP) (by kernel_rfl)
def F24.n35 (W : WK) (QR QN : VK) (QE : EK) (QP : PK) (x1 x3 x33 x36 : AV) (h : AH) : Prop :=
aIg true x36 (
pFld (some 3) x1 fun t75 =>
lLd (some false) (some 1) t75 h fun t76 _ =>
aCall Tryd.prog noW 46 [t76] h (fun t78 h79 =>
pUn .not t78 fun t80 =>
F24.n34 W QR QN QE QP x1 x3 x33 x36 t80 h79) QP) (
F24.n34 W QR QN QE QP x1 x3 x33 x36 noA h)
def F24.f35 : KT := fun s h => F24.n35 W QR QN QE QP (s.tm 1) (s.tm 3) (s.tm 33) (s.tm 36) h
theorem F24.e35 : evG Tryd.prog 108 (puW [7, 26] fun _ => W) nobody (kP QP) (regOps (F24.d [1, 1, 0, 0])) (F24.g2.drop 8) ((thenQ (F24.f20 W QR QN QE QP) (thenQ (F24.f18 W QR QN QE QP) (F24.q0 QR QN QE))) .normal) s h = F24.f35 W QR QN QE QP s h := nd_gw (want := true) (j := 23) (is := isAt F24.g2 8) (rest := F24.g2.drop 9) (by kernel_rfl) (d := 36) (by kernel_rfl) (F24.e34 W QR QN QE QP) (by kernel_rfl)
def F24.n36 (W : WK) (QR QN : VK) (QE : EK) (QP : PK) (x1 x3 x33 : AV) (h : AH) : Prop :=
aIg false x33 (
pFld (some 1) x3 fun t81 =>
lLd (some false) (some 1) t81 h fun t82 _ =>
F24.n35 W QR QN QE QP x1 x3 x33 t82 h) (
F24.n35 W QR QN QE QP x1 x3 x33 noA h)
def F24.f36 : KT := fun s h => F24.n36 W QR QN QE QP (s.tm 1) (s.tm 3) (s.tm 33) h
theorem F24.e36 : evG Tryd.prog 108 (puW [7, 26] fun _ => W) nobody (kP QP) (regOps (F24.d [1, 1, 0, 0])) (F24.g2.drop 7) ((thenQ (F24.f20 W QR QN QE QP) (thenQ (F24.f18 W QR QN QE QP) (F24.q0 QR QN QE))) .normal) s h = F24.f36 W QR QN QE QP s h := nd_gw (want := false) (j := 20) (is := isAt F24.g2 7) (rest := F24.g2.drop 8) (by kernel_rfl) (d := 33) (by kernel_rfl) (F24.e35 W QR QN QE QP) (by kernel_rfl)
def F24.n37 (W : WK) (QR QN : VK) (QE : EK) (QP : PK) (x1 x3 x23 x31 : AV) (h : AH) : Prop :=
pPick x23 (.sc (.bool true)) x31 fun t84 =>
F24.n36 W QR QN QE QP x1 x3 t84 h
def F24.f37 : KT := fun s h => F24.n37 W QR QN QE QP (s.tm 1) (s.tm 3) (s.tm 23) (s.tm 31) h
theorem F24.e37 : evG Tryd.prog 108 (puW [7, 26] fun _ => W) nobody (kP QP) (regOps (F24.d [1, 1, 0, 0])) (F24.g2.drop 6) ((thenQ (F24.f20 W QR QN QE QP) (thenQ (F24.f18 W QR QN QE QP) (F24.q0 QR QN QE))) .normal) s h = F24.f37 W QR QN QE QP s h := nd_g (is := isAt F24.g2 6) (rest := F24.g2.drop 7) (by kernel_rfl) (F24.e36 W QR QN QE QP) (by kernel_rfl)
def F24.n38 (W : WK) (QR QN : VK) (QE : EK) (QP : PK) (x1 x3 x23 x27 x30 : AV) (h : AH) : Prop :=
aIg false x23 (
pPick x27 x30 (.sc (.bool false)) fun t85 =>
F24.n37 W QR QN QE QP x1 x3 x23 t85 h) (
F24.n37 W QR QN QE QP x1 x3 x23 noA h)
def F24.f38 : KT := fun s h => F24.n38 W QR QN QE QP (s.tm 1) (s.tm 3) (s.tm 23) (s.tm 27) (s.tm 30) h
theorem F24.e38 : evG Tryd.prog 108 (puW [7, 26] fun _ => W) nobody (kP QP) (regOps (F24.d [1, 1, 0, 0])) (F24.g2.drop 5) ((thenQ (F24.f20 W QR QN QE QP) (thenQ (F24.f18 W QR QN QE QP) (F24.q0 QR QN QE))) .normal) s h = F24.f38 W QR QN QE QP s h := nd_gw (want := false) (j := 10) (is := isAt F24.g2 5) (rest := F24.g2.drop 6) (by kernel_rfl) (d := 23) (by kernel_rfl) (F24.e37 W QR QN QE QP) (by kernel_rfl)
def F24.n39 (W : WK) (QR QN : VK) (QE : EK) (QP : PK) (x1 x3 x23 x27 : AV) (h : AH) : Prop :=
aIg true x27 (
pFld (some 1) x1 fun t86 =>
lLd (some false) (some 1) t86 h fun t87 _ =>
pBin Tryd.prog .neq 9 true t87 (.sc (.string ⟨#[]⟩)) fun t89 =>
F24.n38 W QR QN QE QP x1 x3 x23 x27 t89 h) (
F24.n38 W QR QN QE QP x1 x3 x23 x27 noA h)
def F24.f39 : KT := fun s h => F24.n39 W QR QN QE QP (s.tm 1) (s.tm 3) (s.tm 23) (s.tm 27) h
theorem F24.e39 : evG Tryd.prog 108 (puW [7, 26] fun _ => W) nobody (kP QP) (regOps (F24.d [1, 1, 0, 0])) (F24.g2.drop 4) ((thenQ (F24.f20 W QR QN QE QP) (thenQ (F24.f18 W QR QN QE QP) (F24.q0 QR QN QE))) .normal) s h = F24.f39 W QR QN QE QP s h := nd_gw (want := true) (j := 14) (is := isAt F24.g2 4) (rest := F24.g2.drop 5) (by kernel_rfl) (d := 27) (by kernel_rfl) (F24.e38 W QR QN QE QP) (by kernel_rfl)
def F24.n40 (W : WK) (QR QN : VK) (QE : EK) (QP : PK) (x1 x3 x23 : AV) (h : AH) : Prop :=
aIg false x23 (
pFld (some 0) x3 fun t90 =>
lLd (some false) (some 1) t90 h fun t91 _ =>
pUn .not t91 fun t93 =>
F24.n39 W QR QN QE QP x1 x3 x23 t93 h) (
F24.n39 W QR QN QE QP x1 x3 x23 noA h)
def F24.f40 : KT := fun s h => F24.n40 W QR QN QE QP (s.tm 1) (s.tm 3) (s.tm 23) h
theorem F24.e40 : evG Tryd.prog 108 (puW [7, 26] fun _ => W) nobody (kP QP) (regOps (F24.d [1, 1, 0, 0])) (F24.g2.drop 3) ((thenQ (F24.f20 W QR QN QE QP) (thenQ (F24.f18 W QR QN QE QP) (F24.q0 QR QN QE))) .normal) s h = F24.f40 W QR QN QE QP s h := nd_gw (want := false) (j := 10) (is := isAt F24.g2 3) (rest := F24.g2.drop 4) (by kernel_rfl) (d := 23) (by kernel_rfl) (F24.e39 W QR QN QE QP) (by kernel_rfl)
def F24.n41 (W : WK) (QR QN : VK) (QE : EK) (QP : PK) (x1 x3 x15 x21 : AV) (h : AH) : Prop :=
pPick x15 (.sc (.bool true)) x21 fun t94 =>
F24.n40 W QR QN QE QP x1 x3 t94 h
def F24.f41 : KT := fun s h => F24.n41 W QR QN QE QP (s.tm 1) (s.tm 3) (s.tm 15) (s.tm 21) h
theorem F24.e41 : evG Tryd.prog 108 (puW [7, 26] fun _ => W) nobody (kP QP) (regOps (F24.d [1, 1, 0, 0])) (F24.g2.drop 2) ((thenQ (F24.f20 W QR QN QE QP) (thenQ (F24.f18 W QR QN QE QP) (F24.q0 QR QN QE))) .normal) s h = F24.f41 W QR QN QE QP s h := nd_g (is := isAt F24.g2 2) (rest := F24.g2.drop 3) (by kernel_rfl) (F24.e40 W QR QN QE QP) (by kernel_rfl)
def F24.n42 (W : WK) (QR QN : VK) (QE : EK) (QP : PK) (x1 x3 x15 : AV) (h : AH) : Prop :=
aIg false x15 (
pFld (some 0) x3 fun t95 =>
lLd (some false) (some 1) t95 h fun t96 _ =>
pFld (some 1) x1 fun t98 =>
lLd (some false) (some 1) t98 h fun t99 _ =>
aCall Tryd.prog noW 45 [t99] h (fun t101 h102 =>
pBin Tryd.prog .neq 4 false t96 t101 fun t103 =>
F24.n41 W QR QN QE QP x1 x3 x15 t103 h102) QP) (
F24.n41 W QR QN QE QP x1 x3 x15 noA h)
def F24.f42 : KT := fun s h => F24.n42 W QR QN QE QP (s.tm 1) (s.tm 3) (s.tm 15) h
theorem F24.e42 : evG Tryd.prog 108 (puW [7, 26] fun _ => W) nobody (kP QP) (regOps (F24.d [1, 1, 0, 0])) (F24.g2.drop 1) ((thenQ (F24.f20 W QR QN QE QP) (thenQ (F24.f18 W QR QN QE QP) (F24.q0 QR QN QE))) .normal) s h = F24.f42 W QR QN QE QP s h := nd_gw (want := false) (j := 2) (is := isAt F24.g2 1) (rest := F24.g2.drop 2) (by kernel_rfl) (d := 15) (by kernel_rfl) (F24.e41 W QR QN QE QP) (by kernel_rfl)
def F24.n43 (W : WK) (QR QN : VK) (QE : EK) (QP : PK) (x1 x3 x4 : AV) (h : AH) : Prop :=
pUn .not x4 fun t104 =>
F24.n42 W QR QN QE QP x1 x3 t104 h
def F24.f43 : KT := fun s h => F24.n43 W QR QN QE QP (s.tm 1) (s.tm 3) (s.tm 4) h
theorem F24.e43 : evG Tryd.prog 108 (puW [7, 26] fun _ => W) nobody (kP QP) (regOps (F24.d [1, 1, 0, 0])) (F24.g2.drop 0) ((thenQ (F24.f20 W QR QN QE QP) (thenQ (F24.f18 W QR QN QE QP) (F24.q0 QR QN QE))) .normal) s h = F24.f43 W QR QN QE QP s h := nd_g (is := isAt F24.g2 0) (rest := F24.g2.drop 1) (by kernel_rfl) (F24.e42 W QR QN QE QP) (by kernel_rfl)
theorem F24.o8 : F24.cw W (F24.d [1, 1, 0, 0]) (thenQ (F24.f20 W QR QN QE QP) (thenQ (F24.f18 W QR QN QE QP) (F24.q0 QR QN QE))) QP s h = F24.f43 W QR QN QE QP s h := nd_groups_pu (id := 2) (draw := true) (ops := (regOps (F24.d [1, 1, 0, 0]))) (gs := F24.g2.drop 0) (by kernel_rfl) (by kernel_rfl) (F24.e43 W QR QN QE QP s h)
theorem F24.o9 : F24.cw W (F24.d [1, 1, 0]) (thenQ (F24.f18 W QR QN QE QP) (F24.q0 QR QN QE)) QP s h = F24.f43 W QR QN QE QP s h := nd_seq (a := (F24.d [1, 1, 0, 0])) (b := (F24.d [1, 1, 0, 1])) (by kernel_rfl) (F24.e20 W QR QN QE QP) (F24.o8 W QR QN QE QP s h)
theorem F24.o10 : F24.cw W (F24.d [1, 1]) (F24.q0 QR QN QE) QP s h = F24.f43 W QR QN QE QP s h := nd_seq (a := (F24.d [1, 1, 0])) (b := (F24.d [1, 1, 1])) (by kernel_rfl) (F24.o7 W QR QN QE QP) (F24.o9 W QR QN QE QP s h)
def F24.n44 (W : WK) (QR QN : VK) (QE : EK) (QP : PK) (x1 : AV) (h : AH) : Prop :=
pFld (some 0) x1 fun t105 =>
lLd (some false) (some 1) t105 h fun t106 _ =>
aCall Tryd.prog W 23 [t106] h (fun t108 h109 =>
pExt t108 0 fun t110 =>
pExt t108 1 fun t111 =>
eAlloc (some [.bool false, .bool false, .int .i64 0, .bool false]) 4 67 h109 fun t112 h113 =>
eStore (some 4) t112 t110 h113 W fun h114 =>
F24.n43 W QR QN QE QP x1 t112 t111 h114) QP
def F24.f44 : KT := fun s h => F24.n44 W QR QN QE QP (s.tm 1) h
theorem F24.e44 : F24.cw W (F24.d [1]) (F24.q0 QR QN QE) QP s h = F24.f44 W QR QN QE QP s h := nd_seq (a := (F24.d [1, 0])) (b := (F24.d [1, 1])) (by kernel_rfl) (F24.o10 W QR QN QE QP) (by kernel_rfl)
def F24.n45 (W : WK) (QR QN : VK) (QE : EK) (QP : PK) (x0 : AV) (h : AH) : Prop :=
eBox 6 39 x0 h fun t115 h116 =>
F24.n44 W QR QN QE QP t115 h116
def F24.f45 : KT := fun s h => F24.n45 W QR QN QE QP (s.tm 0) h
theorem F24.e45 : F24.cw W (F24.d []) (F24.q0 QR QN QE) QP s h = F24.f45 W QR QN QE QP s h := nd_seq (a := (F24.d [0])) (b := (F24.d [1])) (by kernel_rfl) (F24.e44 W QR QN QE QP) (by kernel_rfl)
end
set_option maxRecDepth 100000 in
theorem F24.callsN {x0 : AV} {h : AH} {M : Nat → Prop} {R : AE → AH → Prop} (hp : F24.n45 (fun id => M id ∨ h.next ≤ id) (retV Tryd.prog [.tmp 2] R) (retV Tryd.prog [.tmp 2] R) (fun _ _ _ => False) (fun v h => R (.pan v) h) x0 h) : ACalls Tryd.prog 24 [x0] h M R :=
  acalls_of (c := F24.code) Tryd.mixed Tryd.func24 (by kernel_rfl) (Nat.le_of_ble_eq_true rfl) F24.ok (by rw [show Tryd.f24.ntmps = 108 from rfl, show Tryd.f24.results.toList = [.tmp 2] from rfl]; exact body_D (q := F24.q0 (retV Tryd.prog [.tmp 2] R) (retV Tryd.prog [.tmp 2] R) (fun _ _ _ => False)) (by kernel_rfl) (fun _ _ => rfl) (fun _ _ => rfl) (fun _ _ _ h => h) (fun _ _ _ h => h) rfl (Eq.mpr (F24.e45 (fun id => M id ∨ h.next ≤ id) (retV Tryd.prog [.tmp 2] R) (retV Tryd.prog [.tmp 2] R) (fun _ _ _ => False) (fun v h => R (.pan v) h) (s0 [x0]) h) hp))
attribute [simp] F24.n1 F24.n2 F24.n3 F24.n4 F24.n5 F24.n6 F24.n7 F24.n8 F24.n9 F24.n10 F24.n11 F24.n12 F24.n13 F24.n14 F24.n15 F24.n16 F24.n18 F24.n19 F24.n20 F24.n21 F24.n22 F24.n23 F24.n24 F24.n25 F24.n26 F24.n27 F24.n28 F24.n29 F24.n30 F24.n31 F24.n32 F24.n33 F24.n34 F24.n35 F24.n36 F24.n37 F24.n38 F24.n39 F24.n40 F24.n41 F24.n42 F24.n43 F24.n44 F24.n45

section
variable (W : Nat → Prop) (QR QN : VK) (QE : Nat → VK) (QP : AV → AH → Prop) (s : St) (h : AH)
noncomputable def F25.code : Code := Tryd.f25.body.getD .skip
def F25.g1 : Grps := [(none, [(0, false), (1, false), (2, false), (3, false), (4, false), (5, false), (6, false), (7, false), (8, false), (9, false), (10, false), (11, false)])]
def F25.pl : Plans := [(13, ⟨F25.g1, false, [], [6]⟩)]
theorem F25.ok : okCode Tryd.prog F25.pl F25.code = true := by kernel_rfl
noncomputable abbrev F25.d (p : List Nat) : Code := Code.at F25.code p
abbrev F25.cw (W : Nat → Prop) (c : Code) (q : Post) (QP : AV → AH → Prop) : KT := Go.Ab.aw Tryd.prog 74 W F25.pl c q (kP QP)
def F25.el0 (_ : Nat) (_ : Nat → AV) : List AV := []
def F25.q0 (QR QN : VK) (QE : Nat → VK) : Post := fun x s h => match x with | .normal => QN [] h | .ret => QR [] h | .exit j => QE j (F25.el0 j s.tm) h | .goto _ => False
def F25.n1 (W : WK) (_ QN : VK) (_ : EK) (QP : PK) (x0 x69 : AV) (h : AH) : Prop :=
aIf x69 (
aCall Tryd.prog W 27 [x0, (.sc (.string ⟨#[32, 123, 10]⟩))] h (fun t1 h2 =>
QN [] h2) QP) (
aCall Tryd.prog W 27 [x0, (.sc (.string ⟨#[59, 10]⟩))] h (fun t3 h4 =>
QN [] h4) QP)
def F25.f1 : KT := fun s h => F25.n1 W QR QN QE QP (s.tm 0) (s.tm 69) h
theorem F25.e1 : F25.cw W (F25.d [1, 1, 1, 1, 1, 1, 1, 1, 1]) (F25.q0 QR QN QE) QP s h = F25.f1 W QR QN QE QP s h := nd_cond (o := (.tmp 69)) (a := (F25.d [1, 1, 1, 1, 1, 1, 1, 1, 1, 0])) (b := (F25.d [1, 1, 1, 1, 1, 1, 1, 1, 1, 1])) (by kernel_rfl) rfl rfl (by kernel_rfl)
def F25.n2 (W : WK) (QR QN : VK) (QE : EK) (QP : PK) (x0 x6 : AV) (h : AH) : Prop :=
pFld (some 3) x6 fun t5 =>
lLd (some false) (some 1) t5 h fun t6 _ =>
F25.n1 W QR QN QE QP x0 t6 h
def F25.f2 : KT := fun s h => F25.n2 W QR QN QE QP (s.tm 0) (s.tm 6) h
theorem F25.e2 : F25.cw W (F25.d [1, 1, 1, 1, 1, 1, 1, 1]) (F25.q0 QR QN QE) QP s h = F25.f2 W QR QN QE QP s h := nd_seq (a := (F25.d [1, 1, 1, 1, 1, 1, 1, 1, 0])) (b := (F25.d [1, 1, 1, 1, 1, 1, 1, 1, 1])) (by kernel_rfl) (F25.e1 W QR QN QE QP) (by kernel_rfl)
def F25.n3 (W : WK) (QR QN : VK) (QE : EK) (QP : PK) (x0 x6 x8 : AV) (h : AH) : Prop :=
aCall Tryd.prog W 48 [x8, (.sc (.string ⟨#[32]⟩))] h (fun t8 h9 =>
aCall Tryd.prog W 27 [x0, t8] h9 (fun t10 h11 =>
F25.n2 W QR QN QE QP x0 x6 h11) QP) QP
def F25.f3 : KT := fun s h => F25.n3 W QR QN QE QP (s.tm 0) (s.tm 6) (s.tm 8) h
theorem F25.e3 : F25.cw W (F25.d [1, 1, 1, 1, 1, 1, 1]) (F25.q0 QR QN QE) QP s h = F25.f3 W QR QN QE QP s h := nd_seq (a := (F25.d [1, 1, 1, 1, 1, 1, 1, 0])) (b := (F25.d [1, 1, 1, 1, 1, 1, 1, 1])) (by kernel_rfl) (F25.e2 W QR QN QE QP) (by kernel_rfl)
def F25.el1 (j : Nat) (tm : Nat → AV) : List AV := if j = 0 then [tm 0, tm 6, tm 8] else []
def F25.q1 (QR QN : VK) (QE : Nat → VK) : Post := fun x s h => match x with | .normal => QN [s.tm 0, s.tm 6, s.tm 8, s.tm 38, s.tm 39, s.tm 40] h | .ret => QR [] h | .exit j => QE j (F25.el1 j s.tm) h | .goto _ => False
def F25.n4 (_ : WK) (_ QN : VK) (_ : EK) (_ : PK) (x0 x6 x8 x38 x39 x40 : AV) (h : AH) : Prop :=
pBin Tryd.prog .add 3 true x40 (.sc (.int .i64 1)) fun t12 =>
QN [x0, x6, x8, x38, x39, t12] h
def F25.f4 : KT := fun s h => F25.n4 W QR QN QE QP (s.tm 0) (s.tm 6) (s.tm 8) (s.tm 38) (s.tm 39) (s.tm 40) h
theorem F25.e4 : F25.cw W (F25.d [1, 1, 1, 1, 1, 1, 0, 1, 0, 0, 1, 1, 1]) (F25.q1 QR QN QE) QP s h = F25.f4 W QR QN QE QP s h := by kernel_rfl
def F25.n5 (W : WK) (QR QN : VK) (QE : EK) (QP : PK) (x0 x6 x8 x10 x38 x39 x40 : AV) (h : AH) : Prop :=
pFld (some 0) x10 fun t13 =>
lLd (some false) (some 1) t13 h fun t14 _ =>
pBin Tryd.prog .add 9 true t14 (.sc (.string ⟨#[91]⟩)) fun t16 =>
pFld (some 1) x10 fun t17 =>
lLd (some false) (some 1) t17 h fun t18 _ =>
aCall Tryd.prog noW 47 [t18] h (fun t20 h21 =>
pBin Tryd.prog .add 9 false t16 t20 fun t22 =>
pBin Tryd.prog .add 9 true t22 (.sc (.string ⟨#[93]⟩)) fun t23 =>
eBSl (some (1, 9, [.string ⟨#[]⟩])) 1 [(0, t23)] h21 fun t24 h25 =>
eApp (some (1, 16, 9)) x8 t24 h25 W fun t26 h27 =>
F25.n4 W QR QN QE QP x0 x6 t26 x38 x39 x40 h27) QP
def F25.f5 : KT := fun s h => F25.n5 W QR QN QE QP (s.tm 0) (s.tm 6) (s.tm 8) (s.tm 10) (s.tm 38) (s.tm 39) (s.tm 40) h
theorem F25.e5 : evG Tryd.prog 74 (puW [6] fun _ => W) nobody (kP QP) (regOps (F25.d [1, 1, 1, 1, 1, 1, 0, 1, 0, 0, 1, 1, 0, 0, 1, 1, 0])) (F25.g1.drop 0) ((blockQ 1 (thenQ (F25.f4 W QR QN QE QP) (F25.q1 QR QN QE))) .normal) s h = F25.f5 W QR QN QE QP s h := nd_g (is := isAt F25.g1 0) (rest := F25.g1.drop 1) (by kernel_rfl) (fun _ _ => rfl) (by kernel_rfl)
theorem F25.o1 : F25.cw W (F25.d [1, 1, 1, 1, 1, 1, 0, 1, 0, 0, 1, 1, 0, 0, 1, 1, 0]) (blockQ 1 (thenQ (F25.f4 W QR QN QE QP) (F25.q1 QR QN QE))) QP s h = F25.f5 W QR QN QE QP s h := nd_groups_pu (id := 13) (draw := true) (ops := (regOps (F25.d [1, 1, 1, 1, 1, 1, 0, 1, 0, 0, 1, 1, 0, 0, 1, 1, 0]))) (gs := F25.g1.drop 0) (by kernel_rfl) (by kernel_rfl) (F25.e5 W QR QN QE QP s h)
def F25.n6 (W : WK) (QR QN : VK) (QE : EK) (QP : PK) (x0 x6 x8 x10 x38 x39 x40 x46 : AV) (h : AH) : Prop :=
aIf x46 (
F25.n5 W QR QN QE QP x0 x6 x8 x10 x38 x39 x40 h) (
pFld (some 0) x10 fun t28 =>
lLd (some false) (some 1) t28 h fun t29 _ =>
eBSl (some (1, 9, [.string ⟨#[]⟩])) 1 [(0, t29)] h fun t31 h32 =>
eApp (some (1, 16, 9)) x8 t31 h32 W fun t33 h34 =>
F25.n4 W QR QN QE QP x0 x6 t33 x38 x39 x40 h34)
def F25.f6 : KT := fun s h => F25.n6 W QR QN QE QP (s.tm 0) (s.tm 6) (s.tm 8) (s.tm 10) (s.tm 38) (s.tm 39) (s.tm 40) (s.tm 46) h
theorem F25.e6 : F25.cw W (F25.d [1, 1, 1, 1, 1, 1, 0, 1, 0, 0, 1, 1, 0, 0, 1, 1]) (blockQ 1 (thenQ (F25.f4 W QR QN QE QP) (F25.q1 QR QN QE))) QP s h = F25.f6 W QR QN QE QP s h := nd_cond (o := (.tmp 46)) (a := (F25.d [1, 1, 1, 1, 1, 1, 0, 1, 0, 0, 1, 1, 0, 0, 1, 1, 0])) (b := (F25.d [1, 1, 1, 1, 1, 1, 0, 1, 0, 0, 1, 1, 0, 0, 1, 1, 1])) (by kernel_rfl) (F25.o1 W QR QN QE QP s h) rfl (by kernel_rfl)
def F25.n7 (W : WK) (QR QN : VK) (QE : EK) (QP : PK) (x0 x6 x8 x10 x38 x39 x40 : AV) (h : AH) : Prop :=
pFld (some 1) x10 fun t35 =>
lLd (some false) (some 1) t35 h fun t36 _ =>
pBin Tryd.prog .geq 3 true t36 (.sc (.int .i64 0)) fun t38 =>
F25.n6 W QR QN QE QP x0 x6 x8 x10 x38 x39 x40 t38 h
def F25.f7 : KT := fun s h => F25.n7 W QR QN QE QP (s.tm 0) (s.tm 6) (s.tm 8) (s.tm 10) (s.tm 38) (s.tm 39) (s.tm 40) h
theorem F25.e7 : F25.cw W (F25.d [1, 1, 1, 1, 1, 1, 0, 1, 0, 0, 1, 1, 0, 0, 1]) (blockQ 1 (thenQ (F25.f4 W QR QN QE QP) (F25.q1 QR QN QE))) QP s h = F25.f7 W QR QN QE QP s h := nd_seq (a := (F25.d [1, 1, 1, 1, 1, 1, 0, 1, 0, 0, 1, 1, 0, 0, 1, 0])) (b := (F25.d [1, 1, 1, 1, 1, 1, 0, 1, 0, 0, 1, 1, 0, 0, 1, 1])) (by kernel_rfl) (F25.e6 W QR QN QE QP) (by kernel_rfl)
def F25.n8 (W : WK) (QR QN : VK) (QE : EK) (QP : PK) (x0 x6 x8 x38 x39 x40 : AV) (h : AH) : Prop :=
pIxA (some (2, none)) x38 x40 fun t39 =>
lLd (some true) (some 2) t39 h fun t40 _ =>
eAlloc (some [.string ⟨#[]⟩, .int .i64 0]) 2 41 h fun t42 h43 =>
eStore (some 2) t42 t40 h43 W fun h44 =>
F25.n7 W QR QN QE QP x0 x6 x8 t42 x38 x39 x40 h44
def F25.f8 : KT := fun s h => F25.n8 W QR QN QE QP (s.tm 0) (s.tm 6) (s.tm 8) (s.tm 38) (s.tm 39) (s.tm 40) h
theorem F25.e8 : F25.cw W (F25.d [1, 1, 1, 1, 1, 1, 0, 1, 0, 0, 1, 1, 0, 0]) (blockQ 1 (thenQ (F25.f4 W QR QN QE QP) (F25.q1 QR QN QE))) QP s h = F25.f8 W QR QN QE QP s h := nd_seq (a := (F25.d [1, 1, 1, 1, 1, 1, 0, 1, 0, 0, 1, 1, 0, 0, 0])) (b := (F25.d [1, 1, 1, 1, 1, 1, 0, 1, 0, 0, 1, 1, 0, 0, 1])) (by kernel_rfl) (F25.e7 W QR QN QE QP) (by kernel_rfl)
theorem F25.o2 : F25.cw W (F25.d [1, 1, 1, 1, 1, 1, 0, 1, 0, 0, 1, 1, 0]) (thenQ (F25.f4 W QR QN QE QP) (F25.q1 QR QN QE)) QP s h = F25.f8 W QR QN QE QP s h := nd_block (a := (F25.d [1, 1, 1, 1, 1, 1, 0, 1, 0, 0, 1, 1, 0, 0])) (by kernel_rfl) (F25.e8 W QR QN QE QP s h)
theorem F25.o3 : F25.cw W (F25.d [1, 1, 1, 1, 1, 1, 0, 1, 0, 0, 1, 1]) (F25.q1 QR QN QE) QP s h = F25.f8 W QR QN QE QP s h := nd_seq (a := (F25.d [1, 1, 1, 1, 1, 1, 0, 1, 0, 0, 1, 1, 0])) (b := (F25.d [1, 1, 1, 1, 1, 1, 0, 1, 0, 0, 1, 1, 1])) (by kernel_rfl) (F25.e4 W QR QN QE QP) (F25.o2 W QR QN QE QP s h)
def F25.n9 (W : WK) (QR QN : VK) (QE : EK) (QP : PK) (x0 x6 x8 x38 x39 x40 x41 : AV) (h : AH) : Prop :=
aIf x41 (
F25.n8 W QR QN QE QP x0 x6 x8 x38 x39 x40 h) (
QE 0 [x0, x6, x8] h)
def F25.f9 : KT := fun s h => F25.n9 W QR QN QE QP (s.tm 0) (s.tm 6) (s.tm 8) (s.tm 38) (s.tm 39) (s.tm 40) (s.tm 41) h
theorem F25.e9 : F25.cw W (F25.d [1, 1, 1, 1, 1, 1, 0, 1, 0, 0, 1, 0]) (thenQ (F25.f8 W QR QN QE QP) (F25.q1 QR QN QE)) QP s h = F25.f9 W QR QN QE QP s h := nd_cond (o := (.tmp 41)) (a := (F25.d [1, 1, 1, 1, 1, 1, 0, 1, 0, 0, 1, 0, 0])) (b := (F25.d [1, 1, 1, 1, 1, 1, 0, 1, 0, 0, 1, 0, 1])) (by kernel_rfl) rfl rfl (by kernel_rfl)
theorem F25.o4 : F25.cw W (F25.d [1, 1, 1, 1, 1, 1, 0, 1, 0, 0, 1]) (F25.q1 QR QN QE) QP s h = F25.f9 W QR QN QE QP s h := nd_seq (a := (F25.d [1, 1, 1, 1, 1, 1, 0, 1, 0, 0, 1, 0])) (b := (F25.d [1, 1, 1, 1, 1, 1, 0, 1, 0, 0, 1, 1])) (by kernel_rfl) (F25.o3 W QR QN QE QP) (F25.e9 W QR QN QE QP s h)
def F25.n10 (W : WK) (QR QN : VK) (QE : EK) (QP : PK) (x0 x6 x8 x38 x39 x40 : AV) (h : AH) : Prop :=
pBin Tryd.prog .lss 3 false x40 x39 fun t45 =>
F25.n9 W QR QN QE QP x0 x6 x8 x38 x39 x40 t45 h
def F25.f10 : KT := fun s h => F25.n10 W QR QN QE QP (s.tm 0) (s.tm 6) (s.tm 8) (s.tm 38) (s.tm 39) (s.tm 40) h
theorem F25.e10 : F25.cw W (F25.d [1, 1, 1, 1, 1, 1, 0, 1, 0, 0]) (F25.q1 QR QN QE) QP s h = F25.f10 W QR QN QE QP s h := nd_seq (a := (F25.d [1, 1, 1, 1, 1, 1, 0, 1, 0, 0, 0])) (b := (F25.d [1, 1, 1, 1, 1, 1, 0, 1, 0, 0, 1])) (by kernel_rfl) (F25.o4 W QR QN QE QP) (by kernel_rfl)
noncomputable def F25.c1 : Code := (F25.d [1, 1, 1, 1, 1, 1, 0, 1, 0, 0])
theorem F25.l1 : aw Tryd.prog 74 W F25.pl F25.c1 (F25.q1 QR QN QE) (kP QP) s h = F25.f10 W QR QN QE QP s h := F25.e10 W QR QN QE QP s h
def F25.g1_ (W : WK) (QR QN : VK) (QE : EK) (QP : PK) : VK → VK := fun QN' vs h => F25.n10 W QR QN' (fun (i : Nat) (vs : List AV) (h : AH) => if i = 0 then F25.n3 W QR QN QE QP (vs.getD 0 noA) (vs.getD 1 noA) (vs.getD 2 noA) h else QE i vs h) QP (vs.getD 0 noA) (vs.getD 1 noA) (vs.getD 2 noA) (vs.getD 3 noA) (vs.getD 4 noA) (vs.getD 5 noA) h
theorem F25.p1 {Kn : VK} {KQ : KT} (hK : ∀ s h, KQ s h = Kn [s.tm 0, s.tm 6, s.tm 8, s.tm 38, s.tm 39, s.tm 40] h) : thenQ KQ (blockQ 0 (thenQ (F25.f3 W QR QN QE QP) (F25.q0 QR QN QE))) = F25.q1 QR Kn (fun (i : Nat) (vs : List AV) (h : AH) => if i = 0 then F25.n3 W QR QN QE QP (vs.getD 0 noA) (vs.getD 1 noA) (vs.getD 2 noA) h else QE i vs h) := by
  funext x s h
  cases x with
  | normal => exact hK s h
  | ret => kernel_rfl
  | goto l => kernel_rfl
  | exit j =>
    by_cases h0 : j = 0
    · subst h0; kernel_rfl
    simp only [thenQ, blockQ, noGotoQ, if_neg h0, F25.q1, F25.el1, F25.q0, F25.el0]
def F25.n11 (W : WK) (QR QN : VK) (QE : EK) (QP : PK) (x0 x6 x8 x38 x39 x40 : AV) (h : AH) : Prop :=
vLoop (F25.g1_ W QR QN QE QP) [x0, x6, x8, x38, x39, x40] h
def F25.f11 : KT := fun s h => F25.n11 W QR QN QE QP (s.tm 0) (s.tm 6) (s.tm 8) (s.tm 38) (s.tm 39) (s.tm 40) h
theorem F25.e11 : F25.cw W (F25.d [1, 1, 1, 1, 1, 1, 0, 1, 0]) (blockQ 0 (thenQ (F25.f3 W QR QN QE QP) (F25.q0 QR QN QE))) QP s h = F25.f11 W QR QN QE QP s h := (nd_loop (a := F25.c1) (by kernel_rfl)).trans (vloopD (L := fun tm => [tm 0, tm 6, tm 8, tm 38, tm 39, tm 40]) (G := F25.g1_ W QR QN QE QP) (fun Kn KQ hK s h => (congrArg (fun q => aw Tryd.prog 74 W F25.pl F25.c1 q (kP QP) s h) (F25.p1 W QR QN QE QP hK)).trans (F25.l1 W QR Kn (fun (i : Nat) (vs : List AV) (h : AH) => if i = 0 then F25.n3 W QR QN QE QP (vs.getD 0 noA) (vs.getD 1 noA) (vs.getD 2 noA) h else QE i vs h) QP s h)) s h)
theorem F25.o5 : F25.cw W (F25.d [1, 1, 1, 1, 1, 1, 0, 1]) (thenQ (F25.f3 W QR QN QE QP) (F25.q0 QR QN QE)) QP s h = F25.f11 W QR QN QE QP s h := nd_block (a := (F25.d [1, 1, 1, 1, 1, 1, 0, 1, 0])) (by kernel_rfl) (F25.e11 W QR QN QE QP s h)
def F25.n12 (W : WK) (QR QN : VK) (QE : EK) (QP : PK) (x0 x5 x6 x8 : AV) (h : AH) : Prop :=
pFld (some 2) x5 fun t46 =>
lLd (some false) (some 1) t46 h fun t47 _ =>
(strArg t47 = false) ∧ pLen t47 fun t49 =>
F25.n11 W QR QN QE QP x0 x6 x8 t47 t49 (.sc (.int .i64 0)) h
def F25.f12 : KT := fun s h => F25.n12 W QR QN QE QP (s.tm 0) (s.tm 5) (s.tm 6) (s.tm 8) h
theorem F25.e12 : F25.cw W (F25.d [1, 1, 1, 1, 1, 1, 0]) (thenQ (F25.f3 W QR QN QE QP) (F25.q0 QR QN QE)) QP s h = F25.f12 W QR QN QE QP s h := nd_seq (a := (F25.d [1, 1, 1, 1, 1, 1, 0, 0])) (b := (F25.d [1, 1, 1, 1, 1, 1, 0, 1])) (by kernel_rfl) (F25.o5 W QR QN QE QP) (by kernel_rfl)
theorem F25.o6 : F25.cw W (F25.d [1, 1, 1, 1, 1, 1]) (F25.q0 QR QN QE) QP s h = F25.f12 W QR QN QE QP s h := nd_seq (a := (F25.d [1, 1, 1, 1, 1, 1, 0])) (b := (F25.d [1, 1, 1, 1, 1, 1, 1])) (by kernel_rfl) (F25.e3 W QR QN QE QP) (F25.e12 W QR QN QE QP s h)
def F25.n13 (W : WK) (QR QN : VK) (QE : EK) (QP : PK) (x0 x5 x6 x8 x30 : AV) (h : AH) : Prop :=
aIf x30 (
pFld (some 3) x5 fun t50 =>
lLd (some false) (some 1) t50 h fun t51 _ =>
aCall Tryd.prog W 47 [t51] h (fun t53 h54 =>
eBSl (some (1, 9, [.string ⟨#[]⟩])) 1 [(0, t53)] h54 fun t55 h56 =>
eApp (some (1, 16, 9)) x8 t55 h56 W fun t57 h58 =>
F25.n12 W QR QN QE QP x0 x5 x6 t57 h58) QP) (
F25.n12 W QR QN QE QP x0 x5 x6 x8 h)
def F25.f13 : KT := fun s h => F25.n13 W QR QN QE QP (s.tm 0) (s.tm 5) (s.tm 6) (s.tm 8) (s.tm 30) h
theorem F25.e13 : F25.cw W (F25.d [1, 1, 1, 1, 1, 0, 1]) (thenQ (F25.f12 W QR QN QE QP) (F25.q0 QR QN QE)) QP s h = F25.f13 W QR QN QE QP s h := nd_cond (o := (.tmp 30)) (a := (F25.d [1, 1, 1, 1, 1, 0, 1, 0])) (b := (F25.d [1, 1, 1, 1, 1, 0, 1, 1])) (by kernel_rfl) rfl rfl (by kernel_rfl)
def F25.n14 (W : WK) (QR QN : VK) (QE : EK) (QP : PK) (x0 x5 x6 x8 : AV) (h : AH) : Prop :=
pFld (some 1) x6 fun t59 =>
lLd (some false) (some 1) t59 h fun t60 _ =>
F25.n13 W QR QN QE QP x0 x5 x6 x8 t60 h
def F25.f14 : KT := fun s h => F25.n14 W QR QN QE QP (s.tm 0) (s.tm 5) (s.tm 6) (s.tm 8) h
theorem F25.e14 : F25.cw W (F25.d [1, 1, 1, 1, 1, 0]) (thenQ (F25.f12 W QR QN QE QP) (F25.q0 QR QN QE)) QP s h = F25.f14 W QR QN QE QP s h := nd_seq (a := (F25.d [1, 1, 1, 1, 1, 0, 0])) (b := (F25.d [1, 1, 1, 1, 1, 0, 1])) (by kernel_rfl) (F25.e13 W QR QN QE QP) (by kernel_rfl)
theorem F25.o7 : F25.cw W (F25.d [1, 1, 1, 1, 1]) (F25.q0 QR QN QE) QP s h = F25.f14 W QR QN QE QP s h := nd_seq (a := (F25.d [1, 1, 1, 1, 1, 0])) (b := (F25.d [1, 1, 1, 1, 1, 1])) (by kernel_rfl) (F25.o6 W QR QN QE QP) (F25.e14 W QR QN QE QP s h)
def F25.n15 (W : WK) (QR QN : VK) (QE : EK) (QP : PK) (x0 x5 x6 x8 x23 : AV) (h : AH) : Prop :=
aIf x23 (
pFld (some 1) x5 fun t62 =>
lLd (some false) (some 1) t62 h fun t63 _ =>
eBSl (some (1, 9, [.string ⟨#[]⟩])) 1 [(0, t63)] h fun t65 h66 =>
eApp (some (1, 16, 9)) x8 t65 h66 W fun t67 h68 =>
F25.n14 W QR QN QE QP x0 x5 x6 t67 h68) (
F25.n14 W QR QN QE QP x0 x5 x6 x8 h)
def F25.f15 : KT := fun s h => F25.n15 W QR QN QE QP (s.tm 0) (s.tm 5) (s.tm 6) (s.tm 8) (s.tm 23) h
theorem F25.e15 : F25.cw W (F25.d [1, 1, 1, 1, 0, 1]) (thenQ (F25.f14 W QR QN QE QP) (F25.q0 QR QN QE)) QP s h = F25.f15 W QR QN QE QP s h := nd_cond (o := (.tmp 23)) (a := (F25.d [1, 1, 1, 1, 0, 1, 0])) (b := (F25.d [1, 1, 1, 1, 0, 1, 1])) (by kernel_rfl) rfl rfl (by kernel_rfl)
def F25.n16 (W : WK) (QR QN : VK) (QE : EK) (QP : PK) (x0 x5 x6 x8 : AV) (h : AH) : Prop :=
pFld (some 0) x6 fun t69 =>
lLd (some false) (some 1) t69 h fun t70 _ =>
F25.n15 W QR QN QE QP x0 x5 x6 x8 t70 h
def F25.f16 : KT := fun s h => F25.n16 W QR QN QE QP (s.tm 0) (s.tm 5) (s.tm 6) (s.tm 8) h
theorem F25.e16 : F25.cw W (F25.d [1, 1, 1, 1, 0]) (thenQ (F25.f14 W QR QN QE QP) (F25.q0 QR QN QE)) QP s h = F25.f16 W QR QN QE QP s h := nd_seq (a := (F25.d [1, 1, 1, 1, 0, 0])) (b := (F25.d [1, 1, 1, 1, 0, 1])) (by kernel_rfl) (F25.e15 W QR QN QE QP) (by kernel_rfl)
theorem F25.o8 : F25.cw W (F25.d [1, 1, 1, 1]) (F25.q0 QR QN QE) QP s h = F25.f16 W QR QN QE QP s h := nd_seq (a := (F25.d [1, 1, 1, 1, 0])) (b := (F25.d [1, 1, 1, 1, 1])) (by kernel_rfl) (F25.o7 W QR QN QE QP) (F25.e16 W QR QN QE QP s h)
def F25.n17 (W : WK) (QR QN : VK) (QE : EK) (QP : PK) (x0 x5 x6 x8 x16 : AV) (h : AH) : Prop :=
aIf x16 (
pFld (some 0) x5 fun t72 =>
lLd (some false) (some 1) t72 h fun t73 _ =>
eBSl (some (1, 9, [.string ⟨#[]⟩])) 1 [(0, t73)] h fun t75 h76 =>
eApp (some (1, 16, 9)) x8 t75 h76 W fun t77 h78 =>
F25.n16 W QR QN QE QP x0 x5 x6 t77 h78) (
F25.n16 W QR QN QE QP x0 x5 x6 x8 h)
def F25.f17 : KT := fun s h => F25.n17 W QR QN QE QP (s.tm 0) (s.tm 5) (s.tm 6) (s.tm 8) (s.tm 16) h
theorem F25.e17 : F25.cw W (F25.d [1, 1, 1, 0, 1]) (thenQ (F25.f16 W QR QN QE QP) (F25.q0 QR QN QE)) QP s h = F25.f17 W QR QN QE QP s h := nd_cond (o := (.tmp 16)) (a := (F25.d [1, 1, 1, 0, 1, 0])) (b := (F25.d [1, 1, 1, 0, 1, 1])) (by kernel_rfl) rfl rfl (by kernel_rfl)
def F25.n18 (W : WK) (QR QN : VK) (QE : EK) (QP : PK) (x0 x5 x6 x8 : AV) (h : AH) : Prop :=
pFld (some 0) x5 fun t79 =>
lLd (some false) (some 1) t79 h fun t80 _ =>
pBin Tryd.prog .neq 9 true t80 (.sc (.string ⟨#[117, 115, 101]⟩)) fun t82 =>
F25.n17 W QR QN QE QP x0 x5 x6 x8 t82 h
def F25.f18 : KT := fun s h => F25.n18 W QR QN QE QP (s.tm 0) (s.tm 5) (s.tm 6) (s.tm 8) h
theorem F25.e18 : F25.cw W (F25.d [1, 1, 1, 0]) (thenQ (F25.f16 W QR QN QE QP) (F25.q0 QR QN QE)) QP s h = F25.f18 W QR QN QE QP s h := nd_seq (a := (F25.d [1, 1, 1, 0, 0])) (b := (F25.d [1, 1, 1, 0, 1])) (by kernel_rfl) (F25.e17 W QR QN QE QP) (by kernel_rfl)
theorem F25.o9 : F25.cw W (F25.d [1, 1, 1]) (F25.q0 QR QN QE) QP s h = F25.f18 W QR QN QE QP s h := nd_seq (a := (F25.d [1, 1, 1, 0])) (b := (F25.d [1, 1, 1, 1])) (by kernel_rfl) (F25.o8 W QR QN QE QP) (F25.e18 W QR QN QE QP s h)
def F25.n19 (W : WK) (QR QN : VK) (QE : EK) (QP : PK) (x0 x5 x6 : AV) (h : AH) : Prop :=
F25.n18 W QR QN QE QP x0 x5 x6 (.sc (.slice none 0 0)) h
def F25.f19 : KT := fun s h => F25.n19 W QR QN QE QP (s.tm 0) (s.tm 5) (s.tm 6) h
theorem F25.e19 : F25.cw W (F25.d [1, 1]) (F25.q0 QR QN QE) QP s h = F25.f19 W QR QN QE QP s h := nd_seq (a := (F25.d [1, 1, 0])) (b := (F25.d [1, 1, 1])) (by kernel_rfl) (F25.o9 W QR QN QE QP) (by kernel_rfl)
def F25.n20 (W : WK) (QR QN : VK) (QE : EK) (QP : PK) (x0 x3 x5 x6 : AV) (h : AH) : Prop :=
aCall Tryd.prog W 26 [x0, x3] h (fun t83 h84 =>
F25.n19 W QR QN QE QP x0 x5 x6 h84) QP
def F25.f20 : KT := fun s h => F25.n20 W QR QN QE QP (s.tm 0) (s.tm 3) (s.tm 5) (s.tm 6) h
theorem F25.e20 : F25.cw W (F25.d [1]) (F25.q0 QR QN QE) QP s h = F25.f20 W QR QN QE QP s h := nd_seq (a := (F25.d [1, 0])) (b := (F25.d [1, 1])) (by kernel_rfl) (F25.e19 W QR QN QE QP) (by kernel_rfl)
def F25.n21 (W : WK) (QR QN : VK) (QE : EK) (QP : PK) (x0 x1 x2 x3 : AV) (h : AH) : Prop :=
eBox 6 39 x1 h fun t85 h86 =>
eBox 4 67 x2 h86 fun t87 h88 =>
F25.n20 W QR QN QE QP x0 x3 t85 t87 h88
def F25.f21 : KT := fun s h => F25.n21 W QR QN QE QP (s.tm 0) (s.tm 1) (s.tm 2) (s.tm 3) h
theorem F25.e21 : F25.cw W (F25.d []) (F25.q0 QR QN QE) QP s h = F25.f21 W QR QN QE QP s h := nd_seq (a := (F25.d [0])) (b := (F25.d [1])) (by kernel_rfl) (F25.e20 W QR QN QE QP) (by kernel_rfl)
end
set_option maxRecDepth 100000 in
theorem F25.callsN {x0 x1 x2 x3 : AV} {h : AH} {M : Nat → Prop} {R : AE → AH → Prop} (hp : F25.n21 (fun id => M id ∨ h.next ≤ id) (retV Tryd.prog [] R) (retV Tryd.prog [] R) (fun _ _ _ => False) (fun v h => R (.pan v) h) x0 x1 x2 x3 h) : ACalls Tryd.prog 25 [x0, x1, x2, x3] h M R :=
  acalls_of (c := F25.code) Tryd.mixed Tryd.func25 (by kernel_rfl) (Nat.le_of_ble_eq_true rfl) F25.ok (by rw [show Tryd.f25.ntmps = 74 from rfl, show Tryd.f25.results.toList = [] from rfl]; exact body_D (q := F25.q0 (retV Tryd.prog [] R) (retV Tryd.prog [] R) (fun _ _ _ => False)) (by kernel_rfl) (fun _ _ => rfl) (fun _ _ => rfl) (fun _ _ _ h => h) (fun _ _ _ h => h) rfl (Eq.mpr (F25.e21 (fun id => M id ∨ h.next ≤ id) (retV Tryd.prog [] R) (retV Tryd.prog [] R) (fun _ _ _ => False) (fun v h => R (.pan v) h) (s0 [x0, x1, x2, x3]) h) hp))
attribute [simp] F25.n1 F25.n2 F25.n3 F25.n4 F25.n5 F25.n6 F25.n7 F25.n8 F25.n9 F25.n10 F25.n12 F25.n13 F25.n14 F25.n15 F25.n16 F25.n17 F25.n18 F25.n19 F25.n20 F25.n21

section
variable (W : Nat → Prop) (QR QN : VK) (QE : Nat → VK) (QP : AV → AH → Prop) (s : St) (h : AH)
noncomputable def F26.code : Code := Tryd.f26.body.getD .skip
def F26.pl : Plans := []
theorem F26.ok : okCode Tryd.prog F26.pl F26.code = true := by kernel_rfl
noncomputable abbrev F26.d (p : List Nat) : Code := Code.at F26.code p
abbrev F26.cw (W : Nat → Prop) (c : Code) (q : Post) (QP : AV → AH → Prop) : KT := Go.Ab.aw Tryd.prog 8 W F26.pl c q (kP QP)
def F26.el0 (_ : Nat) (_ : Nat → AV) : List AV := []
def F26.q0 (QR QN : VK) (QE : Nat → VK) : Post := fun x s h => match x with | .normal => QN [] h | .ret => QR [] h | .exit j => QE j (F26.el0 j s.tm) h | .goto _ => False
def F26.n1 (W : WK) (_ QN : VK) (_ : EK) (QP : PK) (x0 x1 : AV) (h : AH) : Prop :=
aCall Tryd.prog W 49 [(.sc (.string ⟨#[32, 32]⟩)), x1] h (fun t1 h2 =>
aCall Tryd.prog W 27 [x0, t1] h2 (fun t3 h4 =>
QN [] h4) QP) QP
def F26.f1 : KT := fun s h => F26.n1 W QR QN QE QP (s.tm 0) (s.tm 1) h
theorem F26.e1 : F26.cw W (F26.d []) (F26.q0 QR QN QE) QP s h = F26.f1 W QR QN QE QP s h := by kernel_rfl
end
set_option maxRecDepth 100000 in
theorem F26.callsN {x0 x1 : AV} {h : AH} {M : Nat → Prop} {R : AE → AH → Prop} (hp : F26.n1 (fun id => M id ∨ h.next ≤ id) (retV Tryd.prog [] R) (retV Tryd.prog [] R) (fun _ _ _ => False) (fun v h => R (.pan v) h) x0 x1 h) : ACalls Tryd.prog 26 [x0, x1] h M R :=
  acalls_of (c := F26.code) Tryd.mixed Tryd.func26 (by kernel_rfl) (Nat.le_of_ble_eq_true rfl) F26.ok (by rw [show Tryd.f26.ntmps = 8 from rfl, show Tryd.f26.results.toList = [] from rfl]; exact body_D (q := F26.q0 (retV Tryd.prog [] R) (retV Tryd.prog [] R) (fun _ _ _ => False)) (by kernel_rfl) (fun _ _ => rfl) (fun _ _ => rfl) (fun _ _ _ h => h) (fun _ _ _ h => h) rfl (Eq.mpr (F26.e1 (fun id => M id ∨ h.next ≤ id) (retV Tryd.prog [] R) (retV Tryd.prog [] R) (fun _ _ _ => False) (fun v h => R (.pan v) h) (s0 [x0, x1]) h) hp))
attribute [simp] F26.n1

section
variable (W : Nat → Prop) (QR QN : VK) (QE : Nat → VK) (QP : AV → AH → Prop) (s : St) (h : AH)
noncomputable def F27.code : Code := Tryd.f27.body.getD .skip
def F27.pl : Plans := []
theorem F27.ok : okCode Tryd.prog F27.pl F27.code = true := by kernel_rfl
noncomputable abbrev F27.d (p : List Nat) : Code := Code.at F27.code p
abbrev F27.cw (W : Nat → Prop) (c : Code) (q : Post) (QP : AV → AH → Prop) : KT := Go.Ab.aw Tryd.prog 14 W F27.pl c q (kP QP)
def F27.el0 (_ : Nat) (_ : Nat → AV) : List AV := []
def F27.q0 (QR QN : VK) (QE : Nat → VK) : Post := fun x s h => match x with | .normal => QN [] h | .ret => QR [] h | .exit j => QE j (F27.el0 j s.tm) h | .goto _ => False
def F27.n1 (W : WK) (_ QN : VK) (_ : EK) (QP : PK) (x0 x1 x8 : AV) (h : AH) : Prop :=
aIf x8 (
pNil x0 fun t1 =>
pFld (some 1) t1 fun t2 =>
aCall Tryd.prog W 50 [t2, x1] h (fun t3 h4 =>
QN [] h4) QP) (
QN [] h)
def F27.f1 : KT := fun s h => F27.n1 W QR QN QE QP (s.tm 0) (s.tm 1) (s.tm 8) h
theorem F27.e1 : F27.cw W (F27.d [1]) (F27.q0 QR QN QE) QP s h = F27.f1 W QR QN QE QP s h := nd_cond (o := (.tmp 8)) (a := (F27.d [1, 0])) (b := (F27.d [1, 1])) (by kernel_rfl) rfl rfl (by kernel_rfl)
def F27.n2 (W : WK) (QR QN : VK) (QE : EK) (QP : PK) (x0 x1 : AV) (h : AH) : Prop :=
pNil x0 fun t5 =>
pFld (some 1) t5 fun t6 =>
aCall Tryd.prog W 16 [t6] h (fun t7 h8 =>
pBin Tryd.prog .leq 3 true t7 (.sc (.int .i64 65536)) fun t9 =>
F27.n1 W QR QN QE QP x0 x1 t9 h8) QP
def F27.f2 : KT := fun s h => F27.n2 W QR QN QE QP (s.tm 0) (s.tm 1) h
theorem F27.e2 : F27.cw W (F27.d []) (F27.q0 QR QN QE) QP s h = F27.f2 W QR QN QE QP s h := nd_seq (a := (F27.d [0])) (b := (F27.d [1])) (by kernel_rfl) (F27.e1 W QR QN QE QP) (by kernel_rfl)
end
set_option maxRecDepth 100000 in
theorem F27.callsN {x0 x1 : AV} {h : AH} {M : Nat → Prop} {R : AE → AH → Prop} (hp : F27.n2 (fun id => M id ∨ h.next ≤ id) (retV Tryd.prog [] R) (retV Tryd.prog [] R) (fun _ _ _ => False) (fun v h => R (.pan v) h) x0 x1 h) : ACalls Tryd.prog 27 [x0, x1] h M R :=
  acalls_of (c := F27.code) Tryd.mixed Tryd.func27 (by kernel_rfl) (Nat.le_of_ble_eq_true rfl) F27.ok (by rw [show Tryd.f27.ntmps = 14 from rfl, show Tryd.f27.results.toList = [] from rfl]; exact body_D (q := F27.q0 (retV Tryd.prog [] R) (retV Tryd.prog [] R) (fun _ _ _ => False)) (by kernel_rfl) (fun _ _ => rfl) (fun _ _ => rfl) (fun _ _ _ h => h) (fun _ _ _ h => h) rfl (Eq.mpr (F27.e2 (fun id => M id ∨ h.next ≤ id) (retV Tryd.prog [] R) (retV Tryd.prog [] R) (fun _ _ _ => False) (fun v h => R (.pan v) h) (s0 [x0, x1]) h) hp))
attribute [simp] F27.n1 F27.n2
end Go.Proofs.YthkkgbmjjpcfaaaDoor
namespace Go.Proofs.YthkkgbmjjpcfaaaDoor
open Go.Ab
section
variable (W : Nat → Prop) (QR QN : VK) (QE : Nat → VK) (QP : AV → AH → Prop) (s : St) (h : AH)
noncomputable def F6.code : Code := Tryd.f6.body.getD .skip
def F6.pl : Plans := []
theorem F6.ok : okCode Tryd.prog F6.pl F6.code = true := by kernel_rfl
noncomputable abbrev F6.d (p : List Nat) : Code := Code.at F6.code p
abbrev F6.cw (W : Nat → Prop) (c : Code) (q : Post) (QP : AV → AH → Prop) : KT := Go.Ab.aw Tryd.prog 41 W F6.pl c q (kP QP)
def F6.el0 (_ : Nat) (_ : Nat → AV) : List AV := []
def F6.q0 (QR QN : VK) (QE : Nat → VK) : Post := fun x s h => match x with | .normal => QN [s.tm 2] h | .ret => QR [s.tm 2] h | .exit j => QE j (F6.el0 j s.tm) h | .goto _ => False
def F6.n1 (_ : WK) (QR _ : VK) (_ : EK) (_ : PK) (h : AH) : Prop :=
QR [(.sc (.bool false))] h
def F6.f1 : KT := fun _ h => F6.n1 W QR QN QE QP h
theorem F6.e1 : F6.cw W (F6.d [1, 1, 1]) (F6.q0 QR QN QE) QP s h = F6.f1 W QR QN QE QP s h := nd_seq (a := (F6.d [1, 1, 1, 0])) (b := (F6.d [1, 1, 1, 1])) (by kernel_rfl) (fun _ _ => rfl) (by kernel_rfl)
def F6.el1 (j : Nat) (_ : Nat → AV) : List AV := if j = 0 then [] else []
def F6.q1 (QR QN : VK) (QE : Nat → VK) : Post := fun x s h => match x with | .normal => QN [s.tm 3, s.tm 8, s.tm 9, s.tm 10] h | .ret => QR [s.tm 2] h | .exit j => QE j (F6.el1 j s.tm) h | .goto _ => False
def F6.n2 (_ : WK) (_ QN : VK) (_ : EK) (_ : PK) (x3 x8 x9 x10 : AV) (h : AH) : Prop :=
pBin Tryd.prog .add 3 true x10 (.sc (.int .i64 1)) fun t1 =>
QN [x3, x8, x9, t1] h
def F6.f2 : KT := fun s h => F6.n2 W QR QN QE QP (s.tm 3) (s.tm 8) (s.tm 9) (s.tm 10) h
theorem F6.e2 : F6.cw W (F6.d [1, 1, 0, 1, 0, 0, 1, 1, 1]) (F6.q1 QR QN QE) QP s h = F6.f2 W QR QN QE QP s h := by kernel_rfl
def F6.n3 (_ : WK) (QR _ : VK) (_ : EK) (_ : PK) (h : AH) : Prop :=
QR [(.sc (.bool true))] h
def F6.f3 : KT := fun _ h => F6.n3 W QR QN QE QP h
theorem F6.e3 : F6.cw W (F6.d [1, 1, 0, 1, 0, 0, 1, 1, 0, 0, 1, 1, 1, 1, 0]) (blockQ 1 (thenQ (F6.f2 W QR QN QE QP) (F6.q1 QR QN QE))) QP s h = F6.f3 W QR QN QE QP s h := nd_seq (a := (F6.d [1, 1, 0, 1, 0, 0, 1, 1, 0, 0, 1, 1, 1, 1, 0, 0])) (b := (F6.d [1, 1, 0, 1, 0, 0, 1, 1, 0, 0, 1, 1, 1, 1, 0, 1])) (by kernel_rfl) (fun _ _ => rfl) (by kernel_rfl)
def F6.n4 (W : WK) (QR QN : VK) (QE : EK) (QP : PK) (x3 x8 x9 x10 x39 : AV) (h : AH) : Prop :=
aIf x39 (
F6.n3 W QR QN QE QP h) (
F6.n2 W QR QN QE QP x3 x8 x9 x10 h)
def F6.f4 : KT := fun s h => F6.n4 W QR QN QE QP (s.tm 3) (s.tm 8) (s.tm 9) (s.tm 10) (s.tm 39) h
theorem F6.e4 : F6.cw W (F6.d [1, 1, 0, 1, 0, 0, 1, 1, 0, 0, 1, 1, 1, 1]) (blockQ 1 (thenQ (F6.f2 W QR QN QE QP) (F6.q1 QR QN QE))) QP s h = F6.f4 W QR QN QE QP s h := nd_cond (o := (.tmp 39)) (a := (F6.d [1, 1, 0, 1, 0, 0, 1, 1, 0, 0, 1, 1, 1, 1, 0])) (b := (F6.d [1, 1, 0, 1, 0, 0, 1, 1, 0, 0, 1, 1, 1, 1, 1])) (by kernel_rfl) (F6.e3 W QR QN QE QP s h) rfl (by kernel_rfl)
def F6.n5 (W : WK) (QR QN : VK) (QE : EK) (QP : PK) (x3 x8 x9 x10 : AV) (h : AH) : Prop :=
pBin Tryd.prog .gtr 3 true x3 (.sc (.int .i64 16384)) fun t2 =>
F6.n4 W QR QN QE QP x3 x8 x9 x10 t2 h
def F6.f5 : KT := fun s h => F6.n5 W QR QN QE QP (s.tm 3) (s.tm 8) (s.tm 9) (s.tm 10) h
theorem F6.e5 : F6.cw W (F6.d [1, 1, 0, 1, 0, 0, 1, 1, 0, 0, 1, 1, 1]) (blockQ 1 (thenQ (F6.f2 W QR QN QE QP) (F6.q1 QR QN QE))) QP s h = F6.f5 W QR QN QE QP s h := nd_seq (a := (F6.d [1, 1, 0, 1, 0, 0, 1, 1, 0, 0, 1, 1, 1, 0])) (b := (F6.d [1, 1, 0, 1, 0, 0, 1, 1, 0, 0, 1, 1, 1, 1])) (by kernel_rfl) (F6.e4 W QR QN QE QP) (by kernel_rfl)
def F6.el2 (j : Nat) (tm : Nat → AV) : List AV := if j = 2 then [tm 3, tm 8, tm 9, tm 10] else if j = 1 then [tm 3, tm 8, tm 9, tm 10] else F6.el1 j tm
def F6.q2 (QR QN : VK) (QE : Nat → VK) : Post := fun x s h => match x with | .normal => QN [s.tm 3, s.tm 8, s.tm 9, s.tm 10, s.tm 25, s.tm 26, s.tm 27] h | .ret => QR [s.tm 2] h | .exit j => QE j (F6.el2 j s.tm) h | .goto _ => False
def F6.n6 (_ : WK) (_ QN : VK) (_ : EK) (_ : PK) (x3 x8 x9 x10 x25 x26 x27 : AV) (h : AH) : Prop :=
pBin Tryd.prog .add 3 true x27 (.sc (.int .i64 1)) fun t3 =>
QN [x3, x8, x9, x10, x25, x26, t3] h
def F6.f6 : KT := fun s h => F6.n6 W QR QN QE QP (s.tm 3) (s.tm 8) (s.tm 9) (s.tm 10) (s.tm 25) (s.tm 26) (s.tm 27) h
theorem F6.e6 : F6.cw W (F6.d [1, 1, 0, 1, 0, 0, 1, 1, 0, 0, 1, 1, 0, 1, 0, 0, 1, 1, 1]) (F6.q2 QR QN QE) QP s h = F6.f6 W QR QN QE QP s h := by kernel_rfl
def F6.n7 (W : WK) (QR QN : VK) (QE : EK) (QP : PK) (x3 x7 x8 x9 x10 x25 x26 x27 : AV) (h : AH) : Prop :=
pFld (some 0) x7 fun t4 =>
lLd (some false) (some 1) t4 h fun t5 _ =>
(strArg t5 = true) ∧ pLen t5 fun t7 =>
pBin Tryd.prog .add 3 true t7 (.sc (.int .i64 8)) fun t8 =>
pBin Tryd.prog .add 3 false x3 t8 fun t9 =>
F6.n6 W QR QN QE QP t9 x8 x9 x10 x25 x26 x27 h
def F6.f7 : KT := fun s h => F6.n7 W QR QN QE QP (s.tm 3) (s.tm 7) (s.tm 8) (s.tm 9) (s.tm 10) (s.tm 25) (s.tm 26) (s.tm 27) h
theorem F6.e7 : F6.cw W (F6.d [1, 1, 0, 1, 0, 0, 1, 1, 0, 0, 1, 1, 0, 1, 0, 0, 1, 1, 0, 0, 1]) (blockQ 3 (thenQ (F6.f6 W QR QN QE QP) (F6.q2 QR QN QE))) QP s h = F6.f7 W QR QN QE QP s h := by kernel_rfl
def F6.n8 (W : WK) (QR QN : VK) (QE : EK) (QP : PK) (x3 x8 x9 x10 x25 x26 x27 : AV) (h : AH) : Prop :=
pIxA (some (2, none)) x25 x27 fun t10 =>
lLd (some true) (some 2) t10 h fun t11 _ =>
eAlloc (some [.string ⟨#[]⟩, .int .i64 0]) 2 41 h fun t13 h14 =>
eStore (some 2) t13 t11 h14 W fun h15 =>
F6.n7 W QR QN QE QP x3 t13 x8 x9 x10 x25 x26 x27 h15
def F6.f8 : KT := fun s h => F6.n8 W QR QN QE QP (s.tm 3) (s.tm 8) (s.tm 9) (s.tm 10) (s.tm 25) (s.tm 26) (s.tm 27) h
theorem F6.e8 : F6.cw W (F6.d [1, 1, 0, 1, 0, 0, 1, 1, 0, 0, 1, 1, 0, 1, 0, 0, 1, 1, 0, 0]) (blockQ 3 (thenQ (F6.f6 W QR QN QE QP) (F6.q2 QR QN QE))) QP s h = F6.f8 W QR QN QE QP s h := nd_seq (a := (F6.d [1, 1, 0, 1, 0, 0, 1, 1, 0, 0, 1, 1, 0, 1, 0, 0, 1, 1, 0, 0, 0])) (b := (F6.d [1, 1, 0, 1, 0, 0, 1, 1, 0, 0, 1, 1, 0, 1, 0, 0, 1, 1, 0, 0, 1])) (by kernel_rfl) (F6.e7 W QR QN QE QP) (by kernel_rfl)
theorem F6.o1 : F6.cw W (F6.d [1, 1, 0, 1, 0, 0, 1, 1, 0, 0, 1, 1, 0, 1, 0, 0, 1, 1, 0]) (thenQ (F6.f6 W QR QN QE QP) (F6.q2 QR QN QE)) QP s h = F6.f8 W QR QN QE QP s h := nd_block (a := (F6.d [1, 1, 0, 1, 0, 0, 1, 1, 0, 0, 1, 1, 0, 1, 0, 0, 1, 1, 0, 0])) (by kernel_rfl) (F6.e8 W QR QN QE QP s h)
theorem F6.o2 : F6.cw W (F6.d [1, 1, 0, 1, 0, 0, 1, 1, 0, 0, 1, 1, 0, 1, 0, 0, 1, 1]) (F6.q2 QR QN QE) QP s h = F6.f8 W QR QN QE QP s h := nd_seq (a := (F6.d [1, 1, 0, 1, 0, 0, 1, 1, 0, 0, 1, 1, 0, 1, 0, 0, 1, 1, 0])) (b := (F6.d [1, 1, 0, 1, 0, 0, 1, 1, 0, 0, 1, 1, 0, 1, 0, 0, 1, 1, 1])) (by kernel_rfl) (F6.e6 W QR QN QE QP) (F6.o1 W QR QN QE QP s h)
def F6.n9 (W : WK) (QR QN : VK) (QE : EK) (QP : PK) (x3 x8 x9 x10 x25 x26 x27 x28 : AV) (h : AH) : Prop :=
aIf x28 (
F6.n8 W QR QN QE QP x3 x8 x9 x10 x25 x26 x27 h) (
QE 2 [x3, x8, x9, x10] h)
def F6.f9 : KT := fun s h => F6.n9 W QR QN QE QP (s.tm 3) (s.tm 8) (s.tm 9) (s.tm 10) (s.tm 25) (s.tm 26) (s.tm 27) (s.tm 28) h
theorem F6.e9 : F6.cw W (F6.d [1, 1, 0, 1, 0, 0, 1, 1, 0, 0, 1, 1, 0, 1, 0, 0, 1, 0]) (thenQ (F6.f8 W QR QN QE QP) (F6.q2 QR QN QE)) QP s h = F6.f9 W QR QN QE QP s h := nd_cond (o := (.tmp 28)) (a := (F6.d [1, 1, 0, 1, 0, 0, 1, 1, 0, 0, 1, 1, 0, 1, 0, 0, 1, 0, 0])) (b := (F6.d [1, 1, 0, 1, 0, 0, 1, 1, 0, 0, 1, 1, 0, 1, 0, 0, 1, 0, 1])) (by kernel_rfl) rfl rfl (by kernel_rfl)
theorem F6.o3 : F6.cw W (F6.d [1, 1, 0, 1, 0, 0, 1, 1, 0, 0, 1, 1, 0, 1, 0, 0, 1]) (F6.q2 QR QN QE) QP s h = F6.f9 W QR QN QE QP s h := nd_seq (a := (F6.d [1, 1, 0, 1, 0, 0, 1, 1, 0, 0, 1, 1, 0, 1, 0, 0, 1, 0])) (b := (F6.d [1, 1, 0, 1, 0, 0, 1, 1, 0, 0, 1, 1, 0, 1, 0, 0, 1, 1])) (by kernel_rfl) (F6.o2 W QR QN QE QP) (F6.e9 W QR QN QE QP s h)
def F6.n10 (W : WK) (QR QN : VK) (QE : EK) (QP : PK) (x3 x8 x9 x10 x25 x26 x27 : AV) (h : AH) : Prop :=
pBin Tryd.prog .lss 3 false x27 x26 fun t16 =>
F6.n9 W QR QN QE QP x3 x8 x9 x10 x25 x26 x27 t16 h
def F6.f10 : KT := fun s h => F6.n10 W QR QN QE QP (s.tm 3) (s.tm 8) (s.tm 9) (s.tm 10) (s.tm 25) (s.tm 26) (s.tm 27) h
theorem F6.e10 : F6.cw W (F6.d [1, 1, 0, 1, 0, 0, 1, 1, 0, 0, 1, 1, 0, 1, 0, 0]) (F6.q2 QR QN QE) QP s h = F6.f10 W QR QN QE QP s h := nd_seq (a := (F6.d [1, 1, 0, 1, 0, 0, 1, 1, 0, 0, 1, 1, 0, 1, 0, 0, 0])) (b := (F6.d [1, 1, 0, 1, 0, 0, 1, 1, 0, 0, 1, 1, 0, 1, 0, 0, 1])) (by kernel_rfl) (F6.o3 W QR QN QE QP) (by kernel_rfl)
noncomputable def F6.c2 : Code := (F6.d [1, 1, 0, 1, 0, 0, 1, 1, 0, 0, 1, 1, 0, 1, 0, 0])
theorem F6.l2 : aw Tryd.prog 41 W F6.pl F6.c2 (F6.q2 QR QN QE) (kP QP) s h = F6.f10 W QR QN QE QP s h := F6.e10 W QR QN QE QP s h
def F6.g2_ (W : WK) (QR QN : VK) (QE : EK) (QP : PK) : VK → VK := fun QN' vs h => F6.n10 W QR QN' (fun (i : Nat) (vs : List AV) (h : AH) => if i = 2 then F6.n5 W QR QN QE QP (vs.getD 0 noA) (vs.getD 1 noA) (vs.getD 2 noA) (vs.getD 3 noA) h else if i = 1 then F6.n2 W QR QN QE QP (vs.getD 0 noA) (vs.getD 1 noA) (vs.getD 2 noA) (vs.getD 3 noA) h else QE i vs h) QP (vs.getD 0 noA) (vs.getD 1 noA) (vs.getD 2 noA) (vs.getD 3 noA) (vs.getD 4 noA) (vs.getD 5 noA) (vs.getD 6 noA) h
theorem F6.p2 {Kn : VK} {KQ : KT} (hK : ∀ s h, KQ s h = Kn [s.tm 3, s.tm 8, s.tm 9, s.tm 10, s.tm 25, s.tm 26, s.tm 27] h) : thenQ KQ (blockQ 2 (thenQ (F6.f5 W QR QN QE QP) (blockQ 1 (thenQ (F6.f2 W QR QN QE QP) (F6.q1 QR QN QE))))) = F6.q2 QR Kn (fun (i : Nat) (vs : List AV) (h : AH) => if i = 2 then F6.n5 W QR QN QE QP (vs.getD 0 noA) (vs.getD 1 noA) (vs.getD 2 noA) (vs.getD 3 noA) h else if i = 1 then F6.n2 W QR QN QE QP (vs.getD 0 noA) (vs.getD 1 noA) (vs.getD 2 noA) (vs.getD 3 noA) h else QE i vs h) := by
  funext x s h
  cases x with
  | normal => exact hK s h
  | ret => kernel_rfl
  | goto l => kernel_rfl
  | exit j =>
    by_cases h0 : j = 2
    · subst h0; kernel_rfl
    by_cases h1 : j = 1
    · subst h1; kernel_rfl
    simp only [thenQ, blockQ, noGotoQ, if_neg h0, if_neg h1, F6.q2, F6.el2, F6.q1, F6.el1, F6.q0, F6.el0]
def F6.n11 (W : WK) (QR QN : VK) (QE : EK) (QP : PK) (x3 x8 x9 x10 x25 x26 x27 : AV) (h : AH) : Prop :=
vLoop (F6.g2_ W QR QN QE QP) [x3, x8, x9, x10, x25, x26, x27] h
def F6.f11 : KT := fun s h => F6.n11 W QR QN QE QP (s.tm 3) (s.tm 8) (s.tm 9) (s.tm 10) (s.tm 25) (s.tm 26) (s.tm 27) h
theorem F6.e11 : F6.cw W (F6.d [1, 1, 0, 1, 0, 0, 1, 1, 0, 0, 1, 1, 0, 1, 0]) (blockQ 2 (thenQ (F6.f5 W QR QN QE QP) (blockQ 1 (thenQ (F6.f2 W QR QN QE QP) (F6.q1 QR QN QE))))) QP s h = F6.f11 W QR QN QE QP s h := (nd_loop (a := F6.c2) (by kernel_rfl)).trans (vloopD (L := fun tm => [tm 3, tm 8, tm 9, tm 10, tm 25, tm 26, tm 27]) (G := F6.g2_ W QR QN QE QP) (fun Kn KQ hK s h => (congrArg (fun q => aw Tryd.prog 41 W F6.pl F6.c2 q (kP QP) s h) (F6.p2 W QR QN QE QP hK)).trans (F6.l2 W QR Kn (fun (i : Nat) (vs : List AV) (h : AH) => if i = 2 then F6.n5 W QR QN QE QP (vs.getD 0 noA) (vs.getD 1 noA) (vs.getD 2 noA) (vs.getD 3 noA) h else if i = 1 then F6.n2 W QR QN QE QP (vs.getD 0 noA) (vs.getD 1 noA) (vs.getD 2 noA) (vs.getD 3 noA) h else QE i vs h) QP s h)) s h)
theorem F6.o4 : F6.cw W (F6.d [1, 1, 0, 1, 0, 0, 1, 1, 0, 0, 1, 1, 0, 1]) (thenQ (F6.f5 W QR QN QE QP) (blockQ 1 (thenQ (F6.f2 W QR QN QE QP) (F6.q1 QR QN QE)))) QP s h = F6.f11 W QR QN QE QP s h := nd_block (a := (F6.d [1, 1, 0, 1, 0, 0, 1, 1, 0, 0, 1, 1, 0, 1, 0])) (by kernel_rfl) (F6.e11 W QR QN QE QP s h)
def F6.n12 (W : WK) (QR QN : VK) (QE : EK) (QP : PK) (x3 x5 x8 x9 x10 : AV) (h : AH) : Prop :=
pFld (some 2) x5 fun t17 =>
lLd (some false) (some 1) t17 h fun t18 _ =>
(strArg t18 = false) ∧ pLen t18 fun t20 =>
F6.n11 W QR QN QE QP x3 x8 x9 x10 t18 t20 (.sc (.int .i64 0)) h
def F6.f12 : KT := fun s h => F6.n12 W QR QN QE QP (s.tm 3) (s.tm 5) (s.tm 8) (s.tm 9) (s.tm 10) h
theorem F6.e12 : F6.cw W (F6.d [1, 1, 0, 1, 0, 0, 1, 1, 0, 0, 1, 1, 0]) (thenQ (F6.f5 W QR QN QE QP) (blockQ 1 (thenQ (F6.f2 W QR QN QE QP) (F6.q1 QR QN QE)))) QP s h = F6.f12 W QR QN QE QP s h := nd_seq (a := (F6.d [1, 1, 0, 1, 0, 0, 1, 1, 0, 0, 1, 1, 0, 0])) (b := (F6.d [1, 1, 0, 1, 0, 0, 1, 1, 0, 0, 1, 1, 0, 1])) (by kernel_rfl) (F6.o4 W QR QN QE QP) (by kernel_rfl)
theorem F6.o5 : F6.cw W (F6.d [1, 1, 0, 1, 0, 0, 1, 1, 0, 0, 1, 1]) (blockQ 1 (thenQ (F6.f2 W QR QN QE QP) (F6.q1 QR QN QE))) QP s h = F6.f12 W QR QN QE QP s h := nd_seq (a := (F6.d [1, 1, 0, 1, 0, 0, 1, 1, 0, 0, 1, 1, 0])) (b := (F6.d [1, 1, 0, 1, 0, 0, 1, 1, 0, 0, 1, 1, 1])) (by kernel_rfl) (F6.e5 W QR QN QE QP) (F6.e12 W QR QN QE QP s h)
def F6.n13 (W : WK) (QR QN : VK) (QE : EK) (QP : PK) (x3 x5 x8 x9 x10 : AV) (h : AH) : Prop :=
pFld (some 0) x5 fun t21 =>
lLd (some false) (some 1) t21 h fun t22 _ =>
(strArg t22 = true) ∧ pLen t22 fun t24 =>
pFld (some 1) x5 fun t25 =>
lLd (some false) (some 1) t25 h fun t26 _ =>
(strArg t26 = true) ∧ pLen t26 fun t28 =>
pBin Tryd.prog .add 3 false t24 t28 fun t29 =>
pBin Tryd.prog .add 3 true t29 (.sc (.int .i64 8)) fun t30 =>
pBin Tryd.prog .add 3 false x3 t30 fun t31 =>
F6.n12 W QR QN QE QP t31 x5 x8 x9 x10 h
def F6.f13 : KT := fun s h => F6.n13 W QR QN QE QP (s.tm 3) (s.tm 5) (s.tm 8) (s.tm 9) (s.tm 10) h
theorem F6.e13 : F6.cw W (F6.d [1, 1, 0, 1, 0, 0, 1, 1, 0, 0, 1]) (blockQ 1 (thenQ (F6.f2 W QR QN QE QP) (F6.q1 QR QN QE))) QP s h = F6.f13 W QR QN QE QP s h := nd_seq (a := (F6.d [1, 1, 0, 1, 0, 0, 1, 1, 0, 0, 1, 0])) (b := (F6.d [1, 1, 0, 1, 0, 0, 1, 1, 0, 0, 1, 1])) (by kernel_rfl) (F6.o5 W QR QN QE QP) (by kernel_rfl)
def F6.n14 (W : WK) (QR QN : VK) (QE : EK) (QP : PK) (x3 x8 x9 x10 : AV) (h : AH) : Prop :=
pIxA (some (6, none)) x8 x10 fun t32 =>
lLd (some true) (some 6) t32 h fun t33 _ =>
eAlloc (some [.string ⟨#[]⟩, .string ⟨#[]⟩, .slice none 0 0, .int .i64 0, .int .i64 0, .int .i64 0]) 6 39 h fun t35 h36 =>
eStore (some 6) t35 t33 h36 W fun h37 =>
F6.n13 W QR QN QE QP x3 t35 x8 x9 x10 h37
def F6.f14 : KT := fun s h => F6.n14 W QR QN QE QP (s.tm 3) (s.tm 8) (s.tm 9) (s.tm 10) h
theorem F6.e14 : F6.cw W (F6.d [1, 1, 0, 1, 0, 0, 1, 1, 0, 0]) (blockQ 1 (thenQ (F6.f2 W QR QN QE QP) (F6.q1 QR QN QE))) QP s h = F6.f14 W QR QN QE QP s h := nd_seq (a := (F6.d [1, 1, 0, 1, 0, 0, 1, 1, 0, 0, 0])) (b := (F6.d [1, 1, 0, 1, 0, 0, 1, 1, 0, 0, 1])) (by kernel_rfl) (F6.e13 W QR QN QE QP) (by kernel_rfl)
theorem F6.o6 : F6.cw W (F6.d [1, 1, 0, 1, 0, 0, 1, 1, 0]) (thenQ (F6.f2 W QR QN QE QP) (F6.q1 QR QN QE)) QP s h = F6.f14 W QR QN QE QP s h := nd_block (a := (F6.d [1, 1, 0, 1, 0, 0, 1, 1, 0, 0])) (by kernel_rfl) (F6.e14 W QR QN QE QP s h)
theorem F6.o7 : F6.cw W (F6.d [1, 1, 0, 1, 0, 0, 1, 1]) (F6.q1 QR QN QE) QP s h = F6.f14 W QR QN QE QP s h := nd_seq (a := (F6.d [1, 1, 0, 1, 0, 0, 1, 1, 0])) (b := (F6.d [1, 1, 0, 1, 0, 0, 1, 1, 1])) (by kernel_rfl) (F6.e2 W QR QN QE QP) (F6.o6 W QR QN QE QP s h)
def F6.n15 (W : WK) (QR QN : VK) (QE : EK) (QP : PK) (x3 x8 x9 x10 x11 : AV) (h : AH) : Prop :=
aIf x11 (
F6.n14 W QR QN QE QP x3 x8 x9 x10 h) (
QE 0 [] h)
def F6.f15 : KT := fun s h => F6.n15 W QR QN QE QP (s.tm 3) (s.tm 8) (s.tm 9) (s.tm 10) (s.tm 11) h
theorem F6.e15 : F6.cw W (F6.d [1, 1, 0, 1, 0, 0, 1, 0]) (thenQ (F6.f14 W QR QN QE QP) (F6.q1 QR QN QE)) QP s h = F6.f15 W QR QN QE QP s h := nd_cond (o := (.tmp 11)) (a := (F6.d [1, 1, 0, 1, 0, 0, 1, 0, 0])) (b := (F6.d [1, 1, 0, 1, 0, 0, 1, 0, 1])) (by kernel_rfl) rfl rfl (by kernel_rfl)
theorem F6.o8 : F6.cw W (F6.d [1, 1, 0, 1, 0, 0, 1]) (F6.q1 QR QN QE) QP s h = F6.f15 W QR QN QE QP s h := nd_seq (a := (F6.d [1, 1, 0, 1, 0, 0, 1, 0])) (b := (F6.d [1, 1, 0, 1, 0, 0, 1, 1])) (by kernel_rfl) (F6.o7 W QR QN QE QP) (F6.e15 W QR QN QE QP s h)
def F6.n16 (W : WK) (QR QN : VK) (QE : EK) (QP : PK) (x3 x8 x9 x10 : AV) (h : AH) : Prop :=
pBin Tryd.prog .lss 3 false x10 x9 fun t38 =>
F6.n15 W QR QN QE QP x3 x8 x9 x10 t38 h
def F6.f16 : KT := fun s h => F6.n16 W QR QN QE QP (s.tm 3) (s.tm 8) (s.tm 9) (s.tm 10) h
theorem F6.e16 : F6.cw W (F6.d [1, 1, 0, 1, 0, 0]) (F6.q1 QR QN QE) QP s h = F6.f16 W QR QN QE QP s h := nd_seq (a := (F6.d [1, 1, 0, 1, 0, 0, 0])) (b := (F6.d [1, 1, 0, 1, 0, 0, 1])) (by kernel_rfl) (F6.o8 W QR QN QE QP) (by kernel_rfl)
noncomputable def F6.c1 : Code := (F6.d [1, 1, 0, 1, 0, 0])
theorem F6.l1 : aw Tryd.prog 41 W F6.pl F6.c1 (F6.q1 QR QN QE) (kP QP) s h = F6.f16 W QR QN QE QP s h := F6.e16 W QR QN QE QP s h
def F6.g1_ (W : WK) (QR QN : VK) (QE : EK) (QP : PK) : VK → VK := fun QN' vs h => F6.n16 W QR QN' (fun (i : Nat) (vs : List AV) (h : AH) => if i = 0 then F6.n1 W QR QN QE QP h else QE i vs h) QP (vs.getD 0 noA) (vs.getD 1 noA) (vs.getD 2 noA) (vs.getD 3 noA) h
theorem F6.p1 {Kn : VK} {KQ : KT} (hK : ∀ s h, KQ s h = Kn [s.tm 3, s.tm 8, s.tm 9, s.tm 10] h) : thenQ KQ (blockQ 0 (thenQ (F6.f1 W QR QN QE QP) (F6.q0 QR QN QE))) = F6.q1 QR Kn (fun (i : Nat) (vs : List AV) (h : AH) => if i = 0 then F6.n1 W QR QN QE QP h else QE i vs h) := by
  funext x s h
  cases x with
  | normal => exact hK s h
  | ret => kernel_rfl
  | goto l => kernel_rfl
  | exit j =>
    by_cases h0 : j = 0
    · subst h0; kernel_rfl
    simp only [thenQ, blockQ, noGotoQ, if_neg h0, F6.q1, F6.el1, F6.q0, F6.el0]
def F6.n17 (W : WK) (QR QN : VK) (QE : EK) (QP : PK) (x3 x8 x9 x10 : AV) (h : AH) : Prop :=
vLoop (F6.g1_ W QR QN QE QP) [x3, x8, x9, x10] h
def F6.f17 : KT := fun s h => F6.n17 W QR QN QE QP (s.tm 3) (s.tm 8) (s.tm 9) (s.tm 10) h
theorem F6.e17 : F6.cw W (F6.d [1, 1, 0, 1, 0]) (blockQ 0 (thenQ (F6.f1 W QR QN QE QP) (F6.q0 QR QN QE))) QP s h = F6.f17 W QR QN QE QP s h := (nd_loop (a := F6.c1) (by kernel_rfl)).trans (vloopD (L := fun tm => [tm 3, tm 8, tm 9, tm 10]) (G := F6.g1_ W QR QN QE QP) (fun Kn KQ hK s h => (congrArg (fun q => aw Tryd.prog 41 W F6.pl F6.c1 q (kP QP) s h) (F6.p1 W QR QN QE QP hK)).trans (F6.l1 W QR Kn (fun (i : Nat) (vs : List AV) (h : AH) => if i = 0 then F6.n1 W QR QN QE QP h else QE i vs h) QP s h)) s h)
theorem F6.o9 : F6.cw W (F6.d [1, 1, 0, 1]) (thenQ (F6.f1 W QR QN QE QP) (F6.q0 QR QN QE)) QP s h = F6.f17 W QR QN QE QP s h := nd_block (a := (F6.d [1, 1, 0, 1, 0])) (by kernel_rfl) (F6.e17 W QR QN QE QP s h)
def F6.n18 (W : WK) (QR QN : VK) (QE : EK) (QP : PK) (x0 x3 : AV) (h : AH) : Prop :=
(strArg x0 = false) ∧ pLen x0 fun t39 =>
F6.n17 W QR QN QE QP x3 x0 t39 (.sc (.int .i64 0)) h
def F6.f18 : KT := fun s h => F6.n18 W QR QN QE QP (s.tm 0) (s.tm 3) h
theorem F6.e18 : F6.cw W (F6.d [1, 1, 0]) (thenQ (F6.f1 W QR QN QE QP) (F6.q0 QR QN QE)) QP s h = F6.f18 W QR QN QE QP s h := nd_seq (a := (F6.d [1, 1, 0, 0])) (b := (F6.d [1, 1, 0, 1])) (by kernel_rfl) (F6.o9 W QR QN QE QP) (by kernel_rfl)
theorem F6.o10 : F6.cw W (F6.d [1, 1]) (F6.q0 QR QN QE) QP s h = F6.f18 W QR QN QE QP s h := nd_seq (a := (F6.d [1, 1, 0])) (b := (F6.d [1, 1, 1])) (by kernel_rfl) (F6.e1 W QR QN QE QP) (F6.e18 W QR QN QE QP s h)
def F6.n19 (W : WK) (QR QN : VK) (QE : EK) (QP : PK) (x0 : AV) (h : AH) : Prop :=
F6.n18 W QR QN QE QP x0 (.sc (.int .i64 0)) h
def F6.f19 : KT := fun s h => F6.n19 W QR QN QE QP (s.tm 0) h
theorem F6.e19 : F6.cw W (F6.d [1]) (F6.q0 QR QN QE) QP s h = F6.f19 W QR QN QE QP s h := nd_seq (a := (F6.d [1, 0])) (b := (F6.d [1, 1])) (by kernel_rfl) (F6.o10 W QR QN QE QP) (by kernel_rfl)
def F6.n20 (W : WK) (QR QN : VK) (QE : EK) (QP : PK) (x0 : AV) (h : AH) : Prop :=
F6.n19 W QR QN QE QP x0 h
def F6.f20 : KT := fun s h => F6.n20 W QR QN QE QP (s.tm 0) h
theorem F6.e20 : F6.cw W (F6.d []) (F6.q0 QR QN QE) QP s h = F6.f20 W QR QN QE QP s h := nd_seq (a := (F6.d [0])) (b := (F6.d [1])) (by kernel_rfl) (F6.e19 W QR QN QE QP) (by kernel_rfl)
end
set_option maxRecDepth 100000 in
theorem F6.callsN {x0 : AV} {h : AH} {M : Nat → Prop} {R : AE → AH → Prop} (hp : F6.n20 (fun id => M id ∨ h.next ≤ id) (retV Tryd.prog [.tmp 2] R) (retV Tryd.prog [.tmp 2] R) (fun _ _ _ => False) (fun v h => R (.pan v) h) x0 h) : ACalls Tryd.prog 6 [x0] h M R :=
  acalls_of (c := F6.code) Tryd.mixed Tryd.func6 (by kernel_rfl) (Nat.le_of_ble_eq_true rfl) F6.ok (by rw [show Tryd.f6.ntmps = 41 from rfl, show Tryd.f6.results.toList = [.tmp 2] from rfl]; exact body_D (q := F6.q0 (retV Tryd.prog [.tmp 2] R) (retV Tryd.prog [.tmp 2] R) (fun _ _ _ => False)) (by kernel_rfl) (fun _ _ => rfl) (fun _ _ => rfl) (fun _ _ _ h => h) (fun _ _ _ h => h) rfl (Eq.mpr (F6.e20 (fun id => M id ∨ h.next ≤ id) (retV Tryd.prog [.tmp 2] R) (retV Tryd.prog [.tmp 2] R) (fun _ _ _ => False) (fun v h => R (.pan v) h) (s0 [x0]) h) hp))
attribute [simp] F6.n1 F6.n2 F6.n3 F6.n4 F6.n5 F6.n6 F6.n7 F6.n8 F6.n9 F6.n10 F6.n12 F6.n13 F6.n14 F6.n15 F6.n16 F6.n18 F6.n19 F6.n20

end Go.Proofs.YthkkgbmjjpcfaaaDoor
namespace Go.Proofs.YthkkgbmjjpcfaaaDoor
open Go.Ab
section
variable (W : Nat → Prop) (QR QN : VK) (QE : Nat → VK) (QP : AV → AH → Prop) (s : St) (h : AH)
noncomputable def F12.code : Code := Tryd.f12.body.getD .skip
def F12.g1 : Grps := [(none, [(0, false), (1, false), (2, false), (3, false), (4, false), (5, false)]), (some (5, false), [(6, false), (7, false), (8, false), (9, false), (10, false)]), (none, [(11, false), (12, false)]), (some (12, false), [(13, false), (14, false), (15, false), (16, false), (17, false)]), (none, [(18, false), (19, false)]), (some (19, false), [(20, false), (21, false), (22, false), (23, false), (24, false)]), (none, [(25, false), (26, false)]), (some (26, false), [(27, false), (28, false)]), (some (28, true), [(29, false), (30, false), (31, false), (32, false), (33, false)]), (some (26, false), [(34, false)]), (none, [(35, false), (36, false)]), (some (36, false), [(37, false), (38, false), (39, false), (40, false), (41, false), (42, false), (43, false)]), (none, [(44, false)])]
def F12.pl : Plans := [(7, ⟨F12.g1, false, [], []⟩), (12, ⟨[(none, [(0, false), (1, false), (2, false), (3, false), (4, false), (5, false), (6, false)])], false, [], []⟩)]
theorem F12.ok : okCode Tryd.prog F12.pl F12.code = true := by kernel_rfl
noncomputable abbrev F12.d (p : List Nat) : Code := Code.at F12.code p
abbrev F12.cw (W : Nat → Prop) (c : Code) (q : Post) (QP : AV → AH → Prop) : KT := Go.Ab.aw Tryd.prog 90 W F12.pl c q (kP QP)
def F12.el0 (_ : Nat) (_ : Nat → AV) : List AV := []
def F12.q0 (QR QN : VK) (QE : Nat → VK) : Post := fun x s h => match x with | .normal => QN [s.tm 6] h | .ret => QR [s.tm 6] h | .exit j => QE j (F12.el0 j s.tm) h | .goto _ => False
def F12.n1 (_ : WK) (QR _ : VK) (_ : EK) (_ : PK) (h : AH) : Prop :=
QR [(.sc (.bool true))] h
def F12.f1 : KT := fun _ h => F12.n1 W QR QN QE QP h
theorem F12.e1 : F12.cw W (F12.d [1, 1, 1]) (F12.q0 QR QN QE) QP s h = F12.f1 W QR QN QE QP s h := nd_seq (a := (F12.d [1, 1, 1, 0])) (b := (F12.d [1, 1, 1, 1])) (by kernel_rfl) (fun _ _ => rfl) (by kernel_rfl)
def F12.el1 (j : Nat) (_ : Nat → AV) : List AV := if j = 0 then [] else []
def F12.q1 (QR QN : VK) (QE : Nat → VK) : Post := fun x s h => match x with | .normal => QN [s.tm 1, s.tm 2, s.tm 17, s.tm 18, s.tm 19] h | .ret => QR [s.tm 6] h | .exit j => QE j (F12.el1 j s.tm) h | .goto _ => False
def F12.n2 (_ : WK) (_ QN : VK) (_ : EK) (_ : PK) (x1 x2 x17 x18 x19 : AV) (h : AH) : Prop :=
pBin Tryd.prog .add 3 true x19 (.sc (.int .i64 1)) fun t1 =>
QN [x1, x2, x17, x18, t1] h
def F12.f2 : KT := fun s h => F12.n2 W QR QN QE QP (s.tm 1) (s.tm 2) (s.tm 17) (s.tm 18) (s.tm 19) h
theorem F12.e2 : F12.cw W (F12.d [1, 1, 0, 1, 0, 0, 1, 1, 1]) (F12.q1 QR QN QE) QP s h = F12.f2 W QR QN QE QP s h := by kernel_rfl
def F12.el2 (j : Nat) (tm : Nat → AV) : List AV := if j = 2 then [tm 1, tm 2, tm 17, tm 18, tm 19] else if j = 1 then [tm 1, tm 2, tm 17, tm 18, tm 19] else F12.el1 j tm
def F12.q2 (QR QN : VK) (QE : Nat → VK) : Post := fun x s h => match x with | .normal => QN [s.tm 1, s.tm 2, s.tm 9, s.tm 17, s.tm 18, s.tm 19, s.tm 74, s.tm 75, s.tm 76] h | .ret => QR [s.tm 6] h | .exit j => QE j (F12.el2 j s.tm) h | .goto _ => False
def F12.n3 (_ : WK) (_ QN : VK) (_ : EK) (_ : PK) (x1 x2 x9 x17 x18 x19 x74 x75 x76 : AV) (h : AH) : Prop :=
pBin Tryd.prog .add 3 true x76 (.sc (.int .i64 1)) fun t2 =>
QN [x1, x2, x9, x17, x18, x19, x74, x75, t2] h
def F12.f3 : KT := fun s h => F12.n3 W QR QN QE QP (s.tm 1) (s.tm 2) (s.tm 9) (s.tm 17) (s.tm 18) (s.tm 19) (s.tm 74) (s.tm 75) (s.tm 76) h
theorem F12.e3 : F12.cw W (F12.d [1, 1, 0, 1, 0, 0, 1, 1, 0, 0, 1, 1, 1, 1, 0, 0, 1, 1, 1]) (F12.q2 QR QN QE) QP s h = F12.f3 W QR QN QE QP s h := by kernel_rfl
def F12.n4 (_ : WK) (QR _ : VK) (_ : EK) (_ : PK) (h : AH) : Prop :=
QR [(.sc (.bool false))] h
def F12.f4 : KT := fun _ h => F12.n4 W QR QN QE QP h
theorem F12.e4 : F12.cw W (F12.d [1, 1, 0, 1, 0, 0, 1, 1, 0, 0, 1, 1, 1, 1, 0, 0, 1, 1, 0, 0, 1, 1, 0]) (blockQ 3 (thenQ (F12.f3 W QR QN QE QP) (F12.q2 QR QN QE))) QP s h = F12.f4 W QR QN QE QP s h := nd_seq (a := (F12.d [1, 1, 0, 1, 0, 0, 1, 1, 0, 0, 1, 1, 1, 1, 0, 0, 1, 1, 0, 0, 1, 1, 0, 0])) (b := (F12.d [1, 1, 0, 1, 0, 0, 1, 1, 0, 0, 1, 1, 1, 1, 0, 0, 1, 1, 0, 0, 1, 1, 0, 1])) (by kernel_rfl) (fun _ _ => rfl) (by kernel_rfl)
def F12.n5 (W : WK) (QR QN : VK) (QE : EK) (QP : PK) (x1 x2 x9 x17 x18 x19 x74 x75 x76 x87 : AV) (h : AH) : Prop :=
aIf x87 (
F12.n4 W QR QN QE QP h) (
F12.n3 W QR QN QE QP x1 x2 x9 x17 x18 x19 x74 x75 x76 h)
def F12.f5 : KT := fun s h => F12.n5 W QR QN QE QP (s.tm 1) (s.tm 2) (s.tm 9) (s.tm 17) (s.tm 18) (s.tm 19) (s.tm 74) (s.tm 75) (s.tm 76) (s.tm 87) h
theorem F12.e5 : F12.cw W (F12.d [1, 1, 0, 1, 0, 0, 1, 1, 0, 0, 1, 1, 1, 1, 0, 0, 1, 1, 0, 0, 1, 1]) (blockQ 3 (thenQ (F12.f3 W QR QN QE QP) (F12.q2 QR QN QE))) QP s h = F12.f5 W QR QN QE QP s h := nd_cond (o := (.tmp 87)) (a := (F12.d [1, 1, 0, 1, 0, 0, 1, 1, 0, 0, 1, 1, 1, 1, 0, 0, 1, 1, 0, 0, 1, 1, 0])) (b := (F12.d [1, 1, 0, 1, 0, 0, 1, 1, 0, 0, 1, 1, 1, 1, 0, 0, 1, 1, 0, 0, 1, 1, 1])) (by kernel_rfl) (F12.e4 W QR QN QE QP s h) rfl (by kernel_rfl)
def F12.n6 (W : WK) (QR QN : VK) (QE : EK) (QP : PK) (x1 x2 x9 x10 x11 x17 x18 x19 x74 x75 x76 : AV) (h : AH) : Prop :=
lLd (some true) (some 2) x11 h fun t3 _ =>
pFld (some 2) x9 fun t5 =>
lLd (some false) (some 1) t5 h fun t6 _ =>
pIxA (some (2, none)) t6 x10 fun t8 =>
lLd (some true) (some 2) t8 h fun t9 _ =>
pBin Tryd.prog .neq 41 false t3 t9 fun t11 =>
F12.n5 W QR QN QE QP x1 x2 x9 x17 x18 x19 x74 x75 x76 t11 h
def F12.f6 : KT := fun s h => F12.n6 W QR QN QE QP (s.tm 1) (s.tm 2) (s.tm 9) (s.tm 10) (s.tm 11) (s.tm 17) (s.tm 18) (s.tm 19) (s.tm 74) (s.tm 75) (s.tm 76) h
theorem F12.e6 : F12.cw W (F12.d [1, 1, 0, 1, 0, 0, 1, 1, 0, 0, 1, 1, 1, 1, 0, 0, 1, 1, 0, 0, 1]) (blockQ 3 (thenQ (F12.f3 W QR QN QE QP) (F12.q2 QR QN QE))) QP s h = F12.f6 W QR QN QE QP s h := nd_seq (a := (F12.d [1, 1, 0, 1, 0, 0, 1, 1, 0, 0, 1, 1, 1, 1, 0, 0, 1, 1, 0, 0, 1, 0])) (b := (F12.d [1, 1, 0, 1, 0, 0, 1, 1, 0, 0, 1, 1, 1, 1, 0, 0, 1, 1, 0, 0, 1, 1])) (by kernel_rfl) (F12.e5 W QR QN QE QP) (by kernel_rfl)
def F12.n7 (W : WK) (QR QN : VK) (QE : EK) (QP : PK) (x1 x2 x9 x17 x18 x19 x74 x75 x76 : AV) (h : AH) : Prop :=
pIxA (some (2, none)) x74 x76 fun t12 =>
lLd (some true) (some 2) t12 h fun t13 _ =>
eAlloc (some [.string ⟨#[]⟩, .int .i64 0]) 2 41 h fun t15 h16 =>
eStore (some 2) t15 t13 h16 W fun h17 =>
F12.n6 W QR QN QE QP x1 x2 x9 x76 t15 x17 x18 x19 x74 x75 x76 h17
def F12.f7 : KT := fun s h => F12.n7 W QR QN QE QP (s.tm 1) (s.tm 2) (s.tm 9) (s.tm 17) (s.tm 18) (s.tm 19) (s.tm 74) (s.tm 75) (s.tm 76) h
theorem F12.e7 : F12.cw W (F12.d [1, 1, 0, 1, 0, 0, 1, 1, 0, 0, 1, 1, 1, 1, 0, 0, 1, 1, 0, 0]) (blockQ 3 (thenQ (F12.f3 W QR QN QE QP) (F12.q2 QR QN QE))) QP s h = F12.f7 W QR QN QE QP s h := nd_seq (a := (F12.d [1, 1, 0, 1, 0, 0, 1, 1, 0, 0, 1, 1, 1, 1, 0, 0, 1, 1, 0, 0, 0])) (b := (F12.d [1, 1, 0, 1, 0, 0, 1, 1, 0, 0, 1, 1, 1, 1, 0, 0, 1, 1, 0, 0, 1])) (by kernel_rfl) (F12.e6 W QR QN QE QP) (by kernel_rfl)
theorem F12.o1 : F12.cw W (F12.d [1, 1, 0, 1, 0, 0, 1, 1, 0, 0, 1, 1, 1, 1, 0, 0, 1, 1, 0]) (thenQ (F12.f3 W QR QN QE QP) (F12.q2 QR QN QE)) QP s h = F12.f7 W QR QN QE QP s h := nd_block (a := (F12.d [1, 1, 0, 1, 0, 0, 1, 1, 0, 0, 1, 1, 1, 1, 0, 0, 1, 1, 0, 0])) (by kernel_rfl) (F12.e7 W QR QN QE QP s h)
theorem F12.o2 : F12.cw W (F12.d [1, 1, 0, 1, 0, 0, 1, 1, 0, 0, 1, 1, 1, 1, 0, 0, 1, 1]) (F12.q2 QR QN QE) QP s h = F12.f7 W QR QN QE QP s h := nd_seq (a := (F12.d [1, 1, 0, 1, 0, 0, 1, 1, 0, 0, 1, 1, 1, 1, 0, 0, 1, 1, 0])) (b := (F12.d [1, 1, 0, 1, 0, 0, 1, 1, 0, 0, 1, 1, 1, 1, 0, 0, 1, 1, 1])) (by kernel_rfl) (F12.e3 W QR QN QE QP) (F12.o1 W QR QN QE QP s h)
def F12.n8 (W : WK) (QR QN : VK) (QE : EK) (QP : PK) (x1 x2 x9 x17 x18 x19 x74 x75 x76 x77 : AV) (h : AH) : Prop :=
aIf x77 (
F12.n7 W QR QN QE QP x1 x2 x9 x17 x18 x19 x74 x75 x76 h) (
QE 2 [x1, x2, x17, x18, x19] h)
def F12.f8 : KT := fun s h => F12.n8 W QR QN QE QP (s.tm 1) (s.tm 2) (s.tm 9) (s.tm 17) (s.tm 18) (s.tm 19) (s.tm 74) (s.tm 75) (s.tm 76) (s.tm 77) h
theorem F12.e8 : F12.cw W (F12.d [1, 1, 0, 1, 0, 0, 1, 1, 0, 0, 1, 1, 1, 1, 0, 0, 1, 0]) (thenQ (F12.f7 W QR QN QE QP) (F12.q2 QR QN QE)) QP s h = F12.f8 W QR QN QE QP s h := nd_cond (o := (.tmp 77)) (a := (F12.d [1, 1, 0, 1, 0, 0, 1, 1, 0, 0, 1, 1, 1, 1, 0, 0, 1, 0, 0])) (b := (F12.d [1, 1, 0, 1, 0, 0, 1, 1, 0, 0, 1, 1, 1, 1, 0, 0, 1, 0, 1])) (by kernel_rfl) rfl rfl (by kernel_rfl)
theorem F12.o3 : F12.cw W (F12.d [1, 1, 0, 1, 0, 0, 1, 1, 0, 0, 1, 1, 1, 1, 0, 0, 1]) (F12.q2 QR QN QE) QP s h = F12.f8 W QR QN QE QP s h := nd_seq (a := (F12.d [1, 1, 0, 1, 0, 0, 1, 1, 0, 0, 1, 1, 1, 1, 0, 0, 1, 0])) (b := (F12.d [1, 1, 0, 1, 0, 0, 1, 1, 0, 0, 1, 1, 1, 1, 0, 0, 1, 1])) (by kernel_rfl) (F12.o2 W QR QN QE QP) (F12.e8 W QR QN QE QP s h)
def F12.n9 (W : WK) (QR QN : VK) (QE : EK) (QP : PK) (x1 x2 x9 x17 x18 x19 x74 x75 x76 : AV) (h : AH) : Prop :=
pBin Tryd.prog .lss 3 false x76 x75 fun t18 =>
F12.n8 W QR QN QE QP x1 x2 x9 x17 x18 x19 x74 x75 x76 t18 h
def F12.f9 : KT := fun s h => F12.n9 W QR QN QE QP (s.tm 1) (s.tm 2) (s.tm 9) (s.tm 17) (s.tm 18) (s.tm 19) (s.tm 74) (s.tm 75) (s.tm 76) h
theorem F12.e9 : F12.cw W (F12.d [1, 1, 0, 1, 0, 0, 1, 1, 0, 0, 1, 1, 1, 1, 0, 0]) (F12.q2 QR QN QE) QP s h = F12.f9 W QR QN QE QP s h := nd_seq (a := (F12.d [1, 1, 0, 1, 0, 0, 1, 1, 0, 0, 1, 1, 1, 1, 0, 0, 0])) (b := (F12.d [1, 1, 0, 1, 0, 0, 1, 1, 0, 0, 1, 1, 1, 1, 0, 0, 1])) (by kernel_rfl) (F12.o3 W QR QN QE QP) (by kernel_rfl)
noncomputable def F12.c2 : Code := (F12.d [1, 1, 0, 1, 0, 0, 1, 1, 0, 0, 1, 1, 1, 1, 0, 0])
theorem F12.l2 : aw Tryd.prog 90 W F12.pl F12.c2 (F12.q2 QR QN QE) (kP QP) s h = F12.f9 W QR QN QE QP s h := F12.e9 W QR QN QE QP s h
def F12.g2_ (W : WK) (QR QN : VK) (QE : EK) (QP : PK) : VK → VK := fun QN' vs h => F12.n9 W QR QN' (fun (i : Nat) (vs : List AV) (h : AH) => if i = 2 then F12.n2 W QR QN QE QP (vs.getD 0 noA) (vs.getD 1 noA) (vs.getD 2 noA) (vs.getD 3 noA) (vs.getD 4 noA) h else if i = 1 then F12.n2 W QR QN QE QP (vs.getD 0 noA) (vs.getD 1 noA) (vs.getD 2 noA) (vs.getD 3 noA) (vs.getD 4 noA) h else QE i vs h) QP (vs.getD 0 noA) (vs.getD 1 noA) (vs.getD 2 noA) (vs.getD 3 noA) (vs.getD 4 noA) (vs.getD 5 noA) (vs.getD 6 noA) (vs.getD 7 noA) (vs.getD 8 noA) h
theorem F12.p2 {Kn : VK} {KQ : KT} (hK : ∀ s h, KQ s h = Kn [s.tm 1, s.tm 2, s.tm 9, s.tm 17, s.tm 18, s.tm 19, s.tm 74, s.tm 75, s.tm 76] h) : thenQ KQ (blockQ 2 (blockQ 1 (thenQ (F12.f2 W QR QN QE QP) (F12.q1 QR QN QE)))) = F12.q2 QR Kn (fun (i : Nat) (vs : List AV) (h : AH) => if i = 2 then F12.n2 W QR QN QE QP (vs.getD 0 noA) (vs.getD 1 noA) (vs.getD 2 noA) (vs.getD 3 noA) (vs.getD 4 noA) h else if i = 1 then F12.n2 W QR QN QE QP (vs.getD 0 noA) (vs.getD 1 noA) (vs.getD 2 noA) (vs.getD 3 noA) (vs.getD 4 noA) h else QE i vs h) := by
  funext x s h
  cases x with
  | normal => exact hK s h
  | ret => kernel_rfl
  | goto l => kernel_rfl
  | exit j =>
    by_cases h0 : j = 2
    · subst h0; kernel_rfl
    by_cases h1 : j = 1
    · subst h1; kernel_rfl
    simp only [thenQ, blockQ, noGotoQ, if_neg h0, if_neg h1, F12.q2, F12.el2, F12.q1, F12.el1, F12.q0, F12.el0]
def F12.n10 (W : WK) (QR QN : VK) (QE : EK) (QP : PK) (x1 x2 x9 x17 x18 x19 x74 x75 x76 : AV) (h : AH) : Prop :=
vLoop (F12.g2_ W QR QN QE QP) [x1, x2, x9, x17, x18, x19, x74, x75, x76] h
def F12.f10 : KT := fun s h => F12.n10 W QR QN QE QP (s.tm 1) (s.tm 2) (s.tm 9) (s.tm 17) (s.tm 18) (s.tm 19) (s.tm 74) (s.tm 75) (s.tm 76) h
theorem F12.e10 : F12.cw W (F12.d [1, 1, 0, 1, 0, 0, 1, 1, 0, 0, 1, 1, 1, 1, 0]) (blockQ 2 (blockQ 1 (thenQ (F12.f2 W QR QN QE QP) (F12.q1 QR QN QE)))) QP s h = F12.f10 W QR QN QE QP s h := (nd_loop (a := F12.c2) (by kernel_rfl)).trans (vloopD (L := fun tm => [tm 1, tm 2, tm 9, tm 17, tm 18, tm 19, tm 74, tm 75, tm 76]) (G := F12.g2_ W QR QN QE QP) (fun Kn KQ hK s h => (congrArg (fun q => aw Tryd.prog 90 W F12.pl F12.c2 q (kP QP) s h) (F12.p2 W QR QN QE QP hK)).trans (F12.l2 W QR Kn (fun (i : Nat) (vs : List AV) (h : AH) => if i = 2 then F12.n2 W QR QN QE QP (vs.getD 0 noA) (vs.getD 1 noA) (vs.getD 2 noA) (vs.getD 3 noA) (vs.getD 4 noA) h else if i = 1 then F12.n2 W QR QN QE QP (vs.getD 0 noA) (vs.getD 1 noA) (vs.getD 2 noA) (vs.getD 3 noA) (vs.getD 4 noA) h else QE i vs h) QP s h)) s h)
theorem F12.o4 : F12.cw W (F12.d [1, 1, 0, 1, 0, 0, 1, 1, 0, 0, 1, 1, 1, 1]) (blockQ 1 (thenQ (F12.f2 W QR QN QE QP) (F12.q1 QR QN QE))) QP s h = F12.f10 W QR QN QE QP s h := nd_block (a := (F12.d [1, 1, 0, 1, 0, 0, 1, 1, 0, 0, 1, 1, 1, 1, 0])) (by kernel_rfl) (F12.e10 W QR QN QE QP s h)
def F12.n11 (W : WK) (QR QN : VK) (QE : EK) (QP : PK) (x1 x2 x8 x9 x17 x18 x19 : AV) (h : AH) : Prop :=
pFld (some 2) x8 fun t19 =>
lLd (some false) (some 1) t19 h fun t20 _ =>
(strArg t20 = false) ∧ pLen t20 fun t22 =>
F12.n10 W QR QN QE QP x1 x2 x9 x17 x18 x19 t20 t22 (.sc (.int .i64 0)) h
def F12.f11 : KT := fun s h => F12.n11 W QR QN QE QP (s.tm 1) (s.tm 2) (s.tm 8) (s.tm 9) (s.tm 17) (s.tm 18) (s.tm 19) h
theorem F12.e11 : F12.cw W (F12.d [1, 1, 0, 1, 0, 0, 1, 1, 0, 0, 1, 1, 1]) (blockQ 1 (thenQ (F12.f2 W QR QN QE QP) (F12.q1 QR QN QE))) QP s h = F12.f11 W QR QN QE QP s h := nd_seq (a := (F12.d [1, 1, 0, 1, 0, 0, 1, 1, 0, 0, 1, 1, 1, 0])) (b := (F12.d [1, 1, 0, 1, 0, 0, 1, 1, 0, 0, 1, 1, 1, 1])) (by kernel_rfl) (F12.o4 W QR QN QE QP) (by kernel_rfl)
def F12.n12 (_ : WK) (QR _ : VK) (_ : EK) (_ : PK) (h : AH) : Prop :=
QR [(.sc (.bool false))] h
def F12.f12 : KT := fun _ h => F12.n12 W QR QN QE QP h
theorem F12.e12 : F12.cw W (F12.d [1, 1, 0, 1, 0, 0, 1, 1, 0, 0, 1, 1, 0, 1, 0]) (thenQ (F12.f11 W QR QN QE QP) (blockQ 1 (thenQ (F12.f2 W QR QN QE QP) (F12.q1 QR QN QE)))) QP s h = F12.f12 W QR QN QE QP s h := nd_seq (a := (F12.d [1, 1, 0, 1, 0, 0, 1, 1, 0, 0, 1, 1, 0, 1, 0, 0])) (b := (F12.d [1, 1, 0, 1, 0, 0, 1, 1, 0, 0, 1, 1, 0, 1, 0, 1])) (by kernel_rfl) (fun _ _ => rfl) (by kernel_rfl)
def F12.n13 (W : WK) (QR QN : VK) (QE : EK) (QP : PK) (x1 x2 x8 x9 x17 x18 x19 x72 : AV) (h : AH) : Prop :=
aIf x72 (
F12.n12 W QR QN QE QP h) (
F12.n11 W QR QN QE QP x1 x2 x8 x9 x17 x18 x19 h)
def F12.f13 : KT := fun s h => F12.n13 W QR QN QE QP (s.tm 1) (s.tm 2) (s.tm 8) (s.tm 9) (s.tm 17) (s.tm 18) (s.tm 19) (s.tm 72) h
theorem F12.e13 : F12.cw W (F12.d [1, 1, 0, 1, 0, 0, 1, 1, 0, 0, 1, 1, 0, 1]) (thenQ (F12.f11 W QR QN QE QP) (blockQ 1 (thenQ (F12.f2 W QR QN QE QP) (F12.q1 QR QN QE)))) QP s h = F12.f13 W QR QN QE QP s h := nd_cond (o := (.tmp 72)) (a := (F12.d [1, 1, 0, 1, 0, 0, 1, 1, 0, 0, 1, 1, 0, 1, 0])) (b := (F12.d [1, 1, 0, 1, 0, 0, 1, 1, 0, 0, 1, 1, 0, 1, 1])) (by kernel_rfl) (F12.e12 W QR QN QE QP s h) rfl (by kernel_rfl)
def F12.n14 (W : WK) (QR QN : VK) (QE : EK) (QP : PK) (x1 x2 x8 x9 x17 x18 x19 x64 x71 : AV) (h : AH) : Prop :=
pPick x64 (.sc (.bool true)) x71 fun t23 =>
F12.n13 W QR QN QE QP x1 x2 x8 x9 x17 x18 x19 t23 h
def F12.f14 : KT := fun s h => F12.n14 W QR QN QE QP (s.tm 1) (s.tm 2) (s.tm 8) (s.tm 9) (s.tm 17) (s.tm 18) (s.tm 19) (s.tm 64) (s.tm 71) h
theorem F12.e14 : evG Tryd.prog 90 (fun _ => W) nobody (kP QP) (regOps (F12.d [1, 1, 0, 1, 0, 0, 1, 1, 0, 0, 1, 1, 0, 0])) (F12.g1.drop 12) ((thenQ (F12.f13 W QR QN QE QP) (thenQ (F12.f11 W QR QN QE QP) (blockQ 1 (thenQ (F12.f2 W QR QN QE QP) (F12.q1 QR QN QE))))) .normal) s h = F12.f14 W QR QN QE QP s h := nd_g (is := isAt F12.g1 12) (rest := F12.g1.drop 13) (by kernel_rfl) (fun _ _ => rfl) (by kernel_rfl)
def F12.n15 (W : WK) (QR QN : VK) (QE : EK) (QP : PK) (x1 x2 x8 x9 x17 x18 x19 x64 : AV) (h : AH) : Prop :=
aIg false x64 (
pFld (some 2) x8 fun t24 =>
lLd (some false) (some 1) t24 h fun t25 _ =>
(strArg t25 = false) ∧ pLen t25 fun t27 =>
pFld (some 2) x9 fun t28 =>
lLd (some false) (some 1) t28 h fun t29 _ =>
(strArg t29 = false) ∧ pLen t29 fun t31 =>
pBin Tryd.prog .neq 3 false t27 t31 fun t32 =>
F12.n14 W QR QN QE QP x1 x2 x8 x9 x17 x18 x19 x64 t32 h) (
F12.n14 W QR QN QE QP x1 x2 x8 x9 x17 x18 x19 x64 noA h)
def F12.f15 : KT := fun s h => F12.n15 W QR QN QE QP (s.tm 1) (s.tm 2) (s.tm 8) (s.tm 9) (s.tm 17) (s.tm 18) (s.tm 19) (s.tm 64) h
theorem F12.e15 : evG Tryd.prog 90 (fun _ => W) nobody (kP QP) (regOps (F12.d [1, 1, 0, 1, 0, 0, 1, 1, 0, 0, 1, 1, 0, 0])) (F12.g1.drop 11) ((thenQ (F12.f13 W QR QN QE QP) (thenQ (F12.f11 W QR QN QE QP) (blockQ 1 (thenQ (F12.f2 W QR QN QE QP) (F12.q1 QR QN QE))))) .normal) s h = F12.f15 W QR QN QE QP s h := nd_gw (want := false) (j := 36) (is := isAt F12.g1 11) (rest := F12.g1.drop 12) (by kernel_rfl) (d := 64) (by kernel_rfl) (F12.e14 W QR QN QE QP) (by kernel_rfl)
def F12.n16 (W : WK) (QR QN : VK) (QE : EK) (QP : PK) (x1 x2 x8 x9 x17 x18 x19 x54 x62 : AV) (h : AH) : Prop :=
pPick x54 (.sc (.bool true)) x62 fun t33 =>
F12.n15 W QR QN QE QP x1 x2 x8 x9 x17 x18 x19 t33 h
def F12.f16 : KT := fun s h => F12.n16 W QR QN QE QP (s.tm 1) (s.tm 2) (s.tm 8) (s.tm 9) (s.tm 17) (s.tm 18) (s.tm 19) (s.tm 54) (s.tm 62) h
theorem F12.e16 : evG Tryd.prog 90 (fun _ => W) nobody (kP QP) (regOps (F12.d [1, 1, 0, 1, 0, 0, 1, 1, 0, 0, 1, 1, 0, 0])) (F12.g1.drop 10) ((thenQ (F12.f13 W QR QN QE QP) (thenQ (F12.f11 W QR QN QE QP) (blockQ 1 (thenQ (F12.f2 W QR QN QE QP) (F12.q1 QR QN QE))))) .normal) s h = F12.f16 W QR QN QE QP s h := nd_g (is := isAt F12.g1 10) (rest := F12.g1.drop 11) (by kernel_rfl) (F12.e15 W QR QN QE QP) (by kernel_rfl)
def F12.n17 (W : WK) (QR QN : VK) (QE : EK) (QP : PK) (x1 x2 x8 x9 x17 x18 x19 x54 x56 x61 : AV) (h : AH) : Prop :=
aIg false x54 (
pPick x56 x61 (.sc (.bool false)) fun t34 =>
F12.n16 W QR QN QE QP x1 x2 x8 x9 x17 x18 x19 x54 t34 h) (
F12.n16 W QR QN QE QP x1 x2 x8 x9 x17 x18 x19 x54 noA h)
def F12.f17 : KT := fun s h => F12.n17 W QR QN QE QP (s.tm 1) (s.tm 2) (s.tm 8) (s.tm 9) (s.tm 17) (s.tm 18) (s.tm 19) (s.tm 54) (s.tm 56) (s.tm 61) h
theorem F12.e17 : evG Tryd.prog 90 (fun _ => W) nobody (kP QP) (regOps (F12.d [1, 1, 0, 1, 0, 0, 1, 1, 0, 0, 1, 1, 0, 0])) (F12.g1.drop 9) ((thenQ (F12.f13 W QR QN QE QP) (thenQ (F12.f11 W QR QN QE QP) (blockQ 1 (thenQ (F12.f2 W QR QN QE QP) (F12.q1 QR QN QE))))) .normal) s h = F12.f17 W QR QN QE QP s h := nd_gw (want := false) (j := 26) (is := isAt F12.g1 9) (rest := F12.g1.drop 10) (by kernel_rfl) (d := 54) (by kernel_rfl) (F12.e16 W QR QN QE QP) (by kernel_rfl)
def F12.n18 (W : WK) (QR QN : VK) (QE : EK) (QP : PK) (x1 x2 x8 x9 x17 x18 x19 x54 x56 : AV) (h : AH) : Prop :=
aIg true x56 (
pFld (some 5) x8 fun t35 =>
lLd (some false) (some 1) t35 h fun t36 _ =>
pFld (some 5) x9 fun t38 =>
lLd (some false) (some 1) t38 h fun t39 _ =>
pBin Tryd.prog .neq 3 false t36 t39 fun t41 =>
F12.n17 W QR QN QE QP x1 x2 x8 x9 x17 x18 x19 x54 x56 t41 h) (
F12.n17 W QR QN QE QP x1 x2 x8 x9 x17 x18 x19 x54 x56 noA h)
def F12.f18 : KT := fun s h => F12.n18 W QR QN QE QP (s.tm 1) (s.tm 2) (s.tm 8) (s.tm 9) (s.tm 17) (s.tm 18) (s.tm 19) (s.tm 54) (s.tm 56) h
theorem F12.e18 : evG Tryd.prog 90 (fun _ => W) nobody (kP QP) (regOps (F12.d [1, 1, 0, 1, 0, 0, 1, 1, 0, 0, 1, 1, 0, 0])) (F12.g1.drop 8) ((thenQ (F12.f13 W QR QN QE QP) (thenQ (F12.f11 W QR QN QE QP) (blockQ 1 (thenQ (F12.f2 W QR QN QE QP) (F12.q1 QR QN QE))))) .normal) s h = F12.f18 W QR QN QE QP s h := nd_gw (want := true) (j := 28) (is := isAt F12.g1 8) (rest := F12.g1.drop 9) (by kernel_rfl) (d := 56) (by kernel_rfl) (F12.e17 W QR QN QE QP) (by kernel_rfl)
def F12.n19 (W : WK) (QR QN : VK) (QE : EK) (QP : PK) (x1 x2 x8 x9 x17 x18 x19 x54 : AV) (h : AH) : Prop :=
aIg false x54 (
F12.n18 W QR QN QE QP x1 x2 x8 x9 x17 x18 x19 x54 x2 h) (
F12.n18 W QR QN QE QP x1 x2 x8 x9 x17 x18 x19 x54 noA h)
def F12.f19 : KT := fun s h => F12.n19 W QR QN QE QP (s.tm 1) (s.tm 2) (s.tm 8) (s.tm 9) (s.tm 17) (s.tm 18) (s.tm 19) (s.tm 54) h
theorem F12.e19 : evG Tryd.prog 90 (fun _ => W) nobody (kP QP) (regOps (F12.d [1, 1, 0, 1, 0, 0, 1, 1, 0, 0, 1, 1, 0, 0])) (F12.g1.drop 7) ((thenQ (F12.f13 W QR QN QE QP) (thenQ (F12.f11 W QR QN QE QP) (blockQ 1 (thenQ (F12.f2 W QR QN QE QP) (F12.q1 QR QN QE))))) .normal) s h = F12.f19 W QR QN QE QP s h := nd_gw (want := false) (j := 26) (is := isAt F12.g1 7) (rest := F12.g1.drop 8) (by kernel_rfl) (d := 54) (by kernel_rfl) (F12.e18 W QR QN QE QP) (by kernel_rfl)
def F12.n20 (W : WK) (QR QN : VK) (QE : EK) (QP : PK) (x1 x2 x8 x9 x17 x18 x19 x47 x52 : AV) (h : AH) : Prop :=
pPick x47 (.sc (.bool true)) x52 fun t42 =>
F12.n19 W QR QN QE QP x1 x2 x8 x9 x17 x18 x19 t42 h
def F12.f20 : KT := fun s h => F12.n20 W QR QN QE QP (s.tm 1) (s.tm 2) (s.tm 8) (s.tm 9) (s.tm 17) (s.tm 18) (s.tm 19) (s.tm 47) (s.tm 52) h
theorem F12.e20 : evG Tryd.prog 90 (fun _ => W) nobody (kP QP) (regOps (F12.d [1, 1, 0, 1, 0, 0, 1, 1, 0, 0, 1, 1, 0, 0])) (F12.g1.drop 6) ((thenQ (F12.f13 W QR QN QE QP) (thenQ (F12.f11 W QR QN QE QP) (blockQ 1 (thenQ (F12.f2 W QR QN QE QP) (F12.q1 QR QN QE))))) .normal) s h = F12.f20 W QR QN QE QP s h := nd_g (is := isAt F12.g1 6) (rest := F12.g1.drop 7) (by kernel_rfl) (F12.e19 W QR QN QE QP) (by kernel_rfl)
def F12.n21 (W : WK) (QR QN : VK) (QE : EK) (QP : PK) (x1 x2 x8 x9 x17 x18 x19 x47 : AV) (h : AH) : Prop :=
aIg false x47 (
pFld (some 4) x8 fun t43 =>
lLd (some false) (some 1) t43 h fun t44 _ =>
pFld (some 4) x9 fun t46 =>
lLd (some false) (some 1) t46 h fun t47 _ =>
pBin Tryd.prog .neq 3 false t44 t47 fun t49 =>
F12.n20 W QR QN QE QP x1 x2 x8 x9 x17 x18 x19 x47 t49 h) (
F12.n20 W QR QN QE QP x1 x2 x8 x9 x17 x18 x19 x47 noA h)
def F12.f21 : KT := fun s h => F12.n21 W QR QN QE QP (s.tm 1) (s.tm 2) (s.tm 8) (s.tm 9) (s.tm 17) (s.tm 18) (s.tm 19) (s.tm 47) h
theorem F12.e21 : evG Tryd.prog 90 (fun _ => W) nobody (kP QP) (regOps (F12.d [1, 1, 0, 1, 0, 0, 1, 1, 0, 0, 1, 1, 0, 0])) (F12.g1.drop 5) ((thenQ (F12.f13 W QR QN QE QP) (thenQ (F12.f11 W QR QN QE QP) (blockQ 1 (thenQ (F12.f2 W QR QN QE QP) (F12.q1 QR QN QE))))) .normal) s h = F12.f21 W QR QN QE QP s h := nd_gw (want := false) (j := 19) (is := isAt F12.g1 5) (rest := F12.g1.drop 6) (by kernel_rfl) (d := 47) (by kernel_rfl) (F12.e20 W QR QN QE QP) (by kernel_rfl)
def F12.n22 (W : WK) (QR QN : VK) (QE : EK) (QP : PK) (x1 x2 x8 x9 x17 x18 x19 x40 x45 : AV) (h : AH) : Prop :=
pPick x40 (.sc (.bool true)) x45 fun t50 =>
F12.n21 W QR QN QE QP x1 x2 x8 x9 x17 x18 x19 t50 h
def F12.f22 : KT := fun s h => F12.n22 W QR QN QE QP (s.tm 1) (s.tm 2) (s.tm 8) (s.tm 9) (s.tm 17) (s.tm 18) (s.tm 19) (s.tm 40) (s.tm 45) h
theorem F12.e22 : evG Tryd.prog 90 (fun _ => W) nobody (kP QP) (regOps (F12.d [1, 1, 0, 1, 0, 0, 1, 1, 0, 0, 1, 1, 0, 0])) (F12.g1.drop 4) ((thenQ (F12.f13 W QR QN QE QP) (thenQ (F12.f11 W QR QN QE QP) (blockQ 1 (thenQ (F12.f2 W QR QN QE QP) (F12.q1 QR QN QE))))) .normal) s h = F12.f22 W QR QN QE QP s h := nd_g (is := isAt F12.g1 4) (rest := F12.g1.drop 5) (by kernel_rfl) (F12.e21 W QR QN QE QP) (by kernel_rfl)
def F12.n23 (W : WK) (QR QN : VK) (QE : EK) (QP : PK) (x1 x2 x8 x9 x17 x18 x19 x40 : AV) (h : AH) : Prop :=
aIg false x40 (
pFld (some 3) x8 fun t51 =>
lLd (some false) (some 1) t51 h fun t52 _ =>
pFld (some 3) x9 fun t54 =>
lLd (some false) (some 1) t54 h fun t55 _ =>
pBin Tryd.prog .neq 3 false t52 t55 fun t57 =>
F12.n22 W QR QN QE QP x1 x2 x8 x9 x17 x18 x19 x40 t57 h) (
F12.n22 W QR QN QE QP x1 x2 x8 x9 x17 x18 x19 x40 noA h)
def F12.f23 : KT := fun s h => F12.n23 W QR QN QE QP (s.tm 1) (s.tm 2) (s.tm 8) (s.tm 9) (s.tm 17) (s.tm 18) (s.tm 19) (s.tm 40) h
theorem F12.e23 : evG Tryd.prog 90 (fun _ => W) nobody (kP QP) (regOps (F12.d [1, 1, 0, 1, 0, 0, 1, 1, 0, 0, 1, 1, 0, 0])) (F12.g1.drop 3) ((thenQ (F12.f13 W QR QN QE QP) (thenQ (F12.f11 W QR QN QE QP) (blockQ 1 (thenQ (F12.f2 W QR QN QE QP) (F12.q1 QR QN QE))))) .normal) s h = F12.f23 W QR QN QE QP s h := nd_gw (want := false) (j := 12) (is := isAt F12.g1 3) (rest := F12.g1.drop 4) (by kernel_rfl) (d := 40) (by kernel_rfl) (F12.e22 W QR QN QE QP) (by kernel_rfl)
def F12.n24 (W : WK) (QR QN : VK) (QE : EK) (QP : PK) (x1 x2 x8 x9 x17 x18 x19 x33 x38 : AV) (h : AH) : Prop :=
pPick x33 (.sc (.bool true)) x38 fun t58 =>
F12.n23 W QR QN QE QP x1 x2 x8 x9 x17 x18 x19 t58 h
def F12.f24 : KT := fun s h => F12.n24 W QR QN QE QP (s.tm 1) (s.tm 2) (s.tm 8) (s.tm 9) (s.tm 17) (s.tm 18) (s.tm 19) (s.tm 33) (s.tm 38) h
theorem F12.e24 : evG Tryd.prog 90 (fun _ => W) nobody (kP QP) (regOps (F12.d [1, 1, 0, 1, 0, 0, 1, 1, 0, 0, 1, 1, 0, 0])) (F12.g1.drop 2) ((thenQ (F12.f13 W QR QN QE QP) (thenQ (F12.f11 W QR QN QE QP) (blockQ 1 (thenQ (F12.f2 W QR QN QE QP) (F12.q1 QR QN QE))))) .normal) s h = F12.f24 W QR QN QE QP s h := nd_g (is := isAt F12.g1 2) (rest := F12.g1.drop 3) (by kernel_rfl) (F12.e23 W QR QN QE QP) (by kernel_rfl)
def F12.n25 (W : WK) (QR QN : VK) (QE : EK) (QP : PK) (x1 x2 x8 x9 x17 x18 x19 x33 : AV) (h : AH) : Prop :=
aIg false x33 (
pFld (some 1) x8 fun t59 =>
lLd (some false) (some 1) t59 h fun t60 _ =>
pFld (some 1) x9 fun t62 =>
lLd (some false) (some 1) t62 h fun t63 _ =>
pBin Tryd.prog .neq 9 false t60 t63 fun t65 =>
F12.n24 W QR QN QE QP x1 x2 x8 x9 x17 x18 x19 x33 t65 h) (
F12.n24 W QR QN QE QP x1 x2 x8 x9 x17 x18 x19 x33 noA h)
def F12.f25 : KT := fun s h => F12.n25 W QR QN QE QP (s.tm 1) (s.tm 2) (s.tm 8) (s.tm 9) (s.tm 17) (s.tm 18) (s.tm 19) (s.tm 33) h
theorem F12.e25 : evG Tryd.prog 90 (fun _ => W) nobody (kP QP) (regOps (F12.d [1, 1, 0, 1, 0, 0, 1, 1, 0, 0, 1, 1, 0, 0])) (F12.g1.drop 1) ((thenQ (F12.f13 W QR QN QE QP) (thenQ (F12.f11 W QR QN QE QP) (blockQ 1 (thenQ (F12.f2 W QR QN QE QP) (F12.q1 QR QN QE))))) .normal) s h = F12.f25 W QR QN QE QP s h := nd_gw (want := false) (j := 5) (is := isAt F12.g1 1) (rest := F12.g1.drop 2) (by kernel_rfl) (d := 33) (by kernel_rfl) (F12.e24 W QR QN QE QP) (by kernel_rfl)
def F12.n26 (W : WK) (QR QN : VK) (QE : EK) (QP : PK) (x1 x2 x8 x9 x17 x18 x19 : AV) (h : AH) : Prop :=
pFld (some 0) x8 fun t66 =>
lLd (some false) (some 1) t66 h fun t67 _ =>
pFld (some 0) x9 fun t69 =>
lLd (some false) (some 1) t69 h fun t70 _ =>
pBin Tryd.prog .neq 9 false t67 t70 fun t72 =>
F12.n25 W QR QN QE QP x1 x2 x8 x9 x17 x18 x19 t72 h
def F12.f26 : KT := fun s h => F12.n26 W QR QN QE QP (s.tm 1) (s.tm 2) (s.tm 8) (s.tm 9) (s.tm 17) (s.tm 18) (s.tm 19) h
theorem F12.e26 : evG Tryd.prog 90 (fun _ => W) nobody (kP QP) (regOps (F12.d [1, 1, 0, 1, 0, 0, 1, 1, 0, 0, 1, 1, 0, 0])) (F12.g1.drop 0) ((thenQ (F12.f13 W QR QN QE QP) (thenQ (F12.f11 W QR QN QE QP) (blockQ 1 (thenQ (F12.f2 W QR QN QE QP) (F12.q1 QR QN QE))))) .normal) s h = F12.f26 W QR QN QE QP s h := nd_g (is := isAt F12.g1 0) (rest := F12.g1.drop 1) (by kernel_rfl) (F12.e25 W QR QN QE QP) (by kernel_rfl)
theorem F12.o5 : F12.cw W (F12.d [1, 1, 0, 1, 0, 0, 1, 1, 0, 0, 1, 1, 0, 0]) (thenQ (F12.f13 W QR QN QE QP) (thenQ (F12.f11 W QR QN QE QP) (blockQ 1 (thenQ (F12.f2 W QR QN QE QP) (F12.q1 QR QN QE))))) QP s h = F12.f26 W QR QN QE QP s h := nd_groups (id := 7) (draw := false) (ops := (regOps (F12.d [1, 1, 0, 1, 0, 0, 1, 1, 0, 0, 1, 1, 0, 0]))) (gs := F12.g1.drop 0) (by kernel_rfl) (by kernel_rfl) (F12.e26 W QR QN QE QP s h)
theorem F12.o6 : F12.cw W (F12.d [1, 1, 0, 1, 0, 0, 1, 1, 0, 0, 1, 1, 0]) (thenQ (F12.f11 W QR QN QE QP) (blockQ 1 (thenQ (F12.f2 W QR QN QE QP) (F12.q1 QR QN QE)))) QP s h = F12.f26 W QR QN QE QP s h := nd_seq (a := (F12.d [1, 1, 0, 1, 0, 0, 1, 1, 0, 0, 1, 1, 0, 0])) (b := (F12.d [1, 1, 0, 1, 0, 0, 1, 1, 0, 0, 1, 1, 0, 1])) (by kernel_rfl) (F12.e13 W QR QN QE QP) (F12.o5 W QR QN QE QP s h)
theorem F12.o7 : F12.cw W (F12.d [1, 1, 0, 1, 0, 0, 1, 1, 0, 0, 1, 1]) (blockQ 1 (thenQ (F12.f2 W QR QN QE QP) (F12.q1 QR QN QE))) QP s h = F12.f26 W QR QN QE QP s h := nd_seq (a := (F12.d [1, 1, 0, 1, 0, 0, 1, 1, 0, 0, 1, 1, 0])) (b := (F12.d [1, 1, 0, 1, 0, 0, 1, 1, 0, 0, 1, 1, 1])) (by kernel_rfl) (F12.e11 W QR QN QE QP) (F12.o6 W QR QN QE QP s h)
def F12.n27 (W : WK) (QR QN : VK) (QE : EK) (QP : PK) (x1 x2 x7 x8 x17 x18 x19 : AV) (h : AH) : Prop :=
pIxA (some (6, none)) x1 x7 fun t73 =>
lLd (some true) (some 6) t73 h fun t74 _ =>
eAlloc (some [.string ⟨#[]⟩, .string ⟨#[]⟩, .slice none 0 0, .int .i64 0, .int .i64 0, .int .i64 0]) 6 39 h fun t76 h77 =>
eStore (some 6) t76 t74 h77 W fun h78 =>
F12.n26 W QR QN QE QP x1 x2 x8 t76 x17 x18 x19 h78
def F12.f27 : KT := fun s h => F12.n27 W QR QN QE QP (s.tm 1) (s.tm 2) (s.tm 7) (s.tm 8) (s.tm 17) (s.tm 18) (s.tm 19) h
theorem F12.e27 : F12.cw W (F12.d [1, 1, 0, 1, 0, 0, 1, 1, 0, 0, 1]) (blockQ 1 (thenQ (F12.f2 W QR QN QE QP) (F12.q1 QR QN QE))) QP s h = F12.f27 W QR QN QE QP s h := nd_seq (a := (F12.d [1, 1, 0, 1, 0, 0, 1, 1, 0, 0, 1, 0])) (b := (F12.d [1, 1, 0, 1, 0, 0, 1, 1, 0, 0, 1, 1])) (by kernel_rfl) (F12.o7 W QR QN QE QP) (by kernel_rfl)
def F12.n28 (W : WK) (QR QN : VK) (QE : EK) (QP : PK) (x1 x2 x17 x18 x19 : AV) (h : AH) : Prop :=
pIxA (some (6, none)) x17 x19 fun t79 =>
lLd (some true) (some 6) t79 h fun t80 _ =>
eAlloc (some [.string ⟨#[]⟩, .string ⟨#[]⟩, .slice none 0 0, .int .i64 0, .int .i64 0, .int .i64 0]) 6 39 h fun t82 h83 =>
eStore (some 6) t82 t80 h83 W fun h84 =>
F12.n27 W QR QN QE QP x1 x2 x19 t82 x17 x18 x19 h84
def F12.f28 : KT := fun s h => F12.n28 W QR QN QE QP (s.tm 1) (s.tm 2) (s.tm 17) (s.tm 18) (s.tm 19) h
theorem F12.e28 : F12.cw W (F12.d [1, 1, 0, 1, 0, 0, 1, 1, 0, 0]) (blockQ 1 (thenQ (F12.f2 W QR QN QE QP) (F12.q1 QR QN QE))) QP s h = F12.f28 W QR QN QE QP s h := nd_seq (a := (F12.d [1, 1, 0, 1, 0, 0, 1, 1, 0, 0, 0])) (b := (F12.d [1, 1, 0, 1, 0, 0, 1, 1, 0, 0, 1])) (by kernel_rfl) (F12.e27 W QR QN QE QP) (by kernel_rfl)
theorem F12.o8 : F12.cw W (F12.d [1, 1, 0, 1, 0, 0, 1, 1, 0]) (thenQ (F12.f2 W QR QN QE QP) (F12.q1 QR QN QE)) QP s h = F12.f28 W QR QN QE QP s h := nd_block (a := (F12.d [1, 1, 0, 1, 0, 0, 1, 1, 0, 0])) (by kernel_rfl) (F12.e28 W QR QN QE QP s h)
theorem F12.o9 : F12.cw W (F12.d [1, 1, 0, 1, 0, 0, 1, 1]) (F12.q1 QR QN QE) QP s h = F12.f28 W QR QN QE QP s h := nd_seq (a := (F12.d [1, 1, 0, 1, 0, 0, 1, 1, 0])) (b := (F12.d [1, 1, 0, 1, 0, 0, 1, 1, 1])) (by kernel_rfl) (F12.e2 W QR QN QE QP) (F12.o8 W QR QN QE QP s h)
def F12.n29 (W : WK) (QR QN : VK) (QE : EK) (QP : PK) (x1 x2 x17 x18 x19 x20 : AV) (h : AH) : Prop :=
aIf x20 (
F12.n28 W QR QN QE QP x1 x2 x17 x18 x19 h) (
QE 0 [] h)
def F12.f29 : KT := fun s h => F12.n29 W QR QN QE QP (s.tm 1) (s.tm 2) (s.tm 17) (s.tm 18) (s.tm 19) (s.tm 20) h
theorem F12.e29 : F12.cw W (F12.d [1, 1, 0, 1, 0, 0, 1, 0]) (thenQ (F12.f28 W QR QN QE QP) (F12.q1 QR QN QE)) QP s h = F12.f29 W QR QN QE QP s h := nd_cond (o := (.tmp 20)) (a := (F12.d [1, 1, 0, 1, 0, 0, 1, 0, 0])) (b := (F12.d [1, 1, 0, 1, 0, 0, 1, 0, 1])) (by kernel_rfl) rfl rfl (by kernel_rfl)
theorem F12.o10 : F12.cw W (F12.d [1, 1, 0, 1, 0, 0, 1]) (F12.q1 QR QN QE) QP s h = F12.f29 W QR QN QE QP s h := nd_seq (a := (F12.d [1, 1, 0, 1, 0, 0, 1, 0])) (b := (F12.d [1, 1, 0, 1, 0, 0, 1, 1])) (by kernel_rfl) (F12.o9 W QR QN QE QP) (F12.e29 W QR QN QE QP s h)
def F12.n30 (W : WK) (QR QN : VK) (QE : EK) (QP : PK) (x1 x2 x17 x18 x19 : AV) (h : AH) : Prop :=
pBin Tryd.prog .lss 3 false x19 x18 fun t85 =>
F12.n29 W QR QN QE QP x1 x2 x17 x18 x19 t85 h
def F12.f30 : KT := fun s h => F12.n30 W QR QN QE QP (s.tm 1) (s.tm 2) (s.tm 17) (s.tm 18) (s.tm 19) h
theorem F12.e30 : F12.cw W (F12.d [1, 1, 0, 1, 0, 0]) (F12.q1 QR QN QE) QP s h = F12.f30 W QR QN QE QP s h := nd_seq (a := (F12.d [1, 1, 0, 1, 0, 0, 0])) (b := (F12.d [1, 1, 0, 1, 0, 0, 1])) (by kernel_rfl) (F12.o10 W QR QN QE QP) (by kernel_rfl)
noncomputable def F12.c1 : Code := (F12.d [1, 1, 0, 1, 0, 0])
theorem F12.l1 : aw Tryd.prog 90 W F12.pl F12.c1 (F12.q1 QR QN QE) (kP QP) s h = F12.f30 W QR QN QE QP s h := F12.e30 W QR QN QE QP s h
def F12.g1_ (W : WK) (QR QN : VK) (QE : EK) (QP : PK) : VK → VK := fun QN' vs h => F12.n30 W QR QN' (fun (i : Nat) (vs : List AV) (h : AH) => if i = 0 then F12.n1 W QR QN QE QP h else QE i vs h) QP (vs.getD 0 noA) (vs.getD 1 noA) (vs.getD 2 noA) (vs.getD 3 noA) (vs.getD 4 noA) h
theorem F12.p1 {Kn : VK} {KQ : KT} (hK : ∀ s h, KQ s h = Kn [s.tm 1, s.tm 2, s.tm 17, s.tm 18, s.tm 19] h) : thenQ KQ (blockQ 0 (thenQ (F12.f1 W QR QN QE QP) (F12.q0 QR QN QE))) = F12.q1 QR Kn (fun (i : Nat) (vs : List AV) (h : AH) => if i = 0 then F12.n1 W QR QN QE QP h else QE i vs h) := by
  funext x s h
  cases x with
  | normal => exact hK s h
  | ret => kernel_rfl
  | goto l => kernel_rfl
  | exit j =>
    by_cases h0 : j = 0
    · subst h0; kernel_rfl
    simp only [thenQ, blockQ, noGotoQ, if_neg h0, F12.q1, F12.el1, F12.q0, F12.el0]
def F12.n31 (W : WK) (QR QN : VK) (QE : EK) (QP : PK) (x1 x2 x17 x18 x19 : AV) (h : AH) : Prop :=
vLoop (F12.g1_ W QR QN QE QP) [x1, x2, x17, x18, x19] h
def F12.f31 : KT := fun s h => F12.n31 W QR QN QE QP (s.tm 1) (s.tm 2) (s.tm 17) (s.tm 18) (s.tm 19) h
theorem F12.e31 : F12.cw W (F12.d [1, 1, 0, 1, 0]) (blockQ 0 (thenQ (F12.f1 W QR QN QE QP) (F12.q0 QR QN QE))) QP s h = F12.f31 W QR QN QE QP s h := (nd_loop (a := F12.c1) (by kernel_rfl)).trans (vloopD (L := fun tm => [tm 1, tm 2, tm 17, tm 18, tm 19]) (G := F12.g1_ W QR QN QE QP) (fun Kn KQ hK s h => (congrArg (fun q => aw Tryd.prog 90 W F12.pl F12.c1 q (kP QP) s h) (F12.p1 W QR QN QE QP hK)).trans (F12.l1 W QR Kn (fun (i : Nat) (vs : List AV) (h : AH) => if i = 0 then F12.n1 W QR QN QE QP h else QE i vs h) QP s h)) s h)
theorem F12.o11 : F12.cw W (F12.d [1, 1, 0, 1]) (thenQ (F12.f1 W QR QN QE QP) (F12.q0 QR QN QE)) QP s h = F12.f31 W QR QN QE QP s h := nd_block (a := (F12.d [1, 1, 0, 1, 0])) (by kernel_rfl) (F12.e31 W QR QN QE QP s h)
def F12.n32 (W : WK) (QR QN : VK) (QE : EK) (QP : PK) (x0 x1 x2 : AV) (h : AH) : Prop :=
(strArg x0 = false) ∧ pLen x0 fun t86 =>
F12.n31 W QR QN QE QP x1 x2 x0 t86 (.sc (.int .i64 0)) h
def F12.f32 : KT := fun s h => F12.n32 W QR QN QE QP (s.tm 0) (s.tm 1) (s.tm 2) h
theorem F12.e32 : F12.cw W (F12.d [1, 1, 0]) (thenQ (F12.f1 W QR QN QE QP) (F12.q0 QR QN QE)) QP s h = F12.f32 W QR QN QE QP s h := nd_seq (a := (F12.d [1, 1, 0, 0])) (b := (F12.d [1, 1, 0, 1])) (by kernel_rfl) (F12.o11 W QR QN QE QP) (by kernel_rfl)
theorem F12.o12 : F12.cw W (F12.d [1, 1]) (F12.q0 QR QN QE) QP s h = F12.f32 W QR QN QE QP s h := nd_seq (a := (F12.d [1, 1, 0])) (b := (F12.d [1, 1, 1])) (by kernel_rfl) (F12.e1 W QR QN QE QP) (F12.e32 W QR QN QE QP s h)
def F12.n33 (_ : WK) (QR _ : VK) (_ : EK) (_ : PK) (h : AH) : Prop :=
QR [(.sc (.bool false))] h
def F12.f33 : KT := fun _ h => F12.n33 W QR QN QE QP h
theorem F12.e33 : F12.cw W (F12.d [1, 0, 1, 0]) (thenQ (F12.f32 W QR QN QE QP) (F12.q0 QR QN QE)) QP s h = F12.f33 W QR QN QE QP s h := nd_seq (a := (F12.d [1, 0, 1, 0, 0])) (b := (F12.d [1, 0, 1, 0, 1])) (by kernel_rfl) (fun _ _ => rfl) (by kernel_rfl)
def F12.n34 (W : WK) (QR QN : VK) (QE : EK) (QP : PK) (x0 x1 x2 x16 : AV) (h : AH) : Prop :=
aIf x16 (
F12.n33 W QR QN QE QP h) (
F12.n32 W QR QN QE QP x0 x1 x2 h)
def F12.f34 : KT := fun s h => F12.n34 W QR QN QE QP (s.tm 0) (s.tm 1) (s.tm 2) (s.tm 16) h
theorem F12.e34 : F12.cw W (F12.d [1, 0, 1]) (thenQ (F12.f32 W QR QN QE QP) (F12.q0 QR QN QE)) QP s h = F12.f34 W QR QN QE QP s h := nd_cond (o := (.tmp 16)) (a := (F12.d [1, 0, 1, 0])) (b := (F12.d [1, 0, 1, 1])) (by kernel_rfl) (F12.e33 W QR QN QE QP s h) rfl (by kernel_rfl)
def F12.n35 (W : WK) (QR QN : VK) (QE : EK) (QP : PK) (x0 x1 x2 : AV) (h : AH) : Prop :=
(strArg x0 = false) ∧ pLen x0 fun t87 =>
(strArg x1 = false) ∧ pLen x1 fun t88 =>
pBin Tryd.prog .neq 3 false t87 t88 fun t89 =>
F12.n34 W QR QN QE QP x0 x1 x2 t89 h
def F12.f35 : KT := fun s h => F12.n35 W QR QN QE QP (s.tm 0) (s.tm 1) (s.tm 2) h
theorem F12.e35 : F12.cw W (F12.d [1, 0]) (thenQ (F12.f32 W QR QN QE QP) (F12.q0 QR QN QE)) QP s h = F12.f35 W QR QN QE QP s h := nd_seq (a := (F12.d [1, 0, 0])) (b := (F12.d [1, 0, 1])) (by kernel_rfl) (F12.e34 W QR QN QE QP) (by kernel_rfl)
theorem F12.o13 : F12.cw W (F12.d [1]) (F12.q0 QR QN QE) QP s h = F12.f35 W QR QN QE QP s h := nd_seq (a := (F12.d [1, 0])) (b := (F12.d [1, 1])) (by kernel_rfl) (F12.o12 W QR QN QE QP) (F12.e35 W QR QN QE QP s h)
def F12.n36 (W : WK) (QR QN : VK) (QE : EK) (QP : PK) (x0 x1 x2 : AV) (h : AH) : Prop :=
F12.n35 W QR QN QE QP x0 x1 x2 h
def F12.f36 : KT := fun s h => F12.n36 W QR QN QE QP (s.tm 0) (s.tm 1) (s.tm 2) h
theorem F12.e36 : F12.cw W (F12.d []) (F12.q0 QR QN QE) QP s h = F12.f36 W QR QN QE QP s h := nd_seq (a := (F12.d [0])) (b := (F12.d [1])) (by kernel_rfl) (F12.o13 W QR QN QE QP) (by kernel_rfl)
end
set_option maxRecDepth 100000 in
theorem F12.callsN {x0 x1 x2 : AV} {h : AH} {M : Nat → Prop} {R : AE → AH → Prop} (hp : F12.n36 (fun id => M id ∨ h.next ≤ id) (retV Tryd.prog [.tmp 6] R) (retV Tryd.prog [.tmp 6] R) (fun _ _ _ => False) (fun v h => R (.pan v) h) x0 x1 x2 h) : ACalls Tryd.prog 12 [x0, x1, x2] h M R :=
  acalls_of (c := F12.code) Tryd.mixed Tryd.func12 (by kernel_rfl) (Nat.le_of_ble_eq_true rfl) F12.ok (by rw [show Tryd.f12.ntmps = 90 from rfl, show Tryd.f12.results.toList = [.tmp 6] from rfl]; exact body_D (q := F12.q0 (retV Tryd.prog [.tmp 6] R) (retV Tryd.prog [.tmp 6] R) (fun _ _ _ => False)) (by kernel_rfl) (fun _ _ => rfl) (fun _ _ => rfl) (fun _ _ _ h => h) (fun _ _ _ h => h) rfl (Eq.mpr (F12.e36 (fun id => M id ∨ h.next ≤ id) (retV Tryd.prog [.tmp 6] R) (retV Tryd.prog [.tmp 6] R) (fun _ _ _ => False) (fun v h => R (.pan v) h) (s0 [x0, x1, x2]) h) hp))
attribute [simp] F12.n1 F12.n2 F12.n3 F12.n4 F12.n5 F12.n6 F12.n7 F12.n8 F12.n9 F12.n11 F12.n12 F12.n13 F12.n14 F12.n15 F12.n16 F12.n17 F12.n18 F12.n19 F12.n20 F12.n21 F12.n22 F12.n23 F12.n24 F12.n25 F12.n26 F12.n27 F12.n28 F12.n29 F12.n30 F12.n32 F12.n33 F12.n34 F12.n35 F12.n36
end Go.Proofs.YthkkgbmjjpcfaaaDoor
namespace Go.Proofs.YthkkgbmjjpcfaaaDoor
open Go.Ab
section
variable (W : Nat → Prop) (QR QN : VK) (QE : Nat → VK) (QP : AV → AH → Prop) (s : St) (h : AH)
noncomputable def F4.code : Code := Tryd.f4.body.getD .skip
def F4.g1 : Grps := [(none, [(0, false), (1, false), (2, false)]), (some (2, false), [(3, false), (4, false), (5, false)]), (none, [(6, false)])]
def F4.g2 : Grps := [(none, [(0, false), (1, false), (2, false)]), (some (2, false), [(3, false), (4, false)]), (none, [(5, false), (6, false)]), (some (6, false), [(7, false), (8, false), (9, false), (10, false)]), (none, [(11, false)])]
def F4.g3 : Grps := [(none, [(0, false), (1, false), (2, false)]), (some (2, false), [(3, false), (4, false), (5, false)]), (some (5, true), [(6, false), (7, false), (8, false), (9, false), (10, false)]), (some (2, false), [(11, false), (12, false)]), (some (12, true), [(13, false), (14, false), (15, false)]), (some (2, false), [(16, false), (17, false)]), (some (17, true), [(18, false), (19, false)]), (some (2, false), [(20, false)]), (none, [(21, false)])]
def F4.pl : Plans := [(10, ⟨F4.g3, false, [], []⟩), (13, ⟨F4.g2, false, [], []⟩), (16, ⟨F4.g1, false, [], []⟩)]
theorem F4.ok : okCode Tryd.prog F4.pl F4.code = true := by kernel_rfl
noncomputable abbrev F4.d (p : List Nat) : Code := Code.at F4.code p
abbrev F4.cw (W : Nat → Prop) (c : Code) (q : Post) (QP : AV → AH → Prop) : KT := Go.Ab.aw Tryd.prog 95 W F4.pl c q (kP QP)
def F4.el0 (_ : Nat) (_ : Nat → AV) : List AV := []
def F4.q0 (QR QN : VK) (QE : Nat → VK) : Post := fun x s h => match x with | .normal => QN [s.tm 4] h | .ret => QR [s.tm 4] h | .exit j => QE j (F4.el0 j s.tm) h | .goto _ => False
def F4.n1 (_ : WK) (QR _ : VK) (_ : EK) (_ : PK) (h : AH) : Prop :=
QR [(.sc (.bool true))] h
def F4.f1 : KT := fun _ h => F4.n1 W QR QN QE QP h
theorem F4.e1 : F4.cw W (F4.d [1, 1, 1, 1]) (F4.q0 QR QN QE) QP s h = F4.f1 W QR QN QE QP s h := nd_seq (a := (F4.d [1, 1, 1, 1, 0])) (b := (F4.d [1, 1, 1, 1, 1])) (by kernel_rfl) (fun _ _ => rfl) (by kernel_rfl)
def F4.el1 (j : Nat) (_ : Nat → AV) : List AV := if j = 0 then [] else []
def F4.q1 (QR QN : VK) (QE : Nat → VK) : Post := fun x s h => match x with | .normal => QN [s.tm 5, s.tm 7, s.tm 27, s.tm 28, s.tm 29] h | .ret => QR [s.tm 4] h | .exit j => QE j (F4.el1 j s.tm) h | .goto _ => False
def F4.n2 (_ : WK) (_ QN : VK) (_ : EK) (_ : PK) (x5 x7 x27 x28 x29 : AV) (h : AH) : Prop :=
pBin Tryd.prog .add 3 true x29 (.sc (.int .i64 1)) fun t1 =>
QN [x5, x7, x27, x28, t1] h
def F4.f2 : KT := fun s h => F4.n2 W QR QN QE QP (s.tm 5) (s.tm 7) (s.tm 27) (s.tm 28) (s.tm 29) h
theorem F4.e2 : F4.cw W (F4.d [1, 1, 1, 0, 1, 0, 0, 1, 1, 1]) (F4.q1 QR QN QE) QP s h = F4.f2 W QR QN QE QP s h := by kernel_rfl
def F4.n3 (_ : WK) (QR _ : VK) (_ : EK) (_ : PK) (h : AH) : Prop :=
QR [(.sc (.bool false))] h
def F4.f3 : KT := fun _ h => F4.n3 W QR QN QE QP h
theorem F4.e3 : F4.cw W (F4.d [1, 1, 1, 0, 1, 0, 0, 1, 1, 0, 0, 1, 1, 1, 1, 1, 1, 1, 1, 0]) (blockQ 1 (thenQ (F4.f2 W QR QN QE QP) (F4.q1 QR QN QE))) QP s h = F4.f3 W QR QN QE QP s h := nd_seq (a := (F4.d [1, 1, 1, 0, 1, 0, 0, 1, 1, 0, 0, 1, 1, 1, 1, 1, 1, 1, 1, 0, 0])) (b := (F4.d [1, 1, 1, 0, 1, 0, 0, 1, 1, 0, 0, 1, 1, 1, 1, 1, 1, 1, 1, 0, 1])) (by kernel_rfl) (fun _ _ => rfl) (by kernel_rfl)
def F4.n4 (W : WK) (QR QN : VK) (QE : EK) (QP : PK) (x5 x7 x27 x28 x29 x93 : AV) (h : AH) : Prop :=
aIf x93 (
F4.n3 W QR QN QE QP h) (
F4.n2 W QR QN QE QP x5 x7 x27 x28 x29 h)
def F4.f4 : KT := fun s h => F4.n4 W QR QN QE QP (s.tm 5) (s.tm 7) (s.tm 27) (s.tm 28) (s.tm 29) (s.tm 93) h
theorem F4.e4 : F4.cw W (F4.d [1, 1, 1, 0, 1, 0, 0, 1, 1, 0, 0, 1, 1, 1, 1, 1, 1, 1, 1]) (blockQ 1 (thenQ (F4.f2 W QR QN QE QP) (F4.q1 QR QN QE))) QP s h = F4.f4 W QR QN QE QP s h := nd_cond (o := (.tmp 93)) (a := (F4.d [1, 1, 1, 0, 1, 0, 0, 1, 1, 0, 0, 1, 1, 1, 1, 1, 1, 1, 1, 0])) (b := (F4.d [1, 1, 1, 0, 1, 0, 0, 1, 1, 0, 0, 1, 1, 1, 1, 1, 1, 1, 1, 1])) (by kernel_rfl) (F4.e3 W QR QN QE QP s h) rfl (by kernel_rfl)
def F4.n5 (W : WK) (QR QN : VK) (QE : EK) (QP : PK) (x5 x7 x27 x28 x29 x89 x92 : AV) (h : AH) : Prop :=
pPick x89 (.sc (.bool true)) x92 fun t2 =>
F4.n4 W QR QN QE QP x5 x7 x27 x28 x29 t2 h
def F4.f5 : KT := fun s h => F4.n5 W QR QN QE QP (s.tm 5) (s.tm 7) (s.tm 27) (s.tm 28) (s.tm 29) (s.tm 89) (s.tm 92) h
theorem F4.e5 : evG Tryd.prog 95 (fun _ => W) nobody (kP QP) (regOps (F4.d [1, 1, 1, 0, 1, 0, 0, 1, 1, 0, 0, 1, 1, 1, 1, 1, 1, 1, 0])) (F4.g1.drop 2) ((thenQ (F4.f4 W QR QN QE QP) (blockQ 1 (thenQ (F4.f2 W QR QN QE QP) (F4.q1 QR QN QE)))) .normal) s h = F4.f5 W QR QN QE QP s h := nd_g (is := isAt F4.g1 2) (rest := F4.g1.drop 3) (by kernel_rfl) (fun _ _ => rfl) (by kernel_rfl)
def F4.n6 (W : WK) (QR QN : VK) (QE : EK) (QP : PK) (x5 x7 x10 x15 x27 x28 x29 x89 : AV) (h : AH) : Prop :=
aIg false x89 (
pBin Tryd.prog .neq 9 false x15 x10 fun t3 =>
F4.n5 W QR QN QE QP x5 x7 x27 x28 x29 x89 t3 h) (
F4.n5 W QR QN QE QP x5 x7 x27 x28 x29 x89 noA h)
def F4.f6 : KT := fun s h => F4.n6 W QR QN QE QP (s.tm 5) (s.tm 7) (s.tm 10) (s.tm 15) (s.tm 27) (s.tm 28) (s.tm 29) (s.tm 89) h
theorem F4.e6 : evG Tryd.prog 95 (fun _ => W) nobody (kP QP) (regOps (F4.d [1, 1, 1, 0, 1, 0, 0, 1, 1, 0, 0, 1, 1, 1, 1, 1, 1, 1, 0])) (F4.g1.drop 1) ((thenQ (F4.f4 W QR QN QE QP) (blockQ 1 (thenQ (F4.f2 W QR QN QE QP) (F4.q1 QR QN QE)))) .normal) s h = F4.f6 W QR QN QE QP s h := nd_gw (want := false) (j := 2) (is := isAt F4.g1 1) (rest := F4.g1.drop 2) (by kernel_rfl) (d := 89) (by kernel_rfl) (F4.e5 W QR QN QE QP) (by kernel_rfl)
def F4.n7 (W : WK) (QR QN : VK) (QE : EK) (QP : PK) (x5 x7 x10 x15 x16 x27 x28 x29 : AV) (h : AH) : Prop :=
pBin Tryd.prog .neq 28 true x16 (.sc (.int .i64 0)) fun t4 =>
F4.n6 W QR QN QE QP x5 x7 x10 x15 x27 x28 x29 t4 h
def F4.f7 : KT := fun s h => F4.n7 W QR QN QE QP (s.tm 5) (s.tm 7) (s.tm 10) (s.tm 15) (s.tm 16) (s.tm 27) (s.tm 28) (s.tm 29) h
theorem F4.e7 : evG Tryd.prog 95 (fun _ => W) nobody (kP QP) (regOps (F4.d [1, 1, 1, 0, 1, 0, 0, 1, 1, 0, 0, 1, 1, 1, 1, 1, 1, 1, 0])) (F4.g1.drop 0) ((thenQ (F4.f4 W QR QN QE QP) (blockQ 1 (thenQ (F4.f2 W QR QN QE QP) (F4.q1 QR QN QE)))) .normal) s h = F4.f7 W QR QN QE QP s h := nd_g (is := isAt F4.g1 0) (rest := F4.g1.drop 1) (by kernel_rfl) (F4.e6 W QR QN QE QP) (by kernel_rfl)
theorem F4.o1 : F4.cw W (F4.d [1, 1, 1, 0, 1, 0, 0, 1, 1, 0, 0, 1, 1, 1, 1, 1, 1, 1, 0]) (thenQ (F4.f4 W QR QN QE QP) (blockQ 1 (thenQ (F4.f2 W QR QN QE QP) (F4.q1 QR QN QE)))) QP s h = F4.f7 W QR QN QE QP s h := nd_groups (id := 16) (draw := false) (ops := (regOps (F4.d [1, 1, 1, 0, 1, 0, 0, 1, 1, 0, 0, 1, 1, 1, 1, 1, 1, 1, 0]))) (gs := F4.g1.drop 0) (by kernel_rfl) (by kernel_rfl) (F4.e7 W QR QN QE QP s h)
theorem F4.o2 : F4.cw W (F4.d [1, 1, 1, 0, 1, 0, 0, 1, 1, 0, 0, 1, 1, 1, 1, 1, 1, 1]) (blockQ 1 (thenQ (F4.f2 W QR QN QE QP) (F4.q1 QR QN QE))) QP s h = F4.f7 W QR QN QE QP s h := nd_seq (a := (F4.d [1, 1, 1, 0, 1, 0, 0, 1, 1, 0, 0, 1, 1, 1, 1, 1, 1, 1, 0])) (b := (F4.d [1, 1, 1, 0, 1, 0, 0, 1, 1, 0, 0, 1, 1, 1, 1, 1, 1, 1, 1])) (by kernel_rfl) (F4.e4 W QR QN QE QP) (F4.o1 W QR QN QE QP s h)
def F4.n8 (W : WK) (QR QN : VK) (QE : EK) (QP : PK) (x5 x7 x10 x12 x27 x28 x29 : AV) (h : AH) : Prop :=
aCall Tryd.prog W 9 [x12] h (fun t5 h6 =>
pExt t5 0 fun t7 =>
pExt t5 1 fun t8 =>
F4.n7 W QR QN QE QP x5 x7 x10 t7 t8 x27 x28 x29 h6) QP
def F4.f8 : KT := fun s h => F4.n8 W QR QN QE QP (s.tm 5) (s.tm 7) (s.tm 10) (s.tm 12) (s.tm 27) (s.tm 28) (s.tm 29) h
theorem F4.e8 : F4.cw W (F4.d [1, 1, 1, 0, 1, 0, 0, 1, 1, 0, 0, 1, 1, 1, 1, 1, 1]) (blockQ 1 (thenQ (F4.f2 W QR QN QE QP) (F4.q1 QR QN QE))) QP s h = F4.f8 W QR QN QE QP s h := nd_seq (a := (F4.d [1, 1, 1, 0, 1, 0, 0, 1, 1, 0, 0, 1, 1, 1, 1, 1, 1, 0])) (b := (F4.d [1, 1, 1, 0, 1, 0, 0, 1, 1, 0, 0, 1, 1, 1, 1, 1, 1, 1])) (by kernel_rfl) (F4.o2 W QR QN QE QP) (by kernel_rfl)
def F4.n9 (_ : WK) (QR _ : VK) (_ : EK) (_ : PK) (h : AH) : Prop :=
QR [(.sc (.bool false))] h
def F4.f9 : KT := fun _ h => F4.n9 W QR QN QE QP h
theorem F4.e9 : F4.cw W (F4.d [1, 1, 1, 0, 1, 0, 0, 1, 1, 0, 0, 1, 1, 1, 1, 1, 0, 1, 0]) (thenQ (F4.f8 W QR QN QE QP) (blockQ 1 (thenQ (F4.f2 W QR QN QE QP) (F4.q1 QR QN QE)))) QP s h = F4.f9 W QR QN QE QP s h := nd_seq (a := (F4.d [1, 1, 1, 0, 1, 0, 0, 1, 1, 0, 0, 1, 1, 1, 1, 1, 0, 1, 0, 0])) (b := (F4.d [1, 1, 1, 0, 1, 0, 0, 1, 1, 0, 0, 1, 1, 1, 1, 1, 0, 1, 0, 1])) (by kernel_rfl) (fun _ _ => rfl) (by kernel_rfl)
def F4.n10 (W : WK) (QR QN : VK) (QE : EK) (QP : PK) (x5 x7 x10 x12 x27 x28 x29 x81 : AV) (h : AH) : Prop :=
aIf x81 (
F4.n9 W QR QN QE QP h) (
F4.n8 W QR QN QE QP x5 x7 x10 x12 x27 x28 x29 h)
def F4.f10 : KT := fun s h => F4.n10 W QR QN QE QP (s.tm 5) (s.tm 7) (s.tm 10) (s.tm 12) (s.tm 27) (s.tm 28) (s.tm 29) (s.tm 81) h
theorem F4.e10 : F4.cw W (F4.d [1, 1, 1, 0, 1, 0, 0, 1, 1, 0, 0, 1, 1, 1, 1, 1, 0, 1]) (thenQ (F4.f8 W QR QN QE QP) (blockQ 1 (thenQ (F4.f2 W QR QN QE QP) (F4.q1 QR QN QE)))) QP s h = F4.f10 W QR QN QE QP s h := nd_cond (o := (.tmp 81)) (a := (F4.d [1, 1, 1, 0, 1, 0, 0, 1, 1, 0, 0, 1, 1, 1, 1, 1, 0, 1, 0])) (b := (F4.d [1, 1, 1, 0, 1, 0, 0, 1, 1, 0, 0, 1, 1, 1, 1, 1, 0, 1, 1])) (by kernel_rfl) (F4.e9 W QR QN QE QP s h) rfl (by kernel_rfl)
def F4.n11 (W : WK) (QR QN : VK) (QE : EK) (QP : PK) (x5 x7 x10 x12 x27 x28 x29 x76 x80 : AV) (h : AH) : Prop :=
pPick x76 (.sc (.bool true)) x80 fun t9 =>
F4.n10 W QR QN QE QP x5 x7 x10 x12 x27 x28 x29 t9 h
def F4.f11 : KT := fun s h => F4.n11 W QR QN QE QP (s.tm 5) (s.tm 7) (s.tm 10) (s.tm 12) (s.tm 27) (s.tm 28) (s.tm 29) (s.tm 76) (s.tm 80) h
theorem F4.e11 : evG Tryd.prog 95 (fun _ => W) nobody (kP QP) (regOps (F4.d [1, 1, 1, 0, 1, 0, 0, 1, 1, 0, 0, 1, 1, 1, 1, 1, 0, 0])) (F4.g2.drop 4) ((thenQ (F4.f10 W QR QN QE QP) (thenQ (F4.f8 W QR QN QE QP) (blockQ 1 (thenQ (F4.f2 W QR QN QE QP) (F4.q1 QR QN QE))))) .normal) s h = F4.f11 W QR QN QE QP s h := nd_g (is := isAt F4.g2 4) (rest := F4.g2.drop 5) (by kernel_rfl) (fun _ _ => rfl) (by kernel_rfl)
def F4.n12 (W : WK) (QR QN : VK) (QE : EK) (QP : PK) (x5 x7 x9 x10 x12 x27 x28 x29 x76 : AV) (h : AH) : Prop :=
aIg false x76 (
aCall Tryd.prog W 12 [x12, x9, (.sc (.bool false))] h (fun t10 h11 =>
pUn .not t10 fun t12 =>
F4.n11 W QR QN QE QP x5 x7 x10 x12 x27 x28 x29 x76 t12 h11) QP) (
F4.n11 W QR QN QE QP x5 x7 x10 x12 x27 x28 x29 x76 noA h)
def F4.f12 : KT := fun s h => F4.n12 W QR QN QE QP (s.tm 5) (s.tm 7) (s.tm 9) (s.tm 10) (s.tm 12) (s.tm 27) (s.tm 28) (s.tm 29) (s.tm 76) h
theorem F4.e12 : evG Tryd.prog 95 (fun _ => W) nobody (kP QP) (regOps (F4.d [1, 1, 1, 0, 1, 0, 0, 1, 1, 0, 0, 1, 1, 1, 1, 1, 0, 0])) (F4.g2.drop 3) ((thenQ (F4.f10 W QR QN QE QP) (thenQ (F4.f8 W QR QN QE QP) (blockQ 1 (thenQ (F4.f2 W QR QN QE QP) (F4.q1 QR QN QE))))) .normal) s h = F4.f12 W QR QN QE QP s h := nd_gw (want := false) (j := 6) (is := isAt F4.g2 3) (rest := F4.g2.drop 4) (by kernel_rfl) (d := 76) (by kernel_rfl) (F4.e11 W QR QN QE QP) (by kernel_rfl)
def F4.n13 (W : WK) (QR QN : VK) (QE : EK) (QP : PK) (x5 x7 x9 x10 x12 x27 x28 x29 x72 x74 : AV) (h : AH) : Prop :=
pPick x72 (.sc (.bool true)) x74 fun t13 =>
F4.n12 W QR QN QE QP x5 x7 x9 x10 x12 x27 x28 x29 t13 h
def F4.f13 : KT := fun s h => F4.n13 W QR QN QE QP (s.tm 5) (s.tm 7) (s.tm 9) (s.tm 10) (s.tm 12) (s.tm 27) (s.tm 28) (s.tm 29) (s.tm 72) (s.tm 74) h
theorem F4.e13 : evG Tryd.prog 95 (fun _ => W) nobody (kP QP) (regOps (F4.d [1, 1, 1, 0, 1, 0, 0, 1, 1, 0, 0, 1, 1, 1, 1, 1, 0, 0])) (F4.g2.drop 2) ((thenQ (F4.f10 W QR QN QE QP) (thenQ (F4.f8 W QR QN QE QP) (blockQ 1 (thenQ (F4.f2 W QR QN QE QP) (F4.q1 QR QN QE))))) .normal) s h = F4.f13 W QR QN QE QP s h := nd_g (is := isAt F4.g2 2) (rest := F4.g2.drop 3) (by kernel_rfl) (F4.e12 W QR QN QE QP) (by kernel_rfl)
def F4.n14 (W : WK) (QR QN : VK) (QE : EK) (QP : PK) (x5 x7 x9 x10 x12 x13 x27 x28 x29 x72 : AV) (h : AH) : Prop :=
aIg false x72 (
pBin Tryd.prog .neq 3 true x13 (.sc (.int .i64 0)) fun t14 =>
F4.n13 W QR QN QE QP x5 x7 x9 x10 x12 x27 x28 x29 x72 t14 h) (
F4.n13 W QR QN QE QP x5 x7 x9 x10 x12 x27 x28 x29 x72 noA h)
def F4.f14 : KT := fun s h => F4.n14 W QR QN QE QP (s.tm 5) (s.tm 7) (s.tm 9) (s.tm 10) (s.tm 12) (s.tm 13) (s.tm 27) (s.tm 28) (s.tm 29) (s.tm 72) h
theorem F4.e14 : evG Tryd.prog 95 (fun _ => W) nobody (kP QP) (regOps (F4.d [1, 1, 1, 0, 1, 0, 0, 1, 1, 0, 0, 1, 1, 1, 1, 1, 0, 0])) (F4.g2.drop 1) ((thenQ (F4.f10 W QR QN QE QP) (thenQ (F4.f8 W QR QN QE QP) (blockQ 1 (thenQ (F4.f2 W QR QN QE QP) (F4.q1 QR QN QE))))) .normal) s h = F4.f14 W QR QN QE QP s h := nd_gw (want := false) (j := 2) (is := isAt F4.g2 1) (rest := F4.g2.drop 2) (by kernel_rfl) (d := 72) (by kernel_rfl) (F4.e13 W QR QN QE QP) (by kernel_rfl)
def F4.n15 (W : WK) (QR QN : VK) (QE : EK) (QP : PK) (x5 x7 x9 x10 x12 x13 x14 x27 x28 x29 : AV) (h : AH) : Prop :=
pBin Tryd.prog .neq 28 true x14 (.sc (.int .i64 0)) fun t15 =>
F4.n14 W QR QN QE QP x5 x7 x9 x10 x12 x13 x27 x28 x29 t15 h
def F4.f15 : KT := fun s h => F4.n15 W QR QN QE QP (s.tm 5) (s.tm 7) (s.tm 9) (s.tm 10) (s.tm 12) (s.tm 13) (s.tm 14) (s.tm 27) (s.tm 28) (s.tm 29) h
theorem F4.e15 : evG Tryd.prog 95 (fun _ => W) nobody (kP QP) (regOps (F4.d [1, 1, 1, 0, 1, 0, 0, 1, 1, 0, 0, 1, 1, 1, 1, 1, 0, 0])) (F4.g2.drop 0) ((thenQ (F4.f10 W QR QN QE QP) (thenQ (F4.f8 W QR QN QE QP) (blockQ 1 (thenQ (F4.f2 W QR QN QE QP) (F4.q1 QR QN QE))))) .normal) s h = F4.f15 W QR QN QE QP s h := nd_g (is := isAt F4.g2 0) (rest := F4.g2.drop 1) (by kernel_rfl) (F4.e14 W QR QN QE QP) (by kernel_rfl)
theorem F4.o3 : F4.cw W (F4.d [1, 1, 1, 0, 1, 0, 0, 1, 1, 0, 0, 1, 1, 1, 1, 1, 0, 0]) (thenQ (F4.f10 W QR QN QE QP) (thenQ (F4.f8 W QR QN QE QP) (blockQ 1 (thenQ (F4.f2 W QR QN QE QP) (F4.q1 QR QN QE))))) QP s h = F4.f15 W QR QN QE QP s h := nd_groups (id := 13) (draw := false) (ops := (regOps (F4.d [1, 1, 1, 0, 1, 0, 0, 1, 1, 0, 0, 1, 1, 1, 1, 1, 0, 0]))) (gs := F4.g2.drop 0) (by kernel_rfl) (by kernel_rfl) (F4.e15 W QR QN QE QP s h)
theorem F4.o4 : F4.cw W (F4.d [1, 1, 1, 0, 1, 0, 0, 1, 1, 0, 0, 1, 1, 1, 1, 1, 0]) (thenQ (F4.f8 W QR QN QE QP) (blockQ 1 (thenQ (F4.f2 W QR QN QE QP) (F4.q1 QR QN QE)))) QP s h = F4.f15 W QR QN QE QP s h := nd_seq (a := (F4.d [1, 1, 1, 0, 1, 0, 0, 1, 1, 0, 0, 1, 1, 1, 1, 1, 0, 0])) (b := (F4.d [1, 1, 1, 0, 1, 0, 0, 1, 1, 0, 0, 1, 1, 1, 1, 1, 0, 1])) (by kernel_rfl) (F4.e10 W QR QN QE QP) (F4.o3 W QR QN QE QP s h)
theorem F4.o5 : F4.cw W (F4.d [1, 1, 1, 0, 1, 0, 0, 1, 1, 0, 0, 1, 1, 1, 1, 1]) (blockQ 1 (thenQ (F4.f2 W QR QN QE QP) (F4.q1 QR QN QE))) QP s h = F4.f15 W QR QN QE QP s h := nd_seq (a := (F4.d [1, 1, 1, 0, 1, 0, 0, 1, 1, 0, 0, 1, 1, 1, 1, 1, 0])) (b := (F4.d [1, 1, 1, 0, 1, 0, 0, 1, 1, 0, 0, 1, 1, 1, 1, 1, 1])) (by kernel_rfl) (F4.e8 W QR QN QE QP) (F4.o4 W QR QN QE QP s h)
def F4.n16 (W : WK) (QR QN : VK) (QE : EK) (QP : PK) (x5 x7 x9 x10 x27 x28 x29 : AV) (h : AH) : Prop :=
aCall Tryd.prog W 11 [x10] h (fun t16 h17 =>
pExt t16 0 fun t18 =>
pExt t16 1 fun t19 =>
pExt t16 2 fun t20 =>
F4.n15 W QR QN QE QP x5 x7 x9 x10 t18 t19 t20 x27 x28 x29 h17) QP
def F4.f16 : KT := fun s h => F4.n16 W QR QN QE QP (s.tm 5) (s.tm 7) (s.tm 9) (s.tm 10) (s.tm 27) (s.tm 28) (s.tm 29) h
theorem F4.e16 : F4.cw W (F4.d [1, 1, 1, 0, 1, 0, 0, 1, 1, 0, 0, 1, 1, 1, 1]) (blockQ 1 (thenQ (F4.f2 W QR QN QE QP) (F4.q1 QR QN QE))) QP s h = F4.f16 W QR QN QE QP s h := nd_seq (a := (F4.d [1, 1, 1, 0, 1, 0, 0, 1, 1, 0, 0, 1, 1, 1, 1, 0])) (b := (F4.d [1, 1, 1, 0, 1, 0, 0, 1, 1, 0, 0, 1, 1, 1, 1, 1])) (by kernel_rfl) (F4.o5 W QR QN QE QP) (by kernel_rfl)
def F4.n17 (W : WK) (QR QN : VK) (QE : EK) (QP : PK) (x5 x7 x27 x28 x29 : AV) (h : AH) : Prop :=
F4.n2 W QR QN QE QP x5 x7 x27 x28 x29 h
def F4.f17 : KT := fun s h => F4.n17 W QR QN QE QP (s.tm 5) (s.tm 7) (s.tm 27) (s.tm 28) (s.tm 29) h
theorem F4.e17 : F4.cw W (F4.d [1, 1, 1, 0, 1, 0, 0, 1, 1, 0, 0, 1, 1, 1, 0, 1, 0, 1]) (thenQ (F4.f16 W QR QN QE QP) (blockQ 1 (thenQ (F4.f2 W QR QN QE QP) (F4.q1 QR QN QE)))) QP s h = F4.f17 W QR QN QE QP s h := by kernel_rfl
def F4.n18 (_ : WK) (QR _ : VK) (_ : EK) (_ : PK) (h : AH) : Prop :=
QR [(.sc (.bool false))] h
def F4.f18 : KT := fun _ h => F4.n18 W QR QN QE QP h
theorem F4.e18 : F4.cw W (F4.d [1, 1, 1, 0, 1, 0, 0, 1, 1, 0, 0, 1, 1, 1, 0, 1, 0, 0, 1, 0]) (thenQ (F4.f17 W QR QN QE QP) (thenQ (F4.f16 W QR QN QE QP) (blockQ 1 (thenQ (F4.f2 W QR QN QE QP) (F4.q1 QR QN QE))))) QP s h = F4.f18 W QR QN QE QP s h := nd_seq (a := (F4.d [1, 1, 1, 0, 1, 0, 0, 1, 1, 0, 0, 1, 1, 1, 0, 1, 0, 0, 1, 0, 0])) (b := (F4.d [1, 1, 1, 0, 1, 0, 0, 1, 1, 0, 0, 1, 1, 1, 0, 1, 0, 0, 1, 0, 1])) (by kernel_rfl) (fun _ _ => rfl) (by kernel_rfl)
def F4.n19 (W : WK) (QR QN : VK) (QE : EK) (QP : PK) (x5 x7 x27 x28 x29 x63 : AV) (h : AH) : Prop :=
aIf x63 (
F4.n18 W QR QN QE QP h) (
F4.n17 W QR QN QE QP x5 x7 x27 x28 x29 h)
def F4.f19 : KT := fun s h => F4.n19 W QR QN QE QP (s.tm 5) (s.tm 7) (s.tm 27) (s.tm 28) (s.tm 29) (s.tm 63) h
theorem F4.e19 : F4.cw W (F4.d [1, 1, 1, 0, 1, 0, 0, 1, 1, 0, 0, 1, 1, 1, 0, 1, 0, 0, 1]) (thenQ (F4.f17 W QR QN QE QP) (thenQ (F4.f16 W QR QN QE QP) (blockQ 1 (thenQ (F4.f2 W QR QN QE QP) (F4.q1 QR QN QE))))) QP s h = F4.f19 W QR QN QE QP s h := nd_cond (o := (.tmp 63)) (a := (F4.d [1, 1, 1, 0, 1, 0, 0, 1, 1, 0, 0, 1, 1, 1, 0, 1, 0, 0, 1, 0])) (b := (F4.d [1, 1, 1, 0, 1, 0, 0, 1, 1, 0, 0, 1, 1, 1, 0, 1, 0, 0, 1, 1])) (by kernel_rfl) (F4.e18 W QR QN QE QP s h) rfl (by kernel_rfl)
def F4.n20 (W : WK) (QR QN : VK) (QE : EK) (QP : PK) (x5 x7 x27 x28 x29 x44 x62 : AV) (h : AH) : Prop :=
pPick x44 (.sc (.bool true)) x62 fun t21 =>
F4.n19 W QR QN QE QP x5 x7 x27 x28 x29 t21 h
def F4.f20 : KT := fun s h => F4.n20 W QR QN QE QP (s.tm 5) (s.tm 7) (s.tm 27) (s.tm 28) (s.tm 29) (s.tm 44) (s.tm 62) h
theorem F4.e20 : evG Tryd.prog 95 (fun _ => W) nobody (kP QP) (regOps (F4.d [1, 1, 1, 0, 1, 0, 0, 1, 1, 0, 0, 1, 1, 1, 0, 1, 0, 0, 0])) (F4.g3.drop 8) ((thenQ (F4.f19 W QR QN QE QP) (thenQ (F4.f17 W QR QN QE QP) (thenQ (F4.f16 W QR QN QE QP) (blockQ 1 (thenQ (F4.f2 W QR QN QE QP) (F4.q1 QR QN QE)))))) .normal) s h = F4.f20 W QR QN QE QP s h := nd_g (is := isAt F4.g3 8) (rest := F4.g3.drop 9) (by kernel_rfl) (fun _ _ => rfl) (by kernel_rfl)
def F4.n21 (W : WK) (QR QN : VK) (QE : EK) (QP : PK) (x5 x7 x27 x28 x29 x44 x59 x61 : AV) (h : AH) : Prop :=
aIg false x44 (
pPick x59 x61 (.sc (.bool false)) fun t22 =>
F4.n20 W QR QN QE QP x5 x7 x27 x28 x29 x44 t22 h) (
F4.n20 W QR QN QE QP x5 x7 x27 x28 x29 x44 noA h)
def F4.f21 : KT := fun s h => F4.n21 W QR QN QE QP (s.tm 5) (s.tm 7) (s.tm 27) (s.tm 28) (s.tm 29) (s.tm 44) (s.tm 59) (s.tm 61) h
theorem F4.e21 : evG Tryd.prog 95 (fun _ => W) nobody (kP QP) (regOps (F4.d [1, 1, 1, 0, 1, 0, 0, 1, 1, 0, 0, 1, 1, 1, 0, 1, 0, 0, 0])) (F4.g3.drop 7) ((thenQ (F4.f19 W QR QN QE QP) (thenQ (F4.f17 W QR QN QE QP) (thenQ (F4.f16 W QR QN QE QP) (blockQ 1 (thenQ (F4.f2 W QR QN QE QP) (F4.q1 QR QN QE)))))) .normal) s h = F4.f21 W QR QN QE QP s h := nd_gw (want := false) (j := 2) (is := isAt F4.g3 7) (rest := F4.g3.drop 8) (by kernel_rfl) (d := 44) (by kernel_rfl) (F4.e20 W QR QN QE QP) (by kernel_rfl)
def F4.n22 (W : WK) (QR QN : VK) (QE : EK) (QP : PK) (x5 x7 x11 x27 x28 x29 x44 x59 : AV) (h : AH) : Prop :=
aIg true x59 (
pBin Tryd.prog .neq 28 true x11 (.sc (.int .i64 1)) fun t23 =>
F4.n21 W QR QN QE QP x5 x7 x27 x28 x29 x44 x59 t23 h) (
F4.n21 W QR QN QE QP x5 x7 x27 x28 x29 x44 x59 noA h)
def F4.f22 : KT := fun s h => F4.n22 W QR QN QE QP (s.tm 5) (s.tm 7) (s.tm 11) (s.tm 27) (s.tm 28) (s.tm 29) (s.tm 44) (s.tm 59) h
theorem F4.e22 : evG Tryd.prog 95 (fun _ => W) nobody (kP QP) (regOps (F4.d [1, 1, 1, 0, 1, 0, 0, 1, 1, 0, 0, 1, 1, 1, 0, 1, 0, 0, 0])) (F4.g3.drop 6) ((thenQ (F4.f19 W QR QN QE QP) (thenQ (F4.f17 W QR QN QE QP) (thenQ (F4.f16 W QR QN QE QP) (blockQ 1 (thenQ (F4.f2 W QR QN QE QP) (F4.q1 QR QN QE)))))) .normal) s h = F4.f22 W QR QN QE QP s h := nd_gw (want := true) (j := 17) (is := isAt F4.g3 6) (rest := F4.g3.drop 7) (by kernel_rfl) (d := 59) (by kernel_rfl) (F4.e21 W QR QN QE QP) (by kernel_rfl)
def F4.n23 (W : WK) (QR QN : VK) (QE : EK) (QP : PK) (x5 x7 x11 x27 x28 x29 x44 x54 x57 : AV) (h : AH) : Prop :=
aIg false x44 (
pPick x54 x57 (.sc (.bool false)) fun t24 =>
F4.n22 W QR QN QE QP x5 x7 x11 x27 x28 x29 x44 t24 h) (
F4.n22 W QR QN QE QP x5 x7 x11 x27 x28 x29 x44 noA h)
def F4.f23 : KT := fun s h => F4.n23 W QR QN QE QP (s.tm 5) (s.tm 7) (s.tm 11) (s.tm 27) (s.tm 28) (s.tm 29) (s.tm 44) (s.tm 54) (s.tm 57) h
theorem F4.e23 : evG Tryd.prog 95 (fun _ => W) nobody (kP QP) (regOps (F4.d [1, 1, 1, 0, 1, 0, 0, 1, 1, 0, 0, 1, 1, 1, 0, 1, 0, 0, 0])) (F4.g3.drop 5) ((thenQ (F4.f19 W QR QN QE QP) (thenQ (F4.f17 W QR QN QE QP) (thenQ (F4.f16 W QR QN QE QP) (blockQ 1 (thenQ (F4.f2 W QR QN QE QP) (F4.q1 QR QN QE)))))) .normal) s h = F4.f23 W QR QN QE QP s h := nd_gw (want := false) (j := 2) (is := isAt F4.g3 5) (rest := F4.g3.drop 6) (by kernel_rfl) (d := 44) (by kernel_rfl) (F4.e22 W QR QN QE QP) (by kernel_rfl)
def F4.n24 (W : WK) (QR QN : VK) (QE : EK) (QP : PK) (x5 x7 x9 x11 x27 x28 x29 x44 x54 : AV) (h : AH) : Prop :=
aIg true x54 (
aCall Tryd.prog W 12 [x9, x5, (.sc (.bool true))] h (fun t25 h26 =>
F4.n23 W QR QN QE QP x5 x7 x11 x27 x28 x29 x44 x54 t25 h26) QP) (
F4.n23 W QR QN QE QP x5 x7 x11 x27 x28 x29 x44 x54 noA h)
def F4.f24 : KT := fun s h => F4.n24 W QR QN QE QP (s.tm 5) (s.tm 7) (s.tm 9) (s.tm 11) (s.tm 27) (s.tm 28) (s.tm 29) (s.tm 44) (s.tm 54) h
theorem F4.e24 : evG Tryd.prog 95 (fun _ => W) nobody (kP QP) (regOps (F4.d [1, 1, 1, 0, 1, 0, 0, 1, 1, 0, 0, 1, 1, 1, 0, 1, 0, 0, 0])) (F4.g3.drop 4) ((thenQ (F4.f19 W QR QN QE QP) (thenQ (F4.f17 W QR QN QE QP) (thenQ (F4.f16 W QR QN QE QP) (blockQ 1 (thenQ (F4.f2 W QR QN QE QP) (F4.q1 QR QN QE)))))) .normal) s h = F4.f24 W QR QN QE QP s h := nd_gw (want := true) (j := 12) (is := isAt F4.g3 4) (rest := F4.g3.drop 5) (by kernel_rfl) (d := 54) (by kernel_rfl) (F4.e23 W QR QN QE QP) (by kernel_rfl)
def F4.n25 (W : WK) (QR QN : VK) (QE : EK) (QP : PK) (x5 x7 x9 x11 x27 x28 x29 x44 x47 x52 : AV) (h : AH) : Prop :=
aIg false x44 (
pPick x47 x52 (.sc (.bool false)) fun t27 =>
F4.n24 W QR QN QE QP x5 x7 x9 x11 x27 x28 x29 x44 t27 h) (
F4.n24 W QR QN QE QP x5 x7 x9 x11 x27 x28 x29 x44 noA h)
def F4.f25 : KT := fun s h => F4.n25 W QR QN QE QP (s.tm 5) (s.tm 7) (s.tm 9) (s.tm 11) (s.tm 27) (s.tm 28) (s.tm 29) (s.tm 44) (s.tm 47) (s.tm 52) h
theorem F4.e25 : evG Tryd.prog 95 (fun _ => W) nobody (kP QP) (regOps (F4.d [1, 1, 1, 0, 1, 0, 0, 1, 1, 0, 0, 1, 1, 1, 0, 1, 0, 0, 0])) (F4.g3.drop 3) ((thenQ (F4.f19 W QR QN QE QP) (thenQ (F4.f17 W QR QN QE QP) (thenQ (F4.f16 W QR QN QE QP) (blockQ 1 (thenQ (F4.f2 W QR QN QE QP) (F4.q1 QR QN QE)))))) .normal) s h = F4.f25 W QR QN QE QP s h := nd_gw (want := false) (j := 2) (is := isAt F4.g3 3) (rest := F4.g3.drop 4) (by kernel_rfl) (d := 44) (by kernel_rfl) (F4.e24 W QR QN QE QP) (by kernel_rfl)
def F4.n26 (W : WK) (QR QN : VK) (QE : EK) (QP : PK) (x5 x7 x9 x11 x27 x28 x29 x44 x47 : AV) (h : AH) : Prop :=
aIg true x47 (
(strArg x9 = false) ∧ pLen x9 fun t28 =>
(strArg x5 = false) ∧ pLen x5 fun t29 =>
pBin Tryd.prog .eql 3 false t28 t29 fun t30 =>
F4.n25 W QR QN QE QP x5 x7 x9 x11 x27 x28 x29 x44 x47 t30 h) (
F4.n25 W QR QN QE QP x5 x7 x9 x11 x27 x28 x29 x44 x47 noA h)
def F4.f26 : KT := fun s h => F4.n26 W QR QN QE QP (s.tm 5) (s.tm 7) (s.tm 9) (s.tm 11) (s.tm 27) (s.tm 28) (s.tm 29) (s.tm 44) (s.tm 47) h
theorem F4.e26 : evG Tryd.prog 95 (fun _ => W) nobody (kP QP) (regOps (F4.d [1, 1, 1, 0, 1, 0, 0, 1, 1, 0, 0, 1, 1, 1, 0, 1, 0, 0, 0])) (F4.g3.drop 2) ((thenQ (F4.f19 W QR QN QE QP) (thenQ (F4.f17 W QR QN QE QP) (thenQ (F4.f16 W QR QN QE QP) (blockQ 1 (thenQ (F4.f2 W QR QN QE QP) (F4.q1 QR QN QE)))))) .normal) s h = F4.f26 W QR QN QE QP s h := nd_gw (want := true) (j := 5) (is := isAt F4.g3 2) (rest := F4.g3.drop 3) (by kernel_rfl) (d := 47) (by kernel_rfl) (F4.e25 W QR QN QE QP) (by kernel_rfl)
def F4.n27 (W : WK) (QR QN : VK) (QE : EK) (QP : PK) (x5 x7 x9 x11 x27 x28 x29 x44 : AV) (h : AH) : Prop :=
aIg false x44 (
pBin Tryd.prog .eql 28 true x7 (.sc (.int .i64 0)) fun t31 =>
F4.n26 W QR QN QE QP x5 x7 x9 x11 x27 x28 x29 x44 t31 h) (
F4.n26 W QR QN QE QP x5 x7 x9 x11 x27 x28 x29 x44 noA h)
def F4.f27 : KT := fun s h => F4.n27 W QR QN QE QP (s.tm 5) (s.tm 7) (s.tm 9) (s.tm 11) (s.tm 27) (s.tm 28) (s.tm 29) (s.tm 44) h
theorem F4.e27 : evG Tryd.prog 95 (fun _ => W) nobody (kP QP) (regOps (F4.d [1, 1, 1, 0, 1, 0, 0, 1, 1, 0, 0, 1, 1, 1, 0, 1, 0, 0, 0])) (F4.g3.drop 1) ((thenQ (F4.f19 W QR QN QE QP) (thenQ (F4.f17 W QR QN QE QP) (thenQ (F4.f16 W QR QN QE QP) (blockQ 1 (thenQ (F4.f2 W QR QN QE QP) (F4.q1 QR QN QE)))))) .normal) s h = F4.f27 W QR QN QE QP s h := nd_gw (want := false) (j := 2) (is := isAt F4.g3 1) (rest := F4.g3.drop 2) (by kernel_rfl) (d := 44) (by kernel_rfl) (F4.e26 W QR QN QE QP) (by kernel_rfl)
def F4.n28 (W : WK) (QR QN : VK) (QE : EK) (QP : PK) (x5 x7 x9 x10 x11 x27 x28 x29 : AV) (h : AH) : Prop :=
pBin Tryd.prog .neq 9 true x10 (.sc (.string ⟨#[]⟩)) fun t32 =>
F4.n27 W QR QN QE QP x5 x7 x9 x11 x27 x28 x29 t32 h
def F4.f28 : KT := fun s h => F4.n28 W QR QN QE QP (s.tm 5) (s.tm 7) (s.tm 9) (s.tm 10) (s.tm 11) (s.tm 27) (s.tm 28) (s.tm 29) h
theorem F4.e28 : evG Tryd.prog 95 (fun _ => W) nobody (kP QP) (regOps (F4.d [1, 1, 1, 0, 1, 0, 0, 1, 1, 0, 0, 1, 1, 1, 0, 1, 0, 0, 0])) (F4.g3.drop 0) ((thenQ (F4.f19 W QR QN QE QP) (thenQ (F4.f17 W QR QN QE QP) (thenQ (F4.f16 W QR QN QE QP) (blockQ 1 (thenQ (F4.f2 W QR QN QE QP) (F4.q1 QR QN QE)))))) .normal) s h = F4.f28 W QR QN QE QP s h := nd_g (is := isAt F4.g3 0) (rest := F4.g3.drop 1) (by kernel_rfl) (F4.e27 W QR QN QE QP) (by kernel_rfl)
theorem F4.o6 : F4.cw W (F4.d [1, 1, 1, 0, 1, 0, 0, 1, 1, 0, 0, 1, 1, 1, 0, 1, 0, 0, 0]) (thenQ (F4.f19 W QR QN QE QP) (thenQ (F4.f17 W QR QN QE QP) (thenQ (F4.f16 W QR QN QE QP) (blockQ 1 (thenQ (F4.f2 W QR QN QE QP) (F4.q1 QR QN QE)))))) QP s h = F4.f28 W QR QN QE QP s h := nd_groups (id := 10) (draw := false) (ops := (regOps (F4.d [1, 1, 1, 0, 1, 0, 0, 1, 1, 0, 0, 1, 1, 1, 0, 1, 0, 0, 0]))) (gs := F4.g3.drop 0) (by kernel_rfl) (by kernel_rfl) (F4.e28 W QR QN QE QP s h)
theorem F4.o7 : F4.cw W (F4.d [1, 1, 1, 0, 1, 0, 0, 1, 1, 0, 0, 1, 1, 1, 0, 1, 0, 0]) (thenQ (F4.f17 W QR QN QE QP) (thenQ (F4.f16 W QR QN QE QP) (blockQ 1 (thenQ (F4.f2 W QR QN QE QP) (F4.q1 QR QN QE))))) QP s h = F4.f28 W QR QN QE QP s h := nd_seq (a := (F4.d [1, 1, 1, 0, 1, 0, 0, 1, 1, 0, 0, 1, 1, 1, 0, 1, 0, 0, 0])) (b := (F4.d [1, 1, 1, 0, 1, 0, 0, 1, 1, 0, 0, 1, 1, 1, 0, 1, 0, 0, 1])) (by kernel_rfl) (F4.e19 W QR QN QE QP) (F4.o6 W QR QN QE QP s h)
theorem F4.o8 : F4.cw W (F4.d [1, 1, 1, 0, 1, 0, 0, 1, 1, 0, 0, 1, 1, 1, 0, 1, 0]) (thenQ (F4.f16 W QR QN QE QP) (blockQ 1 (thenQ (F4.f2 W QR QN QE QP) (F4.q1 QR QN QE)))) QP s h = F4.f28 W QR QN QE QP s h := nd_seq (a := (F4.d [1, 1, 1, 0, 1, 0, 0, 1, 1, 0, 0, 1, 1, 1, 0, 1, 0, 0])) (b := (F4.d [1, 1, 1, 0, 1, 0, 0, 1, 1, 0, 0, 1, 1, 1, 0, 1, 0, 1])) (by kernel_rfl) (F4.e17 W QR QN QE QP) (F4.o7 W QR QN QE QP s h)
def F4.n29 (W : WK) (QR QN : VK) (QE : EK) (QP : PK) (x5 x7 x9 x10 x11 x27 x28 x29 x41 : AV) (h : AH) : Prop :=
aIf x41 (
F4.n28 W QR QN QE QP x5 x7 x9 x10 x11 x27 x28 x29 h) (
F4.n16 W QR QN QE QP x5 x7 x9 x10 x27 x28 x29 h)
def F4.f29 : KT := fun s h => F4.n29 W QR QN QE QP (s.tm 5) (s.tm 7) (s.tm 9) (s.tm 10) (s.tm 11) (s.tm 27) (s.tm 28) (s.tm 29) (s.tm 41) h
theorem F4.e29 : F4.cw W (F4.d [1, 1, 1, 0, 1, 0, 0, 1, 1, 0, 0, 1, 1, 1, 0, 1]) (thenQ (F4.f16 W QR QN QE QP) (blockQ 1 (thenQ (F4.f2 W QR QN QE QP) (F4.q1 QR QN QE)))) QP s h = F4.f29 W QR QN QE QP s h := nd_cond (o := (.tmp 41)) (a := (F4.d [1, 1, 1, 0, 1, 0, 0, 1, 1, 0, 0, 1, 1, 1, 0, 1, 0])) (b := (F4.d [1, 1, 1, 0, 1, 0, 0, 1, 1, 0, 0, 1, 1, 1, 0, 1, 1])) (by kernel_rfl) (F4.o8 W QR QN QE QP s h) rfl (by kernel_rfl)
def F4.n30 (W : WK) (QR QN : VK) (QE : EK) (QP : PK) (x5 x7 x9 x10 x11 x27 x28 x29 : AV) (h : AH) : Prop :=
pBin Tryd.prog .neq 28 true x11 (.sc (.int .i64 0)) fun t33 =>
F4.n29 W QR QN QE QP x5 x7 x9 x10 x11 x27 x28 x29 t33 h
def F4.f30 : KT := fun s h => F4.n30 W QR QN QE QP (s.tm 5) (s.tm 7) (s.tm 9) (s.tm 10) (s.tm 11) (s.tm 27) (s.tm 28) (s.tm 29) h
theorem F4.e30 : F4.cw W (F4.d [1, 1, 1, 0, 1, 0, 0, 1, 1, 0, 0, 1, 1, 1, 0]) (thenQ (F4.f16 W QR QN QE QP) (blockQ 1 (thenQ (F4.f2 W QR QN QE QP) (F4.q1 QR QN QE)))) QP s h = F4.f30 W QR QN QE QP s h := nd_seq (a := (F4.d [1, 1, 1, 0, 1, 0, 0, 1, 1, 0, 0, 1, 1, 1, 0, 0])) (b := (F4.d [1, 1, 1, 0, 1, 0, 0, 1, 1, 0, 0, 1, 1, 1, 0, 1])) (by kernel_rfl) (F4.e29 W QR QN QE QP) (by kernel_rfl)
theorem F4.o9 : F4.cw W (F4.d [1, 1, 1, 0, 1, 0, 0, 1, 1, 0, 0, 1, 1, 1]) (blockQ 1 (thenQ (F4.f2 W QR QN QE QP) (F4.q1 QR QN QE))) QP s h = F4.f30 W QR QN QE QP s h := nd_seq (a := (F4.d [1, 1, 1, 0, 1, 0, 0, 1, 1, 0, 0, 1, 1, 1, 0])) (b := (F4.d [1, 1, 1, 0, 1, 0, 0, 1, 1, 0, 0, 1, 1, 1, 1])) (by kernel_rfl) (F4.e16 W QR QN QE QP) (F4.e30 W QR QN QE QP s h)
def F4.n31 (W : WK) (QR QN : VK) (QE : EK) (QP : PK) (x5 x7 x9 x27 x28 x29 : AV) (h : AH) : Prop :=
aCall Tryd.prog W 9 [x9] h (fun t34 h35 =>
pExt t34 0 fun t36 =>
pExt t34 1 fun t37 =>
F4.n30 W QR QN QE QP x5 x7 x9 t36 t37 x27 x28 x29 h35) QP
def F4.f31 : KT := fun s h => F4.n31 W QR QN QE QP (s.tm 5) (s.tm 7) (s.tm 9) (s.tm 27) (s.tm 28) (s.tm 29) h
theorem F4.e31 : F4.cw W (F4.d [1, 1, 1, 0, 1, 0, 0, 1, 1, 0, 0, 1, 1]) (blockQ 1 (thenQ (F4.f2 W QR QN QE QP) (F4.q1 QR QN QE))) QP s h = F4.f31 W QR QN QE QP s h := nd_seq (a := (F4.d [1, 1, 1, 0, 1, 0, 0, 1, 1, 0, 0, 1, 1, 0])) (b := (F4.d [1, 1, 1, 0, 1, 0, 0, 1, 1, 0, 0, 1, 1, 1])) (by kernel_rfl) (F4.o9 W QR QN QE QP) (by kernel_rfl)
def F4.n32 (W : WK) (QR QN : VK) (QE : EK) (QP : PK) (x5 x7 x9 x27 x28 x29 x34 : AV) (h : AH) : Prop :=
aIf x34 (
F4.n2 W QR QN QE QP x5 x7 x27 x28 x29 h) (
F4.n31 W QR QN QE QP x5 x7 x9 x27 x28 x29 h)
def F4.f32 : KT := fun s h => F4.n32 W QR QN QE QP (s.tm 5) (s.tm 7) (s.tm 9) (s.tm 27) (s.tm 28) (s.tm 29) (s.tm 34) h
theorem F4.e32 : F4.cw W (F4.d [1, 1, 1, 0, 1, 0, 0, 1, 1, 0, 0, 1, 0, 1]) (thenQ (F4.f31 W QR QN QE QP) (blockQ 1 (thenQ (F4.f2 W QR QN QE QP) (F4.q1 QR QN QE)))) QP s h = F4.f32 W QR QN QE QP s h := nd_cond (o := (.tmp 34)) (a := (F4.d [1, 1, 1, 0, 1, 0, 0, 1, 1, 0, 0, 1, 0, 1, 0])) (b := (F4.d [1, 1, 1, 0, 1, 0, 0, 1, 1, 0, 0, 1, 0, 1, 1])) (by kernel_rfl) rfl rfl (by kernel_rfl)
def F4.n33 (W : WK) (QR QN : VK) (QE : EK) (QP : PK) (x5 x7 x9 x27 x28 x29 : AV) (h : AH) : Prop :=
aCall Tryd.prog W 6 [x9] h (fun t38 h39 =>
F4.n32 W QR QN QE QP x5 x7 x9 x27 x28 x29 t38 h39) QP
def F4.f33 : KT := fun s h => F4.n33 W QR QN QE QP (s.tm 5) (s.tm 7) (s.tm 9) (s.tm 27) (s.tm 28) (s.tm 29) h
theorem F4.e33 : F4.cw W (F4.d [1, 1, 1, 0, 1, 0, 0, 1, 1, 0, 0, 1, 0]) (thenQ (F4.f31 W QR QN QE QP) (blockQ 1 (thenQ (F4.f2 W QR QN QE QP) (F4.q1 QR QN QE)))) QP s h = F4.f33 W QR QN QE QP s h := nd_seq (a := (F4.d [1, 1, 1, 0, 1, 0, 0, 1, 1, 0, 0, 1, 0, 0])) (b := (F4.d [1, 1, 1, 0, 1, 0, 0, 1, 1, 0, 0, 1, 0, 1])) (by kernel_rfl) (F4.e32 W QR QN QE QP) (by kernel_rfl)
theorem F4.o10 : F4.cw W (F4.d [1, 1, 1, 0, 1, 0, 0, 1, 1, 0, 0, 1]) (blockQ 1 (thenQ (F4.f2 W QR QN QE QP) (F4.q1 QR QN QE))) QP s h = F4.f33 W QR QN QE QP s h := nd_seq (a := (F4.d [1, 1, 1, 0, 1, 0, 0, 1, 1, 0, 0, 1, 0])) (b := (F4.d [1, 1, 1, 0, 1, 0, 0, 1, 1, 0, 0, 1, 1])) (by kernel_rfl) (F4.e31 W QR QN QE QP) (F4.e33 W QR QN QE QP s h)
def F4.n34 (W : WK) (QR QN : VK) (QE : EK) (QP : PK) (x5 x7 x27 x28 x29 : AV) (h : AH) : Prop :=
pIxA (some (1, none)) x27 x29 fun t40 =>
lLd (some false) (some 1) t40 h fun t41 _ =>
F4.n33 W QR QN QE QP x5 x7 t41 x27 x28 x29 h
def F4.f34 : KT := fun s h => F4.n34 W QR QN QE QP (s.tm 5) (s.tm 7) (s.tm 27) (s.tm 28) (s.tm 29) h
theorem F4.e34 : F4.cw W (F4.d [1, 1, 1, 0, 1, 0, 0, 1, 1, 0, 0]) (blockQ 1 (thenQ (F4.f2 W QR QN QE QP) (F4.q1 QR QN QE))) QP s h = F4.f34 W QR QN QE QP s h := nd_seq (a := (F4.d [1, 1, 1, 0, 1, 0, 0, 1, 1, 0, 0, 0])) (b := (F4.d [1, 1, 1, 0, 1, 0, 0, 1, 1, 0, 0, 1])) (by kernel_rfl) (F4.o10 W QR QN QE QP) (by kernel_rfl)
theorem F4.o11 : F4.cw W (F4.d [1, 1, 1, 0, 1, 0, 0, 1, 1, 0]) (thenQ (F4.f2 W QR QN QE QP) (F4.q1 QR QN QE)) QP s h = F4.f34 W QR QN QE QP s h := nd_block (a := (F4.d [1, 1, 1, 0, 1, 0, 0, 1, 1, 0, 0])) (by kernel_rfl) (F4.e34 W QR QN QE QP s h)
theorem F4.o12 : F4.cw W (F4.d [1, 1, 1, 0, 1, 0, 0, 1, 1]) (F4.q1 QR QN QE) QP s h = F4.f34 W QR QN QE QP s h := nd_seq (a := (F4.d [1, 1, 1, 0, 1, 0, 0, 1, 1, 0])) (b := (F4.d [1, 1, 1, 0, 1, 0, 0, 1, 1, 1])) (by kernel_rfl) (F4.e2 W QR QN QE QP) (F4.o11 W QR QN QE QP s h)
def F4.n35 (W : WK) (QR QN : VK) (QE : EK) (QP : PK) (x5 x7 x27 x28 x29 x30 : AV) (h : AH) : Prop :=
aIf x30 (
F4.n34 W QR QN QE QP x5 x7 x27 x28 x29 h) (
QE 0 [] h)
def F4.f35 : KT := fun s h => F4.n35 W QR QN QE QP (s.tm 5) (s.tm 7) (s.tm 27) (s.tm 28) (s.tm 29) (s.tm 30) h
theorem F4.e35 : F4.cw W (F4.d [1, 1, 1, 0, 1, 0, 0, 1, 0]) (thenQ (F4.f34 W QR QN QE QP) (F4.q1 QR QN QE)) QP s h = F4.f35 W QR QN QE QP s h := nd_cond (o := (.tmp 30)) (a := (F4.d [1, 1, 1, 0, 1, 0, 0, 1, 0, 0])) (b := (F4.d [1, 1, 1, 0, 1, 0, 0, 1, 0, 1])) (by kernel_rfl) rfl rfl (by kernel_rfl)
theorem F4.o13 : F4.cw W (F4.d [1, 1, 1, 0, 1, 0, 0, 1]) (F4.q1 QR QN QE) QP s h = F4.f35 W QR QN QE QP s h := nd_seq (a := (F4.d [1, 1, 1, 0, 1, 0, 0, 1, 0])) (b := (F4.d [1, 1, 1, 0, 1, 0, 0, 1, 1])) (by kernel_rfl) (F4.o12 W QR QN QE QP) (F4.e35 W QR QN QE QP s h)
def F4.n36 (W : WK) (QR QN : VK) (QE : EK) (QP : PK) (x5 x7 x27 x28 x29 : AV) (h : AH) : Prop :=
pBin Tryd.prog .lss 3 false x29 x28 fun t43 =>
F4.n35 W QR QN QE QP x5 x7 x27 x28 x29 t43 h
def F4.f36 : KT := fun s h => F4.n36 W QR QN QE QP (s.tm 5) (s.tm 7) (s.tm 27) (s.tm 28) (s.tm 29) h
theorem F4.e36 : F4.cw W (F4.d [1, 1, 1, 0, 1, 0, 0]) (F4.q1 QR QN QE) QP s h = F4.f36 W QR QN QE QP s h := nd_seq (a := (F4.d [1, 1, 1, 0, 1, 0, 0, 0])) (b := (F4.d [1, 1, 1, 0, 1, 0, 0, 1])) (by kernel_rfl) (F4.o13 W QR QN QE QP) (by kernel_rfl)
noncomputable def F4.c1 : Code := (F4.d [1, 1, 1, 0, 1, 0, 0])
theorem F4.l1 : aw Tryd.prog 95 W F4.pl F4.c1 (F4.q1 QR QN QE) (kP QP) s h = F4.f36 W QR QN QE QP s h := F4.e36 W QR QN QE QP s h
def F4.g1_ (W : WK) (QR QN : VK) (QE : EK) (QP : PK) : VK → VK := fun QN' vs h => F4.n36 W QR QN' (fun (i : Nat) (vs : List AV) (h : AH) => if i = 0 then F4.n1 W QR QN QE QP h else QE i vs h) QP (vs.getD 0 noA) (vs.getD 1 noA) (vs.getD 2 noA) (vs.getD 3 noA) (vs.getD 4 noA) h
theorem F4.p1 {Kn : VK} {KQ : KT} (hK : ∀ s h, KQ s h = Kn [s.tm 5, s.tm 7, s.tm 27, s.tm 28, s.tm 29] h) : thenQ KQ (blockQ 0 (thenQ (F4.f1 W QR QN QE QP) (F4.q0 QR QN QE))) = F4.q1 QR Kn (fun (i : Nat) (vs : List AV) (h : AH) => if i = 0 then F4.n1 W QR QN QE QP h else QE i vs h) := by
  funext x s h
  cases x with
  | normal => exact hK s h
  | ret => kernel_rfl
  | goto l => kernel_rfl
  | exit j =>
    by_cases h0 : j = 0
    · subst h0; kernel_rfl
    simp only [thenQ, blockQ, noGotoQ, if_neg h0, F4.q1, F4.el1, F4.q0, F4.el0]
def F4.n37 (W : WK) (QR QN : VK) (QE : EK) (QP : PK) (x5 x7 x27 x28 x29 : AV) (h : AH) : Prop :=
vLoop (F4.g1_ W QR QN QE QP) [x5, x7, x27, x28, x29] h
def F4.f37 : KT := fun s h => F4.n37 W QR QN QE QP (s.tm 5) (s.tm 7) (s.tm 27) (s.tm 28) (s.tm 29) h
theorem F4.e37 : F4.cw W (F4.d [1, 1, 1, 0, 1, 0]) (blockQ 0 (thenQ (F4.f1 W QR QN QE QP) (F4.q0 QR QN QE))) QP s h = F4.f37 W QR QN QE QP s h := (nd_loop (a := F4.c1) (by kernel_rfl)).trans (vloopD (L := fun tm => [tm 5, tm 7, tm 27, tm 28, tm 29]) (G := F4.g1_ W QR QN QE QP) (fun Kn KQ hK s h => (congrArg (fun q => aw Tryd.prog 95 W F4.pl F4.c1 q (kP QP) s h) (F4.p1 W QR QN QE QP hK)).trans (F4.l1 W QR Kn (fun (i : Nat) (vs : List AV) (h : AH) => if i = 0 then F4.n1 W QR QN QE QP h else QE i vs h) QP s h)) s h)
theorem F4.o14 : F4.cw W (F4.d [1, 1, 1, 0, 1]) (thenQ (F4.f1 W QR QN QE QP) (F4.q0 QR QN QE)) QP s h = F4.f37 W QR QN QE QP s h := nd_block (a := (F4.d [1, 1, 1, 0, 1, 0])) (by kernel_rfl) (F4.e37 W QR QN QE QP s h)
def F4.n38 (W : WK) (QR QN : VK) (QE : EK) (QP : PK) (x1 x5 x7 : AV) (h : AH) : Prop :=
eBSl (some (1, 22, [.slice none 0 0, .slice none 0 0])) 2 [(0, x5), (1, x1)] h fun t44 h45 =>
(strArg t44 = false) ∧ pLen t44 fun t46 =>
F4.n37 W QR QN QE QP x5 x7 t44 t46 (.sc (.int .i64 0)) h45
def F4.f38 : KT := fun s h => F4.n38 W QR QN QE QP (s.tm 1) (s.tm 5) (s.tm 7) h
theorem F4.e38 : F4.cw W (F4.d [1, 1, 1, 0]) (thenQ (F4.f1 W QR QN QE QP) (F4.q0 QR QN QE)) QP s h = F4.f38 W QR QN QE QP s h := nd_seq (a := (F4.d [1, 1, 1, 0, 0])) (b := (F4.d [1, 1, 1, 0, 1])) (by kernel_rfl) (F4.o14 W QR QN QE QP) (by kernel_rfl)
theorem F4.o15 : F4.cw W (F4.d [1, 1, 1]) (F4.q0 QR QN QE) QP s h = F4.f38 W QR QN QE QP s h := nd_seq (a := (F4.d [1, 1, 1, 0])) (b := (F4.d [1, 1, 1, 1])) (by kernel_rfl) (F4.e1 W QR QN QE QP) (F4.e38 W QR QN QE QP s h)
def F4.n39 (W : WK) (QR QN : VK) (QE : EK) (QP : PK) (x0 x1 : AV) (h : AH) : Prop :=
aCall Tryd.prog W 11 [x0] h (fun t47 h48 =>
pExt t47 0 fun t49 =>
pExt t47 1 fun t50 =>
pExt t47 2 fun t51 =>
F4.n38 W QR QN QE QP x1 t49 t51 h48) QP
def F4.f39 : KT := fun s h => F4.n39 W QR QN QE QP (s.tm 0) (s.tm 1) h
theorem F4.e39 : F4.cw W (F4.d [1, 1]) (F4.q0 QR QN QE) QP s h = F4.f39 W QR QN QE QP s h := nd_seq (a := (F4.d [1, 1, 0])) (b := (F4.d [1, 1, 1])) (by kernel_rfl) (F4.o15 W QR QN QE QP) (by kernel_rfl)
def F4.n40 (_ : WK) (QR _ : VK) (_ : EK) (_ : PK) (h : AH) : Prop :=
QR [(.sc (.bool false))] h
def F4.f40 : KT := fun _ h => F4.n40 W QR QN QE QP h
theorem F4.e40 : F4.cw W (F4.d [1, 0, 1, 0]) (thenQ (F4.f39 W QR QN QE QP) (F4.q0 QR QN QE)) QP s h = F4.f40 W QR QN QE QP s h := nd_seq (a := (F4.d [1, 0, 1, 0, 0])) (b := (F4.d [1, 0, 1, 0, 1])) (by kernel_rfl) (fun _ _ => rfl) (by kernel_rfl)
def F4.n41 (W : WK) (QR QN : VK) (QE : EK) (QP : PK) (x0 x1 x18 : AV) (h : AH) : Prop :=
aIf x18 (
F4.n40 W QR QN QE QP h) (
F4.n39 W QR QN QE QP x0 x1 h)
def F4.f41 : KT := fun s h => F4.n41 W QR QN QE QP (s.tm 0) (s.tm 1) (s.tm 18) h
theorem F4.e41 : F4.cw W (F4.d [1, 0, 1]) (thenQ (F4.f39 W QR QN QE QP) (F4.q0 QR QN QE)) QP s h = F4.f41 W QR QN QE QP s h := nd_cond (o := (.tmp 18)) (a := (F4.d [1, 0, 1, 0])) (b := (F4.d [1, 0, 1, 1])) (by kernel_rfl) (F4.e40 W QR QN QE QP s h) rfl (by kernel_rfl)
def F4.n42 (W : WK) (QR QN : VK) (QE : EK) (QP : PK) (x0 x1 : AV) (h : AH) : Prop :=
aCall Tryd.prog W 5 [] h (fun t52 h53 =>
pUn .not t52 fun t54 =>
F4.n41 W QR QN QE QP x0 x1 t54 h53) QP
def F4.f42 : KT := fun s h => F4.n42 W QR QN QE QP (s.tm 0) (s.tm 1) h
theorem F4.e42 : F4.cw W (F4.d [1, 0]) (thenQ (F4.f39 W QR QN QE QP) (F4.q0 QR QN QE)) QP s h = F4.f42 W QR QN QE QP s h := nd_seq (a := (F4.d [1, 0, 0])) (b := (F4.d [1, 0, 1])) (by kernel_rfl) (F4.e41 W QR QN QE QP) (by kernel_rfl)
theorem F4.o16 : F4.cw W (F4.d [1]) (F4.q0 QR QN QE) QP s h = F4.f42 W QR QN QE QP s h := nd_seq (a := (F4.d [1, 0])) (b := (F4.d [1, 1])) (by kernel_rfl) (F4.e39 W QR QN QE QP) (F4.e42 W QR QN QE QP s h)
def F4.n43 (W : WK) (QR QN : VK) (QE : EK) (QP : PK) (x0 x1 : AV) (h : AH) : Prop :=
F4.n42 W QR QN QE QP x0 x1 h
def F4.f43 : KT := fun s h => F4.n43 W QR QN QE QP (s.tm 0) (s.tm 1) h
theorem F4.e43 : F4.cw W (F4.d []) (F4.q0 QR QN QE) QP s h = F4.f43 W QR QN QE QP s h := nd_seq (a := (F4.d [0])) (b := (F4.d [1])) (by kernel_rfl) (F4.o16 W QR QN QE QP) (by kernel_rfl)
end
set_option maxRecDepth 100000 in
theorem F4.callsN {x0 x1 : AV} {h : AH} {M : Nat → Prop} {R : AE → AH → Prop} (hp : F4.n43 (fun id => M id ∨ h.next ≤ id) (retV Tryd.prog [.tmp 4] R) (retV Tryd.prog [.tmp 4] R) (fun _ _ _ => False) (fun v h => R (.pan v) h) x0 x1 h) : ACalls Tryd.prog 4 [x0, x1] h M R :=
  acalls_of (c := F4.code) Tryd.mixed Tryd.func4 (by kernel_rfl) (Nat.le_of_ble_eq_true rfl) F4.ok (by rw [show Tryd.f4.ntmps = 95 from rfl, show Tryd.f4.results.toList = [.tmp 4] from rfl]; exact body_D (q := F4.q0 (retV Tryd.prog [.tmp 4] R) (retV Tryd.prog [.tmp 4] R) (fun _ _ _ => False)) (by kernel_rfl) (fun _ _ => rfl) (fun _ _ => rfl) (fun _ _ _ h => h) (fun _ _ _ h => h) rfl (Eq.mpr (F4.e43 (fun id => M id ∨ h.next ≤ id) (retV Tryd.prog [.tmp 4] R) (retV Tryd.prog [.tmp 4] R) (fun _ _ _ => False) (fun v h => R (.pan v) h) (s0 [x0, x1]) h) hp))
attribute [simp] F4.n1 F4.n2 F4.n3 F4.n4 F4.n5 F4.n6 F4.n7 F4.n8 F4.n9 F4.n10 F4.n11 F4.n12 F4.n13 F4.n14 F4.n15 F4.n16 F4.n17 F4.n18 F4.n19 F4.n20 F4.n21 F4.n22 F4.n23 F4.n24 F4.n25 F4.n26 F4.n27 F4.n28 F4.n29 F4.n30 F4.n31 F4.n32 F4.n33 F4.n34 F4.n35 F4.n36 F4.n38 F4.n39 F4.n40 F4.n41 F4.n42 F4.n43
end Go.Proofs.YthkkgbmjjpcfaaaDoor

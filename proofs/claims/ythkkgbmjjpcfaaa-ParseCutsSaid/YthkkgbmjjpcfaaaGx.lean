/- The body of the deferred function of parse.Parse behind its recover; printed by a program of this session. No condition. -/
import Derived.Test.YthkkgbmjjpcfaaaGl
namespace Go.Proofs.Ythkkgbmjjpcfaaa
open Go.Ab

/-! cubit/parse.Parse$1 -/
section
variable (W : Nat → Prop) (Q : Post) (QP : PPost) (s : St) (h : AH)
noncomputable def F13.code : Code := Try.f13.body.getD .skip
def F13.pl : Plans := [(5, ⟨[(none, [(0, false), (1, true), (2, false), (3, true), (4, false), (5, false), (6, false)])], true, []⟩)]
theorem F13.ok : okCode F13.pl (Code.at F13.code [1]) = true := by kernel_rfl
def F13.t1 (W : Nat → Prop) (Q : Post) (s : St) (h : AH) : Prop :=
  ∃ Hd : Nat → Nat, (∀ i ∈ [1, 3], h.obj (Hd i) ≠ none) ∧ (
  pFld (some 0) (s.tm 4) fun t1 =>
  lLd (some false) (some 1) t1 h fun t2 i3 =>
  (i3 = Hd 1) ∧ (
  pFld (some 1) (s.tm 4) fun t4 =>
  lLd (some false) (some 1) t4 h fun t5 i6 =>
  (i6 = Hd 3) ∧ (
  eStore (some 1) (s.tm 0) (.sc (.slice none 0 0)) h (banL W Hd [1, 3]) fun h7 =>
  eStore (some 1) (s.tm 1) t2 h7 (banL W Hd [3]) fun h8 =>
  eStore (some 1) (s.tm 2) t5 h8 W fun h9 =>
  Q .normal ⟨puts s.tm [(17, t1), (18, t2), (19, t4), (20, t5)], s.ds⟩ h9)))
def F13.k1 (W : Nat → Prop) (Q : Post) (QP : PPost) (s : St) (h : AH) : Prop := F13.t1 W Q s h
theorem F13.k1_a : aw Try.prog 21 W F13.pl (Code.at F13.code [1, 1, 0, 1, 1]) (Q) QP s h = F13.t1 W Q s h := by kernel_rfl
theorem F13.k1_ok : aw Try.prog 21 W F13.pl (Code.at F13.code [1, 1, 0, 1, 1]) (Q) QP s h = F13.k1 W Q QP s h := (F13.k1_a W Q QP s h)
def F13.t2 (QP : PPost) (s : St) (h : AH) (C0 : KT) : Prop :=
  aIf (s.tm 15) (
  aPan (s.tm 3) h (QP s.ds)) (
  C0 s h)
def F13.k2 (W : Nat → Prop) (Q : Post) (QP : PPost) (s : St) (h : AH) : Prop := F13.t2 QP s h (F13.k1 W Q QP)
theorem F13.k2_a (C0 : KT) : aIf (aev s (.tmp 15)) (aw Try.prog 21 W F13.pl (Code.at F13.code [1, 1, 0, 1, 0, 1, 0]) (thenQ (C0) (Q)) QP s h) (aw Try.prog 21 W F13.pl (Code.at F13.code [1, 1, 0, 1, 0, 1, 1]) (thenQ (C0) (Q)) QP s h) = F13.t2 QP s h C0 := by kernel_rfl
theorem F13.k2_ok : aw Try.prog 21 W F13.pl (Code.at F13.code [1, 1, 0, 1, 0, 1]) (thenQ (F13.k1 W Q QP) (Q)) QP s h = F13.k2 W Q QP s h := nd_cond (a := (Code.at F13.code [1, 1, 0, 1, 0, 1, 0])) (b := (Code.at F13.code [1, 1, 0, 1, 0, 1, 1])) (by kernel_rfl) rfl rfl (F13.k2_a W Q QP s h (F13.k1 W Q QP))
def F13.t3 (s : St) (h : AH) (C0 C1 : KT) : Prop :=
  pUn .not (s.tm 5) fun t10 =>
  C1 ⟨puts s.tm [(14, (s.tm 5)), (15, t10)], s.ds⟩ h
def F13.k3 (W : Nat → Prop) (Q : Post) (QP : PPost) (s : St) (h : AH) : Prop := F13.t3 s h (F13.k1 W Q QP) (F13.k2 W Q QP)
theorem F13.k3_a (C0 C1 : KT) : aw Try.prog 21 W F13.pl (Code.at F13.code [1, 1, 0, 1, 0, 0]) (thenQ (C1) (thenQ (C0) (Q))) QP s h = F13.t3 s h C0 C1 := by kernel_rfl
theorem F13.k3_ok : aw Try.prog 21 W F13.pl (Code.at F13.code [1, 1, 0, 1, 0]) (thenQ (F13.k1 W Q QP) (Q)) QP s h = F13.k3 W Q QP s h := nd_seq (a := (Code.at F13.code [1, 1, 0, 1, 0, 0])) (b := (Code.at F13.code [1, 1, 0, 1, 0, 1])) (by kernel_rfl) (F13.k2_ok W Q QP) (F13.k3_a W Q QP s h (F13.k1 W Q QP) (F13.k2 W Q QP))
theorem F13.o1 : aw Try.prog 21 W F13.pl (Code.at F13.code [1, 1, 0, 1]) (Q) QP s h = F13.k3 W Q QP s h := nd_seq (a := (Code.at F13.code [1, 1, 0, 1, 0])) (b := (Code.at F13.code [1, 1, 0, 1, 1])) (by kernel_rfl) (F13.k1_ok W Q QP) (F13.k3_ok W Q QP s h)
def F13.t4 (W : Nat → Prop) (s : St) (h : AH) (C0 : KT) : Prop :=
  pTA (some false) 47 true (s.tm 3) fun t11 =>
  pExt t11 0 fun t12 =>
  pExt t11 1 fun t13 =>
  eAlloc (some [.int .i64 0, .int .i64 0]) 2 47 h fun t14 h15 =>
  eStore (some 2) t14 t12 h15 W fun h16 =>
  C0 ⟨puts s.tm [(10, (s.tm 3)), (11, t11), (9, t11), (12, t12), (13, t13), (4, t14), (5, t13)], s.ds⟩ h16
def F13.k4 (W : Nat → Prop) (Q : Post) (QP : PPost) (s : St) (h : AH) : Prop := F13.t4 W s h (F13.k3 W Q QP)
theorem F13.k4_a (C0 : KT) : aw Try.prog 21 W F13.pl (Code.at F13.code [1, 1, 0, 0]) (thenQ (C0) (Q)) QP s h = F13.t4 W s h C0 := by kernel_rfl
theorem F13.k4_ok : aw Try.prog 21 W F13.pl (Code.at F13.code [1, 1, 0]) (Q) QP s h = F13.k4 W Q QP s h := nd_seq (a := (Code.at F13.code [1, 1, 0, 0])) (b := (Code.at F13.code [1, 1, 0, 1])) (by kernel_rfl) (F13.o1 W Q QP) (F13.k4_a W Q QP s h (F13.k3 W Q QP))
def F13.t5 (Q : Post) (s : St) (h : AH) (C0 : KT) : Prop :=
  aIf (s.tm 8) (
  C0 s h) (
  Q .normal s h)
def F13.k5 (W : Nat → Prop) (Q : Post) (QP : PPost) (s : St) (h : AH) : Prop := F13.t5 Q s h (F13.k4 W Q QP)
theorem F13.k5_a (C0 : KT) : aIf (aev s (.tmp 8)) (C0 s h) (aw Try.prog 21 W F13.pl (Code.at F13.code [1, 1, 1]) (Q) QP s h) = F13.t5 Q s h C0 := by kernel_rfl
theorem F13.k5_ok : aw Try.prog 21 W F13.pl (Code.at F13.code [1, 1]) (Q) QP s h = F13.k5 W Q QP s h := nd_cond (a := (Code.at F13.code [1, 1, 0])) (b := (Code.at F13.code [1, 1, 1])) (by kernel_rfl) (F13.k4_ok W Q QP s h) rfl (F13.k5_a W Q QP s h (F13.k4 W Q QP))
def F13.t6 (s : St) (h : AH) (C0 : KT) : Prop :=
  pBin Try.prog .neq 20 true (s.tm 3) (.sc (.nilIface)) fun t17 =>
  C0 ⟨puts s.tm [(7, (s.tm 3)), (8, t17)], s.ds⟩ h
def F13.k6 (W : Nat → Prop) (Q : Post) (QP : PPost) (s : St) (h : AH) : Prop := F13.t6 s h (F13.k5 W Q QP)
theorem F13.k6_a (C0 : KT) : aw Try.prog 21 W F13.pl (Code.at F13.code [1, 0]) (thenQ (C0) (Q)) QP s h = F13.t6 s h C0 := by kernel_rfl
theorem F13.k6_ok : aw Try.prog 21 W F13.pl (Code.at F13.code [1]) (Q) QP s h = F13.k6 W Q QP s h := nd_seq (a := (Code.at F13.code [1, 0])) (b := (Code.at F13.code [1, 1])) (by kernel_rfl) (F13.k5_ok W Q QP) (F13.k6_a W Q QP s h (F13.k5 W Q QP))
end
attribute [simp] F13.k1 F13.t1 F13.k2 F13.t2 F13.k3 F13.t3 F13.k4 F13.t4 F13.k5 F13.t5 F13.k6 F13.t6
end Go.Proofs.Ythkkgbmjjpcfaaa

/- The grammar of programs: what is read follows it, and what follows it is read. No condition. -/
import Derived.Test.YthkkgbmjjpcfaaaDoorWa
set_option maxRecDepth 100000
namespace Go.Proofs.YthkkgbmjjpcfaaaDoor
open Go.Ab
section
variable {L : List Tok} {en : Int}
structure Good (L : List Tok) (en : Int) : Prop where
  pos : 0 ≤ en
  at_ : ∀ t ∈ L, 0 ≤ t.at_ ∧ t.at_ ≤ en
variable (G : Good L en)
include G
end
def headOf (r : Row) : ByteArray := if r.kind = sUse then r.name else r.kind
inductive RowsG (L : List Tok) : Nat → Nat → List Row → Prop
  | nil {p p' : Nat} : p ≤ p' → RowsG L p p' []
  | cons {p q p' k : Nat} {t : Tok} {r : Row} {l : List Row} : p ≤ k → L[k]? = some t → r.place = t.at_ → headOf r = t.text → 0 ≤ r.rows → r.rows ≤ l.length → k < q → RowsG L q p' l → RowsG L p p' (r :: l)
theorem RowsG.app {L : List Tok} {p q p' : Nat} {a b : List Row} (h : RowsG L p q a) (k : RowsG L q p' b) : RowsG L p p' (a ++ b) := by
  induction h with
  | nil h1 =>
    cases k with
    | nil h2 => exact .nil (by omega)
    | cons a1 a2 a3 a4 a5 a6 a7 a8 => exact .cons (by omega) a2 a3 a4 a5 a6 a7 a8
  | cons a1 a2 a3 a4 a5 a6 a7 a8 ih =>
    rw [List.cons_append]
    exact .cons a1 a2 a3 a4 a5 (Int.le_trans a6 (Int.ofNat_le.2 (by rw [List.length_append]; omega))) a7 (ih k)
theorem RowsG.len {L : List Tok} {p p' : Nat} {l : List Row} (h : RowsG L p p' l) : l = [] ∨ p + l.length ≤ L.length := by
  induction h with
  | nil _ => exact .inl rfl
  | cons a1 a2 a3 a4 a5 a6 a7 a8 ih =>
    have := (List.getElem?_eq_some_iff.1 a2).1
    rcases ih with ih | ih
    · subst ih; exact .inr (by simp only [List.length_cons, List.length_nil]; omega)
    · exact .inr (by simp only [List.length_cons]; omega)
end Go.Proofs.YthkkgbmjjpcfaaaDoor
namespace Go.Proofs.YthkkgbmjjpcfaaaDoor
open Go.Ab
def AG (L : List Tok) (rows : List Row) : Prop := ∀ r ∈ rows, r.args.length ≤ L.length
section
variable {L : List Tok} {en : Int}
theorem AG.one {row : Row} (h : row.args.length ≤ L.length) : AG L [row] := fun r hr => by simp only [List.mem_singleton] at hr; subst hr; exact h
theorem AG.app {a b : List Row} (ha : AG L a) (hb : AG L b) : AG L (a ++ b) := fun r hr => (List.mem_append.1 hr).elim (ha r) (hb r)
end
end Go.Proofs.YthkkgbmjjpcfaaaDoor
namespace Go.Proofs.YthkkgbmjjpcfaaaDoor
open Go.Ab
theorem runS_b (p : Int → Bool) (s : ByteArray) (i : Nat) : runS p s i = if i < s.size ∧ p (byteAt s i) = true then runS p s (i + 1) else i := by
  rw [runS]
  by_cases h : i < s.size
  · have hb : byteAt s i = s[i].toNat := by simp [byteAt, h]
    rw [dif_pos h, hb]
    by_cases hp : p s[i].toNat = true
    · rw [if_pos hp, if_pos ⟨h, hp⟩]
    · rw [if_neg hp, if_neg (fun hh => hp hh.2)]
  · rw [dif_neg h, if_neg (fun hh => h hh.1)]
inductive Reach (s : ByteArray) : Nat → List Tok → Nat → List Tok → Prop
  | refl (i : Nat) (acc : List Tok) : Reach s i acc i acc
  | skip {i j k : Nat} {acc acc' : List Tok} : i < s.size → lexAt s i (byteAt s i) = .skip j → i < j → Reach s j acc k acc' → Reach s i acc k acc'
  | tok {i j k : Nat} {t : Tok} {acc acc' : List Tok} : i < s.size → lexAt s i (byteAt s i) = .tok t j → i < j → Reach s j (acc ++ [t]) k acc' → Reach s i acc k acc'
theorem Reach.scan {s : ByteArray} {i k : Nat} {acc acc' : List Tok} (h : Reach s i acc k acc') : scanS s i acc = scanS s k acc' := by
  induction h with
  | refl i acc => rfl
  | skip h1 h2 h3 _ ih => rw [scanS, dif_pos h1]; simp only [h2, if_pos h3]; exact ih
  | tok h1 h2 h3 _ ih => rw [scanS, dif_pos h1]; simp only [h2, if_pos h3]; exact ih
theorem Reach.le {s : ByteArray} {i k : Nat} {acc acc' : List Tok} (h : Reach s i acc k acc') : i ≤ k := by
  induction h with
  | refl i acc => exact Nat.le_refl _
  | skip _ _ _ _ ih => omega
  | tok _ _ _ _ ih => omega
end Go.Proofs.YthkkgbmjjpcfaaaDoor
namespace Go.Proofs.YthkkgbmjjpcfaaaDoor
open Go.Ab
end Go.Proofs.YthkkgbmjjpcfaaaDoor
namespace Go.Proofs.YthkkgbmjjpcfaaaDoor
open Go.Ab
abbrev KTk := Int × ByteArray
def kt (t : Tok) : KTk := (t.kind, t.text)
def er (r : Row) : Row := { r with place := 0 }
def isPl (x : KTk) : Prop := x.1 = 1 ∧ ownB x.2 = false
def isNm (x : KTk) (v : Int) : Prop := x.1 = 2 ∧ valGo x.2.data.toList 0 = some v
abbrev kSg (s : ByteArray) : KTk := (3, s)
inductive ArgT : List KTk → Arg → Prop
  | plain {x : KTk} : isPl x → ArgT [x] ⟨x.2, -1⟩
  | ix {x y : KTk} {v : Int} : isPl x → isNm y v → ArgT [x, kSg sIxO, y, kSg sIxC] ⟨x.2, v⟩
inductive ArgsT : List KTk → List Arg → Prop
  | nil : ArgsT [] []
  | cons {a b : List KTk} {x : Arg} {l : List Arg} : ArgT a x → ArgsT b l → ArgsT (a ++ b) (x :: l)
inductive Hd : List KTk → Row → Bool → Prop
  | regs {x y z : KTk} {v : Int} : x.1 = 1 → (x.2 = sQubits ∨ x.2 = sBits) → isPl y → isNm z v → Hd [x, y, z] ⟨x.2, y.2, [], v, 0, 0⟩ false
  | gate {x y : KTk} {l : List KTk} : x.1 = 1 → x.2 = sGate → isPl y → (∀ z ∈ l, isPl z) → Hd (x :: y :: l) ⟨x.2, y.2, l.map (fun z => ⟨z.2, -1⟩), 0, 0, 0⟩ true
  | rep {x z : KTk} {v : Int} : x.1 = 1 → x.2 = sRepeat → isNm z v → Hd [x, z] ⟨x.2, sEmpty, [], v, 0, 0⟩ true
  | cond {x y z : KTk} {v : Int} : x.1 = 1 → x.2 = sIf → isPl y → isNm z v → Hd [x, y, z] ⟨x.2, y.2, [], v, 0, 0⟩ true
  | meas {x : KTk} {a b : List KTk} {s t : Arg} : x.1 = 1 → x.2 = sMeasure → ArgT a s → ArgT b t → Hd (x :: (a ++ b)) ⟨x.2, sEmpty, [s, t], 0, 0, 0⟩ false
  | reset {x : KTk} {a : List KTk} {s : Arg} : x.1 = 1 → x.2 = sReset → ArgT a s → Hd (x :: a) ⟨x.2, sEmpty, [s], 0, 0, 0⟩ false
  | use {x : KTk} {a : List KTk} {l : List Arg} : isPl x → ArgsT a l → Hd (x :: a) ⟨sUse, x.2, l, 0, 0, 0⟩ false
abbrev RO := Row × Nat
def sh (n : Nat) (x : RO) : RO := (x.1, x.2 + n)
inductive Sq : Nat → List KTk → List RO → Prop
  | nil {k : Nat} : Sq k [] []
  | leaf {k : Nat} {h b : List KTk} {row : Row} {rb : List RO} : Hd h row false → Sq k b rb → Sq k (h ++ kSg sSemi :: b) ((row, 0) :: rb.map (sh (h.length + 1)))
  | held {k : Nat} {h b c : List KTk} {row : Row} {rb rc : List RO} : Hd h row true → Sq k b rb → Sq (k + 1) c rc →
      Sq (k + 1) (h ++ kSg sOpen :: (b ++ kSg sShut :: c)) (({ row with rows := rb.length }, 0) :: (rb.map (sh (h.length + 1)) ++ rc.map (sh (h.length + 1 + b.length + 1))))
def One (k : Nat) (h : List KTk) (rs : List RO) : Prop := ∀ {b : List KTk} {rb : List RO}, Sq k b rb → Sq k (h ++ b) (rs ++ rb.map (sh h.length))
section
variable {L : List Tok} {en : Int}
def Seg (L : List Tok) (p q : Nat) (h : List KTk) : Prop := (L.map kt).drop p = h ++ (L.map kt).drop q ∧ q = p + h.length
theorem Seg.nil {p : Nat} : Seg L p p [] := ⟨rfl, rfl⟩
theorem Seg.app {p q r : Nat} {a b : List KTk} (h1 : Seg L p q a) (h2 : Seg L q r b) : Seg L p r (a ++ b) := ⟨by rw [h1.1, h2.1, List.append_assoc], by rw [h2.2, h1.2, List.length_append]; omega⟩
theorem Seg.one {p : Nat} {t : Tok} (h : L[p]? = some t) : Seg L p (p + 1) [kt t] := by
  refine ⟨?_, rfl⟩
  obtain ⟨hl, rfl⟩ := List.getElem?_eq_some_iff.1 h
  rw [List.drop_eq_getElem_cons (by simpa using hl)]
  simp
theorem nameP_seg {p : Nat} {s : ByteArray} (h : nameP L en p = .ok s) : ∃ x, Seg L p (p + 1) [x] ∧ isPl x ∧ x.2 = s := by
  obtain ⟨_, t, h1, h2, h3⟩ := nameP_ok h
  refine ⟨kt t, .one h1, ?_, h2⟩
  unfold plainP at h3
  rw [h1] at h3
  simpa [isPl, kt] using h3
theorem numberP_seg {p : Nat} {n : Int} (h : numberP L en p = .ok n) : ∃ x, Seg L p (p + 1) [x] ∧ isNm x n := by
  unfold numberP at h
  cases hn : nextP L en p (isNumP L p) with
  | error e => rw [hn] at h; cases h
  | ok t =>
    obtain ⟨_, h1, h3⟩ := nextP_ok hn
    rw [hn] at h
    simp only at h
    refine ⟨kt t, .one h1, ?_⟩
    unfold isNumP at h3
    rw [h1] at h3
    split at h
    · rename_i v hv
      cases h
      exact ⟨by simpa [kt] using h3, hv⟩
    · cases h
theorem signP_seg {p : Nat} {s : ByteArray} {t : Tok} (h : signP L en p s = .ok t) : Seg L p (p + 1) [kSg s] := by
  obtain ⟨_, h1, h3⟩ := nextP_ok h
  have := Seg.one h1
  unfold isSignP at h3
  rw [h1] at h3
  simp at h3
  have hk : kt t = kSg s := by unfold kt; rw [h3.1, h3.2]
  rwa [hk] at this
theorem isSign_seg {p : Nat} {s : ByteArray} (h : isSignP L p s = true) : Seg L p (p + 1) [kSg s] := by
  unfold isSignP at h
  cases hg : L[p]? with
  | none => rw [hg] at h; cases h
  | some t =>
    have := Seg.one hg
    rw [hg] at h
    simp at h
    have hk : kt t = kSg s := by unfold kt; rw [h.1, h.2]
    rwa [hk] at this
theorem argP_seg {p q : Nat} {a : Arg} (h : argP L en p = .ok (a, q)) : ∃ x, Seg L p q x ∧ ArgT x a := by
  unfold argP at h
  cases hn : nameP L en p with
  | error e => rw [hn] at h; cases h
  | ok nm =>
    obtain ⟨x, s1, pl, rfl⟩ := nameP_seg hn
    rw [hn] at h
    simp only at h
    split at h
    · rename_i hs
      have s2 := isSign_seg hs
      cases hu : numberP L en (p + 2) with
      | error e => rw [hu] at h; cases h
      | ok n =>
        obtain ⟨y, s3, nm3⟩ := numberP_seg hu
        rw [hu] at h
        cases hc : signP L en (p + 3) sIxC with
        | error e => rw [hc] at h; cases h
        | ok t =>
          rw [hc] at h; cases h
          have s4 := signP_seg hc
          exact ⟨_, ((s1.app s2).app s3).app s4, .ix pl nm3⟩
    · cases h
      exact ⟨_, s1, .plain pl⟩
theorem namesP_seg : ∀ (n p : Nat) (acc : List Arg) {l : List Arg} {q : Nat}, namesP L en n p acc = .ok (l, q) → ∃ xs : List KTk, Seg L p q xs ∧ (∀ z ∈ xs, isPl z) ∧ l = acc ++ xs.map (fun z => ⟨z.2, -1⟩)
  | 0, _, _, _, _, h => by simp [namesP] at h
  | n + 1, p, acc, l, q, h => by
    simp only [namesP] at h
    split at h
    · cases hn : nameP L en p with
      | error e => rw [hn] at h; cases h
      | ok nm =>
        obtain ⟨x, s1, pl, rfl⟩ := nameP_seg hn
        rw [hn] at h
        obtain ⟨xs, s2, h2, h3⟩ := namesP_seg n (p + 1) _ h
        refine ⟨_, s1.app s2, fun z hz => ?_, by rw [h3]; simp⟩
        rcases List.mem_append.1 hz with hz | hz
        · simp only [List.mem_singleton] at hz; subst hz; exact pl
        · exact h2 z hz
    · cases h; exact ⟨[], .nil, by simp, by simp⟩
theorem argsP_seg : ∀ (n p : Nat) (acc : List Arg) {l : List Arg} {q : Nat}, argsP L en n p acc = .ok (l, q) → ∃ (xs : List KTk) (l' : List Arg), Seg L p q xs ∧ ArgsT xs l' ∧ l = acc ++ l'
  | 0, _, _, _, _, h => by simp [argsP] at h
  | n + 1, p, acc, l, q, h => by
    simp only [argsP] at h
    split at h
    · cases hn : argP L en p with
      | error e => rw [hn] at h; cases h
      | ok x =>
        obtain ⟨a, p1⟩ := x
        obtain ⟨x, s1, at1⟩ := argP_seg hn
        rw [hn] at h
        obtain ⟨xs, l', s2, h2, h3⟩ := argsP_seg n p1 _ h
        exact ⟨_, _, s1.app s2, .cons at1 h2, by rw [h3]; simp⟩
    · cases h; exact ⟨[], [], .nil, .nil, by simp⟩
def atOf (L : List Tok) (j : Nat) : Int := match L[j]? with | some t => t.at_ | none => -1
def RR (L : List Tok) (p : Nat) (rows : List Row) (rs : List RO) : Prop := rows.map (fun r => (er r, r.place)) = rs.map (fun x => (x.1, atOf L (p + x.2)))
theorem RR.nil {p : Nat} : RR L p [] [] := rfl
theorem RR.app {p q : Nat} {a b : List Row} {ra rb : List RO} {n : Nat} (h1 : RR L p a ra) (h2 : RR L q b rb) (hq : q = p + n) : RR L p (a ++ b) (ra ++ rb.map (sh n)) := by
  subst hq
  unfold RR at *
  rw [List.map_append, List.map_append, h1, h2, List.map_map]
  congr 1
  apply List.map_congr_left
  intro x _
  simp only [Function.comp, sh]
  rw [show p + n + x.2 = p + (x.2 + n) by omega]
theorem RR.len {p : Nat} {a : List Row} {ra : List RO} (h : RR L p a ra) : a.length = ra.length := by
  have := congrArg List.length h
  simpa using this
def StepS (L : List Tok) (k : Nat) (step : Nat → Res (Nat × List Row)) : Prop := ∀ p q new, step p = .ok (q, new) → ∃ h rs, Seg L p q h ∧ One k h rs ∧ RR L p new rs
theorem loopP_seg {k : Nat} {step : Nat → Res (Nat × List Row)} (hs : StepS L k step) : ∀ (n p : Nat) (acc : List Row) {l : List Row} {q : Nat}, loopP L step n p acc = .ok (q, l) → ∃ b rb new, Seg L p q b ∧ Sq k b rb ∧ RR L p new rb ∧ l = acc ++ new ∧ isSignP L q sShut = true
  | 0, _, _, _, _, h => by simp [loopP] at h
  | n + 1, p, acc, l, q, h => by
    simp only [loopP] at h
    split at h
    · rename_i hg
      cases h
      exact ⟨[], [], [], .nil, .nil, .nil, by simp, hg⟩
    · cases hn : step p with
      | error e => rw [hn] at h; cases h
      | ok x =>
        obtain ⟨p1, new⟩ := x
        obtain ⟨hd, rs, s1, o1, r1⟩ := hs _ _ _ hn
        rw [hn] at h
        obtain ⟨b, rb, new2, s2, q2, r2, h2, h3⟩ := loopP_seg hs n p1 _ h
        exact ⟨_, _, new ++ new2, s1.app s2, o1 q2, r1.app r2 s1.2, by rw [h2]; simp, h3⟩
theorem lineP_seg {k p q p0 : Nat} {row : Row} {l : List Row} {h : List KTk} (hh : Hd h (er row) false) (hs : Seg L p0 p h) (hat : row.place = atOf L p0) (hl : lineP L en p row = .ok (q, l)) : ∃ h' rs, Seg L p0 q h' ∧ One k h' rs ∧ RR L p0 l rs := by
  unfold lineP at hl
  cases hn : signP L en p sSemi with
  | error e => rw [hn] at hl; cases hl
  | ok t =>
    rw [hn] at hl; cases hl
    refine ⟨h ++ [kSg sSemi], [(er row, 0)], hs.app (signP_seg hn), fun {b rb} hb => ?_, ?_⟩
    · have := Sq.leaf hh hb
      simpa using this
    · simp [RR, hat, er]
theorem heldP_seg {k p q p0 : Nat} {row : Row} {l : List Row} {h : List KTk} (hh : Hd h (er row) true) (hs : Seg L p0 p h) (hat : row.place = atOf L p0) (hst : ∀ k', k = k' + 1 → StepS L k' (stepP L en k)) (hl : heldP L en k (stepP L en k) p row = .ok (q, l)) : ∃ h' rs, Seg L p0 q h' ∧ One k h' rs ∧ RR L p0 l rs := by
  unfold heldP at hl
  cases hn : bdP L en k (stepP L en k) p with
  | error e => rw [hn] at hl; cases hl
  | ok x =>
    obtain ⟨p1, rows⟩ := x
    rw [hn] at hl; cases hl
    unfold bdP at hn
    cases ho : signP L en p sOpen with
    | error e => rw [ho] at hn; cases hn
    | ok t =>
      rw [ho] at hn
      cases k with
      | zero => cases hn
      | succ k =>
        simp only at hn
        cases hlp : loopP L (stepP L en (k + 1)) (L.length + 1) (p + 1) [] with
        | error e => rw [hlp] at hn; cases hn
        | ok x =>
          obtain ⟨p2, rows2⟩ := x
          rw [hlp] at hn
          cases hn
          obtain ⟨b, rb, new, s2, q2, r2, h2, h3⟩ := loopP_seg (hst k rfl) _ _ _ hlp
          simp only [List.nil_append] at h2
          subst h2
          have sg := (hs.app (signP_seg ho)).app (s2.app (isSign_seg h3))
          refine ⟨h ++ kSg sOpen :: (b ++ [kSg sShut]), ({ er row with rows := rb.length }, 0) :: rb.map (sh (h.length + 1)), by simpa using sg, fun {c rc} hc => ?_, ?_⟩
          · have := Sq.held hh q2 hc
            simpa [List.append_assoc, Nat.add_assoc, Nat.add_comm, Nat.add_left_comm] using this
          · have hl2 := r2.len
            have ha : RR L p0 [{ row with rows := (rows.length : Int) }] [({ er row with rows := (rb.length : Int) }, 0)] := by simp [RR, hat, er, hl2]
            have := ha.app r2 (n := h.length + 1) (by rw [hs.2]; omega)
            simpa using this
theorem stmtB_seg {k p q : Nat} {t : Tok} {l : List Row} (hst : ∀ k', k = k' + 1 → StepS L k' (stepP L en k)) (hg : L[p]? = some t) (hk : t.kind = 1) (h : stmtB L en k (stepP L en k) p t = .ok (q, l)) : ∃ h' rs, Seg L p q h' ∧ One k h' rs ∧ RR L p l rs := by
  have s0 := Seg.one hg
  have hat : t.at_ = atOf L p := by unfold atOf; rw [hg]
  have hk1 : (kt t).1 = 1 := hk
  unfold stmtB at h
  split at h
  · rename_i hc
    cases h1 : nameP L en (p + 1) with
    | error e => rw [h1] at h; cases h
    | ok nm =>
      obtain ⟨y, s1, pl, rfl⟩ := nameP_seg h1
      rw [h1] at h; simp only at h
      cases h2 : numberP L en (p + 2) with
      | error e => rw [h2] at h; cases h
      | ok n =>
        obtain ⟨z, s2, nm2⟩ := numberP_seg h2
        rw [h2] at h
        exact lineP_seg (Hd.regs (x := kt t) hk1 hc pl nm2) ((s0.app s1).app s2) hat h
  split at h
  · rename_i hc
    cases h1 : nameP L en (p + 1) with
    | error e => rw [h1] at h; cases h
    | ok nm =>
      obtain ⟨y, s1, pl, rfl⟩ := nameP_seg h1
      rw [h1] at h; simp only at h
      cases h2 : namesP L en (L.length + 1) (p + 2) [] with
      | error e => rw [h2] at h; cases h
      | ok x =>
        obtain ⟨l2, p2⟩ := x
        obtain ⟨xs, s2, hp2, h3⟩ := namesP_seg _ _ _ h2
        rw [h2] at h
        simp only [List.nil_append] at h3
        subst h3
        exact heldP_seg (Hd.gate (x := kt t) hk1 hc pl hp2) ((s0.app s1).app s2) hat hst h
  split at h
  · rename_i hc
    cases h1 : numberP L en (p + 1) with
    | error e => rw [h1] at h; cases h
    | ok n =>
      obtain ⟨z, s2, nm2⟩ := numberP_seg h1
      rw [h1] at h
      exact heldP_seg (Hd.rep (x := kt t) hk1 hc nm2) (s0.app s2) hat hst h
  split at h
  · rename_i hc
    cases h1 : nameP L en (p + 1) with
    | error e => rw [h1] at h; cases h
    | ok nm =>
      obtain ⟨y, s1, pl, rfl⟩ := nameP_seg h1
      rw [h1] at h; simp only at h
      cases h2 : numberP L en (p + 2) with
      | error e => rw [h2] at h; cases h
      | ok n =>
        obtain ⟨z, s2, nm2⟩ := numberP_seg h2
        rw [h2] at h
        exact heldP_seg (Hd.cond (x := kt t) hk1 hc pl nm2) ((s0.app s1).app s2) hat hst h
  split at h
  · rename_i hc
    cases h1 : argP L en (p + 1) with
    | error e => rw [h1] at h; cases h
    | ok x =>
      obtain ⟨a, p1⟩ := x
      obtain ⟨xa, s1, a1⟩ := argP_seg h1
      rw [h1] at h; simp only at h
      cases h2 : argP L en p1 with
      | error e => rw [h2] at h; cases h
      | ok y =>
        obtain ⟨b, p2⟩ := y
        obtain ⟨xb, s2, a2⟩ := argP_seg h2
        rw [h2] at h
        exact lineP_seg (Hd.meas (x := kt t) hk1 hc a1 a2) (by simpa using s0.app (s1.app s2)) hat h
  split at h
  · rename_i hc
    cases h1 : argP L en (p + 1) with
    | error e => rw [h1] at h; cases h
    | ok x =>
      obtain ⟨a, p1⟩ := x
      obtain ⟨xa, s1, a1⟩ := argP_seg h1
      rw [h1] at h; simp only at h
      exact lineP_seg (Hd.reset (x := kt t) hk1 hc a1) (s0.app s1) hat h
  · rename_i c1 c2 c3 c4 c5 c6
    have hpl : isPl (kt t) := by
      refine ⟨hk1, ?_⟩
      simp only [not_or] at c1
      simp [ownB, kt, c1.1, c1.2, c2, c3, c4, c5, c6]
    cases h1 : argsP L en (L.length + 1) (p + 1) [] with
    | error e => rw [h1] at h; cases h
    | ok x =>
      obtain ⟨l2, p2⟩ := x
      obtain ⟨xs, l', s1, a1, h3⟩ := argsP_seg _ _ _ h1
      rw [h1] at h; simp only at h
      simp only [List.nil_append] at h3
      subst h3
      exact lineP_seg (Hd.use hpl a1) (s0.app s1) hat h
theorem stmtP_seg : ∀ (k : Nat), StepS L k (stmtP L en k) := by
  have key : ∀ k, (∀ k', k = k' + 1 → StepS L k' (stepP L en k)) → StepS L k (stmtP L en k) := by
    intro k hk p q new h
    rw [stmtP_eq] at h
    cases h1 : nextP L en p (isNameP L p) with
    | error e => rw [h1] at h; cases h
    | ok t =>
      rw [h1] at h
      obtain ⟨_, h2, h3⟩ := nextP_ok h1
      unfold isNameP at h3
      rw [h2] at h3
      exact stmtB_seg hk h2 (by simpa using h3) h
  intro k
  induction k with
  | zero => exact key 0 (fun k' he => by omega)
  | succ k ih => exact key (k + 1) (fun k' he => by cases he; exact ih)
theorem topP_seg : ∀ (n p : Nat) (acc : List Row) {l : List Row}, p ≤ L.length → topP L en n p acc = .ok l → ∃ b rb new, Seg L p L.length b ∧ Sq 32 b rb ∧ RR L p new rb ∧ l = acc ++ new
  | 0, _, _, _, _, h => by simp [topP] at h
  | n + 1, p, acc, l, hp, h => by
    simp only [topP] at h
    split at h
    · cases hn : stmtP L en 32 p with
      | error e => rw [hn] at h; cases h
      | ok x =>
        obtain ⟨p1, new⟩ := x
        obtain ⟨hd, rs, s1, o1, r1⟩ := stmtP_seg 32 _ _ _ hn
        rw [hn] at h
        obtain ⟨b1, b2, b3⟩ := stmtP_ok 32 p p1 new hn
        obtain ⟨b, rb, new2, s2, q2, r2, h2⟩ := topP_seg n p1 _ b2 h
        exact ⟨_, _, new ++ new2, s1.app s2, o1 q2, r1.app r2 s1.2, by rw [h2]; simp⟩
    · cases h
      have : p = L.length := by omega
      subst this
      exact ⟨[], [], [], .nil, .nil, .nil, by simp⟩
end
end Go.Proofs.YthkkgbmjjpcfaaaDoor
namespace Go.Proofs.YthkkgbmjjpcfaaaDoor
open Go.Ab
section
variable {L : List Tok} {en : Int}
theorem drop_c {p : Nat} {a : KTk} {l : List KTk} (h : (L.map kt).drop p = a :: l) : ∃ t, L[p]? = some t ∧ kt t = a ∧ (L.map kt).drop (p + 1) = l := by
  have h0 : (L.map kt)[p]? = some a := by
    have := congrArg (fun x => x[0]?) h
    simpa using this
  rw [List.getElem?_map] at h0
  cases hg : L[p]? with
  | none => rw [hg] at h0; cases h0
  | some t =>
    rw [hg] at h0
    refine ⟨t, rfl, by simpa using h0, ?_⟩
    have := congrArg (List.drop 1) h
    simpa [List.drop_drop] using this
theorem plain_c {p : Nat} {x : KTk} {l : List KTk} (h : (L.map kt).drop p = x :: l) (hx : isPl x) : plainP L p = true ∧ nameP L en p = .ok x.2 ∧ (L.map kt).drop (p + 1) = l ∧ isNameP L p = true := by
  obtain ⟨t, h1, rfl, h3⟩ := drop_c h
  have hk : t.kind = 1 := hx.1
  have ho : ownB t.text = false := hx.2
  have hp : plainP L p = true := by simp [plainP, h1, hk, ho]
  exact ⟨hp, by simp [nameP, nextP, h1, hp, Except.map, kt], h3, by simp [isNameP, h1, hk]⟩
theorem number_c {p : Nat} {x : KTk} {v : Int} {l : List KTk} (h : (L.map kt).drop p = x :: l) (hx : isNm x v) : numberP L en p = .ok v ∧ (L.map kt).drop (p + 1) = l := by
  obtain ⟨t, h1, rfl, h3⟩ := drop_c h
  have hk : t.kind = 2 := hx.1
  have hv : valGo t.text.data.toList 0 = some v := hx.2
  have hp : isNumP L p = true := by simp [isNumP, h1, hk]
  exact ⟨by simp [numberP, nextP, h1, hp, hv], h3⟩
theorem sign_c {p : Nat} {s : ByteArray} {l : List KTk} (h : (L.map kt).drop p = kSg s :: l) : isSignP L p s = true ∧ (∃ t, signP L en p s = .ok t) ∧ (L.map kt).drop (p + 1) = l := by
  obtain ⟨t, h1, h2, h3⟩ := drop_c h
  simp only [kt, kSg, Prod.mk.injEq] at h2
  have hp : isSignP L p s = true := by simp [isSignP, h1, h2.1, h2.2]
  exact ⟨hp, ⟨t, by simp [signP, nextP, h1, hp]⟩, h3⟩
theorem nosign_c {p : Nat} {s : ByteArray} {x : KTk} {l : List KTk} (h : (L.map kt).drop p = x :: l) (hx : x ≠ kSg s) : isSignP L p s = false := by
  obtain ⟨t, h1, rfl, h3⟩ := drop_c h
  unfold isSignP
  rw [h1]
  simp only
  by_cases hk : t.kind = 3
  · by_cases ht : t.text = s
    · exact absurd (by unfold kt; rw [hk, ht]) hx
    · simp [ht]
  · simp [hk]
theorem noplain_c {p : Nat} {x : KTk} {l : List KTk} (h : (L.map kt).drop p = x :: l) (hx : x.1 ≠ 1) : plainP L p = false := by
  obtain ⟨t, h1, rfl, h3⟩ := drop_c h
  unfold plainP
  rw [h1]
  have : t.kind ≠ 1 := hx
  simp [this]
theorem pl_ne {x : KTk} {s : ByteArray} (h : isPl x) : x ≠ kSg s := by
  intro hh
  subst hh
  exact absurd h.1 (by show ¬ ((3 : Int) = 1); decide)
theorem arg_c {p : Nat} {a : List KTk} {x : Arg} {y : KTk} {l : List KTk} (ha : ArgT a x) (h : (L.map kt).drop p = a ++ y :: l) (hy : y ≠ kSg sIxO) : argP L en p = .ok (x, p + a.length) ∧ (L.map kt).drop (p + a.length) = y :: l := by
  cases ha with
  | plain hx =>
    obtain ⟨_, h1, h2, _⟩ := plain_c (en := en) h hx
    have h3 := nosign_c h2 hy
    exact ⟨by simp [argP, h1, h3], h2⟩
  | ix hx hn =>
    obtain ⟨_, h1, h2, _⟩ := plain_c (en := en) h hx
    obtain ⟨g1, _, g3⟩ := sign_c (en := en) h2
    obtain ⟨n1, n2⟩ := number_c (en := en) g3 hn
    obtain ⟨_, ⟨t, s2⟩, s3⟩ := sign_c (en := en) n2
    exact ⟨by simp [argP, h1, g1, n1, s2], s3⟩
theorem names_c {y : KTk} {l : List KTk} (hy : y.1 ≠ 1) : ∀ (xs : List KTk) (n p : Nat) (acc : List Arg), (∀ z ∈ xs, isPl z) → (L.map kt).drop p = xs ++ y :: l → xs.length < n →
    namesP L en n p acc = .ok (acc ++ xs.map (fun z => ⟨z.2, -1⟩), p + xs.length) ∧ (L.map kt).drop (p + xs.length) = y :: l
  | [], n, p, acc, _, h, hn => by
    cases n with
    | zero => simp at hn
    | succ n =>
      have := noplain_c h hy
      exact ⟨by simp [namesP, this], h⟩
  | x :: xs, n, p, acc, hx, h, hn => by
    cases n with
    | zero => simp at hn
    | succ n =>
      obtain ⟨p1, p2, p3, _⟩ := plain_c (en := en) h (hx x (by simp))
      obtain ⟨a1, a2⟩ := names_c hy xs n (p + 1) (acc ++ [⟨x.2, -1⟩]) (fun z hz => hx z (by simp [hz])) p3 (by simpa using hn)
      refine ⟨?_, by rw [List.length_cons, show p + (xs.length + 1) = p + 1 + xs.length by omega]; exact a2⟩
      simp only [namesP, p1, if_true, p2]
      rw [a1]
      simp; omega
theorem ArgT.head {a : List KTk} {x : Arg} (h : ArgT a x) : ∃ z l, a = z :: l ∧ isPl z := by
  cases h with
  | plain h => exact ⟨_, _, rfl, h⟩
  | ix h _ => exact ⟨_, _, rfl, h⟩
theorem args_c {y : KTk} {l : List KTk} (hy : y.1 ≠ 1) (hy2 : y ≠ kSg sIxO) {xs : List KTk} {l' : List Arg} (hx : ArgsT xs l') : ∀ (n p : Nat) (acc : List Arg), (L.map kt).drop p = xs ++ y :: l → xs.length < n →
    argsP L en n p acc = .ok (acc ++ l', p + xs.length) ∧ (L.map kt).drop (p + xs.length) = y :: l := by
  induction hx with
  | nil =>
    intro n p acc h hn
    cases n with
    | zero => simp at hn
    | succ n =>
      have := noplain_c h hy
      exact ⟨by simp [argsP, this], h⟩
  | @cons a b x l2 ha hb ih =>
    intro n p acc h hn
    cases n with
    | zero => simp at hn
    | succ n =>
      obtain ⟨z, l3, rfl, hz⟩ := ha.head
      rw [List.append_assoc] at h
      obtain ⟨p1, _, _, _⟩ := plain_c (en := en) (by simpa using h) hz
      have hnext : ∃ w l4, b ++ y :: l = w :: l4 ∧ w ≠ kSg sIxO := by
        cases hb with
        | nil => exact ⟨y, l, rfl, hy2⟩
        | cons ha2 _ =>
          obtain ⟨w, l5, rfl, hw⟩ := ha2.head
          exact ⟨w, _, rfl, pl_ne hw⟩
      obtain ⟨w, l4, e4, hw⟩ := hnext
      rw [e4] at h
      obtain ⟨g1, g2⟩ := arg_c (en := en) ha h hw
      rw [← e4] at g2
      obtain ⟨a1, a2⟩ := ih n _ (acc ++ [x]) g2 (by simp at hn; omega)
      refine ⟨?_, by rw [List.length_append, ← Nat.add_assoc]; exact a2⟩
      simp only [argsP, p1, if_true, g1]
      rw [a1]
      simp; omega
theorem head_c {p k : Nat} {h : List KTk} {row : Row} {held : Bool} {l : List KTk} (hh : Hd h row held) (hd : (L.map kt).drop p = h ++ (if held then kSg sOpen else kSg sSemi) :: l) : ∃ row', er row' = row ∧
    (stmtP L en k p = if held then heldP L en k (stepP L en k) (p + h.length) row' else lineP L en (p + h.length) row') ∧ (L.map kt).drop (p + h.length) = (if held then kSg sOpen else kSg sSemi) :: l := by
  have first : ∀ (x : KTk) (l' : List KTk), (L.map kt).drop p = x :: l' → x.1 = 1 → ∃ t, kt t = x ∧ stmtP L en k p = stmtB L en k (stepP L en k) p t ∧ (L.map kt).drop (p + 1) = l' := by
    intro x l' h1 h2
    obtain ⟨t, g1, g2, g3⟩ := drop_c h1
    refine ⟨t, g2, ?_, g3⟩
    have hk : t.kind = 1 := by rw [← g2] at h2; exact h2
    have : isNameP L p = true := by simp [isNameP, g1, hk]
    rw [stmtP_eq]
    simp [nextP, g1, this]
  have hfit : ∀ (m : Nat) (w : List KTk) (y : KTk) (l' : List KTk), (L.map kt).drop m = w ++ y :: l' → w.length < L.length + 1 := by
    intro m w y l' h1
    have := congrArg List.length h1
    simp at this
    omega
  cases hh with
  | @regs x y z v hx hc hy hz =>
    obtain ⟨t, rfl, e, d1⟩ := first _ _ hd hx
    obtain ⟨_, n1, d2, _⟩ := plain_c (en := en) d1 hy
    obtain ⟨m1, d3⟩ := number_c (en := en) d2 hz
    refine ⟨⟨t.text, y.2, [], v, 0, t.at_⟩, rfl, ?_, d3⟩
    rw [e]; unfold stmtB
    have hc' : t.text = sQubits ∨ t.text = sBits := hc
    have m1' : numberP L en (p + 2) = .ok v := m1
    rw [if_pos hc', n1]; simp only [m1']; rfl
  | @gate x y l' hx hc hy hl =>
    obtain ⟨t, rfl, e, d1⟩ := first _ _ hd hx
    obtain ⟨_, n1, d2, _⟩ := plain_c (en := en) d1 hy
    obtain ⟨a1, a2⟩ := names_c (en := en) (by decide) l' (L.length + 1) (p + 2) [] hl d2 (hfit _ _ _ _ d2)
    have hc' : t.text = sGate := hc
    refine ⟨⟨t.text, y.2, l'.map (fun z => ⟨z.2, -1⟩), 0, 0, t.at_⟩, rfl, ?_, by simpa [Nat.add_assoc, Nat.add_comm, Nat.add_left_comm] using a2⟩
    rw [e]; unfold stmtB
    rw [if_neg (by rw [hc']; decide), if_pos hc', n1]
    simp only [a1, List.nil_append, if_true, List.length_cons]
    rw [show p + (l'.length + 1 + 1) = p + 2 + l'.length by omega]
  | @rep x z v hx hc hz =>
    obtain ⟨t, rfl, e, d1⟩ := first _ _ hd hx
    obtain ⟨m1, d3⟩ := number_c (en := en) d1 hz
    have hc' : t.text = sRepeat := hc
    refine ⟨⟨t.text, sEmpty, [], v, 0, t.at_⟩, rfl, ?_, d3⟩
    rw [e]; unfold stmtB
    rw [if_neg (by rw [hc']; decide), if_neg (by rw [hc']; decide), if_pos hc', m1]; rfl
  | @cond x y z v hx hc hy hz =>
    obtain ⟨t, rfl, e, d1⟩ := first _ _ hd hx
    obtain ⟨_, n1, d2, _⟩ := plain_c (en := en) d1 hy
    obtain ⟨m1, d3⟩ := number_c (en := en) d2 hz
    have hc' : t.text = sIf := hc
    refine ⟨⟨t.text, y.2, [], v, 0, t.at_⟩, rfl, ?_, d3⟩
    rw [e]; unfold stmtB
    rw [if_neg (by rw [hc']; decide), if_neg (by rw [hc']; decide), if_neg (by rw [hc']; decide), if_pos hc', n1]
    have m1' : numberP L en (p + 2) = .ok v := m1
    simp only [m1']; rfl
  | @meas x a b s t2 hx hc ha hb =>
    obtain ⟨t, rfl, e, d1⟩ := first _ _ hd hx
    obtain ⟨w, l5, rfl, hw⟩ := hb.head
    obtain ⟨a1, d2⟩ := arg_c (en := en) ha (by simpa using d1) (pl_ne hw)
    obtain ⟨a2, d3⟩ := arg_c (en := en) hb (by simpa using d2) (by decide)
    have hc' : t.text = sMeasure := hc
    refine ⟨⟨t.text, sEmpty, [s, t2], 0, 0, t.at_⟩, rfl, ?_, by simpa [Nat.add_assoc, Nat.add_comm, Nat.add_left_comm] using d3⟩
    rw [e]; unfold stmtB
    rw [if_neg (by rw [hc']; decide), if_neg (by rw [hc']; decide), if_neg (by rw [hc']; decide), if_neg (by rw [hc']; decide), if_pos hc', a1]; simp only [a2]
    simp only [Bool.false_eq_true, if_false, List.length_cons, List.length_append]
    rw [show p + (a.length + (l5.length + 1) + 1) = p + 1 + a.length + (l5.length + 1) by omega]
  | @reset x a s hx hc ha =>
    obtain ⟨t, rfl, e, d1⟩ := first _ _ hd hx
    obtain ⟨a1, d2⟩ := arg_c (en := en) ha d1 (by decide)
    have hc' : t.text = sReset := hc
    refine ⟨⟨t.text, sEmpty, [s], 0, 0, t.at_⟩, rfl, ?_, by simpa [Nat.add_assoc, Nat.add_comm, Nat.add_left_comm] using d2⟩
    rw [e]; unfold stmtB
    rw [if_neg (by rw [hc']; decide), if_neg (by rw [hc']; decide), if_neg (by rw [hc']; decide), if_neg (by rw [hc']; decide), if_neg (by rw [hc']; decide), if_pos hc', a1]
    simp only [Bool.false_eq_true, if_false, List.length_cons]
    rw [show p + (a.length + 1) = p + 1 + a.length by omega]
  | @use x a l' hx ha =>
    obtain ⟨t, rfl, e, d1⟩ := first _ _ hd hx.1
    obtain ⟨a1, d2⟩ := args_c (en := en) (by decide) (by decide) ha (L.length + 1) (p + 1) [] d1 (hfit _ _ _ _ d1)
    have ho : ownB t.text = false := hx.2
    simp only [ownB, Bool.or_eq_false_iff, decide_eq_false_iff_not] at ho
    obtain ⟨⟨⟨⟨⟨⟨o1, o2⟩, o3⟩, o4⟩, o5⟩, o6⟩, o7⟩ := ho
    refine ⟨⟨sUse, t.text, l', 0, 0, t.at_⟩, rfl, ?_, by simpa [Nat.add_assoc, Nat.add_comm, Nat.add_left_comm] using d2⟩
    rw [e]; unfold stmtB
    rw [if_neg (fun h => h.elim o1 o2), if_neg o3, if_neg o4, if_neg o5, if_neg o6, if_neg o7]
    simp only [a1, List.nil_append, Bool.false_eq_true, if_false, List.length_cons]
    rw [show p + (a.length + 1) = p + 1 + a.length by omega]
end
end Go.Proofs.YthkkgbmjjpcfaaaDoor
namespace Go.Proofs.YthkkgbmjjpcfaaaDoor
open Go.Ab
section
variable {L : List Tok} {en : Int}
theorem Hd.cons {h : List KTk} {row : Row} {b : Bool} (hh : Hd h row b) : ∃ x l, h = x :: l ∧ x.1 = 1 := by
  cases hh with
  | regs h _ _ _ => exact ⟨_, _, rfl, h⟩
  | gate h _ _ _ => exact ⟨_, _, rfl, h⟩
  | rep h _ _ => exact ⟨_, _, rfl, h⟩
  | cond h _ _ _ => exact ⟨_, _, rfl, h⟩
  | meas h _ _ _ => exact ⟨_, _, rfl, h⟩
  | reset h _ _ => exact ⟨_, _, rfl, h⟩
  | use h _ => exact ⟨_, _, rfl, h.1⟩
theorem Hd.rows0 {h : List KTk} {row : Row} {b : Bool} (hh : Hd h row b) : row.rows = 0 ∧ row.place = 0 := by
  cases hh <;> exact ⟨rfl, rfl⟩
theorem lead_c {p : Nat} {h : List KTk} {row : Row} {b : Bool} {l : List KTk} (hh : Hd h row b) (hd : (L.map kt).drop p = h ++ l) : isSignP L p sShut = false ∧ p < L.length := by
  obtain ⟨x, l', rfl, hx⟩ := hh.cons
  refine ⟨nosign_c hd (fun e => by rw [e] at hx; exact absurd hx (by show ¬ ((3 : Int) = 1); decide)), ?_⟩
  obtain ⟨t, h1, _, _⟩ := drop_c hd
  exact (List.getElem?_eq_some_iff.1 h1).1
theorem drop_len {p : Nat} {b l : List KTk} (h : (L.map kt).drop p = b ++ l) : (L.map kt).drop (p + b.length) = l := by
  rw [← List.drop_drop, h, List.drop_left]
def ReadB (L : List Tok) (en : Int) (k : Nat) (b : List KTk) (rb : List RO) : Prop := ∀ (p : Nat) (l : List KTk) (n : Nat) (acc : List Row), (L.map kt).drop p = b ++ kSg sShut :: l → b.length < n →
  ∃ new, loopP L (stmtP L en k) n p acc = .ok (p + b.length, acc ++ new) ∧ new.map er = rb.map (·.1)
def ReadT (L : List Tok) (en : Int) (k : Nat) (b : List KTk) (rb : List RO) : Prop := k = 32 → ∀ (p n : Nat) (acc : List Row), (L.map kt).drop p = b → b.length < n →
  ∃ new, topP L en n p acc = .ok (acc ++ new) ∧ new.map er = rb.map (·.1)
theorem map_sh (rb : List RO) (n : Nat) : (rb.map (sh n)).map (·.1) = rb.map (·.1) := by
  rw [List.map_map]; rfl
theorem leaf_c {k p : Nat} {h b : List KTk} {row : Row} (hh : Hd h row false) (hd : (L.map kt).drop p = h ++ kSg sSemi :: b) : ∃ row', er row' = row ∧ stmtP L en k p = .ok (p + h.length + 1, [row']) := by
  obtain ⟨row', e1, e2, e3⟩ := head_c (en := en) (k := k) hh (by simpa using hd)
  simp only [Bool.false_eq_true, if_false] at e2 e3
  obtain ⟨_, ⟨t, s2⟩, _⟩ := sign_c (en := en) e3
  refine ⟨row', e1, ?_⟩
  rw [e2]; unfold lineP; rw [s2]
theorem held_c {k p : Nat} {h b c : List KTk} {row : Row} {rb : List RO} (hh : Hd h row true) (hb : ReadB L en k b rb) (hd : (L.map kt).drop p = h ++ kSg sOpen :: (b ++ kSg sShut :: c)) :
    ∃ row' new, er row' = { row with rows := rb.length } ∧ new.map er = rb.map (·.1) ∧ stmtP L en (k + 1) p = .ok (p + h.length + 1 + b.length + 1, row' :: new) := by
  obtain ⟨row', e1, e2, e3⟩ := head_c (en := en) (k := k + 1) hh (by simpa using hd)
  simp only [if_true] at e2 e3
  obtain ⟨_, ⟨t, s2⟩, s3⟩ := sign_c (en := en) e3
  have hfit : b.length < L.length + 1 := by
    have := congrArg List.length s3
    simp at this
    omega
  obtain ⟨new, g1, g2⟩ := hb _ _ (L.length + 1) [] s3 hfit
  have hl : new.length = rb.length := by have := congrArg List.length g2; simpa using this
  refine ⟨{ row' with rows := new.length }, new, ?_, g2, ?_⟩
  · rw [← e1, hl]; rfl
  · rw [e2]; unfold heldP bdP
    rw [s2]
    have : stepP L en (k + 1) = stmtP L en k := rfl
    simp only [this, g1, List.nil_append]
theorem sq_read {k : Nat} {b : List KTk} {rb : List RO} (hs : Sq k b rb) : ReadB L en k b rb ∧ ReadT L en k b rb := by
  induction hs with
  | nil =>
    refine ⟨fun p l n acc h hn => ?_, fun _ p n acc h hn => ?_⟩
    · cases n with
      | zero => simp at hn
      | succ n =>
        obtain ⟨g, _, _⟩ := sign_c (en := en) (by simpa using h)
        exact ⟨[], by simp [loopP, g], rfl⟩
    · cases n with
      | zero => simp at hn
      | succ n =>
        have : ¬ p < L.length := by
          have := congrArg List.length h
          simp at this
          omega
        exact ⟨[], by simp [topP, this], rfl⟩
  | @leaf k h b row rb hh _ ih =>
    refine ⟨fun p l n acc hd hn => ?_, fun hk p n acc hd hn => ?_⟩
    · cases n with
      | zero => simp at hn
      | succ n =>
        rw [List.append_assoc] at hd
        obtain ⟨g1, _⟩ := lead_c hh hd
        obtain ⟨row', e1, e2⟩ := leaf_c (en := en) (k := k) hh hd
        have hd2 : (L.map kt).drop (p + h.length + 1) = b ++ kSg sShut :: l := by
          have := drop_len (b := h ++ [kSg sSemi]) (l := b ++ kSg sShut :: l) (by simpa using hd)
          simpa [Nat.add_assoc] using this
        obtain ⟨new, e3, e4⟩ := ih.1 _ _ n (acc ++ [row']) hd2 (by simp at hn; omega)
        refine ⟨row' :: new, ?_, by simp [e1, e4, sh]⟩
        simp only [loopP, g1, Bool.false_eq_true, if_false, e2]
        rw [e3]
        simp; omega
    · cases n with
      | zero => simp at hn
      | succ n =>
        obtain ⟨_, g1⟩ := lead_c hh hd
        obtain ⟨row', e1, e2⟩ := leaf_c (en := en) (k := k) hh hd
        have hd2 : (L.map kt).drop (p + h.length + 1) = b := by
          have := drop_len (b := h ++ [kSg sSemi]) (l := b) (by simpa using hd)
          simpa [Nat.add_assoc] using this
        obtain ⟨new, e3, e4⟩ := ih.2 hk _ n (acc ++ [row']) hd2 (by simp at hn; omega)
        subst hk
        refine ⟨row' :: new, ?_, by simp [e1, e4, sh]⟩
        simp only [topP, g1, if_true, e2]
        rw [e3]
        simp
  | @held k h b c row rb rc hh _ _ ihb ihc =>
    refine ⟨fun p l n acc hd hn => ?_, fun hk p n acc hd hn => ?_⟩
    · cases n with
      | zero => simp at hn
      | succ n =>
        have hd' : (L.map kt).drop p = h ++ kSg sOpen :: (b ++ kSg sShut :: (c ++ kSg sShut :: l)) := by simpa using hd
        obtain ⟨g1, _⟩ := lead_c hh hd'
        obtain ⟨row', nb, e1, e1', e2⟩ := held_c (en := en) hh ihb.1 hd'
        have hd2 : (L.map kt).drop (p + h.length + 1 + b.length + 1) = c ++ kSg sShut :: l := by
          have := drop_len (b := h ++ kSg sOpen :: (b ++ [kSg sShut])) (l := c ++ kSg sShut :: l) (by simpa using hd)
          simpa [Nat.add_assoc, Nat.add_comm, Nat.add_left_comm] using this
        obtain ⟨new, e3, e4⟩ := ihc.1 _ _ n (acc ++ row' :: nb) hd2 (by simp at hn; omega)
        refine ⟨row' :: nb ++ new, ?_, by simp [e1, e1', e4, sh]; rfl⟩
        simp only [loopP, g1, Bool.false_eq_true, if_false, e2]
        rw [e3]
        simp; omega
    · cases n with
      | zero => simp at hn
      | succ n =>
        obtain ⟨_, g1⟩ := lead_c hh hd
        obtain ⟨row', nb, e1, e1', e2⟩ := held_c (en := en) hh ihb.1 hd
        have hd2 : (L.map kt).drop (p + h.length + 1 + b.length + 1) = c := by
          have := drop_len (b := h ++ kSg sOpen :: (b ++ [kSg sShut])) (l := c) (by simpa using hd)
          simpa [Nat.add_assoc, Nat.add_comm, Nat.add_left_comm] using this
        obtain ⟨new, e3, e4⟩ := ihc.2 hk _ n (acc ++ row' :: nb) hd2 (by simp at hn; omega)
        rw [hk] at e2
        refine ⟨row' :: nb ++ new, ?_, by simp [e1, e1', e4, sh]; rfl⟩
        simp only [topP, g1, if_true, e2]
        rw [e3]
        simp
end
end Go.Proofs.YthkkgbmjjpcfaaaDoor

/- The parser in plain Lean; contracts of the reader of package parse, up to its body. No condition. -/
import Derived.Test.YthkkgbmjjpcfaaaGp
import Derived.Test.YthkkgbmjjpcfaaaVa
namespace Go.Proofs.Ythkkgbmjjpcfaaa
open Go.Ab
/-! ### the parser, in plain Lean -/
structure Arg where
  name : ByteArray
  index : Int
structure Row where
  kind : ByteArray
  name : ByteArray
  args : List Arg
  num : Int
  rows : Int
  place : Int
abbrev Res (α : Type) := Except (Int × Int) α
abbrev sQubits : ByteArray := ⟨#[113, 117, 98, 105, 116, 115]⟩
abbrev sBits : ByteArray := ⟨#[98, 105, 116, 115]⟩
abbrev sGate : ByteArray := ⟨#[103, 97, 116, 101]⟩
abbrev sRepeat : ByteArray := ⟨#[114, 101, 112, 101, 97, 116]⟩
abbrev sIf : ByteArray := ⟨#[105, 102]⟩
abbrev sMeasure : ByteArray := ⟨#[109, 101, 97, 115, 117, 114, 101]⟩
abbrev sReset : ByteArray := ⟨#[114, 101, 115, 101, 116]⟩
abbrev sUse : ByteArray := ⟨#[117, 115, 101]⟩
abbrev sEmpty : ByteArray := ⟨#[]⟩
abbrev sSemi : ByteArray := ⟨#[59]⟩
abbrev sOpen : ByteArray := ⟨#[123]⟩
abbrev sShut : ByteArray := ⟨#[125]⟩
abbrev sIxO : ByteArray := ⟨#[91]⟩
abbrev sIxC : ByteArray := ⟨#[93]⟩
def ownB (s : ByteArray) : Bool := decide (s = sQubits) || decide (s = sBits) || decide (s = sGate) || decide (s = sRepeat) || decide (s = sIf) || decide (s = sMeasure) || decide (s = sReset)
section
variable (L : List Tok) (en : Int)
def nextP (p : Nat) (w : Bool) : Res Tok :=
  match L[p]? with
  | none => .error (en, 101)
  | some t => if w then .ok t else .error (t.at_, 100)
def isSignP (p : Nat) (s : ByteArray) : Bool := match L[p]? with | some t => t.kind == 3 && decide (t.text = s) | none => false
def plainP (p : Nat) : Bool := match L[p]? with | some t => t.kind == 1 && !ownB t.text | none => false
def isNumP (p : Nat) : Bool := match L[p]? with | some t => t.kind == 2 | none => false
def isNameP (p : Nat) : Bool := match L[p]? with | some t => t.kind == 1 | none => false
def nameP (p : Nat) : Res ByteArray := (nextP L en p (plainP L p)).map (·.text)
def signP (p : Nat) (s : ByteArray) : Res Tok := nextP L en p (isSignP L p s)
def valGo : List UInt8 → Int → Option Int
  | [], n => some n
  | c :: l, n => if n * 10 + ((c.toNat : Int) - 48) > 9007199254740991 then none else valGo l (n * 10 + ((c.toNat : Int) - 48))
def numberP (p : Nat) : Res Int :=
  match nextP L en p (isNumP L p) with
  | .error e => .error e
  | .ok t => match valGo t.text.data.toList 0 with
    | some n => .ok n
    | none => .error (t.at_, 1)
def argP (p : Nat) : Res (Arg × Nat) :=
  match nameP L en p with
  | .error e => .error e
  | .ok nm =>
    if isSignP L (p + 1) sIxO then
      match numberP L en (p + 2) with
      | .error e => .error e
      | .ok n => match signP L en (p + 3) sIxC with
        | .error e => .error e
        | .ok _ => .ok (⟨nm, n⟩, p + 4)
    else .ok (⟨nm, -1⟩, p + 1)
def namesP : Nat → Nat → List Arg → Res (List Arg × Nat)
  | 0, _, _ => .error (0, -1)
  | n + 1, p, acc => if plainP L p then
      match nameP L en p with
      | .error e => .error e
      | .ok nm => namesP n (p + 1) (acc ++ [⟨nm, -1⟩])
    else .ok (acc, p)
def argsP : Nat → Nat → List Arg → Res (List Arg × Nat)
  | 0, _, _ => .error (0, -1)
  | n + 1, p, acc => if plainP L p then
      match argP L en p with
      | .error e => .error e
      | .ok (a, p') => argsP n p' (acc ++ [a])
    else .ok (acc, p)
def loopP (step : Nat → Res (Nat × List Row)) : Nat → Nat → List Row → Res (Nat × List Row)
  | 0, _, _ => .error (0, -1)
  | n + 1, p, acc => if isSignP L p sShut then .ok (p, acc) else
      match step p with
      | .error e => .error e
      | .ok (p', new) => loopP step n p' (acc ++ new)
/-- A body of the depth 33 - k; the place behind it, its rows. -/
def bdP (k : Nat) (step : Nat → Res (Nat × List Row)) (p : Nat) : Res (Nat × List Row) :=
  match signP L en p sOpen with
  | .error e => .error e
  | .ok t => match k with
    | 0 => .error (t.at_, 102)
    | _ => match loopP L step (L.length + 1) (p + 1) [] with
      | .error e => .error e
      | .ok (p', rows) => .ok (p' + 1, rows)
/-- A line that ends with a semicolon at p. -/
def lineP (p : Nat) (row : Row) : Res (Nat × List Row) :=
  match signP L en p sSemi with
  | .error e => .error e
  | .ok _ => .ok (p + 1, [row])
/-- A line with a body at p. -/
def heldP (k : Nat) (step : Nat → Res (Nat × List Row)) (p : Nat) (row : Row) : Res (Nat × List Row) :=
  match bdP L en k step p with
  | .error e => .error e
  | .ok (p', rows) => .ok (p', { row with rows := rows.length } :: rows)
/-- A statement of the depth 32 - k. -/
def stmtP : Nat → Nat → Res (Nat × List Row)
  | k, p =>
    let step : Nat → Res (Nat × List Row) := match k with | 0 => fun _ => .error (0, -1) | k' + 1 => stmtP k'
    match nextP L en p (isNameP L p) with
    | .error e => .error e
    | .ok t =>
      if t.text = sQubits ∨ t.text = sBits then
        match nameP L en (p + 1) with
        | .error e => .error e
        | .ok nm => match numberP L en (p + 2) with
          | .error e => .error e
          | .ok n => lineP L en (p + 3) ⟨t.text, nm, [], n, 0, t.at_⟩
      else if t.text = sGate then
        match nameP L en (p + 1) with
        | .error e => .error e
        | .ok nm => match namesP L en (L.length + 1) (p + 2) [] with
          | .error e => .error e
          | .ok (l, p') => heldP L en k step p' ⟨t.text, nm, l, 0, 0, t.at_⟩
      else if t.text = sRepeat then
        match numberP L en (p + 1) with
        | .error e => .error e
        | .ok n => heldP L en k step (p + 2) ⟨t.text, sEmpty, [], n, 0, t.at_⟩
      else if t.text = sIf then
        match nameP L en (p + 1) with
        | .error e => .error e
        | .ok nm => match numberP L en (p + 2) with
          | .error e => .error e
          | .ok n => heldP L en k step (p + 3) ⟨t.text, nm, [], n, 0, t.at_⟩
      else if t.text = sMeasure then
        match argP L en (p + 1) with
        | .error e => .error e
        | .ok (a, p1) => match argP L en p1 with
          | .error e => .error e
          | .ok (b, p2) => lineP L en p2 ⟨t.text, sEmpty, [a, b], 0, 0, t.at_⟩
      else if t.text = sReset then
        match argP L en (p + 1) with
        | .error e => .error e
        | .ok (a, p1) => lineP L en p1 ⟨t.text, sEmpty, [a], 0, 0, t.at_⟩
      else
        match argsP L en (L.length + 1) (p + 1) [] with
        | .error e => .error e
        | .ok (l, p') => lineP L en p' ⟨sUse, t.text, l, 0, 0, t.at_⟩
def topP : Nat → Nat → List Row → Res (List Row)
  | 0, _, _ => .error (0, -1)
  | n + 1, p, acc => if p < L.length then
      match stmtP L en 32 p with
      | .error e => .error e
      | .ok (p', new) => topP n p' (acc ++ new)
    else .ok acc
end
end Go.Proofs.Ythkkgbmjjpcfaaa

namespace Go.Proofs.Ythkkgbmjjpcfaaa
open Go.Ab
/-! bounds of the parser -/
section
variable {L : List Tok} {en : Int}
def stepP (L : List Tok) (en : Int) (k : Nat) : Nat → Res (Nat × List Row) := match k with | 0 => fun _ => .error (0, -1) | k' + 1 => stmtP L en k'
/-- What follows a statement's first token. -/
def stmtB (L : List Tok) (en : Int) (k : Nat) (step : Nat → Res (Nat × List Row)) (p : Nat) (t : Tok) : Res (Nat × List Row) :=
  if t.text = sQubits ∨ t.text = sBits then
    match nameP L en (p + 1) with
    | .error e => .error e
    | .ok nm => match numberP L en (p + 2) with
      | .error e => .error e
      | .ok n => lineP L en (p + 3) ⟨t.text, nm, [], n, 0, t.at_⟩
  else if t.text = sGate then
    match nameP L en (p + 1) with
    | .error e => .error e
    | .ok nm => match namesP L en (L.length + 1) (p + 2) [] with
      | .error e => .error e
      | .ok (l, p') => heldP L en k step p' ⟨t.text, nm, l, 0, 0, t.at_⟩
  else if t.text = sRepeat then
    match numberP L en (p + 1) with
    | .error e => .error e
    | .ok n => heldP L en k step (p + 2) ⟨t.text, sEmpty, [], n, 0, t.at_⟩
  else if t.text = sIf then
    match nameP L en (p + 1) with
    | .error e => .error e
    | .ok nm => match numberP L en (p + 2) with
      | .error e => .error e
      | .ok n => heldP L en k step (p + 3) ⟨t.text, nm, [], n, 0, t.at_⟩
  else if t.text = sMeasure then
    match argP L en (p + 1) with
    | .error e => .error e
    | .ok (a, p1) => match argP L en p1 with
      | .error e => .error e
      | .ok (b, p2) => lineP L en p2 ⟨t.text, sEmpty, [a, b], 0, 0, t.at_⟩
  else if t.text = sReset then
    match argP L en (p + 1) with
    | .error e => .error e
    | .ok (a, p1) => lineP L en p1 ⟨t.text, sEmpty, [a], 0, 0, t.at_⟩
  else
    match argsP L en (L.length + 1) (p + 1) [] with
    | .error e => .error e
    | .ok (l, p') => lineP L en p' ⟨sUse, t.text, l, 0, 0, t.at_⟩
theorem stmtP_eq (k p : Nat) : stmtP L en k p = (match nextP L en p (isNameP L p) with | .error e => .error e | .ok t => stmtB L en k (stepP L en k) p t) := by
  cases k <;> rfl
theorem nextP_ok {p : Nat} {w : Bool} {t : Tok} (h : nextP L en p w = .ok t) : p < L.length ∧ L[p]? = some t ∧ w = true := by
  unfold nextP at h
  cases hg : L[p]? with
  | none => rw [hg] at h; cases h
  | some t' =>
    rw [hg] at h
    cases w
    · cases h
    · cases h; exact ⟨(List.getElem?_eq_some_iff.1 hg).1, rfl, rfl⟩
theorem nameP_ok {p : Nat} {s : ByteArray} (h : nameP L en p = .ok s) : p < L.length ∧ ∃ t, L[p]? = some t ∧ t.text = s ∧ plainP L p = true := by
  unfold nameP at h
  cases hn : nextP L en p (plainP L p) with
  | error e => rw [hn] at h; cases h
  | ok t =>
    rw [hn] at h; cases h
    have := nextP_ok hn
    exact ⟨this.1, t, this.2.1, rfl, this.2.2⟩
theorem signP_ok {p : Nat} {s : ByteArray} {t : Tok} (h : signP L en p s = .ok t) : p < L.length := (nextP_ok h).1
theorem numberP_ok {p : Nat} {n : Int} (h : numberP L en p = .ok n) : p < L.length := by
  unfold numberP at h
  cases hn : nextP L en p (isNumP L p) with
  | error e => rw [hn] at h; cases h
  | ok t => exact (nextP_ok hn).1
theorem argP_ok {p p' : Nat} {a : Arg} (h : argP L en p = .ok (a, p')) : p < p' ∧ p' ≤ L.length := by
  unfold argP at h
  cases hn : nameP L en p with
  | error e => rw [hn] at h; cases h
  | ok nm =>
    have h1 := (nameP_ok hn).1
    rw [hn] at h
    simp only at h
    split at h
    · cases hu : numberP L en (p + 2) with
      | error e => rw [hu] at h; cases h
      | ok n =>
        rw [hu] at h
        cases hs : signP L en (p + 3) sIxC with
        | error e => rw [hs] at h; cases h
        | ok t =>
          rw [hs] at h; cases h
          have := signP_ok hs
          omega
    · cases h; omega
theorem namesP_ok : ∀ (n p : Nat) (acc : List Arg) {l : List Arg} {p' : Nat}, p ≤ L.length → namesP L en n p acc = .ok (l, p') → p ≤ p' ∧ p' ≤ L.length ∧ l.length + p = acc.length + p'
  | 0, _, _, _, _, _, h => by simp [namesP] at h
  | n + 1, p, acc, l, p', hp, h => by
    simp only [namesP] at h
    split at h
    · cases hn : nameP L en p with
      | error e => rw [hn] at h; cases h
      | ok nm =>
        rw [hn] at h
        have h1 := (nameP_ok hn).1
        have := namesP_ok n (p + 1) _ (by omega) h
        simp at this; omega
    · cases h; omega
theorem argsP_ok : ∀ (n p : Nat) (acc : List Arg) {l : List Arg} {p' : Nat}, p ≤ L.length → argsP L en n p acc = .ok (l, p') → p ≤ p' ∧ p' ≤ L.length ∧ l.length + p ≤ acc.length + p'
  | 0, _, _, _, _, _, h => by simp [argsP] at h
  | n + 1, p, acc, l, p', hp, h => by
    simp only [argsP] at h
    split at h
    · cases hn : argP L en p with
      | error e => rw [hn] at h; cases h
      | ok x =>
        obtain ⟨a, p1⟩ := x
        rw [hn] at h
        have h1 := argP_ok hn
        have := argsP_ok n p1 _ (by omega) h
        simp at this; omega
    · cases h; omega
def StepB (L : List Tok) (step : Nat → Res (Nat × List Row)) : Prop := ∀ p p' new, step p = .ok (p', new) → p < p' ∧ p' ≤ L.length ∧ new.length + p ≤ p'
theorem loopP_ok {step : Nat → Res (Nat × List Row)} (hs : StepB L step) : ∀ (n p : Nat) (acc : List Row) {l : List Row} {p' : Nat}, loopP L step n p acc = .ok (p', l) → p ≤ p' ∧ p' < L.length ∧ l.length + p ≤ acc.length + p'
  | 0, _, _, _, _, h => by simp [loopP] at h
  | n + 1, p, acc, l, p', h => by
    simp only [loopP] at h
    split at h
    · rename_i hsg
      cases h
      unfold isSignP at hsg
      cases hg : L[p]? with
      | none => rw [hg] at hsg; cases hsg
      | some t =>
        have := (List.getElem?_eq_some_iff.1 hg).1
        omega
    · cases hn : step p with
      | error e => rw [hn] at h; cases h
      | ok x =>
        obtain ⟨p1, new⟩ := x
        rw [hn] at h
        have h1 := hs _ _ _ hn
        have := loopP_ok hs n p1 _ h
        simp at this; omega
theorem bdP_ok {k : Nat} {step : Nat → Res (Nat × List Row)} (hs : StepB L step) {p p' : Nat} {l : List Row} (h : bdP L en k step p = .ok (p', l)) : p < p' ∧ p' ≤ L.length ∧ l.length + p < p' := by
  unfold bdP at h
  cases hn : signP L en p sOpen with
  | error e => rw [hn] at h; cases h
  | ok t =>
    rw [hn] at h
    cases k with
    | zero => cases h
    | succ k =>
      simp only at h
      cases hl : loopP L step (L.length + 1) (p + 1) [] with
      | error e => rw [hl] at h; cases h
      | ok x =>
        obtain ⟨p1, rows⟩ := x
        rw [hl] at h
        cases h
        have := loopP_ok hs _ _ _ hl
        simp at this; omega
theorem lineP_ok {p p' : Nat} {row : Row} {l : List Row} (h : lineP L en p row = .ok (p', l)) : p' = p + 1 ∧ p' ≤ L.length ∧ l = [row] := by
  unfold lineP at h
  cases hn : signP L en p sSemi with
  | error e => rw [hn] at h; cases h
  | ok t => rw [hn] at h; cases h; have := signP_ok hn; exact ⟨rfl, by omega, rfl⟩
theorem heldP_ok {k : Nat} {step : Nat → Res (Nat × List Row)} (hs : StepB L step) {p p' : Nat} {row : Row} {l : List Row} (h : heldP L en k step p row = .ok (p', l)) : p < p' ∧ p' ≤ L.length ∧ l.length + p ≤ p' := by
  unfold heldP at h
  cases hn : bdP L en k step p with
  | error e => rw [hn] at h; cases h
  | ok x => obtain ⟨p1, rows⟩ := x; rw [hn] at h; cases h; have := bdP_ok hs hn; simp; omega
theorem stmtB_ok {k : Nat} {step : Nat → Res (Nat × List Row)} (hs : StepB L step) {p p' : Nat} {t : Tok} {l : List Row} (hp : p < L.length) (h : stmtB L en k step p t = .ok (p', l)) : p < p' ∧ p' ≤ L.length ∧ l.length + p ≤ p' := by
  unfold stmtB at h
  split at h
  · cases h1 : nameP L en (p + 1) with
    | error e => rw [h1] at h; cases h
    | ok nm =>
      rw [h1] at h; simp only at h
      cases h2 : numberP L en (p + 2) with
      | error e => rw [h2] at h; cases h
      | ok n => rw [h2] at h; obtain ⟨rfl, a, rfl⟩ := lineP_ok h; simp; omega
  split at h
  · cases h1 : nameP L en (p + 1) with
    | error e => rw [h1] at h; cases h
    | ok nm =>
      rw [h1] at h; simp only at h
      have := (nameP_ok h1).1
      cases h2 : namesP L en (L.length + 1) (p + 2) [] with
      | error e => rw [h2] at h; cases h
      | ok x => obtain ⟨l2, p2⟩ := x; rw [h2] at h; have a := namesP_ok _ _ _ (by omega) h2; have b := heldP_ok hs h; omega
  split at h
  · cases h1 : numberP L en (p + 1) with
    | error e => rw [h1] at h; cases h
    | ok n => rw [h1] at h; have b := heldP_ok hs h; omega
  split at h
  · cases h1 : nameP L en (p + 1) with
    | error e => rw [h1] at h; cases h
    | ok nm =>
      rw [h1] at h; simp only at h
      cases h2 : numberP L en (p + 2) with
      | error e => rw [h2] at h; cases h
      | ok n => rw [h2] at h; have b := heldP_ok hs h; omega
  split at h
  · cases h1 : argP L en (p + 1) with
    | error e => rw [h1] at h; cases h
    | ok x =>
      obtain ⟨a, p1⟩ := x
      rw [h1] at h; simp only at h
      have := argP_ok h1
      cases h2 : argP L en p1 with
      | error e => rw [h2] at h; cases h
      | ok y => obtain ⟨b, p2⟩ := y; rw [h2] at h; have := argP_ok h2; obtain ⟨rfl, a, rfl⟩ := lineP_ok h; simp; omega
  split at h
  · cases h1 : argP L en (p + 1) with
    | error e => rw [h1] at h; cases h
    | ok x =>
      obtain ⟨a, p1⟩ := x
      rw [h1] at h; simp only at h
      have := argP_ok h1
      obtain ⟨rfl, a, rfl⟩ := lineP_ok h; simp; omega
  · cases h1 : argsP L en (L.length + 1) (p + 1) [] with
    | error e => rw [h1] at h; cases h
    | ok x =>
      obtain ⟨l2, p2⟩ := x
      rw [h1] at h; simp only at h
      have := argsP_ok _ _ _ (by omega) h1
      obtain ⟨rfl, a, rfl⟩ := lineP_ok h; simp; omega
theorem stmtP_ok : ∀ (k : Nat), StepB L (stmtP L en k) := by
  have key : ∀ k, StepB L (stepP L en k) → StepB L (stmtP L en k) := by
    intro k hk p p' new h
    rw [stmtP_eq] at h
    cases h1 : nextP L en p (isNameP L p) with
    | error e => rw [h1] at h; cases h
    | ok t => rw [h1] at h; exact stmtB_ok hk (nextP_ok h1).1 h
  intro k
  induction k with
  | zero => exact key 0 (fun _ _ _ h => by simp [stepP] at h)
  | succ k ih => exact key (k + 1) ih
theorem stepP_ok (k : Nat) : StepB L (stepP L en k) := by
  cases k with
  | zero => exact fun _ _ _ h => by simp [stepP] at h
  | succ k => exact stmtP_ok k
end
end Go.Proofs.Ythkkgbmjjpcfaaa

namespace Go.Proofs.Ythkkgbmjjpcfaaa
open Go.Ab
abbrev oToks (l : List Tok) : AO := mkO (l.flatMap Tok.enc) 3 38
abbrev oRd (tk n : Nat) (p en : Int) (rv : AV) : AO := mkO [.sl tk 0 n, .sc (.int .i64 p), .sc (.int .i64 en), rv] 4 51
def faultV (e : Int × Int) : AV := .ifc 47 (.agg [.sc (.int .i64 e.1), .sc (.int .i64 e.2)])
def Outc {α : Type} (x : Res α) (K : α → Prop) (KP : Int × Int → Prop) : Prop := match x with | .ok a => K a | .error e => KP e
theorem ag38 : aggOf Try.prog 38 = some true := by kernel_rfl
theorem sz38 : szOf Try.prog 38 = some 3 := by kernel_rfl
section
variable {h : AH} {r tk : Nat} {L : List Tok} {en : Int} {rv : AV} {M : Nat → Prop} {R : AE → AH → Prop} {p : Nat}
theorem own_ok {s : ByteArray} (hR : R (.ret (.sc (.bool (ownB s)))) h) : ACalls Try.prog 44 [.sc (.string s)] h M R := by
  apply F44.calls
  unfold ownB at hR
  by_cases h1 : s = sQubits
  · simp [h1] at hR; simp [h1, hR]
  by_cases h2 : s = sBits
  · simp [h1, h2] at hR; simp [h1, h2, hR]
  by_cases h3 : s = sGate
  · simp [h1, h2, h3] at hR; simp [h1, h2, h3, hR]
  by_cases h4 : s = sRepeat
  · simp [h1, h2, h3, h4] at hR; simp [h1, h2, h3, h4, hR]
  by_cases h5 : s = sIf
  · simp [h1, h2, h3, h4, h5] at hR; simp [h1, h2, h3, h4, h5, hR]
  by_cases h6 : s = sMeasure
  · simp [h1, h2, h3, h4, h5, h6] at hR; simp [h1, h2, h3, h4, h5, h6, hR]
  by_cases h7 : s = sReset
  · simp [h1, h2, h3, h4, h5, h6, h7] at hR; simp [h1, h2, h3, h4, h5, h6, h7, hR]
  simp [h1, h2, h3, h4, h5, h6, h7] at hR; simp [h1, h2, h3, h4, h5, h6, h7, hR]
theorem peek_ok {sg : ByteArray} (hr : h.obj r = some (oRd tk L.length p en rv)) (ht : h.obj tk = some (oToks L)) (hR : R (.ret (.sc (.bool (isSignP L p sg)))) h) : ACalls Try.prog 43 [.ptr r 0, .sc (.string sg)] h M R := by
  apply F43.calls
  unfold isSignP at hR
  by_cases hlt : p < L.length
  · by_cases hk : L[p].kind = 3
    · simp [hlt, hk] at hR
      simp [hr, hlt, ht, flat_get0 Tok.enc_len, flat_get Tok.enc_len, Tok.enc, hk]
      exact hR
    · simp [hlt, hk] at hR
      have hk' : (L[p].kind == 3) = false := by simpa using hk
      rw [hk'] at hR
      simp [hr, hlt, ht, flat_get0 Tok.enc_len, flat_get Tok.enc_len, Tok.enc, hk]
      exact hR
  · simp [hlt] at hR
    simp [hr, hlt]
    exact hR
theorem plain_ok (hr : h.obj r = some (oRd tk L.length p en rv)) (ht : h.obj tk = some (oToks L)) (hR : R (.ret (.sc (.bool (plainP L p)))) h) : ACalls Try.prog 37 [.ptr r 0] h M R := by
  apply F37.calls
  unfold plainP at hR
  by_cases hlt : p < L.length
  · by_cases hk : L[p].kind = 1
    · simp [hlt, hk] at hR
      simp [hr, hlt, ht, flat_get0 Tok.enc_len, flat_get Tok.enc_len, Tok.enc, hk]
      refine ⟨fun _ => False, fun _ h => h.elim, own_ok ?_⟩
      simp
      exact hR
    · simp [hlt, hk] at hR
      have hk' : (L[p].kind == 1) = false := by simpa using hk
      rw [hk'] at hR
      simp [hr, hlt, ht, flat_get0 Tok.enc_len, flat_get Tok.enc_len, Tok.enc, hk]
      exact hR
  · simp [hlt] at hR
    simp [hr, hlt]
    exact hR
theorem next_ok {wt : Bool} (hM : M r) (hL : L.length ≤ 65536) (hr : h.obj r = some (oRd tk L.length p en rv)) (ht : h.obj tk = some (oToks L))
    (hR : Outc (nextP L en p wt) (fun t => ∀ h', Fr h h' (· = r) → h'.obj r = some (oRd tk L.length (p + 1 : Nat) en rv) → R (.ret (.agg t.enc)) h') (fun e => ∀ h', Fr h h' (· = r) → R (.pan (faultV e)) h')) :
    ACalls Try.prog 33 [.ptr r 0, .sc (.bool wt)] h M R := by
  have hrn := h.lt _ _ hr
  have htn := h.lt _ _ ht
  apply F33.calls
  unfold nextP Outc at hR
  by_cases hlt : p < L.length
  · have hg : L[p]? = some L[p] := List.getElem?_eq_getElem hlt
    have hge : ¬ (L.length : Int) ≤ p := by omega
    have hw : IntKind.i64.wrap ((p : Int) + 1) = (p : Int) + 1 := wrap_in (by omega) (by omega)
    cases wt
    · simp [hlt] at hR
      simp [hr, ht, hlt, hge, hw, hM, AH.alloc_obj, AH.alloc_next, AH.put_obj, AH.put_next, nel hrn, nel htn, flat_get0 Tok.enc_len, flat_get Tok.enc_len, ag38, sz38, flat_drop Tok.enc_len _ _ _ hg, Tok.enc, sum_const]
      refine ⟨by omega, ?_⟩
      exact hR _ (((Fr.refl.alloc _).alloc _).put (.inr (Nat.le_succ _)))
    · simp [hlt] at hR
      simp [hr, ht, hlt, hge, hw, hM, AH.alloc_obj, AH.alloc_next, AH.put_obj, AH.put_next, nel hrn, nel htn, flat_get0 Tok.enc_len, flat_get Tok.enc_len, ag38, sz38, flat_drop Tok.enc_len _ _ _ hg, Tok.enc, sum_const]
      refine ⟨by omega, ?_⟩
      refine hR _ ?_ ?_
      · (repeat' first | exact Fr.refl | refine Fr.alloc ?_ _ | refine Fr.put ?_ ?_) <;> first | exact .inl rfl | exact .inr (by omega)
      simp [AH.alloc_obj, AH.alloc_next, AH.put_obj, AH.put_next, nel hrn, hr]
  · simp [hlt] at hR
    have hge : L.length ≤ p := by omega
    simp [hr, hlt, hge, nel hrn, AH.alloc_obj]
    exact hR _ (Fr.refl.alloc _)
theorem sign_ok {sg : ByteArray} (hM : M r) (hL : L.length ≤ 65536) (hr : h.obj r = some (oRd tk L.length p en rv)) (ht : h.obj tk = some (oToks L))
    (hR : Outc (signP L en p sg) (fun t => ∀ h', Fr h h' (· = r) → h'.obj r = some (oRd tk L.length (p + 1 : Nat) en rv) → R (.ret (.agg t.enc)) h') (fun e => ∀ h', Fr h h' (· = r) → R (.pan (faultV e)) h')) :
    ACalls Try.prog 36 [.ptr r 0, .sc (.string sg)] h M R := by
  have hrn := h.lt _ _ hr
  have htn := h.lt _ _ ht
  apply F36.calls
  simp [ag38, sz38]
  have hr1 : (h.alloc (mkO [.sc (.int .i64 0), .sc (.string ⟨#[]⟩), .sc (.int .i64 0)] 3 38)).obj r = some (oRd tk L.length p en rv) := by rw [AH.alloc_old hrn]; exact hr
  have ht1 : (h.alloc (mkO [.sc (.int .i64 0), .sc (.string ⟨#[]⟩), .sc (.int .i64 0)] 3 38)).obj tk = some (oToks L) := by rw [AH.alloc_old htn]; exact ht
  refine ⟨fun _ => False, fun _ h => h.elim, peek_ok hr1 ht1 ?_⟩
  refine ⟨(· = r), fun _ h _ => h ▸ .inl hM, next_ok rfl hL hr1 ht1 ?_⟩
  show Outc (signP L en p sg) _ _
  have hf := (Fr.refl (h := h) (S := (· = r))).alloc (mkO [.sc (.int .i64 0), .sc (.string ⟨#[]⟩), .sc (.int .i64 0)] 3 38)
  cases hs : signP L en p sg with
  | error e =>
    rw [hs] at hR
    intro h' h1
    exact ⟨rfl, hR _ (hf.trans (h1.mono fun _ h => .inl h))⟩
  | ok t =>
    rw [hs] at hR
    intro h' h1 h2
    have h3 := h1.obj (AH.alloc_new _ _) (nel hrn).2.1
    have h4 := h1.next
    simp only [AH.alloc_next] at h4
    simp [h3, AH.put_obj, Tok.enc]
    refine hR _ ((hf.trans (h1.mono fun _ h => .inl h)).put (.inr (Nat.le_refl _))) ?_
    rw [AH.put_old (nel hrn).1]; exact h2
theorem name_ok (hM : M r) (hL : L.length ≤ 65536) (hr : h.obj r = some (oRd tk L.length p en rv)) (ht : h.obj tk = some (oToks L))
    (hR : Outc (nameP L en p) (fun s => ∀ h', Fr h h' (· = r) → h'.obj r = some (oRd tk L.length (p + 1 : Nat) en rv) → R (.ret (.sc (.string s))) h') (fun e => ∀ h', Fr h h' (· = r) → R (.pan (faultV e)) h')) :
    ACalls Try.prog 34 [.ptr r 0] h M R := by
  apply F34.calls
  simp
  refine ⟨fun _ => False, fun _ h => h.elim, plain_ok hr ht ?_⟩
  refine ⟨(· = r), fun _ h _ => h ▸ .inl hM, next_ok rfl hL hr ht ?_⟩
  unfold nameP at hR
  cases hs : nextP L en p (plainP L p) with
  | error e =>
    rw [hs] at hR
    intro h' h1
    exact ⟨rfl, hR _ h1⟩
  | ok t =>
    rw [hs] at hR
    intro h' h1 h2
    have := hR _ h1 h2
    simpa [pFdV, Tok.enc] using this
end
end Go.Proofs.Ythkkgbmjjpcfaaa

namespace Go.Ab
theorem Fr.setKind {h h1 : AH} {S : Nat → Prop} (a : Fr h h1 S) {id : Nat} {k : Kind} (hs : S id ∨ h.next ≤ id) : Fr h (h1.setKind id k) S :=
  ⟨a.next, fun i hi hn => by rw [AH.setKind_obj, if_neg (fun e => by subst e; exact hs.elim hn (fun h => by omega))]; exact a.keep i hi hn⟩
theorem Fr.setKind0 {h h1 : AH} (a : Fr h h1 fun _ => False) {id : Nat} {k : Kind} (hs : h.next ≤ id) : Fr h (h1.setKind id k) fun _ => False := a.setKind (.inr hs)
theorem decode_ascii (s : ByteArray) (i : Nat) (h : i < s.size) (hc : s[i].toNat < 128) : Utf8.decode s i = (s[i].toNat, 1) := by
  have hg : s.get! i = s[i] := by
    cases s with
    | mk d =>
      show d[i]! = d[i]'h
      exact getElem!_pos d i h
  unfold Utf8.decode
  simp only [Nat.add_zero, hg]
  rw [if_pos hc]
theorem obj_ne {h : AH} {i j : Nat} {a b : AO} (hi : h.obj i = some a) (hj : h.obj j = some b) (hne : a.ty ≠ b.ty) : i ≠ j := fun e => by subst e; rw [hi] at hj; exact hne (by rw [Option.some.inj hj])
end Go.Ab
namespace Go.Proofs.Ythkkgbmjjpcfaaa
open Go.Ab
def Digits (L : List Tok) : Prop := ∀ t ∈ L, t.kind = 2 → ∀ c ∈ t.text.data.toList, 48 ≤ c.toNat ∧ c.toNat ≤ 57
abbrev oTok0 : AO := mkO [.sc (.int .i64 0), .sc (.string ⟨#[]⟩), .sc (.int .i64 0)] 3 38
abbrev oTok (t : Tok) : AO := mkO [.sc (.int .i64 t.kind), .sc (.string t.text), .sc (.int .i64 t.at_)] 3 38
abbrev oIter (s : ByteArray) (i : Nat) : AO := { cells := [], sz := 0, ty := 0, kind := .iter s i }
theorem drop_at (s : ByteArray) (i : Nat) (h : i < s.size) : s.data.toList.drop i = s[i] :: s.data.toList.drop (i + 1) := by
  rw [List.drop_eq_getElem_cons (by simpa using h)]; rfl
section
variable {W : Nat → Prop} {Q : Post} {QP : PPost} {h : AH} {tm : Nat → AV} {tc : Nat} {t : Tok}
theorem F35_tail (hW : ∀ id, h.next ≤ id → W id) (hs : t.text.size ≤ 65536) (hd : ∀ c ∈ t.text.data.toList, 48 ≤ c.toNat ∧ c.toNat ≤ 57) (h3 : tm 3 = .ptr tc 0) (hc : h.obj tc = some (oTok t))
    (hQ : match valGo t.text.data.toList 0 with
      | some n => ∀ tm' h', tm' 2 = .sc (.int .i64 n) → Fr h h' (fun _ => False) → Q .ret ⟨tm', []⟩ h'
      | none => ∀ h', Fr h h' (fun _ => False) → QP [] (faultV (t.at_, 1)) h') : F35.k10 W Q QP ⟨tm, []⟩ h := by
  simp [-F35.k8, h3, hc, eRange]
  unfold F35.k8
  have hcn := h.lt _ _ hc
  refine aLoop_of (ι := Nat) (fun i s' h' => s'.ds = [] ∧ s'.tm 3 = .ptr tc 0 ∧ s'.tm 35 = .ptr h.next 0 ∧ i ≤ t.text.size ∧ h'.obj h.next = some (oIter t.text i) ∧ Fr h h' (fun _ => False) ∧
    ∃ n : Int, 0 ≤ n ∧ n ≤ 9007199254740991 ∧ s'.tm 4 = .sc (.int .i64 n) ∧ valGo (t.text.data.toList.drop i) n = valGo t.text.data.toList 0) (fun i => t.text.size - i) 0 ?_ ?_
  · refine ⟨rfl, by simp [h3], by simp, by omega, AH.alloc_new _ _, Fr.refl.alloc _, 0, by omega, by omega, by simp, rfl⟩
  rintro i ⟨tm', ds⟩ h' ⟨rfl, e3, e35, hi, hit, hf, n, hn0, hn1, e4, hv⟩
  simp only at e3 e35 e4
  rw [F35.l1]
  simp only [F35.k7, F35.t7, e35, eNext]
  refine ⟨_, t.text, i, ⟨hW _ (Nat.le_refl _), hit, rfl⟩, ?_⟩
  have hc' := hf.obj hc (fun h => h)
  by_cases hlt : i < t.text.size
  · rw [if_pos hlt]
    have hmem : t.text[i] ∈ t.text.data.toList := by
      have : t.text.data.toList.drop i = t.text[i] :: t.text.data.toList.drop (i + 1) := drop_at _ _ hlt
      exact List.mem_of_mem_drop (i := i) (by rw [this]; simp)
    obtain ⟨d0, d1⟩ := hd _ hmem
    rw [decode_ascii _ _ hlt (by omega)]
    rw [drop_at _ _ hlt] at hv
    simp only [valGo] at hv
    generalize t.text[i].toNat = c at *
    have w1 : IntKind.i64.wrap (n * 10) = n * 10 := wrap_in (by omega) (by omega)
    have w2 : IntKind.i32.wrap ((c : Int) - 48) = (c : Int) - 48 := IntWalk.i32_in _ (by omega)
    have w3 : IntKind.i64.wrap ((c : Int) - 48) = (c : Int) - 48 := wrap_in (by omega) (by omega)
    have w4 : IntKind.i64.wrap (n * 10 + ((c : Int) - 48)) = n * 10 + ((c : Int) - 48) := wrap_in (by omega) (by omega)
    by_cases hgt : n * 10 + ((c : Int) - 48) > 9007199254740991
    · rw [if_pos hgt] at hv
      rw [← hv] at hQ
      have hgt' : 9007199254740991 < n * 10 + ((c : Int) - 48) := hgt
      simp [e3, e4, w1, w2, w3, w4, hgt', AH.setKind_obj, nel hcn, hc']
      exact hQ _ (hf.setKind0 (Nat.le_refl _))
    · rw [if_neg hgt] at hv
      have hgt' : ¬ 9007199254740991 < n * 10 + ((c : Int) - 48) := hgt
      simp [e3, e4, e35, w1, w2, w3, w4, hgt']
      exact ⟨i + 1, by omega, by omega, by simp [AH.setKind_obj, hit], hf.setKind0 (Nat.le_refl _), n * 10 + ((c : Int) - 48), by omega, by omega, rfl, hv⟩
  · rw [if_neg hlt]
    have : t.text.data.toList.drop i = [] := List.drop_eq_nil_of_le (by simp; omega)
    rw [this] at hv
    simp only [valGo] at hv
    rw [← hv] at hQ
    simp [e4]
    exact hQ _ _ (by simp) hf
end
section
variable {h : AH} {r tk : Nat} {L : List Tok} {en : Int} {rv : AV} {M : Nat → Prop} {R : AE → AH → Prop} {p : Nat}
theorem number_ok (hM : M r) (hL : L.length ≤ 65536) (hD : Digits L) (hT : ∀ t ∈ L, t.text.size ≤ 65536) (hr : h.obj r = some (oRd tk L.length p en rv)) (ht : h.obj tk = some (oToks L))
    (hR : Outc (numberP L en p) (fun n => ∀ h', Fr h h' (· = r) → h'.obj r = some (oRd tk L.length (p + 1 : Nat) en rv) → R (.ret (.sc (.int .i64 n))) h') (fun e => ∀ h', Fr h h' (· = r) → R (.pan (faultV e)) h')) :
    ACalls Try.prog 35 [.ptr r 0] h M R := by
  have hrn := h.lt _ _ hr
  have htn := h.lt _ _ ht
  apply F35.calls
  unfold numberP at hR
  have tail : ∀ (t : Tok) (tm : Nat → AV) (tc : Nat) (h1 : AH), nextP L en p (isNumP L p) = .ok t → tm 3 = .ptr tc 0 → h1.obj tc = some (oTok t) → h.next ≤ tc → Fr h h1 (· = r) → h1.obj r = some (oRd tk L.length (p + 1 : Nat) en rv) → F35.k10 (fun id => M id ∨ h.next ≤ id) (Ab.bodyQ Try.prog [.tmp 2] R) (Ab.bodyP R) ⟨tm, []⟩ h1 := by
    intro t tm tc h1 hx h3 hc hcn hf hr1
    rw [hx] at hR
    have hmem : t ∈ L ∧ t.kind = 2 := by
      unfold nextP isNumP at hx
      cases hg : L[p]? with
      | none => rw [hg] at hx; cases hx
      | some t' =>
        rw [hg] at hx
        simp only at hx
        split at hx
        · cases hx; exact ⟨List.mem_of_getElem? hg, by simp_all⟩
        · cases hx
    refine F35_tail (t := t) (fun id hid => .inr (Nat.le_trans hf.next hid)) (hT _ hmem.1) (hD _ hmem.1 hmem.2) h3 hc ?_
    cases hv : valGo t.text.data.toList 0 with
    | none =>
      simp only [hv] at hR
      intro h' hf'
      simp
      exact hR _ (hf.trans (hf'.mono fun _ h => h.elim))
    | some n =>
      simp only [hv] at hR
      intro tm' h' e2 hf'
      simp [e2]
      exact hR _ (hf.trans (hf'.mono fun _ h => h.elim)) (hf'.obj hr1 (fun h => h))
  have he : ∀ e, nextP L en p (isNumP L p) = .error e → ∀ h', Fr h h' (· = r) → R (.pan (faultV e)) h' := by
    intro e hx; rw [hx] at hR; exact hR
  have A1 : ∀ (tmf : AV → AV → Nat → AV), (∀ a b, tmf a b 3 = b) → aCall Try.prog (fun id => M id ∨ h.next ≤ id) 33 [.ptr r 0, .sc (.bool (isNumP L p))] h (fun t44 h45 => eAlloc (some [.int .i64 0, .string ⟨#[]⟩, .int .i64 0]) 3 38 h45 fun t46 h47 =>
      eStore (some 3) t46 t44 h47 (fun id => M id ∨ h.next ≤ id) fun h48 => F35.k10 (fun id => M id ∨ h.next ≤ id) (Ab.bodyQ Try.prog [.tmp 2] R) (Ab.bodyP R) ⟨tmf t44 t46, []⟩ h48) (Ab.bodyP R []) := by
    intro tmf htm
    refine ⟨(· = r), fun _ h _ => h ▸ .inl hM, next_ok rfl hL hr ht ?_⟩
    cases hx : nextP L en p (isNumP L p) with
    | error e => intro h' h1; exact ⟨rfl, he e hx h' h1⟩
    | ok t =>
      intro h' h1 h2
      have h3 := h1.next
      have h4 := h'.lt _ _ h2
      simp [-F35.k10, Tok.enc, AH.alloc_obj, h3]
      refine tail t _ h'.next _ hx (by rw [htm]) (by simp [AH.put_obj, AH.alloc_obj]) h3 ((h1.alloc _).put (.inr h3)) (by simp [AH.put_obj, AH.alloc_obj, nel h4, h2])
  have A2 : ∀ (tmf : AV → AV → Nat → AV), (∀ a b, tmf a b 3 = b) → eAlloc (some [.int .i64 0, .string ⟨#[]⟩, .int .i64 0]) 3 38 h fun t49 h50 => aCall Try.prog (fun id => M id ∨ h.next ≤ id) 33 [.ptr r 0, .sc (.bool (isNumP L p))] h50 (fun t51 h52 =>
      eStore (some 3) t49 t51 h52 (fun id => M id ∨ h.next ≤ id) fun h53 => F35.k10 (fun id => M id ∨ h.next ≤ id) (Ab.bodyQ Try.prog [.tmp 2] R) (Ab.bodyP R) ⟨tmf t51 t49, []⟩ h53) (Ab.bodyP R []) := by
    intro tmf htm
    simp only [eAlloc_d]
    refine ⟨rfl, (· = r), fun _ h _ => h ▸ .inl hM, next_ok rfl hL (p := p) (L := L) (tk := tk) (en := en) (rv := rv) (by rw [AH.alloc_old hrn]; exact hr) (by rw [AH.alloc_old htn]; exact ht) ?_⟩
    have hf := (Fr.refl (h := h) (S := (· = r))).alloc (mkO ([.int .i64 0, .string ⟨#[]⟩, .int .i64 0].map .sc) 3 38)
    cases hx : nextP L en p (isNumP L p) with
    | error e => intro h' h1; exact ⟨rfl, he e hx h' (hf.trans (h1.mono fun _ h => .inl h))⟩
    | ok t =>
      intro h' h1 h2
      have h3 := h1.obj (AH.alloc_new _ _) (nel hrn).2.1
      have h4 := h1.next
      simp only [AH.alloc_next] at h4
      simp [-F35.k10, Tok.enc, h3]
      refine tail t _ h.next _ hx (by rw [htm]) (by simp [AH.put_obj, h3]) (Nat.le_refl _) ((hf.trans (h1.mono fun _ h => .inl h)).put (.inr (Nat.le_refl _))) (by simp [AH.put_obj, nel hrn, h2])
  by_cases hlt : p < L.length
  · by_cases hk : L[p].kind = 2
    · have hw : isNumP L p = true := by simp [isNumP, hlt, hk]
      simp only [hw] at A1 A2
      simp [-F35.k10, -eAlloc_d, -eStore_f, hr, ht, hlt, flat_get0 Tok.enc_len, flat_get Tok.enc_len, Tok.enc, hk]
      exact ⟨A1 _ (fun _ _ => by simp), A2 _ (fun _ _ => by simp)⟩
    · have hw : isNumP L p = false := by simp [isNumP, hlt, hk]
      have hkb : (L[p].kind == 2) = false := by simpa using hk
      simp only [hw] at A1 A2
      simp [-F35.k10, -eAlloc_d, -eStore_f, hr, ht, hlt, flat_get0 Tok.enc_len, flat_get Tok.enc_len, Tok.enc, hkb]
      exact ⟨A1 _ (fun _ _ => by simp), A2 _ (fun _ _ => by simp)⟩
  · have hw : isNumP L p = false := by simp [isNumP, hlt]
    simp only [hw] at A1 A2
    simp [-F35.k10, -eAlloc_d, -eStore_f, hr, hlt]
    exact ⟨A1 _ (fun _ _ => by simp), A2 _ (fun _ _ => by simp)⟩
end
end Go.Proofs.Ythkkgbmjjpcfaaa

namespace Go.Proofs.Ythkkgbmjjpcfaaa
open Go.Ab
def Arg.enc (a : Arg) : List AV := [.sc (.string a.name), .sc (.int .i64 a.index)]
theorem Arg.enc_len (a : Arg) : a.enc.length = 2 := rfl
theorem Arg.enc_one (a : Arg) : a.enc.all oneA = true := rfl
theorem ag53 : aggOf Try.prog 53 = some true := by kernel_rfl
theorem sz53 : szOf Try.prog 53 = some 2 := by kernel_rfl
abbrev oArg (a : Arg) : AO := mkO [.sc (.string a.name), .sc (.int .i64 a.index)] 2 53
section
variable {h : AH} {r tk : Nat} {L : List Tok} {en : Int} {rv : AV} {M : Nat → Prop} {R : AE → AH → Prop} {p : Nat}
theorem argument_ok (hM : M r) (hL : L.length ≤ 65536) (hp : p ≤ L.length) (hD : Digits L) (hT : ∀ t ∈ L, t.text.size ≤ 65536) (hr : h.obj r = some (oRd tk L.length p en rv)) (ht : h.obj tk = some (oToks L))
    (hR : Outc (argP L en p) (fun x => ∀ h', Fr h h' (· = r) → h'.obj r = some (oRd tk L.length x.2 en rv) → R (.ret (.agg x.1.enc)) h') (fun e => ∀ h', Fr h h' (· = r) → R (.pan (faultV e)) h')) :
    ACalls Try.prog 39 [.ptr r 0] h M R := by
  have hrn := h.lt _ _ hr
  have htn := h.lt _ _ ht
  apply F39.calls
  unfold argP at hR
  have hf0 := (Fr.refl (h := h) (S := (· = r))).alloc (mkO [.sc (.string ⟨#[]⟩), .sc (.int .i64 0)] 2 53)
  -- what stands at the end
  have tail : ∀ (tm : Nat → AV) (h1 : AH) (a : Nat) (x : Arg) (q : Nat), tm 2 = .ptr h.next 0 → tm 3 = .ptr a 0 → h1.obj a = some (oArg x) → (∃ c1 c2, h1.obj h.next = some (mkO [c1, c2] 2 53)) → Fr h h1 (· = r) → h1.obj r = some (oRd tk L.length q en rv) →
      (∀ h', Fr h h' (· = r) → h'.obj r = some (oRd tk L.length q en rv) → R (.ret (.agg x.enc)) h') → F39.k1 (fun id => M id ∨ h.next ≤ id) (Ab.bodyQ Try.prog [.cell 2 53] R) (Ab.bodyP R) ⟨tm, []⟩ h1 := by
    intro tm h1 a x q e2 e3 ha ⟨c1, c2, hq⟩ hf hr1 hR
    simp [e2, e3, ha, hq, ag53, sz53, AH.put_obj]
    exact hR _ (hf.put (.inr (Nat.le_refl _))) (by rw [AH.put_old (nel hrn).1]; exact hr1)
  simp only [F39.k8, F39.t8, F39.k7, F39.t7, eAlloc_d]
  refine ⟨rfl, ?_⟩
  simp only [List.map_cons, List.map_nil, puts, upd, s0]
  simp [-F39.k6]
  refine ⟨(· = r), fun _ h _ => h ▸ .inl hM, name_ok rfl hL (p := p) (L := L) (tk := tk) (en := en) (rv := rv) (by rw [AH.alloc_old hrn]; exact hr) (by rw [AH.alloc_old htn]; exact ht) ?_⟩
  cases hn : nameP L en p with
  | error e =>
    rw [hn] at hR
    intro h' h1
    exact ⟨rfl, hR _ (hf0.trans (h1.mono fun _ h => .inl h))⟩
  | ok nm =>
    rw [hn] at hR
    have hlt : p < L.length := by
      unfold nameP nextP at hn
      cases hg : L[p]? with
      | none => rw [hg] at hn; cases hn
      | some t => exact (List.getElem?_eq_some_iff.1 hg).1
    intro h1 f1 r1
    have f1' := hf0.trans (f1.mono fun _ h => .inl h)
    have q1 := f1.obj (AH.alloc_new _ _) (nel hrn).2.1
    have n1 := f1.next
    simp only [AH.alloc_next] at n1
    have t1 := f1'.obj ht (obj_ne ht hr (show (38 : Nat) ≠ 51 by decide))
    simp [-F39.k6, AH.alloc_obj]
    -- the state behind: the argument's cell
    have f2 := (f1'.alloc (mkO [.sc (.string ⟨#[]⟩), .sc (.int .i64 0)] 2 53)).put (id := h1.next) (off := 0) (cs := [.sc (.string nm), .sc (.int .i64 (-1))]) (.inr (by omega))
    have r2 : ((h1.alloc (mkO [.sc (.string ⟨#[]⟩), .sc (.int .i64 0)] 2 53)).put h1.next 0 [.sc (.string nm), .sc (.int .i64 (-1))]).obj r = some (oRd tk L.length (p + 1 : Nat) en rv) := by
      have := h1.lt _ _ r1
      simp [AH.put_obj, AH.alloc_obj, nel this, r1]
    have a2 : ((h1.alloc (mkO [.sc (.string ⟨#[]⟩), .sc (.int .i64 0)] 2 53)).put h1.next 0 [.sc (.string nm), .sc (.int .i64 (-1))]).obj h1.next = some (oArg ⟨nm, -1⟩) := by simp [AH.put_obj, AH.alloc_obj]
    have q2 : ((h1.alloc (mkO [.sc (.string ⟨#[]⟩), .sc (.int .i64 0)] 2 53)).put h1.next 0 [.sc (.string nm), .sc (.int .i64 (-1))]).obj h.next = some (mkO [.sc (.string ⟨#[]⟩), .sc (.int .i64 0)] 2 53) := by
      have : h.next < h1.next := by omega
      simp [AH.put_obj, AH.alloc_obj, nel this, q1]
    have t2 := f2.obj ht (obj_ne ht hr (show (38 : Nat) ≠ 51 by decide))
    have an : h.next < h1.next := by omega
    generalize (h1.alloc (mkO [.sc (.string ⟨#[]⟩), .sc (.int .i64 0)] 2 53)).put h1.next 0 [.sc (.string nm), .sc (.int .i64 (-1))] = h2 at *
    generalize h1.next = a at *
    have an2 := h2.lt _ _ a2
    refine ⟨.inr (by omega), ?_⟩
    simp only [F39.k6, F39.t6, puts, upd]
    simp [-F39.k5]
    refine ⟨fun _ => False, fun _ h => h.elim, peek_ok r2 t2 ?_⟩
    cases hsg : isSignP L (p + 1) sIxO with
    | false =>
      simp only [hsg, Bool.false_eq_true, if_false] at hR
      simp [-F39.k1]
      exact tail _ _ a ⟨nm, -1⟩ _ (by simp) (by simp) a2 ⟨_, _, q2⟩ f2 r2 hR
    | true =>
      simp only [hsg, if_true] at hR
      have hlt1 : p + 1 < L.length := by
        unfold isSignP at hsg
        cases hg : L[p + 1]? with
        | none => rw [hg] at hsg; cases hsg
        | some t => exact (List.getElem?_eq_some_iff.1 hg).1
      have hw : IntKind.i64.wrap ((p : Int) + 1 + 1) = ((p + 2 : Nat) : Int) := by rw [wrap_in (by omega) (by omega)]; omega
      simp [-F39.k3, r2, hM, hw]
      have f3 := f2.put (id := r) (off := 1) (cs := [.sc (.int .i64 ((p : Int) + 2))]) (.inl rfl)
      have r3 : (h2.put r 1 [.sc (.int .i64 ((p : Int) + 2))]).obj r = some (oRd tk L.length (p + 2 : Nat) en rv) := by simp [AH.put_obj, r2]
      have a3 : (h2.put r 1 [.sc (.int .i64 ((p : Int) + 2))]).obj a = some (oArg ⟨nm, -1⟩) := by rw [AH.put_old (by omega)]; exact a2
      have q3 : (h2.put r 1 [.sc (.int .i64 ((p : Int) + 2))]).obj h.next = some (mkO [.sc (.string ⟨#[]⟩), .sc (.int .i64 0)] 2 53) := by rw [AH.put_old (by omega)]; exact q2
      have t3 := f3.obj ht (obj_ne ht hr (show (38 : Nat) ≠ 51 by decide))
      generalize h2.put r 1 [.sc (.int .i64 ((p : Int) + 2))] = h3 at *
      have an3 := h3.lt _ _ a3
      simp only [F39.k3, F39.t3, puts, upd]
      simp [-F39.k2]
      refine ⟨(· = r), fun _ h _ => h ▸ .inl hM, number_ok rfl hL hD hT r3 t3 ?_⟩
      cases hnu : numberP L en (p + 2) with
      | error e =>
        rw [hnu] at hR
        intro h' h1
        exact ⟨rfl, hR _ (f3.trans (h1.mono fun _ h => .inl h))⟩
      | ok n =>
        rw [hnu] at hR
        intro h4 f4 r4
        have a4 := f4.obj a3 (by omega)
        have q4 := f4.obj q3 (by omega)
        have f4' := f3.trans (f4.mono fun _ h => .inl h)
        simp [-F39.k2, a4]
        have f5 := f4'.put (id := a) (off := 1) (cs := [.sc (.int .i64 n)]) (.inr (by omega))
        have r5 : (h4.put a 1 [.sc (.int .i64 n)]).obj r = some (oRd tk L.length (p + 3 : Nat) en rv) := by rw [AH.put_old (by omega)]; exact r4
        have a5 : (h4.put a 1 [.sc (.int .i64 n)]).obj a = some (oArg ⟨nm, n⟩) := by simp [AH.put_obj, a4]
        have q5 : (h4.put a 1 [.sc (.int .i64 n)]).obj h.next = some (mkO [.sc (.string ⟨#[]⟩), .sc (.int .i64 0)] 2 53) := by rw [AH.put_old (by omega)]; exact q4
        have t5 := f5.obj ht (obj_ne ht hr (show (38 : Nat) ≠ 51 by decide))
        have hsl : a < h4.next := h4.lt _ _ a4
        refine ⟨by omega, ?_⟩
        generalize h4.put a 1 [.sc (.int .i64 n)] = h5 at *
        simp only [F39.k2, F39.t2, puts, upd]
        simp [-F39.k1]
        refine ⟨(· = r), fun _ h _ => h ▸ .inl hM, sign_ok rfl hL r5 t5 ?_⟩
        cases hsi : signP L en (p + 3) sIxC with
        | error e =>
          rw [hsi] at hR
          intro h' h1
          exact ⟨rfl, hR _ (f5.trans (h1.mono fun _ h => .inl h))⟩
        | ok t =>
          rw [hsi] at hR
          intro h6 f6 r6
          simp [-F39.k1]
          exact tail _ _ a ⟨nm, n⟩ _ (by simp) (by simp) (f6.obj a5 (by omega)) ⟨_, _, f6.obj q5 (by omega)⟩ (f5.trans (f6.mono fun _ h => .inl h)) r6 hR
end
end Go.Proofs.Ythkkgbmjjpcfaaa

namespace Go.Ab
theorem SlL.of_fr {α : Type} {f : α → List AV} {sz : Nat} {ty : TypeId} {h h' : AH} {S : Nat → Prop} {x : AV} {l : List α} (hl : SlL f sz ty h x l) (hf : Fr h h' S) (hx : ∀ id, x = .sl id 0 l.length → ¬ S id) : SlL f sz ty h' x l := by
  rcases hl with hl | ⟨id, rfl, ho⟩
  · exact .inl hl
  · exact .inr ⟨id, rfl, hf.obj ho (hx id rfl)⟩
end Go.Ab
namespace Go.Proofs.Ythkkgbmjjpcfaaa
open Go.Ab
def encRA (x : Row × AV) : List AV := [.sc (.string x.1.kind), .sc (.string x.1.name), x.2, .sc (.int .i64 x.1.num), .sc (.int .i64 x.1.rows), .sc (.int .i64 x.1.place)]
theorem encRA_len (x : Row × AV) : (encRA x).length = 6 := rfl
theorem ag36 : aggOf Try.prog 36 = some true := by kernel_rfl
theorem sz36 : szOf Try.prog 36 = some 6 := by kernel_rfl
/-- The slice value x holds these rows. -/
def RowsAt (h : AH) (x : AV) (rows : List Row) : Prop := ∃ l : List (Row × AV), SlL encRA 6 36 h x l ∧ l.map (·.1) = rows ∧ ∀ y ∈ l, SlL Arg.enc 2 53 h y.2 y.1.args
theorem RowsAt.fr {h h' : AH} {S : Nat → Prop} {x : AV} {rows : List Row} (hr : RowsAt h x rows) (hf : Fr h h' S) (hx : ∀ id, x = .sl id 0 rows.length → ¬ S id) (ha : ∀ id o, h.obj id = some o → o.ty = 53 → ¬ S id) : RowsAt h' x rows := by
  obtain ⟨l, h1, h2, h3⟩ := hr
  refine ⟨l, h1.of_fr hf (fun id he => hx id (by rw [he, ← h2]; simp)), h2, fun y hy => ?_⟩
  rcases h3 y hy with h4 | ⟨id, h4, ho⟩
  · exact .inl h4
  · exact .inr ⟨id, h4, hf.obj ho (ha id _ ho rfl)⟩
theorem RowsAt.nil {h : AH} : RowsAt h nilS [] := ⟨[], .nil, rfl, by simp⟩
/-- The reader r: where it stands, what it has read. -/
structure RS (h : AH) (r tk : Nat) (L : List Tok) (en : Int) (p : Nat) (rv : AV) (rows : List Row) : Prop where
  r : h.obj r = some (oRd tk L.length p en rv)
  t : h.obj tk = some (oToks L)
  rows : RowsAt h rv rows
theorem RowsAt.id {h : AH} {x : AV} {rows : List Row} (hr : RowsAt h x rows) {id off n : Nat} (hx : x = .sl id off n) : off = 0 ∧ n = rows.length ∧ ∃ o, h.obj id = some o ∧ o.ty = 36 := by
  obtain ⟨l, h1, h2, h3⟩ := hr
  rcases h1 with ⟨h4, _⟩ | ⟨id', h4, ho⟩
  · rw [h4] at hx; cases hx
  · rw [h4] at hx; cases hx; exact ⟨rfl, by rw [← h2]; simp, _, ho, rfl⟩
theorem RS.step {h h' : AH} {r tk : Nat} {L : List Tok} {en : Int} {p p' : Nat} {rv : AV} {rows : List Row} (hs : RS h r tk L en p rv rows) (hf : Fr h h' (· = r)) (hr : h'.obj r = some (oRd tk L.length p' en rv)) : RS h' r tk L en p' rv rows := by
  refine ⟨hr, hf.obj hs.t (obj_ne hs.t hs.r (show (38 : Nat) ≠ 51 by decide)), hs.rows.fr hf (fun id he hid => ?_) (fun id o ho hty hid => ?_)⟩
  · obtain ⟨_, _, o, ho, hty⟩ := hs.rows.id he
    exact obj_ne ho hs.r (by rw [hty]; show (36 : Nat) ≠ 51; decide) hid
  · exact obj_ne ho hs.r (by rw [hty]; show (53 : Nat) ≠ 51; decide) hid
/-- Nothing of the reader's is touched. -/
theorem RS.still {h h' : AH} {r tk : Nat} {L : List Tok} {en : Int} {p : Nat} {rv : AV} {rows : List Row} (hs : RS h r tk L en p rv rows) {v : Nat} (hf : Fr h h' (· = v)) (hv : v ≠ r) (hrv : ∀ id, rv = .sl id 0 rows.length → id ≠ v) (hty : ∀ o, h.obj v = some o → o.ty ≠ 38 ∧ o.ty ≠ 53) : RS h' r tk L en p rv rows := by
  refine ⟨hf.obj hs.r (Ne.symm hv), hf.obj hs.t (fun e => (hty _ (e ▸ hs.t)).1 rfl), hs.rows.fr hf hrv (fun id o ho ht hid => ?_)⟩
  subst hid
  exact (hty _ ho).2 ht
def SS (r : Nat) (rv : AV) (id : Nat) : Prop := id = r ∨ ∃ n, rv = .sl id 0 n
theorem RS.hrv {h : AH} {r tk : Nat} {L : List Tok} {en : Int} {p : Nat} {rv : AV} {rows : List Row} (hs : RS h r tk L en p rv rows) : ∀ {id off n}, rv = .sl id off n → off = 0 ∧ n = rows.length ∧ id < h.next := by
  intro id off n he
  obtain ⟨a, b, o, ho, _⟩ := hs.rows.id he
  exact ⟨a, b, h.lt _ _ ho⟩
theorem RowsAt.len {h : AH} {x : AV} {rows : List Row} (hr : RowsAt h x rows) : (strArg x = false) ∧ ∀ K, pLen x K = K (.sc (.int .i64 rows.length)) := by
  obtain ⟨l, h1, h2, h3⟩ := hr
  have : rows.length = l.length := by rw [← h2]; simp
  rw [this]
  exact ⟨(h1.len (K := fun _ => True)).1, fun K => (h1.len (K := K)).2⟩
def StR (h : AH) (r tk : Nat) (L : List Tok) (en : Int) (rv : AV) (rows : List Row) (ret : Nat × List Row → AH → Prop) (pan : AV → AH → Prop) (res : Res (Nat × List Row)) : Prop :=
  Outc res (fun x => ∀ h' rv', RS h' r tk L en x.1 rv' (rows ++ x.2) → Fr h h' (SS r rv) → InS (fun id => SS r rv id ∨ h.next ≤ id) rv' → ret x h') (fun e => ∀ h', Fr h h' (SS r rv) → pan (faultV e) h')
structure LOK (L : List Tok) : Prop where
  len : L.length ≤ 65536
  dig : Digits L
  txt : ∀ t ∈ L, t.text.size ≤ 65536
def StmtOK (L : List Tok) (en : Int) (k : Nat) : Prop := ∀ {h : AH} {r tk : Nat} {rv : AV} {rows : List Row} {M : Nat → Prop} {R : AE → AH → Prop} {p : Nat} {d : Int}, d = 32 - (k : Int) → (∀ id, SS r rv id → M id) → RS h r tk L en p rv rows → p ≤ L.length → rows.length ≤ p →
  StR h r tk L en rv rows (fun _ h' => R (.ret (.tup [])) h') (fun v h' => R (.pan v) h') (stmtP L en k p) → ACalls Try.prog 14 [.ptr r 0, .sc (.int .i64 d)] h M R
def BodyOK (L : List Tok) (en : Int) (k : Nat) : Prop := ∀ {h : AH} {r tk : Nat} {rv : AV} {rows : List Row} {M : Nat → Prop} {R : AE → AH → Prop} {p : Nat} {d : Int}, d = 33 - (k : Int) → (∀ id, SS r rv id → M id) → RS h r tk L en p rv rows → p ≤ L.length → rows.length ≤ p →
  StR h r tk L en rv rows (fun x h' => R (.ret (.sc (.int .i64 x.2.length))) h') (fun v h' => R (.pan v) h') (bdP L en k (stepP L en k) p) → ACalls Try.prog 38 [.ptr r 0, .sc (.int .i64 d)] h M R
theorem fr_trans_rv {h h1 h2 : AH} {r : Nat} {rv rv1 : AV} (a : Fr h h1 (SS r rv)) (hi : InS (fun id => SS r rv id ∨ h.next ≤ id) rv1) (b : Fr h1 h2 (SS r rv1)) : Fr h h2 (SS r rv) :=
  a.trans (b.mono fun id hs => by
    rcases hs with hs | ⟨n, hn⟩
    · exact .inl (.inl hs)
    · exact hi id 0 n hn)
theorem ins_trans_rv {h h1 : AH} {r : Nat} {rv rv1 rv2 : AV} (hn : h.next ≤ h1.next) (hi : InS (fun id => SS r rv id ∨ h.next ≤ id) rv1) (hi2 : InS (fun id => SS r rv1 id ∨ h1.next ≤ id) rv2) (h2 : ∀ {id off n}, rv1 = .sl id off n → off = 0) : InS (fun id => SS r rv id ∨ h.next ≤ id) rv2 := by
  intro id off n he
  rcases hi2 id off n he with (h3 | ⟨m, h3⟩) | h3
  · exact .inl (.inl h3)
  · exact hi id 0 m h3
  · exact .inr (Nat.le_trans hn h3)
section
variable {L : List Tok} {en : Int}
theorem body_of {k : Nat} (hL : LOK L) (hs : ∀ k', k = k' + 1 → StmtOK L en k') : BodyOK L en k := by
  intro h r tk rv rows M R p d hd hM hrs hp hrp hR
  have hrn := h.lt _ _ hrs.r
  have htn := h.lt _ _ hrs.t
  have hMr := hM r (.inl rfl)
  have hL0 := hL.len
  apply F38.calls
  unfold bdP at hR
  simp only [F38.k11, F38.t11, F38.k10, F38.t10]
  simp [-F38.k9]
  refine ⟨(· = r), fun _ h _ => h ▸ .inl hMr, sign_ok rfl hL.len hrs.r hrs.t ?_⟩
  cases hsi : signP L en p sOpen with
  | error e =>
    rw [hsi] at hR
    intro h' h1
    exact ⟨rfl, hR _ (h1.mono fun _ h => .inl h)⟩
  | ok t =>
    rw [hsi] at hR
    have hlt := signP_ok hsi
    intro h1 f1 r1
    have rs1 := hrs.step f1 r1
    have n1 := f1.next
    simp [-F38.k9, Tok.enc, AH.alloc_obj]
    refine ⟨.inr n1, ?_⟩
    have f2 := (((Fr.refl (h := h1) (S := (· = h1.next))).alloc (mkO [.sc (.int .i64 0), .sc (.string ⟨#[]⟩), .sc (.int .i64 0)] 3 38))).put (id := h1.next) (off := 0) (cs := [.sc (.int .i64 t.kind), .sc (.string t.text), .sc (.int .i64 t.at_)]) (.inl rfl)
    have c2 : ((h1.alloc (mkO [.sc (.int .i64 0), .sc (.string ⟨#[]⟩), .sc (.int .i64 0)] 3 38)).put h1.next 0 [.sc (.int .i64 t.kind), .sc (.string t.text), .sc (.int .i64 t.at_)]).obj h1.next = some (oTok t) := by simp [AH.put_obj, AH.alloc_obj]
    have none1 : ∀ o, h1.obj h1.next = some o → False := fun o ho => by have := h1.lt _ _ ho; omega
    have rs2 := rs1.still f2 (nel (h1.lt _ _ r1)).2.1 (fun id he => by have := rs1.hrv he; omega) (fun o ho => (none1 o ho).elim)
    have f2' : Fr h _ (SS r rv) := (f1.mono fun _ h => .inl h).trans (f2.mono fun id (hid : id = h1.next) => .inr (by omega))
    generalize (h1.alloc (mkO [.sc (.int .i64 0), .sc (.string ⟨#[]⟩), .sc (.int .i64 0)] 3 38)).put h1.next 0 [.sc (.int .i64 t.kind), .sc (.string t.text), .sc (.int .i64 t.at_)] = h2 at *
    simp only [F38.k9, F38.t9, puts, upd]
    cases k with
    | zero =>
      have hd' : (32 : Int) < d := by omega
      simp [-F38.k7, hd', c2]
      exact hR _ f2'
    | succ k =>
      have hd' : ¬ (32 : Int) < d := by omega
      simp only at hR
      simp [-F38.k6, hd', rs2.r, rs2.rows.len.1, rs2.rows.len.2]
      unfold F38.k6
      have hstep : stepP L en (k + 1) = stmtP L en k := rfl
      rw [hstep] at hR
      generalize hX : loopP L (stmtP L en k) (L.length + 1) (p + 1) [] = X at hR
      refine aLoop_of (ι := Nat × Nat × List Row) (fun x s' h' => s'.ds = [] ∧ s'.tm 0 = .ptr r 0 ∧ s'.tm 1 = .sc (.int .i64 d) ∧ s'.tm 6 = .sc (.int .i64 rows.length) ∧ x.2.1 ≤ L.length ∧ L.length < x.2.1 + x.1 ∧ (rows ++ x.2.2).length ≤ x.2.1 ∧
        loopP L (stmtP L en k) x.1 x.2.1 x.2.2 = X ∧
        ∃ rv', RS h' r tk L en x.2.1 rv' (rows ++ x.2.2) ∧ Fr h h' (SS r rv) ∧ InS (fun id => SS r rv id ∨ h.next ≤ id) rv') (fun x => x.1) (L.length + 1, p + 1, []) ?_ ?_
      · refine ⟨rfl, by simp, by simp, by simp, by simp; omega, by simp; omega, by simp; omega, hX, rv, by simpa using rs2, f2', fun id off n he => ?_⟩
        obtain ⟨rfl, _, _⟩ := hrs.hrv he
        exact .inl (.inr ⟨n, he⟩)
      rintro ⟨n, q, acc⟩ ⟨tm, ds⟩ h' ⟨rfl, e0, e1, e6, hq, hqn, hlen, hlp, rv', rs', fr', in'⟩
      simp only at e0 e1 e6 hq hqn hlen hlp rs'
      rw [F38.l1]
      cases n with
      | zero => omega
      | succ n =>
        simp only [loopP] at hlp
        simp only [F38.k5, F38.t5, e0]
        refine ⟨fun _ => False, fun _ h => h.elim, peek_ok rs'.r rs'.t ?_⟩
        cases hsg : isSignP L q sShut with
        | true =>
          simp only [hsg, if_true] at hlp
          rw [← hlp] at hR
          have hw : IntKind.i64.wrap ((q : Int) + 1) = (q : Int) + 1 := wrap_in (by omega) (by omega)
          have hlen2 := hlen
          rw [List.length_append] at hlen2
          have hwl : IntKind.i64.wrap (((rows ++ acc).length : Int) - rows.length) = acc.length := by rw [List.length_append, wrap_in (by omega) (by omega)]; omega
          have f3 := (Fr.refl (h := h') (S := (· = r))).put (id := r) (off := 1) (cs := [.sc (.int .i64 ((q : Int) + 1))]) (.inl rfl)
          have rs3 := rs'.step (p' := q + 1) f3 (by simp [AH.put_obj, rs'.r])
          have fr3 := fr_trans_rv fr' in' (f3.mono fun _ h => .inl h)
          simp [-F38.k1, e0, rs'.r, hMr, hw]
          generalize h'.put r 1 [.sc (.int .i64 ((q : Int) + 1))] = h3 at *
          simp only [List.length_append, Int.natCast_add] at hwl
          simp [e6, e0, rs3.r, rs3.rows.len.1, rs3.rows.len.2, hwl]
          exact hR _ _ rs3 fr3 in'
        | false =>
          simp only [hsg, Bool.false_eq_true, if_false] at hlp
          simp only [pUn_not, F38.k4, F38.t4, F38.k3, F38.t3, puts, upd, Bool.not_false, if_true, aIf_b]
          simp only [Nat.reduceEqDiff, if_false, if_true, e0, e1, Bool.true_eq_false, false_implies, and_true, true_implies]
          refine ⟨SS r rv', fun id hid _ => ?_, hs k rfl (rv := rv') (rows := rows ++ acc) (p := q) (by omega) (fun _ h => h) rs' hq hlen ?_⟩
          · rcases hid with hid | ⟨m, hid⟩
            · exact hid ▸ .inl hMr
            · rcases in' id 0 m hid with h4 | h4
              · exact .inl (hM _ h4)
              · exact .inr h4
          cases hst : stmtP L en k q with
          | error e =>
            rw [hst] at hlp
            rw [← hlp] at hR
            intro h4 f4
            exact ⟨rfl, hR _ (fr_trans_rv fr' in' f4)⟩
          | ok x =>
            obtain ⟨q2, new⟩ := x
            rw [hst] at hlp
            simp only at hlp
            obtain ⟨b1, b2, b3⟩ := stmtP_ok k q q2 new hst
            intro h4 rv4 rs4 f4 in4
            simp only [thenQ]
            refine ⟨(n, q2, acc ++ new), by simp, trivial, by simp [e0], by simp [e1], by simp [e6], b2, by simp; omega, by simp at hlen ⊢; omega, hlp, rv4, by simpa using rs4, fr_trans_rv fr' in' f4, ins_trans_rv fr'.next in' in4 (fun he => (rs'.hrv he).1)⟩
end
end Go.Proofs.Ythkkgbmjjpcfaaa

namespace Go.Ab
theorem putCells_app (A : List AV) : ∀ (cs B : List AV) (o : Nat), putCells (A ++ B) (A.length + o) cs = A ++ putCells B o cs
  | [], B, o => rfl
  | c :: cs, B, o => by
    simp only [putCells]
    rw [List.set_append_right _ _ (by omega), Nat.add_sub_cancel_left, Nat.add_assoc, putCells_app A cs (B.set o c) (o + 1)]
theorem putCells_0 : ∀ (cs X Y : List AV), cs.length = X.length → putCells (X ++ Y) 0 cs = cs ++ Y
  | [], X, Y, h => by have : X = [] := List.length_eq_zero_iff.1 (by simpa using h.symm); subst this; rfl
  | c :: cs, [], Y, h => by simp at h
  | c :: cs, x :: X, Y, h => by
    have h' : cs.length = X.length := by simpa using h
    have := putCells_app [c] cs (X ++ Y) 0
    simp only [putCells, List.cons_append, List.set_cons_zero, List.singleton_append, List.nil_append, List.length_singleton, Nat.add_zero, Nat.zero_add] at this ⊢
    rw [this, putCells_0 cs X Y h']
theorem putCells_flat {α : Type} {f : α → List AV} {k : Nat} (hf : ∀ x, (f x).length = k) (A B : List α) (x y : α) : putCells ((A ++ x :: B).flatMap f) (A.length * k) (f y) = (A ++ y :: B).flatMap f := by
  simp only [List.flatMap_append, List.flatMap_cons]
  have h1 := putCells_app (A.flatMap f) (f y) (f x ++ B.flatMap f) 0
  rw [flat_len hf, Nat.add_zero] at h1
  rw [h1, putCells_0 _ _ _ (by rw [hf, hf])]
theorem app2 {α : Type} {f : α → List AV} {sz bytes : Nat} {ty : TypeId} {z : List Value} (hf : ∀ x, (f x).length = sz) (hsz : 0 < sz) (hz : z.length = sz + sz) (h1 : ∀ x, (f x).all oneA = true) (hb : bytes ≤ 1024)
    {h : AH} {s t : α} {W : Nat → Prop} {K : AV → AH → Prop}
    (hK : ∀ y h', SlL f sz ty h' y [s, t] → InS (h.next ≤ ·) y → Fr h h' (fun _ => False) → K y h') :
    eBSl (some (sz, ty, z)) 2 [(0, .agg (f s)), (1, .agg (f t))] h (fun v h4 => eApp (some (sz, bytes, ty)) nilS v h4 W K) := by
  have e1 : putCells (z.map AV.sc) 0 (f s) = f s ++ (z.map AV.sc).drop sz := by
    conv => lhs; rw [← List.take_append_drop sz (z.map AV.sc)]
    rw [putCells_0 _ _ _ (by rw [hf]; simp; omega)]
  have e2 : putCells (f s ++ (z.map AV.sc).drop sz) sz (f t) = f s ++ f t := by
    have := putCells_app (f s) (f t) ((z.map AV.sc).drop sz) 0
    rw [hf, Nat.add_zero] at this
    rw [this]
    have := putCells_0 (f t) ((z.map AV.sc).drop sz) [] (by rw [hf]; simp; omega)
    rw [List.append_nil, List.append_nil] at this
    rw [this]
  have hfill : aFill (fun i => some (i * sz, sz)) (z.map .sc) [(0, .agg (f s)), (1, .agg (f t))] = some (f s ++ f t) := by
    simp only [aFill, avC_agg, Nat.zero_mul, Nat.one_mul, Nat.zero_add, hf, true_and]
    rw [if_pos (by simp; omega), e1, if_pos (by simp [hf]; omega), e2]
  refine ⟨_, ⟨hfill, by simp only [List.all_append, h1, Bool.and_self]⟩, 2, f s ++ f t, ⟨rfl, _, AH.alloc_new _ _, rfl, by simp [hf]; omega, ?_⟩, ?_⟩
  · rw [List.drop_zero, List.take_of_length_le (by simp [hf]; omega)]
  · show if 2 = 0 then _ else _
    rw [if_neg (by omega)]
    refine ⟨⟨by omega, by omega⟩, ?_⟩
    refine hK _ _ (.inr ⟨_, rfl, ?_⟩) ?_ ((Fr.refl.alloc _).alloc _)
    · rw [AH.alloc_new]; simp [mkO]
    · intro i off n he; cases he; simp only [AH.alloc_next]; omega
end Go.Ab
namespace Go.Proofs.Ythkkgbmjjpcfaaa
open Go.Ab
/-- A statement under way: its row's variable v; the rows slice is of its own. -/
structure SI (h0 h : AH) (r tk : Nat) (L : List Tok) (en : Int) (rv0 : AV) (rows0 : List Row) (v p : Nat) (rv : AV) (d0 : Row) (inner : List Row) (cells : List AV) : Prop where
  fr : Fr h0 h (SS r rv0)
  rs : RS h r tk L en p rv (rows0 ++ d0 :: inner)
  ins : InS (fun id => h0.next ≤ id ∧ id ≠ v) rv
  vo : h.obj v = some (mkO cells 6 36)
  vn : h0.next ≤ v
  rn : r < h0.next
section
variable {h0 h h' : AH} {r tk : Nat} {L : List Tok} {en : Int} {rv0 : AV} {rows0 : List Row} {v p : Nat} {rv : AV} {d0 : Row} {inner : List Row} {cells : List AV}
theorem SI.vr (s : SI h0 h r tk L en rv0 rows0 v p rv d0 inner cells) : v ≠ r := by have := s.vn; have := s.rn; omega
theorem SI.call (s : SI h0 h r tk L en rv0 rows0 v p rv d0 inner cells) {p' : Nat} (hf : Fr h h' (· = r)) (hr : h'.obj r = some (oRd tk L.length p' en rv)) : SI h0 h' r tk L en rv0 rows0 v p' rv d0 inner cells :=
  ⟨s.fr.trans (hf.mono fun _ h => .inl (.inl h)), s.rs.step hf hr, s.ins, hf.obj s.vo s.vr, s.vn, s.rn⟩
theorem SI.quiet (s : SI h0 h r tk L en rv0 rows0 v p rv d0 inner cells) (hf : Fr h h' (fun _ => False)) : SI h0 h' r tk L en rv0 rows0 v p rv d0 inner cells :=
  s.call (hf.mono fun _ h => h.elim) (hf.obj s.rs.r fun h => h)
theorem SI.set (s : SI h0 h r tk L en rv0 rows0 v p rv d0 inner cells) (off : Nat) (cs : List AV) : SI h0 (h.put v off cs) r tk L en rv0 rows0 v p rv d0 inner (putCells cells off cs) := by
  have f : Fr h (h.put v off cs) (· = v) := Fr.refl.put (.inl rfl)
  refine ⟨s.fr.trans (f.mono fun id (hid : id = v) => .inr (hid ▸ s.vn)), s.rs.still f s.vr (fun id he => (s.ins id 0 _ he).2) ?_, s.ins, put_row s.vo, s.vn, s.rn⟩
  intro o ho
  rw [s.vo] at ho; cases ho
  exact ⟨show (36 : Nat) ≠ 38 by decide, show (36 : Nat) ≠ 53 by decide⟩
theorem SI.body (s : SI h0 h r tk L en rv0 rows0 v p rv d0 inner cells) {p' : Nat} {rv' : AV} {new : List Row} (hrs : RS h' r tk L en p' rv' ((rows0 ++ d0 :: inner) ++ new)) (hf : Fr h h' (SS r rv)) (hi : InS (fun id => SS r rv id ∨ h.next ≤ id) rv') :
    SI h0 h' r tk L en rv0 rows0 v p' rv' d0 (inner ++ new) cells := by
  have hv : ¬ SS r rv v := by
    rintro (h1 | ⟨n, h1⟩)
    · exact s.vr h1
    · exact (s.ins v 0 n h1).2 rfl
  have hvn := h.lt _ _ s.vo
  refine ⟨s.fr.trans (hf.mono fun id hid => ?_), by simpa using hrs, fun id off n he => ?_, hf.obj s.vo hv, s.vn, s.rn⟩
  · rcases hid with h1 | ⟨n, h1⟩
    · exact .inl (.inl h1)
    · exact .inr (s.ins id 0 n h1).1
  · have h0 := (hrs.hrv he).1
    rcases hi id off n he with (h1 | ⟨m, h1⟩) | h1
    · obtain ⟨_, _, o, ho, hty⟩ := hrs.rows.id he
      exact (obj_ne ho hrs.r (by rw [hty]; show (36 : Nat) ≠ 51; decide) h1).elim
    · exact s.ins id 0 m h1
    · exact ⟨Nat.le_trans s.vn (by omega), by omega⟩
/-- The row's arguments outlive what others do. -/
theorem args_keep {a : AV} {l : List Arg} (ha : SlL Arg.enc 2 53 h a l) {S : Nat → Prop} (hf : Fr h h' S) (hS : ∀ id o, h.obj id = some o → o.ty = 53 → ¬ S id) : SlL Arg.enc 2 53 h' a l := by
  rcases ha with h1 | ⟨id, h1, ho⟩
  · exact .inl h1
  · exact .inr ⟨id, h1, hf.obj ho (hS id _ ho rfl)⟩
theorem SI.a_call (s : SI h0 h r tk L en rv0 rows0 v p rv d0 inner cells) : ∀ id o, h.obj id = some o → o.ty = 53 → ¬ id = r := fun id o ho ht => obj_ne ho s.rs.r (by rw [ht]; show (53 : Nat) ≠ 51; decide)
theorem SI.a_set (s : SI h0 h r tk L en rv0 rows0 v p rv d0 inner cells) : ∀ id o, h.obj id = some o → o.ty = 53 → ¬ id = v := fun id o ho ht => obj_ne ho s.vo (by rw [ht]; show (53 : Nat) ≠ 36; decide)
theorem SI.a_body (s : SI h0 h r tk L en rv0 rows0 v p rv d0 inner cells) : ∀ id o, h.obj id = some o → o.ty = 53 → ¬ SS r rv id := by
  rintro id o ho ht (h1 | ⟨n, h1⟩)
  · exact s.a_call id o ho ht h1
  · obtain ⟨_, _, o', ho', hty⟩ := s.rs.rows.id h1
    exact obj_ne ho ho' (by rw [ht, hty]; show (53 : Nat) ≠ 36; decide) rfl
end
section
variable {h0 h : AH} {r tk : Nat} {L : List Tok} {en : Int} {rv0 : AV} {rows0 : List Row} {v p : Nat} {rv : AV} {d0 : Row} {inner : List Row} {M : Nat → Prop} {R : AE → AH → Prop} {tm : Nat → AV} {a : AV} {row : Row}
def Fin (h0 : AH) (r tk : Nat) (L : List Tok) (en : Int) (rv0 : AV) (rows0 : List Row) (R : AE → AH → Prop) (res : Res (Nat × List Row)) : Prop := StR h0 r tk L en rv0 rows0 (fun _ h' => R (.ret (.tup [])) h') (fun v h' => R (.pan v) h') res
theorem F14_end (s : SI h0 h r tk L en rv0 rows0 v p rv d0 inner (encRA (row, a))) (ha : SlL Arg.enc 2 53 h a row.args) (e0 : tm 0 = .ptr r 0) (e5 : tm 5 = .ptr v 0) (e6 : tm 6 = .sc (.int .i64 rows0.length))
    (hR : Fin h0 r tk L en rv0 rows0 R (.ok (p, row :: inner))) : F14.k1 (fun id => M id ∨ h0.next ≤ id) (Ab.bodyQ Try.prog [] R) (Ab.bodyP R) ⟨tm, []⟩ h := by
  obtain ⟨l, h1, h2, h3⟩ := s.rs.rows
  rcases h1 with ⟨_, h1⟩ | ⟨id, hid, ho⟩
  · subst h1; simp at h2
  obtain ⟨A, l2, rfl, hA, hl2⟩ := List.map_eq_append_iff.1 h2
  obtain ⟨x, B, rfl, hx, hB⟩ := List.map_eq_cons_iff.1 hl2
  have hAl : A.length = rows0.length := by rw [← hA]; simp
  obtain ⟨i1, i2⟩ := s.ins id 0 _ hid
  have hidr : id ≠ r := by have := s.rn; omega
  have hput := putCells_flat encRA_len A B x (row, a)
  have hlt : (rows0.length : Int) < ((A ++ x :: B).length : Nat) := by simp; omega
  have hbig : rows0.length * 6 + 6 ≤ ((A ++ x :: B).flatMap encRA).length := by rw [flat_len encRA_len]; simp; omega
  rw [hAl] at hput
  have f1 : Fr h (h.put id (rows0.length * 6) (encRA (row, a))) (· = id) := Fr.refl.put (.inl rfl)
  have o1 : (h.put id (rows0.length * 6) (encRA (row, a))).obj id = some (mkO ((A ++ (row, a) :: B).flatMap encRA) 6 36) := by rw [put_row ho, hput]
  have rs1 : RS (h.put id (rows0.length * 6) (encRA (row, a))) r tk L en p rv (rows0 ++ row :: inner) := by
    have ak : ∀ id' o, h.obj id' = some o → o.ty = 53 → ¬ id' = id := fun id' o ho' ht => obj_ne ho' ho (by rw [ht]; show (53 : Nat) ≠ 36; decide)
    refine ⟨f1.obj s.rs.r (Ne.symm hidr), f1.obj s.rs.t (obj_ne s.rs.t ho (show (38 : Nat) ≠ 36 by decide)), A ++ (row, a) :: B, .inr ⟨id, by rw [hid]; simp, o1⟩, by simp [hA, hB], fun y hy => ?_⟩
    rcases List.mem_append.1 hy with hy | hy
    · exact args_keep (h3 y (by simp [hy])) f1 ak
    · rcases List.mem_cons.1 hy with hy | hy
      · subst hy; exact args_keep ha f1 ak
      · exact args_keep (h3 y (by simp [hy])) f1 ak
  have hres := hR _ _ rs1 (s.fr.trans (f1.mono fun i (hi : i = id) => .inr (hi ▸ i1))) (fun i off n he => .inr (s.ins i off n he).1)
  have hv := s.vo
  have hr := s.rs.r
  simp only [F14.k1, F14.t1, e0, e5, e6, pNil_ptr, pFld_ptr, lLd_f, lLdn_f, hr, hv, ldk_mk, ldnk_mk]
  simp only [Nat.zero_add, List.getElem?_cons_succ, List.getElem?_cons_zero, cellK_some, hid, pIxA_sl, eStore_f, ho, stk_mk, avC_agg]
  have hen : (encRA (row, a)).length = 6 := rfl
  refine ⟨by simp [hen], ⟨by omega, hlt⟩, ?_⟩
  rw [show List.drop 0 (encRA (row, a)) = encRA (row, a) from rfl, List.take_of_length_le (by simp [hen])]
  rw [Int.toNat_natCast]
  exact ⟨⟨.inr i1, by rcases ha with ⟨rfl, _⟩ | ⟨id', rfl, _⟩ <;> rfl, rfl, hbig⟩, rfl, hres⟩
theorem hp_le (s : SI h0 h r tk L en rv0 rows0 v p rv d0 inner (encRA (row, a))) (hM : ∀ id, SS r rv0 id → M id) : ∀ id, SS r rv id → M id ∨ h0.next ≤ id := by
  rintro id (h1 | ⟨n, h1⟩)
  · exact .inl (hM _ (.inl h1))
  · exact .inr (s.ins id 0 n h1).1
theorem F14_line (hL : LOK L) (hM : ∀ id, SS r rv0 id → M id) (s : SI h0 h r tk L en rv0 rows0 v p rv d0 [] (encRA (row, a))) (ha : SlL Arg.enc 2 53 h a row.args) {tmf : AV → Nat → AV} (e0 : ∀ t, tmf t 0 = .ptr r 0) (e5 : ∀ t, tmf t 5 = .ptr v 0) (e6 : ∀ t, tmf t 6 = .sc (.int .i64 rows0.length))
    (hR : Fin h0 r tk L en rv0 rows0 R (lineP L en p row)) :
    aCall Try.prog (fun id => M id ∨ h0.next ≤ id) 36 [.ptr r 0, .sc (.string ⟨#[59]⟩)] h (fun t h' => F14.k1 (fun id => M id ∨ h0.next ≤ id) (Ab.bodyQ Try.prog [] R) (Ab.bodyP R) ⟨tmf t, []⟩ h') (Ab.bodyP R []) := by
  refine ⟨(· = r), fun _ h _ => h ▸ .inl (hM r (.inl rfl)), sign_ok rfl hL.len s.rs.r s.rs.t ?_⟩
  unfold lineP at hR
  cases hs : signP L en p sSemi with
  | error e =>
    rw [hs] at hR
    intro h' h1
    exact ⟨rfl, hR _ (s.fr.trans (h1.mono fun _ h => .inl (.inl h)))⟩
  | ok t =>
    rw [hs] at hR
    intro h' f1 r1
    exact F14_end (s.call f1 r1) (args_keep ha f1 s.a_call) (e0 _) (e5 _) (e6 _) hR
theorem F14_held {k : Nat} {d : Int} (hL : LOK L) (hb : BodyOK L en k) (hd : d = 33 - (k : Int)) (hM : ∀ id, SS r rv0 id → M id) (s : SI h0 h r tk L en rv0 rows0 v p rv d0 [] (encRA (row, a))) (ha : SlL Arg.enc 2 53 h a row.args) (hp : p ≤ L.length) (hlen : rows0.length + 1 ≤ p)
    {tmf : AV → AV → Nat → AV} (e0 : ∀ t u, tmf t u 0 = .ptr r 0) (e5 : ∀ t u, tmf t u 5 = .ptr v 0) (e6 : ∀ t u, tmf t u 6 = .sc (.int .i64 rows0.length))
    (hR : Fin h0 r tk L en rv0 rows0 R (heldP L en k (stepP L en k) p row)) :
    aCall Try.prog (fun id => M id ∨ h0.next ≤ id) 38 [.ptr r 0, .sc (.int .i64 d)] h (fun t h' => pFld (some 4) (.ptr v 0) fun u => eStore (some 1) u t h' (fun id => M id ∨ h0.next ≤ id) fun h'' => F14.k1 (fun id => M id ∨ h0.next ≤ id) (Ab.bodyQ Try.prog [] R) (Ab.bodyP R) ⟨tmf t u, []⟩ h'') (Ab.bodyP R []) := by
  refine ⟨SS r rv, fun id hid _ => hp_le s hM id hid, hb hd (fun _ h => h) s.rs hp (by simp; omega) ?_⟩
  unfold heldP at hR
  cases hs : bdP L en k (stepP L en k) p with
  | error e =>
    rw [hs] at hR
    intro h' h1
    refine ⟨rfl, hR _ (s.fr.trans (h1.mono fun id hid => ?_))⟩
    rcases hid with h2 | ⟨n, h2⟩
    · exact .inl (.inl h2)
    · exact .inr (s.ins id 0 n h2).1
  | ok x =>
    obtain ⟨p', new⟩ := x
    rw [hs] at hR
    intro h' rv' rs' f1 i1
    have s1 := s.body rs' f1 i1
    have a1 := args_keep ha f1 s.a_body
    have s2 := s1.set 4 [.sc (.int .i64 new.length)]
    have a2 := args_keep a1 (Fr.refl.put (h := h') (S := (· = v)) (id := v) (off := 4) (cs := [.sc (.int .i64 new.length)]) (.inl rfl)) s1.a_set
    show pFld (some 4) (.ptr v 0) _
    simp only [pFld_ptr, eStore_f, s1.vo, avC_int, stk_mk]
    refine ⟨⟨.inr s.vn, rfl, rfl, by simp [encRA]⟩, ?_⟩
    exact F14_end (row := { row with rows := new.length }) s2 a2 (e0 _ _) (e5 _ _) (e6 _ _) hR
end
end Go.Proofs.Ythkkgbmjjpcfaaa

namespace Go.Ab
theorem app1' {α : Type} {f : α → List AV} {sz bytes : Nat} {ty : TypeId} {z : List Value} (hf : ∀ x, (f x).length = sz) (hsz : 0 < sz) (hz : z.length = sz) (h1 : ∀ x, (f x).all oneA = true) (hb : bytes ≤ 1024)
    {h : AH} {x : AV} {l : List α} {t : α} {W : Nat → Prop} {K : AV → AV → AH → Prop} (hl : SlL f sz ty h x l) (hw : InS W x) (hn : l.length ≤ 100000000)
    (hK : ∀ v y h', SlL f sz ty h' y (l ++ [t]) → InS (h.next ≤ ·) y → Fr h h' (fun i => ∃ off n, x = .sl i off n) → K v y h') :
    eBSl (some (sz, ty, z)) 1 [(0, .agg (f t))] h (fun v h4 => eApp (some (sz, bytes, ty)) x v h4 W (K v)) := by
  exact app1 hf hsz hz h1 hb hl hw hn (fun y h' a b c d => hK (.sl h.next 0 1) y h' a b ⟨d, fun i hi hs => c i hi (fun off n he => hs ⟨off, n, he⟩)⟩)
theorem app2' {α : Type} {f : α → List AV} {sz bytes : Nat} {ty : TypeId} {z : List Value} (hf : ∀ x, (f x).length = sz) (hsz : 0 < sz) (hz : z.length = sz + sz) (h1 : ∀ x, (f x).all oneA = true) (hb : bytes ≤ 1024)
    {h : AH} {s t : α} {W : Nat → Prop} {K : AV → AV → AH → Prop}
    (hK : ∀ v y h', SlL f sz ty h' y [s, t] → InS (h.next ≤ ·) y → Fr h h' (fun _ => False) → K v y h') :
    eBSl (some (sz, ty, z)) 2 [(0, .agg (f s)), (1, .agg (f t))] h (fun v h4 => eApp (some (sz, bytes, ty)) nilS v h4 W (K v)) := by
  exact app2 hf hsz hz h1 hb (hK (.sl h.next 0 2))
theorem SlL.sl {α : Type} {f : α → List AV} {sz : Nat} {ty : TypeId} {h : AH} {y : AV} {l : List α} (hl : SlL f sz ty h y l) (hne : l ≠ []) : ∃ id, y = .sl id 0 l.length := by
  rcases hl with ⟨_, h2⟩ | ⟨id, h2, _⟩
  · exact absurd h2 hne
  · exact ⟨id, h2⟩
end Go.Ab
namespace Go.Proofs.Ythkkgbmjjpcfaaa
open Go.Ab
/-- The rows' arguments lie apart from a. -/
def RowsA (h : AH) (x : AV) (rows : List Row) (a : AV) : Prop := ∃ l : List (Row × AV), SlL encRA 6 36 h x l ∧ l.map (·.1) = rows ∧ ∀ y ∈ l, SlL Arg.enc 2 53 h y.2 y.1.args ∧ ∀ id off n off' n', a = .sl id off n → y.2 ≠ .sl id off' n'
theorem RowsA.to {h : AH} {x : AV} {rows : List Row} {a : AV} (hr : RowsA h x rows a) : RowsAt h x rows := let ⟨l, h1, h2, h3⟩ := hr; ⟨l, h1, h2, fun y hy => (h3 y hy).1⟩
theorem RowsA.nil {h : AH} {x : AV} {rows : List Row} (hr : RowsAt h x rows) : RowsA h x rows nilS := let ⟨l, h1, h2, h3⟩ := hr; ⟨l, h1, h2, fun y hy => ⟨h3 y hy, fun _ _ _ _ _ he => by cases he⟩⟩
theorem RowsA.fr {h h' : AH} {S : Nat → Prop} {x : AV} {rows : List Row} {a : AV} (hr : RowsA h x rows a) (hf : Fr h h' S) (hx : ∀ id, x = .sl id 0 rows.length → ¬ S id) (ha : ∀ id o, h.obj id = some o → o.ty = 53 → ¬ S id) : RowsA h' x rows a := by
  obtain ⟨l, h1, h2, h3⟩ := hr
  exact ⟨l, h1.of_fr hf (fun id he => hx id (by rw [he, ← h2]; simp)), h2, fun y hy => ⟨args_keep (h3 y hy).1 hf ha, (h3 y hy).2⟩⟩
section
variable {h0 h h' : AH} {r tk : Nat} {L : List Tok} {en : Int} {rv0 : AV} {rows0 : List Row} {v p : Nat} {rv : AV} {d0 : Row} {inner : List Row} {cells : List AV} {a y : AV} {acc : List Arg}
theorem RowsA.call (ra : RowsA h rv (rows0 ++ d0 :: inner) a) (s : SI h0 h r tk L en rv0 rows0 v p rv d0 inner cells) (hf : Fr h h' (· = r)) : RowsA h' rv (rows0 ++ d0 :: inner) a :=
  ra.fr hf (fun id he hid => by
    obtain ⟨_, _, o, ho, hty⟩ := s.rs.rows.id he
    exact obj_ne ho s.rs.r (by rw [hty]; show (36 : Nat) ≠ 51; decide) hid) s.a_call
theorem RowsA.set (ra : RowsA h rv (rows0 ++ d0 :: inner) a) (s : SI h0 h r tk L en rv0 rows0 v p rv d0 inner cells) (off : Nat) (cs : List AV) : RowsA (h.put v off cs) rv (rows0 ++ d0 :: inner) a :=
  ra.fr (Fr.refl.put (S := (· = v)) (.inl rfl)) (fun id he => (s.ins id 0 _ he).2) s.a_set
theorem SI.app (s : SI h0 h r tk L en rv0 rows0 v p rv d0 inner cells) (ra : RowsA h rv (rows0 ++ d0 :: inner) a) (ha : SlL Arg.enc 2 53 h a acc) (hown : InS (h0.next ≤ ·) a) (hf : Fr h h' (fun i => ∃ off n, a = .sl i off n)) (hy : InS (h.next ≤ ·) y) :
    SI h0 h' r tk L en rv0 rows0 v p rv d0 inner cells ∧ RowsA h' rv (rows0 ++ d0 :: inner) y := by
  have aty : ∀ i, (∃ off n, a = .sl i off n) → ∃ o, h.obj i = some o ∧ o.ty = 53 := by
    rintro i ⟨off, n, he⟩
    rcases ha with ⟨h1, _⟩ | ⟨id, h1, ho⟩
    · rw [h1] at he; cases he
    · rw [h1] at he; cases he; exact ⟨_, ho, rfl⟩
  have not : ∀ i o, h.obj i = some o → o.ty ≠ 53 → ¬ ∃ off n, a = .sl i off n := fun i o ho hne he => by
    obtain ⟨o', ho', ht⟩ := aty i he
    rw [ho] at ho'; cases ho'; exact hne ht
  have ra' : RowsA h' rv (rows0 ++ d0 :: inner) y := by
    obtain ⟨l, h1, h2, h3⟩ := ra
    refine ⟨l, h1.of_fr hf (fun id he => ?_), h2, fun z hz => ⟨?_, fun id off n off' n' he he' => ?_⟩⟩
    · rcases h1 with ⟨h4, _⟩ | ⟨id', h4, ho⟩
      · rw [h4] at he; cases he
      · rw [h4] at he; cases he; exact not _ _ ho (show (36 : Nat) ≠ 53 by decide)
    · obtain ⟨h4, h5⟩ := h3 z hz
      rcases h4 with h4 | ⟨id, h4, ho⟩
      · exact .inl h4
      · refine .inr ⟨id, h4, hf.obj ho ?_⟩
        rintro ⟨off, n, he⟩
        exact h5 id off n _ _ he h4
    · have h6 := hy id off n he
      obtain ⟨h4, _⟩ := h3 z hz
      rcases h4 with ⟨h4, _⟩ | ⟨id', h4, ho⟩
      · rw [h4] at he'; cases he'
      · rw [h4] at he'; cases he'
        have := h.lt _ _ ho
        omega
  refine ⟨⟨s.fr.trans (hf.mono fun id hid => ?_), ⟨hf.obj s.rs.r (not _ _ s.rs.r (show (51 : Nat) ≠ 53 by decide)), hf.obj s.rs.t (not _ _ s.rs.t (show (38 : Nat) ≠ 53 by decide)), ra'.to⟩, s.ins, hf.obj s.vo (not _ _ s.vo (show (36 : Nat) ≠ 53 by decide)), s.vn, s.rn⟩, ra'⟩
  obtain ⟨off, n, he⟩ := hid
  exact .inr (hown id off n he)
end
section
variable {h0 h : AH} {r tk : Nat} {L : List Tok} {en : Int} {rv0 : AV} {rows0 : List Row} {v p : Nat} {rv : AV} {d0 : Row} {inner : List Row} {cells : List AV} {M : Nat → Prop} {R : AE → AH → Prop}
theorem st_name (hL : LOK L) (hM : ∀ id, SS r rv0 id → M id) (s : SI h0 h r tk L en rv0 rows0 v p rv d0 inner cells) (hc : cells.length = 6) {C : KT} {tmf : AV → AV → Nat → AV} {off : Nat} (ho : off < 6)
    (herr : ∀ e, nameP L en p = .error e → ∀ h', Fr h0 h' (SS r rv0) → R (.pan (faultV e)) h')
    (hok : ∀ nm, nameP L en p = .ok nm → ∀ u h', SI h0 h' r tk L en rv0 rows0 v (p + 1) rv d0 inner (putCells cells off [.sc (.string nm)]) → C ⟨tmf (.sc (.string nm)) u, []⟩ h') :
    aCall Try.prog (fun id => M id ∨ h0.next ≤ id) 34 [.ptr r 0] h (fun t h' => pFld (some off) (.ptr v 0) fun u => eStore (some 1) u t h' (fun id => M id ∨ h0.next ≤ id) fun h'' => C ⟨tmf t u, []⟩ h'') (Ab.bodyP R []) := by
  refine ⟨(· = r), fun _ h _ => h ▸ .inl (hM r (.inl rfl)), name_ok rfl hL.len s.rs.r s.rs.t ?_⟩
  cases hs : nameP L en p with
  | error e => intro h' h1; exact ⟨rfl, herr e hs _ (s.fr.trans (h1.mono fun _ h => .inl (.inl h)))⟩
  | ok nm =>
    intro h' f1 r1
    have s1 := s.call f1 r1
    have s2 := s1.set off [.sc (.string nm)]
    show pFld (some off) (.ptr v 0) _
    simp only [pFld_ptr, eStore_f, s1.vo, avC_str, stk_mk, Nat.zero_add]
    exact ⟨⟨.inr s.vn, rfl, rfl, by omega⟩, hok nm hs _ _ s2⟩
theorem st_number (hL : LOK L) (hM : ∀ id, SS r rv0 id → M id) (s : SI h0 h r tk L en rv0 rows0 v p rv d0 inner cells) (hc : cells.length = 6) {C : KT} {tmf : AV → AV → Nat → AV} {off : Nat} (ho : off < 6)
    (herr : ∀ e, numberP L en p = .error e → ∀ h', Fr h0 h' (SS r rv0) → R (.pan (faultV e)) h')
    (hok : ∀ nm, numberP L en p = .ok nm → ∀ u h', SI h0 h' r tk L en rv0 rows0 v (p + 1) rv d0 inner (putCells cells off [.sc (.int .i64 nm)]) → C ⟨tmf (.sc (.int .i64 nm)) u, []⟩ h') :
    aCall Try.prog (fun id => M id ∨ h0.next ≤ id) 35 [.ptr r 0] h (fun t h' => pFld (some off) (.ptr v 0) fun u => eStore (some 1) u t h' (fun id => M id ∨ h0.next ≤ id) fun h'' => C ⟨tmf t u, []⟩ h'') (Ab.bodyP R []) := by
  refine ⟨(· = r), fun _ h _ => h ▸ .inl (hM r (.inl rfl)), number_ok rfl hL.len hL.dig hL.txt s.rs.r s.rs.t ?_⟩
  cases hs : numberP L en p with
  | error e => intro h' h1; exact ⟨rfl, herr e hs _ (s.fr.trans (h1.mono fun _ h => .inl (.inl h)))⟩
  | ok nm =>
    intro h' f1 r1
    have s1 := s.call f1 r1
    have s2 := s1.set off [.sc (.int .i64 nm)]
    show pFld (some off) (.ptr v 0) _
    simp only [pFld_ptr, eStore_f, s1.vo, avC_int, stk_mk, Nat.zero_add]
    exact ⟨⟨.inr s.vn, rfl, rfl, by omega⟩, hok nm hs _ _ s2⟩
end
end Go.Proofs.Ythkkgbmjjpcfaaa

namespace Go.Proofs.Ythkkgbmjjpcfaaa
open Go.Ab
section
variable {h0 h : AH} {r tk : Nat} {L : List Tok} {en : Int} {rv0 : AV} {rows0 : List Row} {v p : Nat} {rv : AV} {d0 : Row} {M : Nat → Prop} {R : AE → AH → Prop} {tm : Nat → AV}
/-- What the temporaries hold. -/
structure TM (tm : Nat → AV) (r v : Nat) (d : Int) (n : Nat) : Prop where
  e0 : tm 0 = .ptr r 0
  e1 : tm 1 = .sc (.int .i64 d)
  e5 : tm 5 = .ptr v 0
  e6 : tm 6 = .sc (.int .i64 n)
theorem TM.puts {tm : Nat → AV} {r v : Nat} {d : Int} {n : Nat} (t : TM tm r v d n) : ∀ (l : List (Nat × AV)), (∀ x ∈ l, 6 < x.1) → TM (puts tm l) r v d n
  | [], _ => t
  | x :: l, h => by
    have hx := h x (by simp)
    exact TM.puts (tm := Go.Ab.upd tm x.1 x.2) ⟨by rw [upd_ne (by omega)]; exact t.e0, by rw [upd_ne (by omega)]; exact t.e1, by rw [upd_ne (by omega)]; exact t.e5, by rw [upd_ne (by omega)]; exact t.e6⟩ l (fun y hy => h y (by simp [hy]))
theorem F14_regs {d : Int} (hL : LOK L) (hM : ∀ id, SS r rv0 id → M id) {k : ByteArray} {pl : Int} (s : SI h0 h r tk L en rv0 rows0 v p rv d0 [] (encRA (⟨k, sEmpty, [], 0, 0, pl⟩, nilS))) (tm_ : TM tm r v d rows0.length)
    (hR : Fin h0 r tk L en rv0 rows0 R (match nameP L en p with | .error e => .error e | .ok nm => match numberP L en (p + 1) with | .error e => .error e | .ok n => lineP L en (p + 2) ⟨k, nm, [], n, 0, pl⟩)) :
    F14.k4 (fun id => M id ∨ h0.next ≤ id) (Ab.bodyQ Try.prog [] R) (Ab.bodyP R) ⟨tm, []⟩ h := by
  simp only [F14.k4, F14.t4, tm_.e0, tm_.e5]
  refine st_name hL hM s rfl (tmf := fun t u => puts tm [(73, .ptr r 0), (74, t), (75, u)]) (by decide) (fun e he => ?_) (fun nm hn u h1 s1 => ?_)
  · rw [he] at hR; exact hR
  rw [hn] at hR
  have t1 := tm_.puts [(73, .ptr r 0), (74, .sc (.string nm)), (75, u)] (by simp)
  generalize puts tm [(73, .ptr r 0), (74, .sc (.string nm)), (75, u)] = tm1 at *
  simp only [F14.k3, F14.t3, t1.e0, t1.e5]
  refine st_number hL hM s1 rfl (tmf := fun t u => puts tm1 [(76, .ptr r 0), (77, t), (78, u)]) (by decide) (fun e he => ?_) (fun n hn u h2 s2 => ?_)
  · rw [he] at hR; exact hR
  rw [hn] at hR
  have t2 := t1.puts [(76, .ptr r 0), (77, .sc (.int .i64 n)), (78, u)] (by simp)
  generalize puts tm1 [(76, .ptr r 0), (77, .sc (.int .i64 n)), (78, u)] = tm2 at *
  simp only [F14.k2, F14.t2, t2.e0]
  have t3 := fun t => t2.puts [(79, .ptr r 0), (80, t)] (by simp)
  exact F14_line (row := ⟨k, nm, [], n, 0, pl⟩) (a := nilS) hL hM s2 .nil (fun t => (t3 t).e0) (fun t => (t3 t).e5) (fun t => (t3 t).e6) hR
theorem F14_rep {d : Int} {kk : Nat} (hL : LOK L) (hb : BodyOK L en kk) (hd : d = 32 - (kk : Int)) (hkk : kk ≤ 32) (hlen : rows0.length + 1 ≤ p) (hM : ∀ id, SS r rv0 id → M id) {k : ByteArray} {pl : Int} (s : SI h0 h r tk L en rv0 rows0 v p rv d0 [] (encRA (⟨k, sEmpty, [], 0, 0, pl⟩, nilS))) (tm_ : TM tm r v d rows0.length)
    (hR : Fin h0 r tk L en rv0 rows0 R (match numberP L en p with | .error e => .error e | .ok n => heldP L en kk (stepP L en kk) (p + 1) ⟨k, sEmpty, [], n, 0, pl⟩)) :
    F14.k12 (fun id => M id ∨ h0.next ≤ id) (Ab.bodyQ Try.prog [] R) (Ab.bodyP R) ⟨tm, []⟩ h := by
  simp only [F14.k12, F14.t12, tm_.e0, tm_.e5]
  refine st_number hL hM s rfl (tmf := fun t u => puts tm [(103, .ptr r 0), (104, t), (105, u)]) (by decide) (fun e he => ?_) (fun n hn u h2 s2 => ?_)
  · rw [he] at hR; exact hR
  rw [hn] at hR
  have hlt := numberP_ok hn
  have t2 := tm_.puts [(103, .ptr r 0), (104, .sc (.int .i64 n)), (105, u)] (by simp)
  generalize puts tm [(103, .ptr r 0), (104, .sc (.int .i64 n)), (105, u)] = tm2 at *
  have hw : IntKind.i64.wrap (d + 1) = d + 1 := wrap_in (by omega) (by omega)
  simp only [F14.k11, F14.t11, t2.e0, t2.e1, t2.e5, pBin_add, hw]
  have t3 := fun t u => t2.puts [(106, .ptr r 0), (107, .sc (.int .i64 d)), (108, .sc (.int .i64 (d + 1))), (109, t), (110, u)] (by simp)
  exact F14_held (row := ⟨k, sEmpty, [], n, 0, pl⟩) (a := nilS) hL hb (by omega) hM s2 .nil (by omega) (by omega) (fun t u => (t3 t u).e0) (fun t u => (t3 t u).e5) (fun t u => (t3 t u).e6) hR
theorem F14_if {d : Int} {kk : Nat} (hL : LOK L) (hb : BodyOK L en kk) (hd : d = 32 - (kk : Int)) (hkk : kk ≤ 32) (hlen : rows0.length + 1 ≤ p) (hM : ∀ id, SS r rv0 id → M id) {k : ByteArray} {pl : Int} (s : SI h0 h r tk L en rv0 rows0 v p rv d0 [] (encRA (⟨k, sEmpty, [], 0, 0, pl⟩, nilS))) (tm_ : TM tm r v d rows0.length)
    (hR : Fin h0 r tk L en rv0 rows0 R (match nameP L en p with | .error e => .error e | .ok nm => match numberP L en (p + 1) with | .error e => .error e | .ok n => heldP L en kk (stepP L en kk) (p + 2) ⟨k, nm, [], n, 0, pl⟩)) :
    F14.k15 (fun id => M id ∨ h0.next ≤ id) (Ab.bodyQ Try.prog [] R) (Ab.bodyP R) ⟨tm, []⟩ h := by
  simp only [F14.k15, F14.t15, tm_.e0, tm_.e5]
  refine st_name hL hM s rfl (tmf := fun t u => puts tm [(113, .ptr r 0), (114, t), (115, u)]) (by decide) (fun e he => ?_) (fun nm hn u h1 s1 => ?_)
  · rw [he] at hR; exact hR
  rw [hn] at hR
  have t1 := tm_.puts [(113, .ptr r 0), (114, .sc (.string nm)), (115, u)] (by simp)
  generalize puts tm [(113, .ptr r 0), (114, .sc (.string nm)), (115, u)] = tm1 at *
  simp only [F14.k14, F14.t14, t1.e0, t1.e5]
  refine st_number hL hM s1 rfl (tmf := fun t u => puts tm1 [(116, .ptr r 0), (117, t), (118, u)]) (by decide) (fun e he => ?_) (fun n hn u h2 s2 => ?_)
  · rw [he] at hR; exact hR
  rw [hn] at hR
  have hlt := numberP_ok hn
  have t2 := t1.puts [(116, .ptr r 0), (117, .sc (.int .i64 n)), (118, u)] (by simp)
  generalize puts tm1 [(116, .ptr r 0), (117, .sc (.int .i64 n)), (118, u)] = tm2 at *
  have hw : IntKind.i64.wrap (d + 1) = d + 1 := wrap_in (by omega) (by omega)
  simp only [F14.k13, F14.t13, t2.e0, t2.e1, t2.e5, pBin_add, hw]
  have t3 := fun t u => t2.puts [(119, .ptr r 0), (120, .sc (.int .i64 d)), (121, .sc (.int .i64 (d + 1))), (122, t), (123, u)] (by simp)
  exact F14_held (row := ⟨k, nm, [], n, 0, pl⟩) (a := nilS) hL hb (by omega) hM s2 .nil (by omega) (by omega) (fun t u => (t3 t u).e0) (fun t u => (t3 t u).e5) (fun t u => (t3 t u).e6) hR
end
end Go.Proofs.Ythkkgbmjjpcfaaa

namespace Go.Proofs.Ythkkgbmjjpcfaaa
open Go.Ab
theorem plain_lt {L : List Tok} {p : Nat} (h : plainP L p = true) : p < L.length := by
  unfold plainP at h
  cases hg : L[p]? with
  | none => rw [hg] at h; cases h
  | some t => exact (List.getElem?_eq_some_iff.1 hg).1
section
variable {h0 h : AH} {r tk : Nat} {L : List Tok} {en : Int} {rv0 : AV} {rows0 : List Row} {v p : Nat} {rv : AV} {d0 : Row} {M : Nat → Prop} {R : AE → AH → Prop} {tm : Nat → AV}
/-- One argument more. -/
theorem st_push {inner : List Row} {k nm : ByteArray} {acc : List Arg} {pl : Int} {a : AV} {x : Arg} {W : Nat → Prop} {K : AV → AV → AH → Prop} (hW : ∀ id, h0.next ≤ id → W id) (s : SI h0 h r tk L en rv0 rows0 v p rv d0 inner (encRA (⟨k, nm, acc, 0, 0, pl⟩, a)))
    (ra : RowsA h rv (rows0 ++ d0 :: inner) a) (ha : SlL Arg.enc 2 53 h a acc) (hown : InS (h0.next ≤ ·) a) (hn : acc.length ≤ 65536)
    (hK : ∀ v1 y h', SI h0 h' r tk L en rv0 rows0 v p rv d0 inner (encRA (⟨k, nm, acc ++ [x], 0, 0, pl⟩, y)) → RowsA h' rv (rows0 ++ d0 :: inner) y → SlL Arg.enc 2 53 h' y (acc ++ [x]) → InS (h0.next ≤ ·) y → K v1 y h') :
    eBSl (some (2, 53, [.string ⟨#[]⟩, .int .i64 0])) 1 [(0, .agg x.enc)] h fun v1 h4 => eApp (some (2, 24, 53)) a v1 h4 W fun y h5 => eStore (some 1) (.ptr v 2) y h5 W fun h6 => K v1 y h6 := by
  refine app1' (f := Arg.enc) (K := fun v1 y h5 => eStore (some 1) (.ptr v 2) y h5 W fun h6 => K v1 y h6) Arg.enc_len (by decide) rfl Arg.enc_one (by decide) ha (fun id off n he => hW _ (hown id off n he)) (by omega) ?_
  intro v1 y h5 hy iy f5
  obtain ⟨s5, ra5⟩ := s.app ra ha hown f5 iy
  obtain ⟨id, hid⟩ := hy.sl (by simp)
  have iy' : InS (h0.next ≤ ·) y := fun i off n he => Nat.le_trans (Nat.le_trans s.vn (by have := h.lt _ _ s.vo; omega)) (iy i off n he)
  have s6 := s5.set 2 [y]
  have ra6 := ra5.set s5 2 [y]
  have hy6 := args_keep hy (Fr.refl.put (h := h5) (S := (· = v)) (id := v) (off := 2) (cs := [y]) (.inl rfl)) s5.a_set
  subst hid
  simp only [eStore_f, s5.vo, avC_sl, stk_mk]
  exact ⟨⟨hW _ s.vn, rfl, rfl, by simp [encRA]⟩, hK _ _ _ s6 ra6 hy6 iy'⟩
theorem F14_gate {d : Int} {kk : Nat} (hL : LOK L) (hb : BodyOK L en kk) (hd : d = 32 - (kk : Int)) (hkk : kk ≤ 32) (hlen : rows0.length + 1 ≤ p) (hM : ∀ id, SS r rv0 id → M id) {k : ByteArray} {pl : Int} (s : SI h0 h r tk L en rv0 rows0 v p rv d0 [] (encRA (⟨k, sEmpty, [], 0, 0, pl⟩, nilS))) (tm_ : TM tm r v d rows0.length)
    (hR : Fin h0 r tk L en rv0 rows0 R (match nameP L en p with | .error e => .error e | .ok nm => match namesP L en (L.length + 1) (p + 1) [] with | .error e => .error e | .ok (l, p') => heldP L en kk (stepP L en kk) p' ⟨k, nm, l, 0, 0, pl⟩)) :
    F14.k10 (fun id => M id ∨ h0.next ≤ id) (Ab.bodyQ Try.prog [] R) (Ab.bodyP R) ⟨tm, []⟩ h := by
  simp only [F14.k10, F14.t10, tm_.e0, tm_.e5]
  refine st_name hL hM s rfl (tmf := fun t u => puts tm [(83, .ptr r 0), (84, t), (85, u)]) (by decide) (fun e he => ?_) (fun nm hn u h1 s1 => ?_)
  · rw [he] at hR; exact hR
  rw [hn] at hR
  have hlt := (nameP_ok hn).1
  have t1 := tm_.puts [(83, .ptr r 0), (84, .sc (.string nm)), (85, u)] (by simp)
  generalize puts tm [(83, .ptr r 0), (84, .sc (.string nm)), (85, u)] = tm1 at *
  unfold F14.k9
  simp only at hR
  generalize hX : namesP L en (L.length + 1) (p + 1) [] = X at hR
  have hL0 := hL.len
  refine aLoop_of (ι := Nat × Nat × List Arg) (fun x s' h' => s'.ds = [] ∧ TM s'.tm r v d rows0.length ∧ x.2.1 ≤ L.length ∧ L.length < x.2.1 + x.1 ∧ x.2.2.length ≤ x.2.1 ∧ rows0.length + 1 ≤ x.2.1 ∧ namesP L en x.1 x.2.1 x.2.2 = X ∧
    ∃ a, SI h0 h' r tk L en rv0 rows0 v x.2.1 rv d0 [] (encRA (⟨k, nm, x.2.2, 0, 0, pl⟩, a)) ∧ RowsA h' rv (rows0 ++ d0 :: []) a ∧ SlL Arg.enc 2 53 h' a x.2.2 ∧ InS (h0.next ≤ ·) a) (fun x => x.1) (L.length + 1, p + 1, []) ?_ ?_
  · exact ⟨rfl, t1, by simp only; omega, by simp only; omega, by simp, by simp only; omega, hX, nilS, s1, .nil s1.rs.rows, .nil, fun _ _ _ he => by cases he⟩
  rintro ⟨n, q, acc⟩ ⟨tm2, ds⟩ h2 ⟨rfl, t2, hq, hqn, hacc, hlq, hX2, a, s2, ra2, ha2, hown2⟩
  simp only at t2 hq hqn hacc hlq hX2 s2 ra2 ha2
  rw [F14.l1]
  cases n with
  | zero => omega
  | succ n =>
    simp only [namesP] at hX2
    simp only [F14.k8, F14.t8, t2.e0]
    refine ⟨fun _ => False, fun _ h => h.elim, plain_ok s2.rs.r s2.rs.t ?_⟩
    have t3 := fun b => t2.puts [(86, .ptr r 0), (87, .sc (.bool b))] (by simp)
    cases hpl : plainP L q with
    | false =>
      simp only [hpl, Bool.false_eq_true, if_false] at hX2
      rw [← hX2] at hR
      have e87 : puts tm2 [(86, .ptr r 0), (87, .sc (.bool false))] 87 = .sc (.bool false) := by simp
      have t4 := t3 false
      show F14.k7 _ _ _ ⟨puts tm2 [(86, .ptr r 0), (87, .sc (.bool false))], []⟩ h2
      generalize puts tm2 [(86, .ptr r 0), (87, .sc (.bool false))] = tm3 at *
      have hw : IntKind.i64.wrap (d + 1) = d + 1 := wrap_in (by omega) (by omega)
      simp only [F14.k7, F14.t7, e87, aIf_b, Bool.false_eq_true, false_implies, true_and, true_implies, thenQ, blockQ, if_true]
      simp only [F14.k5, F14.t5, t4.e0, t4.e1, t4.e5, pBin_add, hw]
      have t5 := fun t u => t4.puts [(96, .ptr r 0), (97, .sc (.int .i64 d)), (98, .sc (.int .i64 (d + 1))), (99, t), (100, u)] (by simp)
      exact F14_held (row := ⟨k, nm, acc, 0, 0, pl⟩) (a := a) hL hb (by omega) hM s2 ha2 hq hlq (fun t u => (t5 t u).e0) (fun t u => (t5 t u).e5) (fun t u => (t5 t u).e6) hR
    | true =>
      simp only [hpl, if_true] at hX2
      have e87 : puts tm2 [(86, .ptr r 0), (87, .sc (.bool true))] 87 = .sc (.bool true) := by simp
      have t4 := t3 true
      show F14.k7 _ _ _ ⟨puts tm2 [(86, .ptr r 0), (87, .sc (.bool true))], []⟩ h2
      generalize puts tm2 [(86, .ptr r 0), (87, .sc (.bool true))] = tm3 at *
      simp only [F14.k7, F14.t7, e87, aIf_b, Bool.true_eq_false, false_implies, and_true, true_implies]
      simp only [F14.k6, F14.t6]
      refine ⟨fun _ => v, by simp [s2.vo], ?_⟩
      simp only [t4.e5, t4.e0, pFld_ptr, lLd_f, s2.vo, ldk_mk, Nat.zero_add]
      simp only [encRA, List.getElem?_cons_succ, List.getElem?_cons_zero, cellK_some]
      refine ⟨by simp, (· = r), fun id hid _ => ?_, name_ok rfl hL.len s2.rs.r s2.rs.t ?_⟩
      · have := s2.vr
        exact hid ▸ ⟨.inl (hM r (.inl rfl)), by simp; exact fun e => this e.symm⟩
      cases hs : nameP L en q with
      | error e =>
        rw [hs] at hX2
        rw [← hX2] at hR
        intro h' f3
        exact ⟨rfl, hR _ (s2.fr.trans (f3.mono fun _ h => .inl (.inl h)))⟩
      | ok nm2 =>
        rw [hs] at hX2
        simp only at hX2
        intro h3 f3 r3
        have s3 := s2.call f3 r3
        have ra3 := ra2.call s2 f3
        have ha3 := args_keep ha2 f3 s2.a_call
        have hlt2 := (nameP_ok hs).1
        refine ⟨Arg.enc ⟨nm2, -1⟩, rfl, ?_⟩
        show eBSl (some (2, 53, [.string ⟨#[]⟩, .int .i64 0])) 1 [(0, .agg (Arg.enc ⟨nm2, -1⟩))] h3 _
        refine st_push (x := ⟨nm2, -1⟩) (fun id hid => Or.inr hid) s3 ra3 ha3 hown2 (by omega) ?_
        intro v1 y h6 s6 ra6 hy6 iy6
        simp only [thenQ]
        exact ⟨(n, q + 1, acc ++ [⟨nm2, -1⟩]), by simp, trivial, t4.puts _ (by simp), by simp only; omega, by simp only; omega, by simp; omega, by simp only; omega, hX2, y, s6, ra6, hy6, iy6⟩
theorem F14_meas {d : Int} (hL : LOK L) (hM : ∀ id, SS r rv0 id → M id) (hp : p ≤ L.length) {k : ByteArray} {pl : Int} (s : SI h0 h r tk L en rv0 rows0 v p rv d0 [] (encRA (⟨k, sEmpty, [], 0, 0, pl⟩, nilS))) (tm_ : TM tm r v d rows0.length)
    (hR : Fin h0 r tk L en rv0 rows0 R (match argP L en p with | .error e => .error e | .ok (a, p1) => match argP L en p1 with | .error e => .error e | .ok (b, p2) => lineP L en p2 ⟨k, sEmpty, [a, b], 0, 0, pl⟩)) :
    F14.k17 (fun id => M id ∨ h0.next ≤ id) (Ab.bodyQ Try.prog [] R) (Ab.bodyP R) ⟨tm, []⟩ h := by
  simp only [F14.k17, F14.t17]
  refine ⟨fun _ => v, by simp [s.vo], ?_⟩
  simp only [tm_.e5, tm_.e0, pFld_ptr, lLd_f, s.vo, ldk_mk, Nat.zero_add]
  have hW : ∀ id, id = r → id < h.next → (M id ∨ h0.next ≤ id) ∧ ∀ i ∈ [1], id ≠ (fun _ => v) i := fun id hid _ => by
    have := s.vr
    exact hid ▸ ⟨.inl (hM r (.inl rfl)), by simp; exact fun e => this e.symm⟩
  refine ⟨by simp, (· = r), hW, argument_ok rfl hL.len hp hL.dig hL.txt s.rs.r s.rs.t ?_⟩
  cases h1 : argP L en p with
  | error e =>
    rw [h1] at hR
    intro h' f3
    exact ⟨rfl, hR _ (s.fr.trans (f3.mono fun _ h => .inl (.inl h)))⟩
  | ok x =>
    obtain ⟨a, p1⟩ := x
    rw [h1] at hR
    simp only at hR
    intro h3 f3 r3
    have s3 := s.call f3 r3
    have b1 := argP_ok h1
    refine ⟨(· = r), fun id hid hlt => ?_, argument_ok rfl hL.len b1.2 hL.dig hL.txt s3.rs.r s3.rs.t ?_⟩
    · have := s.vr
      exact hid ▸ ⟨.inl (hM r (.inl rfl)), by simp; exact fun e => this e.symm⟩
    cases h2 : argP L en p1 with
    | error e =>
      rw [h2] at hR
      intro h' f4
      exact ⟨rfl, hR _ (s3.fr.trans (f4.mono fun _ h => .inl (.inl h)))⟩
    | ok x =>
      obtain ⟨b, p2⟩ := x
      rw [h2] at hR
      simp only at hR
      intro h4 f4 r4
      have s4 := s3.call f4 r4
      show eBSl (some (2, 53, [.string ⟨#[]⟩, .int .i64 0, .string ⟨#[]⟩, .int .i64 0])) 2 [(0, .agg a.enc), (1, .agg b.enc)] h4 _
      refine app2' (f := Arg.enc) Arg.enc_len (by decide) rfl Arg.enc_one (by decide) ?_
      intro v1 y h5 hy iy f5
      have s5 := s4.quiet f5
      obtain ⟨id, hid⟩ := hy.sl (by simp)
      have s6 := s5.set 2 [y]
      have hy6 := args_keep hy (Fr.refl.put (h := h5) (S := (· = v)) (id := v) (off := 2) (cs := [y]) (.inl rfl)) s5.a_set
      have ey : avCells y = some [y] := by subst hid; rfl
      simp only [eStore_f, s5.vo, ey, stk_mk]
      refine ⟨⟨.inr s.vn, by subst hid; rfl, rfl, by simp [encRA]⟩, ?_⟩
      have t4 := tm_.puts [(126, .ptr v 2), (127, nilS), (128, .ptr r 0), (130, .ptr r 0), (129, .agg a.enc), (131, .agg b.enc), (132, v1), (133, y), (134, .ptr v 2)] (by simp)
      show F14.k16 _ _ _ ⟨puts tm [(126, .ptr v 2), (127, nilS), (128, .ptr r 0), (130, .ptr r 0), (129, .agg a.enc), (131, .agg b.enc), (132, v1), (133, y), (134, .ptr v 2)], []⟩ _
      generalize puts tm [(126, .ptr v 2), (127, nilS), (128, .ptr r 0), (130, .ptr r 0), (129, .agg a.enc), (131, .agg b.enc), (132, v1), (133, y), (134, .ptr v 2)] = tm3 at *
      simp only [F14.k16, F14.t16, t4.e0]
      have t5 := fun t => t4.puts [(135, .ptr r 0), (136, t)] (by simp)
      exact F14_line (row := ⟨k, sEmpty, [a, b], 0, 0, pl⟩) (a := y) hL hM s6 hy6 (fun t => (t5 t).e0) (fun t => (t5 t).e5) (fun t => (t5 t).e6) hR
theorem F14_reset {d : Int} (hL : LOK L) (hM : ∀ id, SS r rv0 id → M id) (hp : p ≤ L.length) {k : ByteArray} {pl : Int} (s : SI h0 h r tk L en rv0 rows0 v p rv d0 [] (encRA (⟨k, sEmpty, [], 0, 0, pl⟩, nilS))) (tm_ : TM tm r v d rows0.length)
    (hR : Fin h0 r tk L en rv0 rows0 R (match argP L en p with | .error e => .error e | .ok (a, p1) => lineP L en p1 ⟨k, sEmpty, [a], 0, 0, pl⟩)) :
    F14.k19 (fun id => M id ∨ h0.next ≤ id) (Ab.bodyQ Try.prog [] R) (Ab.bodyP R) ⟨tm, []⟩ h := by
  simp only [F14.k19, F14.t19]
  refine ⟨fun _ => v, by simp [s.vo], ?_⟩
  simp only [tm_.e5, tm_.e0, pFld_ptr, lLd_f, s.vo, ldk_mk, Nat.zero_add]
  refine ⟨by simp, (· = r), fun id hid _ => ?_, argument_ok rfl hL.len hp hL.dig hL.txt s.rs.r s.rs.t ?_⟩
  · have := s.vr
    exact hid ▸ ⟨.inl (hM r (.inl rfl)), by simp; exact fun e => this e.symm⟩
  cases h1 : argP L en p with
  | error e =>
    rw [h1] at hR
    intro h' f3
    exact ⟨rfl, hR _ (s.fr.trans (f3.mono fun _ h => .inl (.inl h)))⟩
  | ok x =>
    obtain ⟨a, p1⟩ := x
    rw [h1] at hR
    simp only at hR
    intro h4 f4 r4
    have s4 := s.call f4 r4
    show eBSl (some (2, 53, [.string ⟨#[]⟩, .int .i64 0])) 1 [(0, .agg a.enc)] h4 _
    refine st_push (x := a) (fun id hid => Or.inr hid) s4 (.nil s4.rs.rows) .nil (fun _ _ _ he => by cases he) (by simp) ?_
    intro v1 y h6 s6 ra6 hy6 iy6
    have t4 := tm_.puts [(139, .ptr v 2), (140, nilS), (141, .ptr r 0), (142, .agg a.enc), (143, v1), (144, y), (145, .ptr v 2)] (by simp)
    show F14.k18 _ _ _ ⟨puts tm [(139, .ptr v 2), (140, nilS), (141, .ptr r 0), (142, .agg a.enc), (143, v1), (144, y), (145, .ptr v 2)], []⟩ _
    generalize puts tm [(139, .ptr v 2), (140, nilS), (141, .ptr r 0), (142, .agg a.enc), (143, v1), (144, y), (145, .ptr v 2)] = tm3 at *
    simp only [F14.k18, F14.t18, t4.e0]
    have t5 := fun t => t4.puts [(146, .ptr r 0), (147, t)] (by simp)
    exact F14_line (row := ⟨k, sEmpty, [a], 0, 0, pl⟩) (a := y) hL hM s6 hy6 (fun t => (t5 t).e0) (fun t => (t5 t).e5) (fun t => (t5 t).e6) hR
theorem F14_use {d : Int} {tc : Nat} {t : Tok} (hL : LOK L) (hM : ∀ id, SS r rv0 id → M id) (hp : p ≤ L.length) (hlen : rows0.length + 1 ≤ p) (hcv : tc ≠ v) (e4 : tm 4 = .ptr tc 0) (hc : h.obj tc = some (oTok t)) {pl : Int} (s : SI h0 h r tk L en rv0 rows0 v p rv d0 [] (encRA (⟨t.text, sEmpty, [], 0, 0, pl⟩, nilS))) (tm_ : TM tm r v d rows0.length)
    (hR : Fin h0 r tk L en rv0 rows0 R (match argsP L en (L.length + 1) p [] with | .error e => .error e | .ok (l, p') => lineP L en p' ⟨sUse, t.text, l, 0, 0, pl⟩)) :
    F14.k25 (fun id => M id ∨ h0.next ≤ id) (Ab.bodyQ Try.prog [] R) (Ab.bodyP R) ⟨tm, []⟩ h := by
  simp only [F14.k25, F14.t25]
  refine ⟨fun _ => tc, by simp [hc], ?_⟩
  simp only [tm_.e5, e4, pFld_ptr, lLd_f, hc, ldk_mk, Nat.zero_add, List.getElem?_cons_succ, List.getElem?_cons_zero, cellK_some, eStore_f, s.vo, avC_str, stk_mk]
  refine ⟨by simp, ⟨⟨.inr s.vn, by simp; exact fun e => hcv e.symm⟩, rfl, rfl, by simp [encRA]⟩, ?_⟩
  have s1 := s.set 0 [.sc (.string sUse)]
  simp only [s1.vo, stk_mk]
  refine ⟨⟨.inr s.vn, rfl, rfl, by simp [encRA]⟩, ?_⟩
  have s2 := s1.set 1 [.sc (.string t.text)]
  have t1 := tm_.puts [(55, .ptr tc 1), (56, .sc (.string t.text)), (57, .ptr v 0), (58, .ptr v 1)] (by simp)
  show F14.k24 _ _ _ ⟨puts tm [(55, .ptr tc 1), (56, .sc (.string t.text)), (57, .ptr v 0), (58, .ptr v 1)], []⟩ _
  generalize puts tm [(55, .ptr tc 1), (56, .sc (.string t.text)), (57, .ptr v 0), (58, .ptr v 1)] = tm1 at *
  generalize (h.put v 0 [.sc (.string sUse)]).put v 1 [.sc (.string t.text)] = h1 at *
  unfold F14.k24
  generalize hX : argsP L en (L.length + 1) p [] = X at hR
  have hL0 := hL.len
  refine aLoop_of (ι := Nat × Nat × List Arg) (fun x s' h' => s'.ds = [] ∧ TM s'.tm r v d rows0.length ∧ x.2.1 ≤ L.length ∧ L.length < x.2.1 + x.1 ∧ x.2.2.length ≤ x.2.1 ∧ argsP L en x.1 x.2.1 x.2.2 = X ∧
    ∃ a, SI h0 h' r tk L en rv0 rows0 v x.2.1 rv d0 [] (encRA (⟨sUse, t.text, x.2.2, 0, 0, pl⟩, a)) ∧ RowsA h' rv (rows0 ++ d0 :: []) a ∧ SlL Arg.enc 2 53 h' a x.2.2 ∧ InS (h0.next ≤ ·) a) (fun x => x.1) (L.length + 1, p, []) ?_ ?_
  · exact ⟨rfl, t1, hp, by simp only; omega, by simp, hX, nilS, s2, .nil s2.rs.rows, .nil, fun _ _ _ he => by cases he⟩
  rintro ⟨n, q, acc⟩ ⟨tm2, ds⟩ h2 ⟨rfl, t2, hq, hqn, hacc, hX2, a, s2, ra2, ha2, hown2⟩
  simp only at t2 hq hqn hacc hX2 s2 ra2 ha2
  rw [F14.l2]
  cases n with
  | zero => omega
  | succ n =>
    simp only [argsP] at hX2
    simp only [F14.k23, F14.t23, t2.e0]
    refine ⟨fun _ => False, fun _ h => h.elim, plain_ok s2.rs.r s2.rs.t ?_⟩
    have t3 := fun b => t2.puts [(59, .ptr r 0), (60, .sc (.bool b))] (by simp)
    cases hpl : plainP L q with
    | false =>
      simp only [hpl, Bool.false_eq_true, if_false] at hX2
      rw [← hX2] at hR
      have e87 : puts tm2 [(59, .ptr r 0), (60, .sc (.bool false))] 60 = .sc (.bool false) := by simp
      have t4 := t3 false
      show F14.k22 _ _ _ ⟨puts tm2 [(59, .ptr r 0), (60, .sc (.bool false))], []⟩ h2
      generalize puts tm2 [(59, .ptr r 0), (60, .sc (.bool false))] = tm3 at *
      simp only [F14.k22, F14.t22, e87, aIf_b, Bool.false_eq_true, false_implies, true_and, true_implies, thenQ, blockQ, if_true]
      simp only [F14.k20, F14.t20, t4.e0]
      have t5 := fun t => t4.puts [(68, .ptr r 0), (69, t)] (by simp)
      exact F14_line (row := ⟨sUse, t.text, acc, 0, 0, pl⟩) (a := a) hL hM s2 ha2 (fun t => (t5 t).e0) (fun t => (t5 t).e5) (fun t => (t5 t).e6) hR
    | true =>
      simp only [hpl, if_true] at hX2
      have e87 : puts tm2 [(59, .ptr r 0), (60, .sc (.bool true))] 60 = .sc (.bool true) := by simp
      have t4 := t3 true
      show F14.k22 _ _ _ ⟨puts tm2 [(59, .ptr r 0), (60, .sc (.bool true))], []⟩ h2
      generalize puts tm2 [(59, .ptr r 0), (60, .sc (.bool true))] = tm3 at *
      simp only [F14.k22, F14.t22, e87, aIf_b, Bool.true_eq_false, false_implies, and_true, true_implies]
      simp only [F14.k21, F14.t21]
      refine ⟨fun _ => v, by simp [s2.vo], ?_⟩
      simp only [t4.e5, t4.e0, pFld_ptr, lLd_f, s2.vo, ldk_mk, Nat.zero_add]
      simp only [encRA, List.getElem?_cons_succ, List.getElem?_cons_zero, cellK_some]
      refine ⟨by simp, (· = r), fun id hid _ => ?_, argument_ok rfl hL.len hq hL.dig hL.txt s2.rs.r s2.rs.t ?_⟩
      · have := s2.vr
        exact hid ▸ ⟨.inl (hM r (.inl rfl)), by simp; exact fun e => this e.symm⟩
      cases hs : argP L en q with
      | error e =>
        rw [hs] at hX2
        rw [← hX2] at hR
        intro h' f3
        exact ⟨rfl, hR _ (s2.fr.trans (f3.mono fun _ h => .inl (.inl h)))⟩
      | ok x =>
        obtain ⟨x, q2⟩ := x
        rw [hs] at hX2
        simp only at hX2
        intro h3 f3 r3
        have s3 := s2.call f3 r3
        have ra3 := ra2.call s2 f3
        have ha3 := args_keep ha2 f3 s2.a_call
        have hlt2 := argP_ok hs
        show eBSl (some (2, 53, [.string ⟨#[]⟩, .int .i64 0])) 1 [(0, .agg x.enc)] h3 _
        refine st_push (x := x) (fun id hid => Or.inr hid) s3 ra3 ha3 hown2 (by omega) ?_
        intro v1 y h6 s6 ra6 hy6 iy6
        simp only [thenQ]
        exact ⟨(n, q2, acc ++ [x]), by simp, trivial, t4.puts _ (by simp), by simp only; omega, by simp only; omega, by simp; omega, hX2, y, s6, ra6, hy6, iy6⟩
end
end Go.Proofs.Ythkkgbmjjpcfaaa

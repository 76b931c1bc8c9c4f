/- What is shown is scanned and read as the same rows; the law's walk. No condition. -/
import Derived.Test.YthkkgbmjjpcfaaaDoorSb
set_option maxRecDepth 100000
namespace Go.Proofs.YthkkgbmjjpcfaaaDoor
open Go.Ab
def Dr (s : ByteArray) (i : Nat) (u : List UInt8) : Prop := (ls s).drop i = u ∧ i ≤ s.size
section
variable {s : ByteArray} {i j k : Nat} {u v w : List UInt8} {c : UInt8}
theorem ls_len (s : ByteArray) : (ls s).length = s.size := rfl
theorem Dr.app (h : Dr s i (u ++ v)) : Dr s (i + u.length) v := by
  refine ⟨by rw [← List.drop_drop, h.1, List.drop_left], ?_⟩
  have := congrArg List.length h.1
  rw [List.length_drop, ls_len, List.length_append] at this
  have := h.2
  omega
theorem Dr.size (h : Dr s i u) : s.size = i + u.length := by
  have := congrArg List.length h.1
  rw [List.length_drop, ls_len] at this
  have := h.2
  omega
theorem Dr.lt (h : Dr s i (c :: v)) : i < s.size := by have := h.size; simp at this; omega
theorem Dr.byte (h : Dr s i (c :: v)) : byteAt s i = c.toNat := by
  have hlt := h.lt
  have h1 : (ls s)[i]? = some c := by
    have := congrArg (fun l => l[0]?) h.1
    simpa using this
  unfold byteAt
  have h2 : s[i]? = some c := by
    rw [getElem?_pos s i hlt]
    have h3 : (ls s)[i]'(by rw [ls_len]; exact hlt) = c := by
      rw [List.getElem?_eq_getElem (by rw [ls_len]; exact hlt)] at h1
      exact Option.some.inj h1
    rw [← h3]; rfl
  rw [h2]
theorem Dr.tail (h : Dr s i (c :: v)) : Dr s (i + 1) v := Dr.app (u := [c]) h
theorem Dr.ext (h : Dr s i (u ++ v)) : s.extract i (i + u.length) = bs u := by
  apply ByteArray.ext
  apply Array.ext'
  have : (s.extract i (i + u.length)).data.toList = ((ls s).drop i).take u.length := by
    simp [ByteArray.data_extract, List.extract_eq_take_drop]
  rw [this, h.1, List.take_left]
theorem run_dr (p : Int → Bool) : ∀ {u : List UInt8} {i : Nat}, Dr s i (u ++ v) → (∀ c ∈ u, p c.toNat = true) → (∀ c ∈ v.head?, p (c.toNat : Nat) = false) → runS p s i = i + u.length
  | [], i, h, _, hv => by
    rw [runS_b, if_neg]; · rfl
    rintro ⟨h1, h2⟩
    cases v with
    | nil => have := h.size; simp at this; omega
    | cons c v =>
      rw [Dr.byte h] at h2
      have := hv c (by simp)
      rw [h2] at this; cases this
  | c :: u, i, h, hu, hv => by
    have h1 : Dr s i (c :: (u ++ v)) := h
    rw [runS_b, if_pos ⟨h1.lt, by rw [h1.byte]; exact hu c (by simp)⟩, run_dr p h1.tail (fun z hz => hu z (by simp [hz])) hv]
    simp; omega
theorem run_all (p : Int → Bool) (s : ByteArray) : ∀ (n i : Nat), s.size - i = n → i ≤ s.size → runS p s i = s.size → ∀ c ∈ (ls s).drop i, p (c.toNat : Nat) = true := by
  intro n
  induction n with
  | zero => intro i h1 h2 _ c hc; rw [List.drop_of_length_le (by rw [ls_len]; omega)] at hc; cases hc
  | succ n ih =>
    intro i h1 h2 h3 c hc
    have hlt : i < (ls s).length := by rw [ls_len]; omega
    have e : (ls s).drop i = (ls s)[i] :: (ls s).drop (i + 1) := List.drop_eq_getElem_cons hlt
    have hd : Dr s i ((ls s)[i] :: (ls s).drop (i + 1)) := ⟨e, by omega⟩
    rw [runS_b] at h3
    split at h3
    · rename_i hp
      rw [hd.byte] at hp
      rw [e] at hc
      rcases List.mem_cons.1 hc with hc | hc
      · subst hc; exact hp.2
      · exact ih (i + 1) (by omega) (by omega) h3 c hc
    · omega
theorem name_bytes (h : isNameS s = true) : ∃ c w, ls s = c :: w ∧ isLetter (c.toNat : Nat) = true ∧ ∀ z ∈ c :: w, isNameB (z.toNat : Nat) = true := by
  unfold isNameS at h
  simp only [Bool.and_eq_true, decide_eq_true_eq, beq_iff_eq] at h
  obtain ⟨⟨h1, h2⟩, h3⟩ := h
  have ha := run_all isNameB s _ 0 rfl (by omega) h3
  rw [List.drop_zero] at ha
  cases hl : ls s with
  | nil => have := ls_len s; rw [hl] at this; simp at this; omega
  | cons c w =>
    rw [hl] at ha
    have hd : Dr s 0 (c :: w) := ⟨by rw [List.drop_zero]; exact hl, by omega⟩
    rw [hd.byte] at h2
    exact ⟨c, w, rfl, h2, ha⟩
theorem Reach.trans {i j k : Nat} {a b c : List Tok} (h1 : Reach s i a j b) (h2 : Reach s j b k c) : Reach s i a k c := by
  induction h1 with
  | refl => exact h2
  | skip a b c _ ih => exact .skip a b c (ih h2)
  | tok a b c _ ih => exact .tok a b c (ih h2)
def RT (s : ByteArray) (i j : Nat) (ks : List KTk) : Prop := ∃ T : List Tok, T.map kt = ks ∧ ∀ acc, Reach s i acc j (acc ++ T)
theorem RT.nil : RT s i i [] := ⟨[], rfl, fun acc => by rw [List.append_nil]; exact .refl _ _⟩
theorem RT.app {a b : List KTk} (h1 : RT s i j a) (h2 : RT s j k b) : RT s i k (a ++ b) := by
  obtain ⟨T, e, h⟩ := h1
  obtain ⟨U, e', h'⟩ := h2
  refine ⟨T ++ U, by rw [List.map_append, e, e'], fun acc => ?_⟩
  rw [← List.append_assoc]
  exact (h acc).trans (h' _)
theorem RT.one {t : Tok} (h1 : i < s.size) (h2 : lexAt s i (byteAt s i) = .tok t j) (h3 : i < j) : RT s i j [kt t] := ⟨[t], rfl, fun _ => .tok h1 h2 h3 (.refl _ _)⟩
end
def Ch0 (u : List UInt8) (ks : List KTk) : Prop := ∀ ⦃s : ByteArray⦄ ⦃i : Nat⦄ ⦃v : List UInt8⦄, Dr s i (u ++ v) → RT s i (i + u.length) ks
def Nx (v : List UInt8) : Prop := ∀ c ∈ v.head?, isNameB ((c : UInt8).toNat : Nat) = false
def Ch (u : List UInt8) (ks : List KTk) : Prop := ∀ ⦃s : ByteArray⦄ ⦃i : Nat⦄ ⦃v : List UInt8⦄, Dr s i (u ++ v) → Nx v → RT s i (i + u.length) ks
section
variable {u w : List UInt8} {a b : List KTk}
theorem Ch0.nil : Ch0 [] [] := fun _ _ _ _ => .nil
theorem Ch0.to (h : Ch0 u a) : Ch u a := fun _ _ _ d _ => h d
theorem Ch0.app (h1 : Ch0 u a) (h2 : Ch0 w b) : Ch0 (u ++ w) (a ++ b) := fun s i v d => by
  rw [List.append_assoc] at d
  rw [List.length_append, ← Nat.add_assoc]
  exact (h1 d).app (h2 d.app)
theorem Ch0.ch (h1 : Ch0 u a) (h2 : Ch w b) : Ch (u ++ w) (a ++ b) := fun s i v d hv => by
  rw [List.append_assoc] at d
  rw [List.length_append, ← Nat.add_assoc]
  exact (h1 d).app (h2 d.app hv)
theorem Nx.app {v : List UInt8} (h : Nx w) (hv : Nx v) : Nx (w ++ v) := by
  cases w with
  | nil => exact hv
  | cons c w => exact fun z hz => h z (by simpa using hz)
theorem Nx.ne {v : List UInt8} (h : Nx w) (hw : w ≠ []) : Nx (w ++ v) := by
  cases w with
  | nil => exact absurd rfl hw
  | cons c w => exact fun z hz => h z (by simpa using hz)
theorem Ch.app (h1 : Ch u a) (h2 : Ch w b) (hw : Nx w) : Ch (u ++ w) (a ++ b) := fun s i v d hv => by
  rw [List.append_assoc] at d
  rw [List.length_append, ← Nat.add_assoc]
  exact (h1 d (hw.app hv)).app (h2 d.app hv)
theorem Ch.end (h1 : Ch u a) (h2 : Ch0 w b) (hw : Nx w) (hn : w ≠ []) : Ch0 (u ++ w) (a ++ b) := fun s i v d => by
  rw [List.append_assoc] at d
  rw [List.length_append, ← Nat.add_assoc]
  exact (h1 d (hw.ne hn)).app (h2 d.app)
theorem blank_ch {c : UInt8} (hc : isBlank (c.toNat : Nat) = true) : Ch0 [c] [] := fun s i v d => by
  have hl : lexAt s i (byteAt s i) = .skip (i + 1) := by rw [Dr.byte d]; unfold lexAt; rw [if_pos hc]
  exact ⟨[], rfl, fun acc => by rw [List.append_nil]; exact .skip (Dr.lt d) hl (Nat.lt_succ_self _) (.refl _ _)⟩
theorem sign_ch {c : UInt8} (hc : (isBlank (c.toNat : Nat) || ((c.toNat : Nat) : Int) == 35 || isLetter (c.toNat : Nat) || isDigit (c.toNat : Nat)) = false) (hs : isSignB (c.toNat : Nat) = true) : Ch0 [c] [(3, bs [c])] := fun s i v d => by
  simp only [Bool.or_eq_false_iff] at hc
  obtain ⟨⟨⟨h1, h2⟩, h3⟩, h4⟩ := hc
  have hl : lexAt s i (byteAt s i) = .tok ⟨3, bs [c], i⟩ (i + 1) := by
    rw [Dr.byte d]; unfold lexAt
    rw [h1, h2, h3, h4, hs, if_neg (by decide), if_neg (by decide), if_neg (by decide), if_neg (by decide), if_pos rfl, show s.extract i (i + 1) = bs [c] from Dr.ext (u := [c]) d]
  exact RT.one (Dr.lt d) hl (Nat.lt_succ_self _)
theorem letter_first {c : Int} (h : isLetter c = true) : isBlank c = false ∧ (c == 35) = false := by
  unfold isLetter at h
  simp only [Bool.or_eq_true, Bool.and_eq_true, decide_eq_true_eq, beq_iff_eq] at h
  unfold isBlank
  simp only [Bool.or_eq_false_iff, beq_eq_false_iff_ne]
  omega
theorem digit_first {c : Int} (h : isDigit c = true) : isBlank c = false ∧ (c == 35) = false ∧ isLetter c = false := by
  unfold isDigit at h
  simp only [Bool.and_eq_true, decide_eq_true_eq] at h
  unfold isBlank isLetter
  simp only [Bool.or_eq_false_iff, Bool.and_eq_false_iff, decide_eq_false_iff_not, beq_eq_false_iff_ne]
  omega
theorem word_ch {n : ByteArray} (h : isNameS n = true) : Ch (ls n) [(1, n)] := fun s i v d hv => by
  obtain ⟨c, w, e, hc, ha⟩ := name_bytes h
  rw [e] at d
  have hr := run_dr isNameB d ha hv
  obtain ⟨h1, h2⟩ := letter_first hc
  have hx := Dr.ext d
  have hl : lexAt s i (byteAt s i) = .tok ⟨1, n, i⟩ (i + (c :: w).length) := by
    rw [Dr.byte d]; unfold lexAt
    rw [h1, h2, hc, if_neg (by decide), if_neg (by decide), if_pos rfl, hr, hx, ← e]
  rw [e]
  exact RT.one (Dr.lt d) hl (by simp)
theorem num_ch {c : UInt8} {w : List UInt8} (ha : ∀ z ∈ c :: w, isDigit ((z : UInt8).toNat : Nat) = true) : Ch (c :: w) [(2, bs (c :: w))] := fun s i v d hv => by
  have hd : ∀ z ∈ v.head?, isDigit ((z : UInt8).toNat : Nat) = false := fun z hz => by
    have := hv z hz; unfold isNameB at this; simp only [Bool.or_eq_false_iff] at this; exact this.2
  have hr := run_dr isDigit d ha hd
  obtain ⟨h1, h2, h3⟩ := digit_first (ha c (by simp))
  have hx := Dr.ext d
  have hno : (decide (i + (c :: w).length < s.size) && isLetter (byteAt s (i + (c :: w).length))) = false := by
    have d2 := d.app
    cases v with
    | nil => have := d2.size; rw [List.length_nil, Nat.add_zero] at this; rw [decide_eq_false (by omega), Bool.false_and]
    | cons z v =>
      rw [Dr.byte d2]
      have := hv z (by simp)
      unfold isNameB at this; simp only [Bool.or_eq_false_iff] at this
      rw [this.1, Bool.and_false]
  have hl : lexAt s i (byteAt s i) = .tok ⟨2, bs (c :: w), i⟩ (i + (c :: w).length) := by
    rw [Dr.byte d]; unfold lexAt
    rw [h1, h2, h3, ha c (by simp), if_neg (by decide), if_neg (by decide), if_neg (by decide), if_pos rfl, hr, hno, if_neg (by decide), hx]
  exact RT.one (Dr.lt d) hl (by simp)
end
theorem dec_digits : ∀ (k n : Nat), n < k → ∀ z ∈ Lib.decDigits n, isDigit ((z : UInt8).toNat : Nat) = true
  | 0, _, h => by omega
  | k + 1, n, h => by
    intro z hz
    have one : ∀ m, m < 10 → isDigit ((UInt8.ofNat (48 + m)).toNat : Nat) = true := by decide
    by_cases h10 : n < 10
    · rw [Lib.decDigits_one h10] at hz
      simp only [List.mem_singleton] at hz
      subst hz
      exact one n h10
    · rw [Lib.decDigits, dif_neg h10] at hz
      rcases List.mem_append.1 hz with hz | hz
      · exact dec_digits k (n / 10) (by omega) z hz
      · simp only [List.mem_singleton] at hz
        subst hz
        exact one _ (Nat.mod_lt _ (by decide))
theorem dec_ne (n : Nat) : Lib.decDigits n ≠ [] := by
  rw [Lib.decDigits]
  split
  · simp
  · simp
theorem dec_ch (n : Nat) : Ch (Lib.decDigits n) [(2, bs (Lib.decDigits n))] := by
  have h := dec_digits (n + 1) n (by omega)
  have hn := dec_ne n
  cases e : Lib.decDigits n with
  | nil => exact absurd e hn
  | cons c w => rw [e] at h; exact num_ch h
theorem itoa_ch {z : Int} (h : 0 ≤ z) : Ch (Lib.itoa z) [(2, bs (Lib.itoa z))] := by
  obtain ⟨n, rfl⟩ : ∃ n : Nat, z = n := ⟨z.toNat, by omega⟩
  rw [Lib.itoa_nonneg]
  exact dec_ch n
theorem valGo_app : ∀ (l : List UInt8) (c : UInt8) (n : Int), valGo (l ++ [c]) n = match valGo l n with | none => none | some m => if m * 10 + ((c.toNat : Int) - 48) > 9007199254740991 then none else some (m * 10 + ((c.toNat : Int) - 48))
  | [], c, n => by simp [valGo]
  | d :: l, c, n => by
    rw [List.cons_append, valGo, valGo]
    split
    · rfl
    · exact valGo_app l c _
theorem valGo_dec : ∀ (k n : Nat), n < k → n ≤ 9007199254740991 → valGo (Lib.decDigits n) 0 = some (n : Int)
  | 0, _, h, _ => by omega
  | k + 1, n, h, hm => by
    have one : ∀ m, m < 10 → ((UInt8.ofNat (48 + m)).toNat : Int) = 48 + m := by decide
    by_cases h10 : n < 10
    · rw [Lib.decDigits_one h10]
      simp only [valGo, one n h10]
      rw [if_neg (by omega)]
      congr 1; omega
    · rw [Lib.decDigits, dif_neg h10, valGo_app, valGo_dec k (n / 10) (by omega) (by omega)]
      simp only [one _ (Nat.mod_lt n (by decide : 10 > 0))]
      rw [if_neg (by omega)]
      congr 1; omega
theorem valGo_itoa {z : Int} (h : 0 ≤ z) (h1 : z ≤ 9007199254740991) : valGo (Lib.itoa z) 0 = some z := by
  obtain ⟨n, rfl⟩ : ∃ n : Nat, z = n := ⟨z.toNat, by omega⟩
  rw [Lib.itoa_nonneg]
  exact valGo_dec (n + 1) n (by omega) (by omega)
end Go.Proofs.YthkkgbmjjpcfaaaDoor
namespace Go.Proofs.YthkkgbmjjpcfaaaDoor
open Go.Ab
inductive FitK (r : Row) : Prop
  | regs : (r.kind = sQubits ∨ r.kind = sBits) → plainS r.name = true → 0 ≤ r.num → r.num ≤ 9007199254740991 → r.args = [] → r.rows = 0 → FitK r
  | gate : r.kind = sGate → plainS r.name = true → r.num = 0 → (∀ g ∈ r.args, argOk true g = true) → 0 ≤ r.rows → FitK r
  | rep : r.kind = sRepeat → r.name = ByteArray.empty → 0 ≤ r.num → r.num ≤ 9007199254740991 → r.args = [] → 0 ≤ r.rows → FitK r
  | cond : r.kind = sIf → plainS r.name = true → 0 ≤ r.num → r.num ≤ 9007199254740991 → r.args = [] → 0 ≤ r.rows → FitK r
  | meas : r.kind = sMeasure → r.name = ByteArray.empty → r.num = 0 → r.args.length = 2 → (∀ g ∈ r.args, argOk false g = true) → r.rows = 0 → FitK r
  | reset : r.kind = sReset → r.name = ByteArray.empty → r.num = 0 → r.args.length = 1 → (∀ g ∈ r.args, argOk false g = true) → r.rows = 0 → FitK r
  | use : r.kind = sUse → plainS r.name = true → r.num = 0 → (∀ g ∈ r.args, argOk false g = true) → r.rows = 0 → FitK r
theorem plain_empty : plainS sEmpty = false := by
  cases h : plainS sEmpty with
  | false => rfl
  | true => exact absurd rfl (plain_ne h)
theorem fitK_of {r : Row} (h : fitP r = true) : FitK r := by
  unfold fitP rightP shapeP at h
  by_cases k1 : r.kind = sQubits ∨ r.kind = sBits
  · have : ¬ r.kind = sGate := by rcases k1 with k | k <;> rw [k] <;> decide
    simp [k1, headOk, countedP, this] at h
    exact .regs k1 (by simpa using h.1.1.1.1.1) h.1.1.1.1.2.1 h.1.1.1.1.2.2 h.1.1.1.2 h.1.1.2
  by_cases k2 : r.kind = sGate
  · simp [k2, sQubits, sBits, sGate, headOk] at h
    exact .gate k2 (by simpa using h.1.1.1) h.1.1.2 h.1.2 h.2
  by_cases k3 : r.kind = sRepeat
  · simp [k3, sQubits, sBits, sGate, sRepeat, headOk, countedP] at h
    exact .rep k3 h.1.1.1.1.2 h.1.1.1.2.1 h.1.1.1.2.2 h.1.1.2 h.2
  by_cases k4 : r.kind = sIf
  · simp [k4, sQubits, sBits, sGate, sRepeat, sIf, headOk, countedP] at h
    exact .cond k4 (by simpa using h.1.1.1.1) h.1.1.1.2.1 h.1.1.1.2.2 h.1.1.2 h.2
  by_cases k5 : r.kind = sMeasure
  · simp [k5, sQubits, sBits, sGate, sRepeat, sIf, sMeasure, headOk] at h
    exact .meas k5 h.1.1.1.1.1.2 h.1.1.1.1.2 (by have := h.1.1.1.2; omega) h.1.2 h.1.1.2
  by_cases k6 : r.kind = sReset
  · simp [k6, sQubits, sBits, sGate, sRepeat, sIf, sMeasure, sReset, headOk] at h
    exact .reset k6 h.1.1.1.1.1.2 h.1.1.1.1.2 (by have := h.1.1.1.2; omega) h.1.2 h.1.1.2
  by_cases k7 : r.kind = sUse
  · simp [k7, sQubits, sBits, sGate, sRepeat, sIf, sMeasure, sReset, sUse, headOk] at h
    exact .use k7 h.1.1.1.1 h.1.1.1.2 h.1.2 h.1.1.2
  simp [k1, k2, k3, k4, k5, k6, k7, headOk] at h
theorem plain_emp : plainS ByteArray.empty = false := plain_empty
theorem fitK_to {r : Row} (h : FitK r) : fitP r = true := by
  unfold fitP rightP shapeP
  cases h with
  | regs k a b c d e =>
    have : ¬ r.kind = sGate := by rcases k with k | k <;> rw [k] <;> decide
    simp [k, headOk, countedP, a, b, c, d, e]
  | gate k a b c d => simp [k, sQubits, sBits, sGate, headOk, a, b, d]; exact c
  | rep k a b c d e => simp [k, sQubits, sBits, sGate, sRepeat, headOk, countedP, a, plain_emp, b, c, d, e]
  | cond k a b c d e => simp [k, sQubits, sBits, sGate, sRepeat, sIf, headOk, countedP, a, b, c, d, e]
  | meas k a b c d e => simp [k, sQubits, sBits, sGate, sRepeat, sIf, sMeasure, headOk, a, plain_emp, b, c, e]; exact d
  | reset k a b c d e => simp [k, sQubits, sBits, sGate, sRepeat, sIf, sMeasure, sReset, headOk, a, plain_emp, b, c, e]; exact d
  | use k a b c d => simp [k, sQubits, sBits, sGate, sRepeat, sIf, sMeasure, sReset, sUse, headOk, a, b, d]; exact c
def argK (g : Arg) : List KTk := (1, g.name) :: (if g.index < 0 then [] else [kSg sIxO, (2, bs (Lib.itoa g.index)), kSg sIxC])
def baseK (r : Row) : List KTk := if r.kind = sUse then [(1, r.name)] else if r.name = ByteArray.empty then [(1, r.kind)] else [(1, r.kind), (1, r.name)]
def headK (r : Row) : List KTk := baseK r ++ (if numK r.kind then [(2, bs (Lib.itoa r.num))] else []) ++ r.args.flatMap argK
def tokR (rows : List Row) : List KTk :=
  match rows with
  | [] => []
  | r :: rest => headK r ++ (if bodyK r.kind then kSg sOpen :: (tokR (rest.take r.rows.toNat) ++ [kSg sShut]) else [kSg sSemi]) ++ tokR (rest.drop r.rows.toNat)
termination_by rows.length
decreasing_by all_goals (simp only [List.length_take, List.length_drop, List.length_cons]; omega)
theorem tokR_cons {r : Row} {rest : List Row} : tokR (r :: rest) = headK r ++ (if bodyK r.kind then kSg sOpen :: (tokR (rest.take r.rows.toNat) ++ [kSg sShut]) else [kSg sSemi]) ++ tokR (rest.drop r.rows.toNat) := by rw [tokR]
theorem tokR_nil : tokR [] = [] := by rw [tokR]
section
variable {u : List UInt8} {a : List KTk}
theorem b32 : Ch0 [32] [] := blank_ch (by decide)
theorem b10 : Ch0 [10] [] := blank_ch (by decide)
theorem s123 : Ch0 [123] [kSg sOpen] := sign_ch (by decide) (by decide)
theorem s125 : Ch0 [125] [kSg sShut] := sign_ch (by decide) (by decide)
theorem s59 : Ch0 [59] [kSg sSemi] := sign_ch (by decide) (by decide)
theorem s91 : Ch0 [91] [kSg sIxO] := sign_ch (by decide) (by decide)
theorem s93 : Ch0 [93] [kSg sIxC] := sign_ch (by decide) (by decide)
theorem nx_cons {c : UInt8} (h : isNameB (c.toNat : Nat) = false) : Nx (c :: u) := fun z hz => by
  simp only [List.head?_cons, Option.mem_def, Option.some.injEq] at hz
  subst hz; exact h
theorem nx_nil : Nx [] := fun z hz => by cases hz
theorem sp (h : Ch u a) : Ch (32 :: u) a := b32.ch h
theorem plain_name {s : ByteArray} (h : plainS s = true) : isNameS s = true := by
  unfold plainS at h; simp only [Bool.and_eq_true] at h; exact h.1
theorem arg_ch {b : Bool} {g : Arg} (h : argOk b g = true) : Ch (argT g) (argK g) := by
  unfold argOk at h
  simp only [Bool.and_eq_true, decide_eq_true_eq] at h
  unfold argT argK
  by_cases hi : g.index < 0
  · rw [if_pos hi, if_pos hi, List.append_nil]
    exact word_ch (plain_name h.1.1.1)
  · rw [if_neg hi, if_neg hi]
    have h1 : Ch0 (91 :: (Lib.itoa g.index ++ [93])) [kSg sIxO, (2, bs (Lib.itoa g.index)), kSg sIxC] := s91.app ((itoa_ch (by omega)).end s93 (nx_cons (by decide)) (by simp))
    exact (Ch.app (word_ch (plain_name h.1.1.1)) h1.to (nx_cons (by decide)))
theorem args_ch {b : Bool} : ∀ {l : List Arg}, (∀ g ∈ l, argOk b g = true) → Ch (argsT l) (l.flatMap argK) ∧ Nx (argsT l)
  | [], _ => ⟨Ch0.nil.to, nx_nil⟩
  | g :: l, h => by
    have h1 := sp (arg_ch (h g (by simp)))
    have ⟨h2, h3⟩ := args_ch (l := l) (fun z hz => h z (by simp [hz]))
    have e : argsT (g :: l) = (32 :: argT g) ++ argsT l := by simp [argsT]
    rw [e, List.flatMap_cons]
    exact ⟨h1.app h2 h3, nx_cons (by decide)⟩
end
end Go.Proofs.YthkkgbmjjpcfaaaDoor
namespace Go.Proofs.YthkkgbmjjpcfaaaDoor
open Go.Ab
theorem kind_word {k : ByteArray} (h : k = sQubits ∨ k = sBits ∨ k = sGate ∨ k = sRepeat ∨ k = sIf ∨ k = sMeasure ∨ k = sReset) : isNameS k = true ∧ k ≠ sUse := by
  rcases h with h | h | h | h | h | h | h <;> subst h
  all_goals exact ⟨by decide +kernel, by decide⟩
theorem num_part {b : Bool} {z : Int} (h : b = true → 0 ≤ z) : Ch (if b then 32 :: Lib.itoa z else []) (if b then [(2, bs (Lib.itoa z))] else []) ∧ Nx (if b then 32 :: Lib.itoa z else []) := by
  cases b with
  | false => exact ⟨Ch0.nil.to, nx_nil⟩
  | true => exact ⟨sp (itoa_ch (h rfl)), nx_cons (by decide)⟩
theorem head_ch {r : Row} (hf : fitP r = true) : Ch (refHead r) (headK r) := by
  unfold refHead headK
  have hn := fit_num hf
  have hk := fitK_of hf
  have ha : ∃ b, ∀ g ∈ r.args, argOk b g = true := by
    cases hk with
    | regs _ _ _ _ a _ => exact ⟨true, by rw [a]; simp⟩
    | gate _ _ _ a _ => exact ⟨_, a⟩
    | rep _ _ _ _ a _ => exact ⟨true, by rw [a]; simp⟩
    | cond _ _ _ _ a _ => exact ⟨true, by rw [a]; simp⟩
    | meas _ _ _ _ a _ => exact ⟨_, a⟩
    | reset _ _ _ _ a _ => exact ⟨_, a⟩
    | use _ _ _ a _ => exact ⟨_, a⟩
  obtain ⟨b, ha⟩ := ha
  obtain ⟨a1, a2⟩ := args_ch ha
  obtain ⟨n1, n2⟩ := num_part (b := numK r.kind) (z := r.num) (fun _ => hn.1)
  have hb : Ch (baseT r) (baseK r) := by
    have named : plainS r.name = true → isNameS r.kind = true → r.kind ≠ sUse → Ch (baseT r) (baseK r) := fun h1 h2 h3 => by
      unfold baseT baseK
      rw [if_neg h3, if_neg h3, if_neg (plain_ne h1), if_neg (plain_ne h1)]
      exact (word_ch h2).app (sp (word_ch (plain_name h1))) (nx_cons (by decide))
    have bare : r.name = ByteArray.empty → isNameS r.kind = true → r.kind ≠ sUse → Ch (baseT r) (baseK r) := fun h1 h2 h3 => by
      unfold baseT baseK
      rw [if_neg h3, if_neg h3, if_pos h1, if_pos h1]
      exact word_ch h2
    cases hk with
    | regs k a _ _ _ _ => obtain ⟨w1, w2⟩ := kind_word (k := r.kind) (by rcases k with k | k <;> simp [k]); exact named a w1 w2
    | gate k a _ _ _ => obtain ⟨w1, w2⟩ := kind_word (k := r.kind) (by simp [k]); exact named a w1 w2
    | rep k a _ _ _ _ => obtain ⟨w1, w2⟩ := kind_word (k := r.kind) (by simp [k]); exact bare a w1 w2
    | cond k a _ _ _ _ => obtain ⟨w1, w2⟩ := kind_word (k := r.kind) (by simp [k]); exact named a w1 w2
    | meas k a _ _ _ _ => obtain ⟨w1, w2⟩ := kind_word (k := r.kind) (by simp [k]); exact bare a w1 w2
    | reset k a _ _ _ _ => obtain ⟨w1, w2⟩ := kind_word (k := r.kind) (by simp [k]); exact bare a w1 w2
    | use k a _ _ _ =>
      unfold baseT baseK
      rw [if_pos k, if_pos k]
      exact word_ch (plain_name a)
  exact (hb.app n1 n2).app a1 a2
theorem ind_ch : ∀ {ind : List UInt8}, (∀ c ∈ ind, c = 32) → Ch0 ind []
  | [], _ => Ch0.nil
  | c :: l, h => by
    have : c = 32 := h c (by simp)
    subst this
    exact b32.app (ind_ch (ind := l) (fun z hz => h z (by simp [hz])))
theorem text_ch (n : Nat) : ∀ {d : Nat} {ind : List UInt8} {rows : List Row}, rows.length < n → okRows d rows = true → (∀ c ∈ ind, c = 32) → Ch0 (textP ind rows) (tokR rows) := by
  induction n with
  | zero => intro d ind rows h; omega
  | succ n ih =>
    intro d ind rows hn hok hi
    cases rows with
    | nil => rw [textP_nil, tokR_nil]; exact Ch0.nil
    | cons r rest =>
      obtain ⟨_, hfit, _, _, hin, _, hrest⟩ := ok_cons hok
      simp only [List.length_cons] at hn
      have hlt : (rest.take r.rows.toNat).length < n := by rw [List.length_take]; omega
      have hld : (rest.drop r.rows.toNat).length < n := by rw [List.length_drop]; omega
      have h1 := head_ch hfit
      have h2 := ih hld hrest hi
      have hI := ind_ch hi
      rw [textP_cons, tokR_cons]
      cases hb : bodyK r.kind with
      | false =>
        simp only [Bool.false_eq_true, if_false]
        have e : Ch0 ([59] ++ [10]) ([kSg sSemi] ++ []) := s59.app b10
        have h4 := Ch0.app (Ch.end (hI.ch h1) e (nx_cons (by decide)) (by simp)) h2
        simpa [List.append_assoc] using h4
      | true =>
        simp only [if_true]
        have h3 := ih hlt hin (ind := ind ++ [32, 32]) (fun c hc => by
          rcases List.mem_append.1 hc with h | h
          · exact hi c h
          · simpa using h)
        have e : Ch0 ([32] ++ ([123] ++ [10])) ([] ++ ([kSg sOpen] ++ [])) := b32.app (s123.app b10)
        have e2 : Ch0 ([125] ++ [10]) ([kSg sShut] ++ []) := s125.app b10
        have h4 := Ch0.app (Ch0.app (Ch0.app (Ch0.app (Ch.end (hI.ch h1) e (nx_cons (by decide)) (by simp)) h3) hI) e2) h2
        simpa [List.append_assoc] using h4
theorem text_scan {rows : List Row} (hok : okRows 0 rows = true) : ∃ L, scanS (bs (textP [] rows)) 0 [] = .ok L ∧ L.map kt = tokR rows := by
  obtain ⟨T, hT, hr⟩ := text_ch _ (Nat.lt_succ_self _) hok (ind := []) (by simp) (s := bs (textP [] rows)) (i := 0) (v := []) ⟨by simp, by omega⟩
  refine ⟨T, ?_, hT⟩
  have h1 := (hr []).scan
  rw [h1, scanS, dif_neg (by rw [bs_size]; omega)]
  rfl
theorem plain_isPl {s : ByteArray} (h : plainS s = true) : isPl (1, s) := by
  unfold plainS at h
  simp only [Bool.and_eq_true, Bool.not_eq_true'] at h
  exact ⟨rfl, h.2⟩
theorem itoa_isNm {z : Int} (h : 0 ≤ z) (h1 : z ≤ 9007199254740991) : isNm (2, bs (Lib.itoa z)) z := ⟨rfl, valGo_itoa h h1⟩
theorem arg_T {b : Bool} {g : Arg} (h : argOk b g = true) : ArgT (argK g) g := by
  unfold argOk at h
  simp only [Bool.and_eq_true, decide_eq_true_eq] at h
  obtain ⟨nm, ix⟩ := g
  unfold argK
  simp only at h ⊢
  by_cases hi : ix < 0
  · rw [if_pos hi]
    obtain rfl : ix = -1 := by omega
    exact .plain (x := (1, nm)) (plain_isPl h.1.1.1)
  · rw [if_neg hi]
    exact .ix (x := (1, nm)) (plain_isPl h.1.1.1) (itoa_isNm (by omega) h.1.2)
theorem args_T {b : Bool} : ∀ {l : List Arg}, (∀ g ∈ l, argOk b g = true) → ArgsT (l.flatMap argK) l
  | [], _ => .nil
  | g :: l, h => by
    rw [List.flatMap_cons]
    exact .cons (arg_T (h g (by simp))) (args_T (fun z hz => h z (by simp [hz])))
theorem names_T : ∀ {l : List Arg}, (∀ g ∈ l, argOk true g = true) → l.flatMap argK = l.map (fun g => ((1 : Int), g.name)) ∧ (l.map (fun g => ((1 : Int), g.name))).map (fun z => (⟨z.2, -1⟩ : Arg)) = l ∧ ∀ z ∈ l.map (fun g => ((1 : Int), g.name)), isPl z
  | [], _ => ⟨rfl, rfl, by simp⟩
  | g :: l, h => by
    obtain ⟨h1, h2, h3⟩ := names_T (l := l) (fun z hz => h z (by simp [hz]))
    have h0 := h g (by simp)
    unfold argOk at h0
    simp only [Bool.and_eq_true, decide_eq_true_eq, Bool.not_true, Bool.false_or] at h0
    obtain ⟨nm, ix⟩ := g
    simp only at h0
    obtain rfl := h0.2
    refine ⟨by rw [List.flatMap_cons, h1]; rfl, by simp only [List.map_cons] at h2 ⊢; rw [h2], ?_⟩
    intro z hz
    rw [List.map_cons] at hz
    rcases List.mem_cons.1 hz with hz | hz
    · subst hz; exact plain_isPl h0.1.1.1
    · exact h3 z hz
theorem head_Hd {r : Row} (hf : fitP r = true) : Hd (headK r) { r with rows := 0, place := 0 } (bodyK r.kind) := by
  obtain ⟨kd, nm, ar, nu, rw', pl⟩ := r
  have hk := fitK_of hf
  unfold headK baseK bodyK
  cases hk with
  | regs k a b c d e =>
    simp only at k a b c d e
    subst d
    have hu : kd ≠ sUse := by rcases k with k | k <;> rw [k] <;> decide
    have hn : numK kd = true := by rcases k with k | k <;> rw [k] <;> decide
    have hb : (decide (kd = sGate) || decide (kd = sRepeat) || decide (kd = sIf)) = false := by rcases k with k | k <;> rw [k] <;> decide
    simp only [hu, plain_ne a, hn, if_true, if_false, List.flatMap_nil, List.append_nil, hb]
    exact .regs (x := (1, kd)) (y := (1, nm)) rfl k (plain_isPl a) (itoa_isNm b c)
  | gate k a b c d =>
    simp only at k a b c d
    subst k; subst b
    have h1 := names_T c
    have hb : (decide (sGate = sGate) || decide (sGate = sRepeat) || decide (sGate = sIf)) = true := by decide
    simp only [show sGate ≠ sUse by decide, plain_ne a, show numK sGate = false by decide, if_false, Bool.false_eq_true, List.append_nil, hb, h1.1]
    have := Hd.gate (x := (1, sGate)) (y := (1, nm)) rfl rfl (plain_isPl a) h1.2.2
    rw [h1.2.1] at this
    exact this
  | rep k a b c d e =>
    simp only at k a b c d e
    subst k; subst d; subst a
    have hb : (decide (sRepeat = sGate) || decide (sRepeat = sRepeat) || decide (sRepeat = sIf)) = true := by decide
    simp only [show sRepeat ≠ sUse by decide, show numK sRepeat = true by decide, if_true, if_false, List.flatMap_nil, List.append_nil, hb]
    exact .rep (x := (1, sRepeat)) rfl rfl (itoa_isNm b c)
  | cond k a b c d e =>
    simp only at k a b c d e
    subst k; subst d
    have hb : (decide (sIf = sGate) || decide (sIf = sRepeat) || decide (sIf = sIf)) = true := by decide
    simp only [show sIf ≠ sUse by decide, plain_ne a, show numK sIf = true by decide, if_true, if_false, List.flatMap_nil, List.append_nil, hb]
    exact .cond (x := (1, sIf)) (y := (1, nm)) rfl rfl (plain_isPl a) (itoa_isNm b c)
  | meas k a b c d e =>
    simp only at k a b c d e
    subst k; subst a; subst b
    have hb : (decide (sMeasure = sGate) || decide (sMeasure = sRepeat) || decide (sMeasure = sIf)) = false := by decide
    simp only [show sMeasure ≠ sUse by decide, show numK sMeasure = false by decide, if_true, if_false, Bool.false_eq_true, List.append_nil, hb]
    match ar, c with
    | [g1, g2], _ =>
      simp only [List.flatMap_cons, List.flatMap_nil, List.append_nil]
      exact .meas (x := (1, sMeasure)) (a := argK g1) (b := argK g2) rfl rfl (arg_T (d g1 (by simp))) (arg_T (d g2 (by simp)))
  | reset k a b c d e =>
    simp only at k a b c d e
    subst k; subst a; subst b
    have hb : (decide (sReset = sGate) || decide (sReset = sRepeat) || decide (sReset = sIf)) = false := by decide
    simp only [show sReset ≠ sUse by decide, show numK sReset = false by decide, if_true, if_false, Bool.false_eq_true, List.append_nil, hb]
    match ar, c with
    | [g1], _ =>
      simp only [List.flatMap_cons, List.flatMap_nil, List.append_nil]
      exact .reset (x := (1, sReset)) rfl rfl (arg_T (d g1 (by simp)))
  | use k a b c d =>
    simp only at k a b c d
    subst k; subst b
    have hb : (decide (sUse = sGate) || decide (sUse = sRepeat) || decide (sUse = sIf)) = false := by decide
    simp only [show numK sUse = false by decide, if_true, if_false, Bool.false_eq_true, List.append_nil, hb]
    exact .use (x := (1, nm)) (plain_isPl a) (args_T c)
theorem body_rows {r : Row} (hf : fitP r = true) (hb : bodyK r.kind = false) : r.rows = 0 := by
  have hk := fitK_of hf
  unfold bodyK at hb
  cases hk with
  | regs _ _ _ _ _ e => exact e
  | gate k => rw [k] at hb; exact absurd hb (by decide)
  | rep k => rw [k] at hb; exact absurd hb (by decide)
  | cond k => rw [k] at hb; exact absurd hb (by decide)
  | meas _ _ _ _ _ e => exact e
  | reset _ _ _ _ _ e => exact e
  | use _ _ _ _ e => exact e
theorem ok_sq (n : Nat) : ∀ {d : Nat} {rows : List Row}, rows.length < n → d ≤ 32 → okRows d rows = true → ∃ rb, Sq (32 - d) (tokR rows) rb ∧ rb.map (·.1) = rows.map er := by
  induction n with
  | zero => intro d rows h; omega
  | succ n ih =>
    intro d rows hn hd hok
    cases rows with
    | nil => rw [tokR_nil]; exact ⟨[], .nil, rfl⟩
    | cons r rest =>
      obtain ⟨_, hfit, h0, hle, hin, hbd, hrest⟩ := ok_cons hok
      simp only [List.length_cons] at hn
      have hlt : (rest.take r.rows.toNat).length < n := by rw [List.length_take]; omega
      have hld : (rest.drop r.rows.toNat).length < n := by rw [List.length_drop]; omega
      have hH := head_Hd hfit
      obtain ⟨rc, hc, ec⟩ := ih hld hd hrest
      rw [tokR_cons]
      cases hb : bodyK r.kind with
      | false =>
        rw [hb] at hH
        have hz := body_rows hfit hb
        have h1 := Sq.leaf hH hc
        refine ⟨_, by simpa using h1, ?_⟩
        rw [List.map_cons, map_sh, ec]
        have e0 : r.rows.toNat = 0 := by omega
        rw [e0, List.drop_zero, List.map_cons]
        congr 1
        unfold er
        obtain ⟨kd, nm, ar, nu, rw', pl⟩ := r
        simp only at hz
        rw [hz]
      | true =>
        rw [hb] at hH
        have h32 := hbd hb
        obtain ⟨rb, hbq, eb⟩ := ih hlt (by omega) hin
        have e1 : 32 - d = 32 - (d + 1) + 1 := by omega
        rw [e1] at hc ⊢
        have h1 := Sq.held hH hbq hc
        refine ⟨_, by simpa using h1, ?_⟩
        have hl : rb.length = r.rows.toNat := by
          have := congrArg List.length eb
          simp at this; omega
        rw [List.map_cons, List.map_append, map_sh, map_sh, eb, ec, ← List.map_append, List.take_append_drop, List.map_cons]
        congr 1
        unfold er
        obtain ⟨kd, nm, ar, nu, rw', pl⟩ := r
        simp only at hl h0 ⊢
        congr 1
        omega
theorem shown_read {rows : List Row} (hok : okRows 0 rows = true) (hs : (textP [] rows).length ≤ 65536) : ∃ new, parseP (bs (textP [] rows)) = .ok new ∧ new.map er = rows.map er := by
  obtain ⟨L, h1, h2⟩ := text_scan hok
  obtain ⟨rb, h3, h4⟩ := ok_sq _ (Nat.lt_succ_self _) (by omega) hok
  obtain ⟨new, h5, h6⟩ := (sq_read (L := L) (en := (bs (textP [] rows)).size) h3).2 rfl 0 (L.length + 1) [] (by rw [List.drop_zero]; exact h2) (by have := congrArg List.length h2; simp at this; omega)
  refine ⟨new, ?_, by rw [h6, h4]⟩
  unfold parseP
  rw [if_neg (by rw [bs_size]; omega), h1]
  simpa using h5
end Go.Proofs.YthkkgbmjjpcfaaaDoor
namespace Go.Proofs.YthkkgbmjjpcfaaaDoor
open Go.Ab
theorem fitP_er (r : Row) : fitP (er r) = fitP r := rfl
theorem refHead_er (r : Row) : refHead (er r) = refHead r := rfl
theorem okRows_er (n : Nat) : ∀ {d : Nat} {A : List Row}, A.length < n → okRows d (A.map er) = okRows d A := by
  induction n with
  | zero => intro d A h; omega
  | succ n ih =>
    intro d A hn
    cases A with
    | nil => rfl
    | cons r rest =>
      simp only [List.length_cons] at hn
      rw [List.map_cons, okRows_cons, okRows_cons, fitP_er, List.length_map]
      have e1 : (er r).rows = r.rows := rfl
      have e2 : (er r).kind = r.kind := rfl
      rw [e1, e2, ← List.map_take, ← List.map_drop, ih (by rw [List.length_take]; omega), ih (by rw [List.length_drop]; omega)]
theorem textP_er (n : Nat) : ∀ {ind : List UInt8} {A : List Row}, A.length < n → textP ind (A.map er) = textP ind A := by
  induction n with
  | zero => intro d A h; omega
  | succ n ih =>
    intro ind A hn
    cases A with
    | nil => rfl
    | cons r rest =>
      simp only [List.length_cons] at hn
      rw [List.map_cons, textP_cons, textP_cons, refHead_er]
      have e1 : (er r).rows = r.rows := rfl
      have e2 : (er r).kind = r.kind := rfl
      rw [e1, e2, ← List.map_take, ← List.map_drop, ih (by rw [List.length_take]; omega), ih (by rw [List.length_drop]; omega)]
theorem ok_same {d : Nat} {A B : List Row} (h : A.map er = B.map er) : okRows d A = okRows d B := by
  rw [← okRows_er _ (Nat.lt_succ_self A.length), h, okRows_er _ (Nat.lt_succ_self B.length)]
theorem text_same {ind : List UInt8} {A B : List Row} (h : A.map er = B.map er) : textP ind A = textP ind B := by
  rw [← textP_er _ (Nat.lt_succ_self A.length), h, textP_er _ (Nat.lt_succ_self B.length)]
theorem show_same {A B : List Row} (h : A.map er = B.map er) : showP A = showP B := by
  unfold showP; rw [ok_same h, text_same h]
theorem er_parts {a b : Row} (h : er a = er b) : a.kind = b.kind ∧ a.name = b.name ∧ a.args = b.args ∧ a.num = b.num ∧ a.rows = b.rows := by
  obtain ⟨k1, n1, a1, u1, r1, p1⟩ := a
  obtain ⟨k2, n2, a2, u2, r2, p2⟩ := b
  unfold er at h
  simp only [Row.mk.injEq] at h
  simp only
  exact ⟨h.1, h.2.1, h.2.2.1, h.2.2.2.1, h.2.2.2.2.1⟩
theorem eqRows_er : ∀ {A B : List Row}, A.map er = B.map er → eqRows false A B = true
  | [], [], _ => rfl
  | [], _ :: _, h => by cases h
  | _ :: _, [], h => by cases h
  | a :: A, b :: B, h => by
    simp only [List.map_cons, List.cons.injEq] at h
    obtain ⟨e1, e2, e3, e4, e5⟩ := er_parts h.1
    simp [eqRows, rowEq, headEq, e1, e2, e3, e4, e5, eqArgs_self, eqRows_er h.2]
theorem same_er {A B : List Row} (h : A.map er = B.map er) : sameL false A B = true := by
  have := congrArg List.length h
  simp only [List.length_map] at this
  simp [sameL, this, eqRows_er h]
theorem eqArgs_eq : ∀ {A B : List Arg}, A.length = B.length → eqArgs A B = true → A = B
  | [], [], _, _ => rfl
  | [], _ :: _, h, _ => by simp at h
  | _ :: _, [], h, _ => by simp at h
  | ⟨n1, i1⟩ :: A, ⟨n2, i2⟩ :: B, h, he => by
    simp only [eqArgs, argEq, Bool.and_eq_true, decide_eq_true_eq, beq_iff_eq] at he
    rw [he.1.1, he.1.2, eqArgs_eq (by simpa using h) he.2]
theorem eqRows_eq : ∀ {A B : List Row} {pl : Bool}, A.length = B.length → eqRows pl A B = true → A.map er = B.map er
  | [], [], _, _, _ => rfl
  | [], _ :: _, _, h, _ => by simp at h
  | _ :: _, [], _, h, _ => by simp at h
  | a :: A, b :: B, pl, h, he => by
    simp only [eqRows, rowEq, headEq, Bool.and_eq_true, decide_eq_true_eq] at he
    obtain ⟨⟨⟨⟨⟨⟨⟨e1, e2⟩, e4⟩, e5⟩, _⟩, e3⟩, e6⟩, e7⟩ := he
    have e8 := eqArgs_eq e3 e6
    rw [List.map_cons, List.map_cons, eqRows_eq (by simpa using h) e7]
    congr 1
    unfold er
    rw [e1, e2, e4, e5, e8]
theorem same_eq {A B : List Row} {pl : Bool} (h : sameL pl A B = true) : A.map er = B.map er := by
  simp only [sameL, Bool.and_eq_true, decide_eq_true_eq] at h
  exact eqRows_eq h.1 h.2
def KF (x : KTk) : Prop := (x.1 = 1 → isNameS x.2 = true) ∧ (x.1 = 2 → ∀ c ∈ ls x.2, 48 ≤ c.toNat ∧ c.toNat ≤ 57)
theorem valGo_le : ∀ {l : List UInt8} {n v : Int}, (∀ c ∈ l, 48 ≤ c.toNat ∧ c.toNat ≤ 57) → 0 ≤ n → n ≤ 9007199254740991 → valGo l n = some v → 0 ≤ v ∧ v ≤ 9007199254740991
  | [], n, v, _, h0, h1, h => by simp only [valGo, Option.some.injEq] at h; omega
  | c :: l, n, v, hc, h0, h1, h => by
    have := hc c (by simp)
    rw [valGo] at h
    split at h
    · cases h
    · exact valGo_le (fun z hz => hc z (by simp [hz])) (by omega) (by omega) h
theorem nm_le {x : KTk} {v : Int} (h : isNm x v) (hx : KF x) : 0 ≤ v ∧ v ≤ 9007199254740991 := valGo_le (hx.2 h.1) (by omega) (by omega) h.2
theorem pl_plain {x : KTk} (h : isPl x) (hx : KF x) : plainS x.2 = true := by
  unfold plainS; rw [hx.1 h.1, h.2]; rfl
theorem argT_ok {a : List KTk} {g : Arg} (h : ArgT a g) (hx : ∀ x ∈ a, KF x) : argOk false g = true := by
  unfold argOk
  cases h with
  | plain p => simp [pl_plain p (hx _ (by simp))]
  | ix p n =>
    have := nm_le n (hx _ (by simp))
    simp only [pl_plain p (hx _ (by simp)), Bool.true_and, Bool.not_false, Bool.true_or, Bool.and_true, Bool.and_eq_true, decide_eq_true_eq]
    omega
theorem argsT_ok {a : List KTk} {l : List Arg} (h : ArgsT a l) : (∀ x ∈ a, KF x) → ∀ g ∈ l, argOk false g = true := by
  induction h with
  | nil => intro _ g hg; cases hg
  | cons h1 _ ih =>
    intro hx g hg
    rcases List.mem_cons.1 hg with hg | hg
    · subst hg; exact argT_ok h1 fun x hm => hx x (by simp [hm])
    · exact ih (fun x hm => hx x (by simp [hm])) g hg
theorem hd_fit {h : List KTk} {row : Row} {b : Bool} (hh : Hd h row b) (hx : ∀ x ∈ h, KF x) (n : Nat) (hn : b = false → n = 0) : fitP { row with rows := (n : Int) } = true ∧ bodyK row.kind = b := by
  cases hh with
  | @regs x y z v h1 h2 h3 h4 =>
    have := nm_le h4 (hx _ (by simp))
    obtain rfl := hn rfl
    refine ⟨fitK_to (.regs h2 (pl_plain h3 (hx _ (by simp))) this.1 this.2 rfl rfl), ?_⟩
    rcases h2 with k | k <;> simp only [k] <;> decide
  | @gate x y l h1 h2 h3 h4 =>
    refine ⟨fitK_to (.gate h2 (pl_plain h3 (hx _ (by simp))) rfl ?_ (by simp)), by simp only [h2]; decide⟩
    intro g hg
    simp only [List.mem_map] at hg
    obtain ⟨z, hz, rfl⟩ := hg
    unfold argOk
    simp [pl_plain (h4 z hz) (hx _ (by simp [hz]))]
  | @rep x z v h1 h2 h3 =>
    have := nm_le h3 (hx _ (by simp))
    exact ⟨fitK_to (.rep h2 rfl this.1 this.2 rfl (by simp)), by simp only [h2]; decide⟩
  | @cond x y z v h1 h2 h3 h4 =>
    have := nm_le h4 (hx _ (by simp))
    exact ⟨fitK_to (.cond h2 (pl_plain h3 (hx _ (by simp))) this.1 this.2 rfl (by simp)), by simp only [h2]; decide⟩
  | @meas x a b s t h1 h2 h3 h4 =>
    obtain rfl := hn rfl
    refine ⟨fitK_to (.meas h2 rfl rfl rfl ?_ rfl), by simp only [h2]; decide⟩
    intro g hg
    rcases List.mem_cons.1 hg with hg | hg
    · subst hg; exact argT_ok h3 fun x hm => hx x (by simp [hm])
    · simp only [List.mem_singleton] at hg
      subst hg; exact argT_ok h4 fun x hm => hx x (by simp [hm])
  | @reset x a s h1 h2 h3 =>
    obtain rfl := hn rfl
    refine ⟨fitK_to (.reset h2 rfl rfl rfl ?_ rfl), by simp only [h2]; decide⟩
    intro g hg
    simp only [List.mem_singleton] at hg
    subst hg; exact argT_ok h3 fun x hm => hx x (by simp [hm])
  | @use x a l h1 h2 =>
    obtain rfl := hn rfl
    exact ⟨fitK_to (.use rfl (pl_plain h1 (hx _ (by simp))) rfl (argsT_ok h2 fun x hm => hx x (by simp [hm])) rfl), by show bodyK sUse = false; decide⟩
theorem sq_ok {k : Nat} {b : List KTk} {rb : List RO} (hs : Sq k b rb) : k ≤ 32 → (∀ x ∈ b, KF x) → okRows (32 - k) (rb.map (·.1)) = true := by
  induction hs with
  | nil => intro _ _; exact okRows_nil
  | @leaf k h b row rb hh _ ih =>
    intro hk hx
    obtain ⟨f1, f2⟩ := hd_fit hh (fun x hm => hx x (by simp [hm])) 0 (fun _ => rfl)
    have hr := hh.rows0.1
    have f1 : fitP row = true := by
      have e : ({ row with rows := ((0 : Nat) : Int) } : Row) = row := by
        obtain ⟨k1, n1, a1, u1, r1, p1⟩ := row
        simp only at hr ⊢
        rw [hr]; rfl
      rwa [e] at f1
    rw [List.map_cons, map_sh, okRows_cons, f1, f2, hr]
    have := ih hk (fun x hm => hx x (by simp [hm]))
    simp [this, okRows_nil]
  | @held k h b c row rb rc hh _ _ ihb ihc =>
    intro hk hx
    obtain ⟨f1, f2⟩ := hd_fit hh (fun x hm => hx x (by simp [hm])) rb.length (fun h => by cases h)
    have h1 := ihb (by omega) (fun x hm => hx x (by simp [hm]))
    have h2 := ihc hk (fun x hm => hx x (by simp [hm]))
    have e : 32 - (k + 1) + 1 = 32 - k := by omega
    rw [List.map_cons, List.map_append, map_sh, map_sh, okRows_cons, f1]
    simp only [f2, Int.toNat_natCast]
    have t1 : (rb.map (·.1) ++ rc.map (·.1)).take rb.length = rb.map (·.1) := List.take_left' (by simp)
    have t2 : (rb.map (·.1) ++ rc.map (·.1)).drop rb.length = rc.map (·.1) := List.drop_left' (by simp)
    rw [t1, t2, e, h1, h2]
    simp
    omega
def KW (l : List KTk) : Nat := (l.map fun x => x.2.size + 24).sum
theorem KW_app (a b : List KTk) : KW (a ++ b) = KW a + KW b := by simp [KW]
theorem KW_cons (x : KTk) (l : List KTk) : KW (x :: l) = x.2.size + 24 + KW l := by simp [KW]
theorem KW_nil : KW [] = 0 := rfl
theorem argsW_cons (g : Arg) (l : List Arg) : argsW (g :: l) = g.name.size + 8 + argsW l := by simp [argsW]
theorem argT_W {a : List KTk} {g : Arg} (h : ArgT a g) : g.name.size + 8 ≤ KW a := by
  cases h <;> simp only [KW_cons] <;> omega
theorem argsT_W {a : List KTk} {l : List Arg} (h : ArgsT a l) : argsW l ≤ KW a := by
  induction h with
  | nil => exact Nat.zero_le _
  | cons h1 _ ih => have := argT_W h1; rw [argsW_cons, KW_app]; omega
theorem names_W : ∀ l : List KTk, argsW (l.map fun z => (⟨z.2, -1⟩ : Arg)) ≤ KW l
  | [] => Nat.zero_le _
  | x :: l => by have := names_W l; rw [List.map_cons, argsW_cons, KW_cons]; simp only; omega
theorem hd_W {h : List KTk} {row : Row} {b : Bool} (hh : Hd h row b) : rowW row ≤ KW h := by
  unfold rowW
  have e0 : argsW [] = 0 := rfl
  have e3 : sUse.size = 3 := rfl
  have e1 : sEmpty.size = 0 := rfl
  cases hh with
  | regs => simp only [KW_cons, KW_nil, e0]; omega
  | @gate x y l => have := names_W l; simp only [KW_cons]; omega
  | rep => simp only [KW_cons, KW_nil, e0, e1]; omega
  | cond => simp only [KW_cons, KW_nil, e0]; omega
  | meas _ _ h1 h2 => have := argT_W h1; have := argT_W h2; simp only [KW_cons, KW_app, argsW_cons, e0, e1]; omega
  | reset _ _ h1 => have := argT_W h1; simp only [KW_cons, argsW_cons, e0, e1]; omega
  | use _ h1 => have := argsT_W h1; simp only [KW_cons, e3]; omega
theorem rowsW_cons (r : Row) (l : List Row) : rowsW (r :: l) = rowW r + rowsW l := by simp [rowsW]
theorem sq_W {k : Nat} {b : List KTk} {rb : List RO} (hs : Sq k b rb) : rowsW (rb.map (·.1)) ≤ KW b := by
  induction hs with
  | nil => exact Nat.zero_le _
  | leaf hh _ ih => have := hd_W hh; rw [List.map_cons, map_sh, rowsW_cons, KW_app, KW_cons]; simp only; omega
  | @held k h b c row rb rc hh _ _ ihb ihc =>
    have := hd_W hh
    rw [List.map_cons, List.map_append, map_sh, map_sh, rowsW_cons, rowsW_app, KW_app, KW_cons, KW_app, KW_cons]
    have e : rowW { row with rows := (rb.length : Int) } = rowW row := rfl
    rw [e]; omega
theorem name_of {w : ByteArray} {c : UInt8} {v : List UInt8} (e : ls w = c :: v) (hc : isLetter (c.toNat : Nat) = true) (ha : ∀ z ∈ c :: v, isNameB (z.toNat : Nat) = true) : isNameS w = true := by
  have hd : Dr w 0 ((c :: v) ++ []) := ⟨by rw [List.drop_zero, List.append_nil]; exact e, by omega⟩
  have hr := run_dr isNameB hd ha (by simp)
  have hs := hd.size
  rw [List.append_nil] at hs
  have hb : byteAt w 0 = c.toNat := Dr.byte (v := v) (by simpa using hd)
  unfold isNameS
  rw [hb, hc, hr, ← hs]
  simp at hs ⊢
  omega
theorem ext_ls (s : ByteArray) (i j : Nat) : ls (s.extract i j) = ((ls s).drop i).take (j - i) := by
  show (s.extract i j).data.toList = _
  simp [ByteArray.data_extract, List.extract_eq_take_drop]
theorem lexAt_KF {s : ByteArray} {i j : Nat} {t : Tok} (hi : i < s.size) (h : lexAt s i (byteAt s i) = .tok t j) : KF (kt t) ∧ t.text.size = j - i ∧ j ≤ s.size := by
  have hok := (lexAt_ok h).2
  have hsz : ∀ j, j ≤ s.size → (s.extract i j).size = j - i := fun j hj => by rw [ByteArray.size_extract]; omega
  unfold lexAt at h
  split at h
  · cases h
  split at h
  · cases h
  split at h
  · rename_i hl
    have hj := runS_le isNameB s _ i rfl (by omega)
    have hg := runS_gt isNameB s i hi (by unfold isNameB; rw [hl]; rfl)
    cases h
    refine ⟨⟨fun _ => ?_, fun h => (by cases h)⟩, hsz _ hj.2, hj.2⟩
    have he : (ls s).drop i = (ls s)[i]'(by rw [ls_len]; exact hi) :: (ls s).drop (i + 1) := List.drop_eq_getElem_cons (by rw [ls_len]; exact hi)
    have hd : Dr s i ((ls s)[i]'(by rw [ls_len]; exact hi) :: (ls s).drop (i + 1)) := ⟨he, by omega⟩
    have hb := hd.byte
    generalize (ls s)[i]'(by rw [ls_len]; exact hi) = c at *
    obtain ⟨m, hm⟩ : ∃ m, runS isNameB s i - i = m + 1 := ⟨runS isNameB s i - i - 1, by omega⟩
    have e : ls (s.extract i (runS isNameB s i)) = c :: ((ls s).drop (i + 1)).take m := by rw [ext_ls, he, hm, List.take_succ_cons]
    refine name_of e (by rw [← hb]; exact hl) fun z hz => ?_
    rw [← e] at hz
    obtain ⟨k, h1, h2, _, h4⟩ := extract_mem hz
    rw [← h4]
    exact runS_all isNameB s _ i rfl k h1 h2
  split at h
  · split at h
    · cases h
    · have hj := runS_le isDigit s _ i rfl (by omega)
      cases h
      exact ⟨⟨fun h => (by cases h), hok⟩, hsz _ hj.2, hj.2⟩
  split at h
  · cases h; exact ⟨⟨fun h => (by cases h), fun h => (by cases h)⟩, hsz _ (by omega), by omega⟩
  · cases h
theorem scan_KF {s : ByteArray} : ∀ (n i : Nat) (acc L : List Tok), s.size - i = n → i ≤ s.size → scanS s i acc = .ok L → (∀ t ∈ acc, KF (kt t)) → KW (acc.map kt) ≤ 25 * i → (∀ t ∈ L, KF (kt t)) ∧ KW (L.map kt) ≤ 25 * s.size := by
  intro n
  induction n using Nat.strongRecOn with
  | _ n ih =>
    intro i acc L hn hi h hk hw
    rw [scanS] at h
    split at h
    · rename_i hlt
      split at h
      · rename_i j hj
        split at h
        · by_cases hjs : j ≤ s.size
          · exact ih (s.size - j) (by omega) j acc L rfl hjs h hk (by omega)
          · rw [scanS, dif_neg (by omega)] at h
            cases h
            exact ⟨hk, by omega⟩
        · cases h
      · rename_i t j hj
        split at h
        · obtain ⟨k1, k2, k3⟩ := lexAt_KF hlt hj
          refine ih (s.size - j) (by omega) j _ L rfl k3 h (fun z hz => ?_) ?_
          · rcases List.mem_append.1 hz with hz | hz
            · exact hk z hz
            · simp only [List.mem_singleton] at hz
              subst hz; exact k1
          · rw [List.map_append, KW_app, List.map_cons, List.map_nil, KW_cons, KW_nil]
            have : (kt t).2.size = j - i := k2
            omega
        · cases h
      · cases h
    · cases h
      exact ⟨hk, by omega⟩
theorem read_ok {s : ByteArray} {rows : List Row} (h : parseP s = .ok rows) : okRows 0 rows = true ∧ rowsW rows ≤ 1700000 := by
  unfold parseP at h
  split at h
  · cases h
  · rename_i hs
    split at h
    · cases h
    · rename_i L hsc
      obtain ⟨b, rb, new, h1, h2, h3, h4⟩ := topP_seg _ _ _ (Nat.zero_le _) h
      rw [List.nil_append] at h4
      subst h4
      have hb : L.map kt = b := by
        have := h1.1
        rw [List.drop_zero, List.drop_of_length_le (by simp), List.append_nil] at this
        exact this
      obtain ⟨k1, k2⟩ := scan_KF _ 0 [] L rfl (Nat.zero_le _) hsc (by simp) (Nat.le_refl _)
      have hx : ∀ x ∈ b, KF x := fun x hm => by
        rw [← hb] at hm
        obtain ⟨t, ht, rfl⟩ := List.mem_map.1 hm
        exact k1 t ht
      have hr : rows.map er = rb.map (·.1) := by
        have := congrArg (List.map Prod.fst) h3
        simpa [List.map_map, Function.comp_def] using this
      have e1 := sq_ok h2 (by omega) hx
      have e2 := sq_W h2
      rw [← hr] at e1 e2
      rw [okRows_er _ (Nat.lt_succ_self _)] at e1
      have e3 : rowsW (rows.map er) = rowsW rows := by
        unfold rowsW; rw [List.map_map]; rfl
      rw [e3, ← hb] at e2
      exact ⟨e1, by omega⟩
end Go.Proofs.YthkkgbmjjpcfaaaDoor
namespace Go.Proofs.YthkkgbmjjpcfaaaDoor
open Go.Ab
attribute [-simp] eAlloc_d eStore_f
theorem rowB_er {a b : Row} (h : er a = er b) (hb : RowB a) : RowB b := by
  obtain ⟨e1, e2, e3, _, _⟩ := er_parts h
  exact ⟨by rw [← e1]; exact hb.kind, by rw [← e2]; exact hb.name, by rw [← e3]; exact hb.args, by rw [← e3]; exact hb.len, by rw [← e3]; exact hb.all⟩
theorem rowsB_er : ∀ {A B : List Row}, A.map er = B.map er → (∀ r ∈ A, RowB r) → ∀ r ∈ B, RowB r
  | [], [], _, _ => fun r hr => by cases hr
  | [], _ :: _, h, _ => by cases h
  | _ :: _, [], h, _ => by cases h
  | a :: A, b :: B, h, ha => fun r hr => by
    simp only [List.map_cons, List.cons.injEq] at h
    rcases List.mem_cons.1 hr with hr | hr
    · subst hr; exact rowB_er h.1 (ha a (by simp))
    · exact rowsB_er h.2 (fun z hz => ha z (by simp [hz])) r hr
theorem RowsAt.toL {h : AH} {x : AV} {rows : List Row} (hr : RowsAt h x rows) : ∃ l, RowsL h x l ∧ l.map (·.1) = rows := by
  obtain ⟨l, h1, h2, h3⟩ := hr
  exact ⟨l, ⟨h1.toR, fun y hy => (h3 y hy).toR⟩, h2⟩
section
variable {W : Nat → Prop} {QR QN : VK} {QE : Nat → VK} {QP : AV → AH → Prop} {h : AH}
theorem F4_next {x5 x7 x27 x28 : AV} {i : Nat} (hi : i < 2) (hN : QN [x5, x7, x27, x28, I (i + 1 : Nat)] h) : F4.n2 W QR QN QE QP x5 x7 x27 x28 (I i) h := by
  have w1 : IntKind.i64.wrap ((i : Int) + 1) = ((i + 1 : Nat) : Int) := by rw [wrap_in (by omega) (by omega)]; simp
  simp only [F4.n2, pBin_add, w1]
  exact hN
theorem bs_nil : bs [] = (⟨#[]⟩ : ByteArray) := rfl
theorem F4_back {x5 x7 x9 x27 x28 : AV} {i : Nat} {l : List (Row × AV)} (hi : i < 2) (hx : RowsL h x9 l) (ht : HasTab 1 h) (hB : ∀ y ∈ l, RowB y.1) (hl : l.length ≤ 1000000) (hok : okRows 0 (l.map (·.1)) = true) (hs : (textP [] (l.map (·.1))).length ≤ 65536)
    (hN : ∀ h', Fr h h' (fun _ => False) → QN [x5, x7, x27, x28, I (i + 1 : Nat)] h') : F4.n16 W QR QN QE QP x5 x7 x9 (S (textP [] (l.map (·.1)))) x27 x28 (I i) h := by
  obtain ⟨new, hp, he⟩ := shown_read hok hs
  have hshow : showP new = [S (textP [] (l.map (·.1))), I 0] := by
    rw [show_same he]; unfold showP; rw [hok, if_pos rfl, if_pos hs]
  unfold F4.n16
  refine ⟨fun _ => False, fun _ h => h.elim, parse_ok ?_⟩
  unfold ParseR
  rw [hp]
  intro y h1 hy hin f1
  obtain ⟨nl, hy, hnl⟩ := hy.toL
  have hlen : nl.length = l.length := by
    have h1 := congrArg List.length hnl
    have h2 := congrArg List.length he
    simp only [List.length_map] at h1 h2
    omega
  have hBn : ∀ r ∈ new, RowB r := rowsB_er he.symm fun r hr => by
    obtain ⟨y, hy, rfl⟩ := List.mem_map.1 hr
    exact hB y hy
  have hBn' : ∀ z ∈ nl, RowB z.1 := fun z hz => hBn _ (by rw [← hnl]; exact List.mem_map_of_mem hz)
  have hsame : sameL false (nl.map (·.1)) (l.map (·.1)) = true := by rw [hnl]; exact same_er he
  simp only [pExt_tup, List.getElem?_cons_zero, List.getElem?_cons_succ, cellK_some, F4.n15, F4.n14, F4.n13, F4.n12, pBin_neq, bne_self_eq_false, aIg_b, aIf_b, Bool.false_eq_true, Bool.not_false, Bool.not_true, Bool.true_eq_false, false_implies, true_implies, and_true, true_and, pPick_b, if_false]
  refine ⟨fun _ => False, fun _ h => h.elim, same_ok hy (hx.fr0 f1) (by omega) (fun z hz => by have := (hBn' z hz).len; omega) fun h2 f2 => ?_⟩
  rw [hsame]
  have f02 := f1.tr0 f2
  simp only [pUn_not, Bool.not_true, F4.n11, pPick_b, if_false, F4.n10, aIf_b, Bool.false_eq_true, false_implies, true_implies, true_and, F4.n8]
  refine ⟨fun _ => False, fun _ h => h.elim, show_ok (hy.fr0 f2) (HasTab.fr0 ht f02) hBn' (by omega) fun h3 f3 => ?_⟩
  rw [hnl, hshow]
  simp only [pExt_tup, List.getElem?_cons_zero, List.getElem?_cons_succ, cellK_some, F4.n7, F4.n6, pBin_neq, bne_self_eq_false, aIg_b, aIf_b, Bool.false_eq_true, Bool.not_false, Bool.not_true, Bool.true_eq_false, false_implies, true_implies, and_true, true_and, pPick_b, if_false, pBin_sneq, decide_true, F4.n5, F4.n4]
  exact F4_next hi (hN h3 (f02.tr0 f3))
theorem F4_piece {x5 x9 x27 x28 : AV} {e : Int} {i : Nat} {G l : List (Row × AV)} (hi : i < 2) (hx : RowsL h x9 l) (hG : RowsL h x5 G) (ht : HasTab 1 h) (hs : rowsW (l.map (·.1)) ≤ 500000000)
    (hG2 : e = 0 → okRows 0 (G.map (·.1)) = true)
    (hN : ∀ h', Fr h h' (fun _ => False) → QN [x5, I e, x27, x28, I (i + 1 : Nat)] h') : F4.n33 W QR QN QE QP x5 (I e) x9 x27 x28 (I i) h := by
  unfold F4.n33
  refine ⟨fun _ => False, fun _ h => h.elim, great_ok hx hs fun h1 f1 => ?_⟩
  by_cases hg : 16384 < rowsW (l.map (·.1))
  · simp only [decide_eq_true hg, F4.n32, aIf_b, Bool.true_eq_false, false_implies, true_implies, and_true]
    exact F4_next hi (hN h1 f1)
  have hw : rowsW (l.map (·.1)) ≤ 16384 := by omega
  have hll := rowsW_len (l.map (·.1))
  rw [List.length_map] at hll
  have hBr : ∀ r ∈ l.map (·.1), RowB r := fun r hr => rowB_of (Nat.le_trans (rowsW_mem hr) hw)
  have hB : ∀ y ∈ l, RowB y.1 := fun y hy => hBr _ (List.mem_map_of_mem hy)
  simp only [decide_eq_false hg, F4.n32, aIf_b, Bool.false_eq_true, false_implies, true_implies, true_and]
  unfold F4.n31
  refine ⟨fun _ => False, fun _ h => h.elim, show_ok (hx.fr0 f1) (HasTab.fr0 ht f1) hB (by omega) fun h2 f2 => ?_⟩
  have f02 := f1.tr0 f2
  have bad : ∀ c : Int, c ≠ 0 → (c = 1 ∨ okRows 0 (l.map (·.1)) = false) → F4.n30 W QR QN QE QP x5 (I e) x9 (S []) (I c) x27 x28 (I i) h2 := fun c hc hc1 => by
    have hc0 : (c == 0) = false := by simpa using hc
    simp only [F4.n30, pBin_neq, bne, hc0, Bool.not_false, F4.n29, aIf_b, Bool.true_eq_false, false_implies, true_implies, and_true, F4.n28, pBin_sneq, bs_nil, decide_true, Bool.not_true, F4.n27, aIg_b, Bool.false_eq_true, pBin_eql, true_and]
    have fin : F4.n2 W QR QN QE QP x5 (I e) x27 x28 (I i) h2 := F4_next hi (hN h2 f02)
    by_cases he : e = 0
    · have he0 : (e == 0) = true := by simpa using he
      have hGl := (hG.fr0 f02)
      simp only [he0, F4.n26, aIg_b, Bool.true_eq_false, false_implies, true_implies, and_true, (hx.fr0 f02).tab.len.1, (hx.fr0 f02).tab.len.2, hGl.tab.len.1, hGl.tab.len.2, true_and, pBin_eql, F4.n25, Bool.false_eq_true, pPick_b, if_true, Bool.not_false, Bool.not_true]
      cases hlen : ((l.length : Int) == (G.length : Int)) with
      | false =>
        simp [-F4.n2]
        exact fin
      | true =>
        simp only [F4.n24, aIg_b, Bool.true_eq_false, false_implies, true_implies, and_true, Bool.not_true]
        refine ⟨fun _ => False, fun _ h => h.elim, same_ok (hx.fr0 f02) hGl (by omega) (fun y hy => by have := (hB y hy).len; omega) fun h3 f3 => ?_⟩
        have fin3 : F4.n2 W QR QN QE QP x5 (I e) x27 x28 (I i) h3 := F4_next hi (hN h3 (f02.tr0 f3))
        cases hsm : sameL true (l.map (·.1)) (G.map (·.1)) with
        | false =>
          simp [-F4.n2]
          exact fin3
        | true =>
          have hc2 : c = 1 := by
            rcases hc1 with h | h
            · exact h
            · rw [ok_same (same_eq hsm), hG2 he] at h; cases h
          subst hc2
          simp [-F4.n2]
          exact fin3
    · have he0 : (e == 0) = false := by simpa using he
      simp [-F4.n2, he0]
      exact fin
  unfold showP
  cases hok : okRows 0 (l.map (·.1)) with
  | false =>
    simp only [Bool.false_eq_true, if_false, pExt_tup, List.getElem?_cons_zero, List.getElem?_cons_succ, cellK_some]
    exact bad 100 (by decide) (.inr hok)
  | true =>
    rw [if_pos rfl]
    by_cases hsz : (textP [] (l.map (·.1))).length ≤ 65536
    · rw [if_pos hsz]
      simp only [pExt_tup, List.getElem?_cons_zero, List.getElem?_cons_succ, cellK_some, F4.n30, pBin_neq, bne_self_eq_false, F4.n29, aIf_b, Bool.false_eq_true, false_implies, true_implies, true_and]
      exact F4_back hi (hx.fr0 f02) (HasTab.fr0 ht f02) hB (by omega) hok hsz fun h3 f3 => hN h3 (f02.tr0 f3)
    · rw [if_neg hsz]
      simp only [pExt_tup, List.getElem?_cons_zero, List.getElem?_cons_succ, cellK_some]
      exact bad 1 (by decide) (.inl rfl)
end
end Go.Proofs.YthkkgbmjjpcfaaaDoor
namespace Go.Proofs.YthkkgbmjjpcfaaaDoor
open Go.Ab
attribute [-simp] eAlloc_d eStore_f
section
variable {W : Nat → Prop} {QR QN : VK} {QE : Nat → VK} {QP : AV → AH → Prop} {h : AH}
theorem F4_both {x5 x1 : AV} {e : Int} {G l : List (Row × AV)} (hx : RowsL h x1 l) (hG : RowsL h x5 G) (ht : HasTab 1 h) (hs : rowsW (l.map (·.1)) ≤ 500000000) (hsG : rowsW (G.map (·.1)) ≤ 500000000)
    (hG2 : e = 0 → okRows 0 (G.map (·.1)) = true)
    (hR : ∀ h', Fr h h' (fun _ => False) → QR [B true] h') : F4.n38 W QR QN QE QP x1 x5 (I e) h := by
  unfold F4.n38
  refine ⟨[x5, x1], ⟨by simp [aFill, hx.tab.one.2, hG.tab.one.2], by rw [List.all_cons, List.all_cons, hG.tab.one.1, hx.tab.one.1]; rfl⟩, ?_⟩
  have f1 : Fr h (h.alloc (mkO [x5, x1] 1 22)) (fun _ => False) := Fr.refl.alloc _
  have ho : (h.alloc (mkO [x5, x1] 1 22)).obj h.next = some (mkO [x5, x1] 1 22) := AH.alloc_new h _
  simp only [strArg_sl, pLen_sl, true_and]
  generalize h.alloc (mkO [x5, x1] 1 22) = h1 at *
  generalize h.next = n at *
  unfold F4.n37
  refine vLoop_of (ι := Nat) (fun i v h' => v = [x5, I e, .sl n 0 2, I 2, I i] ∧ i ≤ 2 ∧ Fr h1 h' (fun _ => False)) (fun i => 2 - i) 0 ?_ ?_
  · exact ⟨rfl, by omega, Fr.refl⟩
  rintro K i v h' ⟨rfl, hi, hf⟩ hK
  simp only [F4.g1_, List.getD_cons_zero, List.getD_cons_succ]
  have f2 := f1.tr0 hf
  by_cases hlt : i < 2
  · have hli : (i : Int) < 2 := by omega
    have ho' := hf.ob0 ho
    simp only [F4.n36, pBin_lss, decide_eq_true hli, F4.n35, aIf_b, true_implies, Bool.true_eq_false, false_implies, and_true]
    have step : ∀ (QE' : Nat → VK) (y : AV) (L : List (Row × AV)), RowsL h' y L → rowsW (L.map (·.1)) ≤ 500000000 → F4.n33 W QR K QE' QP x5 (I e) y (.sl n 0 2) (I 2) (I i) h' := fun QE' y L hy hyw =>
      F4_piece hlt hy (hG.fr0 f2) (HasTab.fr0 ht f2) hyw hG2 fun h3 f3 => hK (i + 1) _ _ (by omega) ⟨rfl, by omega, hf.tr0 f3⟩
    rcases (by omega : i = 0 ∨ i = 1) with rfl | rfl
    · simp [-F4.n33, F4.n34, ho']
      exact step _ x5 G (hG.fr0 f2) hsG
    · simp [-F4.n33, F4.n34, ho']
      exact step _ x1 l (hx.fr0 f2) hs
  · have hnl : ¬ (i : Int) < 2 := by omega
    simp only [F4.n36, pBin_lss, decide_eq_false hnl, F4.n35, aIf_b, true_implies, Bool.false_eq_true, false_implies, true_and, if_true, F4.n1]
    exact hR h' f2
theorem law4_ok {s : ByteArray} {x : AV} {l : List (Row × AV)} {M : Nat → Prop} {R : AE → AH → Prop} (hx : RowsL h x l) (ht : HasTab 1 h) (hs : rowsW (l.map (·.1)) ≤ 500000000) (hR : ∀ h', Fr h h' (fun _ => False) → R (.ret (B true)) h') : ACalls Tryd.prog 4 [.sc (.string s), x] h M R := by
  apply F4.callsN
  unfold F4.n43 F4.n42
  refine ⟨fun _ => False, fun _ h => h.elim, awake_ok fun h1 f1 => ?_⟩
  simp only [pUn_not, Bool.not_true, F4.n41, aIf_b, Bool.false_eq_true, false_implies, true_implies, true_and]
  unfold F4.n39
  refine ⟨fun _ => False, fun _ h => h.elim, parse_ok ?_⟩
  unfold ParseR
  cases hp : parseP s with
  | error e =>
    intro h2 f2
    have f02 := f1.tr0 f2
    simp only [pExt_tup, List.getElem?_cons_zero, List.getElem?_cons_succ, cellK_some]
    refine F4_both (G := []) (hx.fr0 f02) ⟨SlL.nil.toR, by simp⟩ (HasTab.fr0 ht f02) hs (by simp [rowsW]) (fun _ => okRows_nil) fun h3 f3 => ?_
    simp
    exact hR h3 (f02.tr0 f3)
  | ok rows =>
    intro y h2 hy hin f2
    obtain ⟨G, hG, hGe⟩ := hy.toL
    obtain ⟨r1, r2⟩ := read_ok hp
    have f02 := f1.tr0 f2
    simp only [pExt_tup, List.getElem?_cons_zero, List.getElem?_cons_succ, cellK_some]
    refine F4_both (hx.fr0 f02) hG (HasTab.fr0 ht f02) hs (by rw [hGe]; omega) (fun _ => by rw [hGe]; exact r1) fun h3 f3 => ?_
    simp
    exact hR h3 (f02.tr0 f3)
end
end Go.Proofs.YthkkgbmjjpcfaaaDoor

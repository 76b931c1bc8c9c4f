/- Contracts of the reader of the document. No condition. -/
import Derived.Test.YthkkgbmjjpcfaaaGq
import Derived.Test.YthkkgbmjjpcfaaaVb
import Derived.Test.YthkkgbmjjpcfaaaWb
namespace Go.Proofs.Ythkkgbmjjpcfaaa
open Go.Ab
/-! the reader of the document: leaves -/
abbrev oRf (tk n : Nat) (p en e o : Int) (rv : AV) : AO := mkO [.sl tk 0 n, .sc (.int .i64 p), .sc (.int .i64 en), .sc (.int .i64 e), .sc (.int .i64 o), rv] 6 44
def rB {α β : Type} (X : Res α) (f : α → Res β) : Res β := match X with | .ok a => f a | .error e => .error e
@[simp] theorem rB_ok {α β : Type} (a : α) (f : α → Res β) : rB (.ok a) f = f a := rfl
@[simp] theorem rB_error {α β : Type} (e : Int × Int) (f : α → Res β) : rB (.error e) f = .error e := rfl
def Rf (X : Res Nat) (p e o : Int) : Prop := match X with | .ok q => p = q ∧ e = 0 ∧ o = 0 | .error x => x.2 ≠ 0 ∧ e = x.2 ∧ o = x.1
/-- The document's reader r stands at X. -/
def RF (h : AH) (r tk : Nat) (L : List Tok) (en : Int) (X : Res Nat) (rv : AV) : Prop := ∃ p e o, h.obj r = some (oRf tk L.length p en e o rv) ∧ Rf X p e o
def failE (L : List Tok) (en : Int) (p : Nat) (e : Int) : Int × Int := match L[p]? with | some t => (t.at_, e) | none => (en, 101)
def signX (L : List Tok) (X : Res Nat) (s : ByteArray) : Bool := match X with | .ok p => isSignP L p s | .error _ => false
def plainX (L : List Tok) (X : Res Nat) : Bool := match X with | .ok p => plainP L p | .error _ => false
section
variable {h : AH} {r tk : Nat} {L : List Tok} {en : Int} {rv : AV} {M : Nat → Prop} {R : AE → AH → Prop} {X : Res Nat}
theorem RF.fr {h' : AH} (hr : RF h r tk L en X rv) (hf : Fr h h' fun _ => False) : RF h' r tk L en X rv := by
  obtain ⟨p, e, o, ho, hx⟩ := hr
  exact ⟨p, e, o, hf.obj ho (fun h => h), hx⟩
theorem fail_r {e : Int} (hM : M r) (he : e ≠ 0) (hr : RF h r tk L en X rv) (ht : h.obj tk = some (oToks L))
    (hR : ∀ h', Fr h h' (· = r) → RF h' r tk L en (rB X fun p => .error (failE L en p e)) rv → R (.ret (.tup [])) h') : ACalls Try.prog 25 [.ptr r 0, .sc (.int .i64 e)] h M R := by
  obtain ⟨p, e0, o, ho, hx⟩ := hr
  have htr := obj_ne ht ho (show (38 : Nat) ≠ 44 by decide)
  apply F25.calls
  cases X with
  | error x =>
    obtain ⟨hne, rfl, rfl⟩ := hx
    simp [ho, hne]
    exact hR _ Fr.refl ⟨_, _, _, ho, hne, rfl, rfl⟩
  | ok q =>
    obtain ⟨rfl, rfl, rfl⟩ := hx
    by_cases hlt : q < L.length
    · simp [ho, ht, hlt, hM, AH.put_obj, htr, flat_get0 Tok.enc_len, flat_get Tok.enc_len, Tok.enc]
      refine hR _ ?_ ⟨q, e, L[q].at_, by simp [AH.put_obj, ho], ?_⟩
      · (repeat' first | exact Fr.refl | refine Fr.put ?_ ?_) <;> exact .inl rfl
      · simp [rB, Rf, failE, hlt, he]
    · simp [ho, ht, hlt, hM, AH.put_obj, htr]
      refine hR _ ?_ ⟨q, 101, en, by simp [AH.put_obj, ho], ?_⟩
      · (repeat' first | exact Fr.refl | refine Fr.put ?_ ?_) <;> exact .inl rfl
      · simp [rB, Rf, failE, hlt]
theorem own_r {s : ByteArray} (hR : R (.ret (.sc (.bool (ownB s)))) h) : ACalls Try.prog 26 [.sc (.string s)] h M R := by
  apply F26.calls
  unfold ownB at hR
  by_cases h1 : s = sQubits
  · simp [h1] at hR; simp [h1, hR]
  by_cases h2 : s = sBits
  · simp [h1, h2] at hR; simp [h1, h2, hR]
  by_cases h3 : s = sGate
  · simp [h1, h2, h3] at hR; simp [h1, h2, h3, hR]
  by_cases h4 : s = sRepeat
  · simp [h1, h2, h3, h4] at hR; simp [h1, h2, h3, h4, hR]
  by_cases h5 : s = sIf
  · simp [h1, h2, h3, h4, h5] at hR; simp [h1, h2, h3, h4, h5, hR]
  by_cases h6 : s = sMeasure
  · simp [h1, h2, h3, h4, h5, h6] at hR; simp [h1, h2, h3, h4, h5, h6, hR]
  by_cases h7 : s = sReset
  · simp [h1, h2, h3, h4, h5, h6, h7] at hR; simp [h1, h2, h3, h4, h5, h6, h7, hR]
  simp [h1, h2, h3, h4, h5, h6, h7] at hR; simp [h1, h2, h3, h4, h5, h6, h7, hR]
theorem sign_r {sg : ByteArray} (hr : RF h r tk L en X rv) (ht : h.obj tk = some (oToks L)) (hR : R (.ret (.sc (.bool (signX L X sg)))) h) : ACalls Try.prog 42 [.ptr r 0, .sc (.string sg)] h M R := by
  obtain ⟨p, e0, o, ho, hx⟩ := hr
  apply F42.calls
  cases X with
  | error x =>
    obtain ⟨hne, rfl, rfl⟩ := hx
    simp [ho, hne]
    exact hR
  | ok q =>
    obtain ⟨rfl, rfl, rfl⟩ := hx
    simp only [signX, isSignP] at hR
    by_cases hlt : q < L.length
    · by_cases hk : L[q].kind = 3
      · simp [hlt, hk] at hR
        simp [ho, hlt, ht, flat_get0 Tok.enc_len, flat_get Tok.enc_len, Tok.enc, hk]
        exact hR
      · simp [hlt, hk] at hR
        have hk' : (L[q].kind == 3) = false := by simpa using hk
        rw [hk'] at hR
        simp [ho, hlt, ht, flat_get0 Tok.enc_len, flat_get Tok.enc_len, Tok.enc, hk]
        exact hR
    · simp [hlt] at hR
      simp [ho, hlt]
      exact hR
theorem plain_r (hr : RF h r tk L en X rv) (ht : h.obj tk = some (oToks L)) (hR : R (.ret (.sc (.bool (plainX L X)))) h) : ACalls Try.prog 30 [.ptr r 0] h M R := by
  obtain ⟨p, e0, o, ho, hx⟩ := hr
  apply F30.calls
  cases X with
  | error x =>
    obtain ⟨hne, rfl, rfl⟩ := hx
    simp [ho, hne]
    exact hR
  | ok q =>
    obtain ⟨rfl, rfl, rfl⟩ := hx
    simp only [plainX, plainP] at hR
    by_cases hlt : q < L.length
    · by_cases hk : L[q].kind = 1
      · simp [hlt, hk] at hR
        simp [ho, hlt, ht, flat_get0 Tok.enc_len, flat_get Tok.enc_len, Tok.enc, hk]
        refine ⟨fun _ => False, fun _ h => h.elim, own_r ?_⟩
        simp
        exact hR
      · simp [hlt, hk] at hR
        have hk' : (L[q].kind == 1) = false := by simpa using hk
        rw [hk'] at hR
        simp [ho, hlt, ht, flat_get0 Tok.enc_len, flat_get Tok.enc_len, Tok.enc, hk]
        exact hR
    · simp [hlt] at hR
      simp [ho, hlt]
      exact hR
theorem want_r {sg : ByteArray} (hM : M r) (hL : L.length ≤ 65536) (hr : RF h r tk L en X rv) (ht : h.obj tk = some (oToks L))
    (hR : ∀ h', Fr h h' (· = r) → RF h' r tk L en (rB X fun p => (signP L en p sg).map fun _ => p + 1) rv → R (.ret (.tup [])) h') : ACalls Try.prog 29 [.ptr r 0, .sc (.string sg)] h M R := by
  apply F29.calls
  simp only [F29.k4, F29.t4]
  refine ⟨fun _ => False, fun _ h => h.elim, sign_r hr ht ?_⟩
  cases hs : signX L X sg with
  | true =>
    cases X with
    | error x => cases hs
    | ok q =>
      obtain ⟨p, e0, o, ho, rfl, rfl, rfl⟩ := hr
      simp only [signX] at hs
      have hlt : q < L.length := by
        unfold isSignP at hs
        cases hg : L[q]? with
        | none => rw [hg] at hs; cases hs
        | some t => exact (List.getElem?_eq_some_iff.1 hg).1
      have hw : IntKind.i64.wrap ((q : Int) + 1) = (q : Int) + 1 := wrap_in (by omega) (by omega)
      simp [ho, hw, hM]
      refine hR _ (Fr.refl.put (.inl rfl)) ⟨_, 0, 0, by simp [AH.put_obj, ho]; rfl, ?_⟩
      simp [rB, Rf, signP, nextP, hs, hlt, Except.map]
  | false =>
    simp [-F29.k1]
    refine ⟨(· = r), fun _ h _ => h ▸ .inl hM, fail_r rfl (by decide) hr ht ?_⟩
    intro h' f1 r1
    simp
    refine hR _ f1 ?_
    cases X with
    | error x => exact r1
    | ok q =>
      simp only [signX] at hs
      have : (rB (.ok q) fun p => (signP L en p sg).map fun _ => p + 1) = (rB (.ok q) fun p => (.error (failE L en p 100) : Res Nat)) := by
        simp only [rB_ok, signP, nextP, failE, hs]
        cases L[q]? <;> rfl
      rw [this]; exact r1
theorem name_r (hM : M r) (hL : L.length ≤ 65536) (hr : RF h r tk L en X rv) (ht : h.obj tk = some (oToks L))
    (hR : ∀ s h', Fr h h' (· = r) → RF h' r tk L en (rB X fun p => (nameP L en p).map fun _ => p + 1) rv → (∀ s', rB X (nameP L en) = .ok s' → s' = s) → R (.ret (.sc (.string s))) h') : ACalls Try.prog 27 [.ptr r 0] h M R := by
  apply F27.calls
  simp only [F27.k7, F27.t7, F27.k6, F27.t6]
  refine ⟨fun _ => False, fun _ h => h.elim, plain_r hr ht ?_⟩
  cases hs : plainX L X with
  | true =>
    cases X with
    | error x => cases hs
    | ok q =>
      obtain ⟨p, e0, o, ho, rfl, rfl, rfl⟩ := hr
      simp only [plainX] at hs
      have hlt : q < L.length := plain_lt hs
      have htr := obj_ne ht ho (show (38 : Nat) ≠ 44 by decide)
      have hw : IntKind.i64.wrap ((q : Int) + 1) = (q : Int) + 1 := wrap_in (by omega) (by omega)
      have hw2 : IntKind.i64.wrap (q : Int) = (q : Int) := wrap_in (by omega) (by omega)
      simp [ho, hw, hw2, hM, AH.put_obj, ht, htr, hlt, flat_get0 Tok.enc_len, flat_get Tok.enc_len, Tok.enc]
      refine hR _ _ ?_ ?_ ?_
      · exact Fr.refl.put (.inl rfl)
      · refine ⟨(q : Int) + 1, 0, 0, by simp [AH.put_obj, ho], ?_⟩
        simp [rB, Rf, nameP, nextP, hs, hlt, Except.map]
      · simp [rB, nameP, nextP, hs, hlt, Except.map]
  | false =>
    simp [-F27.k2]
    refine ⟨(· = r), fun _ h _ => h ▸ .inl hM, fail_r rfl (by decide) hr ht ?_⟩
    intro h' f1 r1
    simp
    cases X with
    | error x => exact hR _ _ f1 r1 (by simp)
    | ok q =>
      simp only [plainX] at hs
      have : ∃ e, nameP L en q = .error e ∧ e = failE L en q 100 := by
        simp only [nameP, nextP, failE, hs]
        cases L[q]? <;> exact ⟨_, rfl, rfl⟩
      obtain ⟨e, h1, h2⟩ := this
      refine hR _ _ f1 ?_ (by simp [h1])
      simp only [rB_ok, h1, h2, Except.map]
      exact r1
end
end Go.Proofs.Ythkkgbmjjpcfaaa

namespace Go.Proofs.Ythkkgbmjjpcfaaa
open Go.Ab
/-! the reader of the document: numbers, arguments -/
theorem valGo_nonneg : ∀ (l : List UInt8) (n m : Int), 0 ≤ n → (∀ c ∈ l, 48 ≤ c.toNat) → valGo l n = some m → 0 ≤ m
  | [], n, m, hn, _, h => by simp [valGo] at h; omega
  | c :: l, n, m, hn, hd, h => by
    simp only [valGo] at h
    split at h
    · cases h
    · have := hd c (by simp)
      exact valGo_nonneg l _ m (by omega) (fun c hc => hd c (by simp [hc])) h
section
variable {h : AH} {M : Nat → Prop} {R : AE → AH → Prop}
theorem value_r {s : ByteArray} (hs : s.size ≤ 65536) (hd : ∀ c ∈ s.data.toList, 48 ≤ c.toNat ∧ c.toNat ≤ 57) (hR : R (.ret (.sc (.int .i64 ((valGo s.data.toList 0).getD (-1))))) h) : ACalls Try.prog 41 [.sc (.string s)] h M R := by
  apply F41.calls
  simp [-F41.k9]
  unfold F41.k9
  refine aLoop_of (ι := Nat) (fun i s' h' => s'.ds = [] ∧ h' = h ∧ s'.tm 0 = .sc (.string s) ∧ s'.tm 4 = .sc (.int .i64 i) ∧ i ≤ s.size ∧
    ∃ n : Int, 0 ≤ n ∧ n ≤ 9007199254740991 ∧ s'.tm 3 = .sc (.int .i64 n) ∧ valGo (s.data.toList.drop i) n = valGo s.data.toList 0) (fun i => s.size - i) 0 ?_ ?_
  · exact ⟨rfl, rfl, by simp, by simp, by omega, 0, by omega, by omega, by simp, rfl⟩
  rintro i ⟨tm, ds⟩ h' ⟨rfl, rfl, e0, e4, hi, n, hn0, hn1, e3, hv⟩
  simp only at e0 e3 e4
  rw [F41.l1]
  by_cases hlt : i < s.size
  · have hmem : s[i] ∈ s.data.toList := by
      have : s.data.toList.drop i = s[i] :: s.data.toList.drop (i + 1) := drop_at _ _ hlt
      exact List.mem_of_mem_drop (i := i) (by rw [this]; simp)
    obtain ⟨d0, d1⟩ := hd _ hmem
    rw [drop_at _ _ hlt] at hv
    simp only [valGo] at hv
    have hg : s.data.toList[i]? = some s[i] := by
      rw [List.getElem?_eq_getElem (by simpa using hlt)]; rfl
    generalize hc : s[i].toNat = c at *
    have w1 : IntKind.i64.wrap (n * 10) = n * 10 := wrap_in (by omega) (by omega)
    have w2 : IntKind.u8.wrap ((c : Int) - 48) = (c : Int) - 48 := IntWalk.u8_in _ (by omega)
    have w3 : IntKind.i64.wrap ((c : Int) - 48) = (c : Int) - 48 := wrap_in (by omega) (by omega)
    have w4 : IntKind.i64.wrap (n * 10 + ((c : Int) - 48)) = n * 10 + ((c : Int) - 48) := wrap_in (by omega) (by omega)
    have w5 : IntKind.i64.wrap ((i : Int) + 1) = (i : Int) + 1 := wrap_in (by omega) (by omega)
    have hlt' : (i : Int) < s.size := by omega
    by_cases hgt : n * 10 + ((c : Int) - 48) > 9007199254740991
    · rw [if_pos hgt] at hv
      rw [← hv] at hR
      have hgt' : 9007199254740991 < n * 10 + ((c : Int) - 48) := hgt
      simp [e0, e3, e4, hlt, hc, w1, w2, w3, w4, hgt']
      exact hR
    · rw [if_neg hgt] at hv
      have hgt' : ¬ 9007199254740991 < n * 10 + ((c : Int) - 48) := hgt
      simp [e0, e3, e4, hlt, hc, w1, w2, w3, w4, w5, hgt']
      exact ⟨i + 1, by omega, by omega, by omega, n * 10 + ((c : Int) - 48), by omega, by omega, rfl, hv⟩
  · have : s.data.toList.drop i = [] := List.drop_eq_nil_of_le (by simp; omega)
    rw [this] at hv
    simp only [valGo] at hv
    rw [← hv] at hR
    simp [e0, e3, e4, hlt]
    exact hR
end
section
variable {h : AH} {r tk : Nat} {L : List Tok} {en : Int} {rv : AV} {M : Nat → Prop} {R : AE → AH → Prop} {X : Res Nat}
theorem number_r (hM : M r) (hL : LOK L) (hr : RF h r tk L en X rv) (ht : h.obj tk = some (oToks L))
    (hR : ∀ n h', Fr h h' (· = r) → RF h' r tk L en (rB X fun p => (numberP L en p).map fun _ => p + 1) rv → (∀ n', rB X (numberP L en) = .ok n' → n' = n) → R (.ret (.sc (.int .i64 n))) h') : ACalls Try.prog 28 [.ptr r 0] h M R := by
  have hL0 := hL.len
  have hr0 := hr
  obtain ⟨p, e0, o, ho, hx⟩ := hr
  have htr := obj_ne ht ho (show (38 : Nat) ≠ 44 by decide)
  apply F28.calls
  have bad : ∀ tm : Nat → AV, tm 0 = .ptr r 0 → (∀ q, X = .ok q → isNumP L q = false) → F28.k9 (fun id => M id ∨ h.next ≤ id) (Ab.bodyQ Try.prog [.tmp 2] R) (Ab.bodyP R) ⟨tm, []⟩ h := by
    intro tm e hb
    simp only [F28.k9, F28.t9, e]
    refine ⟨(· = r), fun _ h _ => h ▸ .inl hM, fail_r rfl (by decide) hr0 ht ?_⟩
    intro h' f1 r1
    simp
    cases X with
    | error x => exact hR _ _ f1 r1 (by simp)
    | ok q =>
      have hq := hb q rfl
      have : ∃ e, numberP L en q = .error e ∧ e = failE L en q 100 := by
        simp only [numberP, nextP, failE, hq]
        cases L[q]? <;> exact ⟨_, rfl, rfl⟩
      obtain ⟨e, h1, h2⟩ := this
      refine hR _ _ f1 ?_ (by simp [h1])
      simp only [rB_ok, h1, h2, Except.map]
      exact r1
  cases X with
  | error x =>
    obtain ⟨hne, rfl, rfl⟩ := hx
    simp [-F28.k9, ho, hne]
    exact bad _ (by simp) (fun q he => by cases he)
  | ok q =>
    obtain ⟨rfl, rfl, rfl⟩ := hx
    by_cases hlt : q < L.length
    · have hge : ¬ (L.length : Int) ≤ q := by omega
      by_cases hk : L[q].kind = 2
      · have hnp : isNumP L q = true := by simp [isNumP, hlt, hk]
        have hmem : L[q] ∈ L := List.getElem_mem hlt
        simp [-F28.k6, ho, hge, ht, hlt, flat_get0 Tok.enc_len, flat_get Tok.enc_len, Tok.enc, hk]
        refine ⟨fun _ => False, fun _ h => h.elim, value_r (hL.txt _ hmem) (hL.dig _ hmem hk) ?_⟩
        cases hv : valGo L[q].text.data.toList 0 with
        | none =>
          simp [-F28.k4]
          simp only [F28.k4, F28.t4]
          refine ⟨(· = r), fun _ h _ => h ▸ .inl hM, fail_r (e := 1) rfl (by decide) hr0 ht ?_⟩
          intro h' f1 r1
          simp
          have h1 : numberP L en q = .error (failE L en q 1) := by simp [numberP, nextP, failE, hnp, hlt, hv]
          refine hR _ _ f1 ?_ (by simp [h1])
          simp only [rB_ok, h1, Except.map]
          exact r1
        | some n =>
          have hn0 := valGo_nonneg _ _ _ (Int.le_refl 0) (fun c hc => (hL.dig _ hmem hk c hc).1) hv
          have hn' : ¬ n < 0 := by omega
          have hw : IntKind.i64.wrap ((q : Int) + 1) = (q : Int) + 1 := wrap_in (by omega) (by omega)
          simp [hn', ho, hw, hM]
          have h1 : numberP L en q = .ok n := by simp [numberP, nextP, hnp, hlt, hv]
          refine hR _ _ ?_ ?_ ?_
          · exact Fr.refl.put (.inl rfl)
          · refine ⟨(q : Int) + 1, 0, 0, by simp [AH.put_obj, ho], ?_⟩
            simp [rB, Rf, h1, Except.map]
          · simp [h1]
      · have hnp : isNumP L q = false := by simp [isNumP, hlt, hk]
        simp [-F28.k9, ho, hge, ht, hlt, flat_get0 Tok.enc_len, flat_get Tok.enc_len, Tok.enc, hk]
        exact bad _ (by simp) (fun q' he => by cases he; exact hnp)
    · have hnp : isNumP L q = false := by simp [isNumP, hlt]
      have hge : L.length ≤ q := by omega
      simp [-F28.k9, ho, hge]
      exact bad _ (by simp) (fun q' he => by cases he; exact hnp)
end
end Go.Proofs.Ythkkgbmjjpcfaaa

namespace Go.Proofs.Ythkkgbmjjpcfaaa
open Go.Ab
/-! the reader of the document: an argument -/
section
variable {h : AH} {r tk : Nat} {L : List Tok} {en : Int} {rv : AV} {M : Nat → Prop} {R : AE → AH → Prop} {X : Res Nat}
theorem argument_r (hM : M r) (hL : LOK L) (hr : RF h r tk L en X rv) (ht : h.obj tk = some (oToks L))
    (hR : ∀ a h', Fr h h' (· = r) → RF h' r tk L en (rB X fun p => (argP L en p).map (·.2)) rv → (∀ x, rB X (argP L en) = .ok x → x.1 = a) → R (.ret (.agg a.enc)) h') : ACalls Try.prog 32 [.ptr r 0] h M R := by
  have hL0 := hL.len
  have hty : ∃ o, h.obj r = some o ∧ o.ty = 44 := let ⟨_, _, _, ho, _⟩ := hr; ⟨_, ho, rfl⟩
  obtain ⟨orr, hor, hort⟩ := hty
  have hrn := h.lt _ _ hor
  have htn := h.lt _ _ ht
  have htr : tk ≠ r := obj_ne ht hor (by rw [hort]; show (38 : Nat) ≠ 44; decide)
  apply F32.calls
  have hf0 := (Fr.refl (h := h) (S := (· = r))).alloc (mkO [.sc (.string ⟨#[]⟩), .sc (.int .i64 0)] 2 53)
  have hf0' := (Fr.refl (h := h) (S := fun _ => False)).alloc (mkO [.sc (.string ⟨#[]⟩), .sc (.int .i64 0)] 2 53)
  have tail : ∀ (tm : Nat → AV) (h1 : AH) (a : Nat) (x : Arg), tm 2 = .ptr h.next 0 → tm 3 = .ptr a 0 → h1.obj a = some (oArg x) → (∃ c1 c2, h1.obj h.next = some (mkO [c1, c2] 2 53)) → Fr h h1 (· = r) → RF h1 r tk L en (rB X fun p => (argP L en p).map (·.2)) rv →
      (∀ y, rB X (argP L en) = .ok y → y.1 = x) → F32.k1 (fun id => M id ∨ h.next ≤ id) (Ab.bodyQ Try.prog [.cell 2 53] R) (Ab.bodyP R) ⟨tm, []⟩ h1 := by
    intro tm h1 a x e2 e3 ha ⟨c1, c2, hq⟩ hf hr1 hv
    simp [e2, e3, ha, hq, ag53, sz53, AH.put_obj]
    refine hR x _ (hf.put (.inr (Nat.le_refl _))) ?_ hv
    obtain ⟨p, e, o, ho, hx⟩ := hr1
    exact ⟨p, e, o, by rw [AH.put_old (nel hrn).1]; exact ho, hx⟩
  simp only [F32.k8, F32.t8, F32.k7, F32.t7, eAlloc_d]
  refine ⟨rfl, ?_⟩
  simp only [List.map_cons, List.map_nil, puts, upd, s0]
  simp [-F32.k6]
  refine ⟨(· = r), fun _ h _ => h ▸ .inl hM, name_r rfl hL0 (hr.fr hf0') (by rw [AH.alloc_old htn]; exact ht) ?_⟩
  intro nm h1 f1 r1 hnm
  have f1' := hf0.trans (f1.mono fun _ h => .inl h)
  have q1 := f1.obj (AH.alloc_new _ _) (nel hrn).2.1
  have n1 := f1.next
  simp only [AH.alloc_next] at n1
  simp [-F32.k6, AH.alloc_obj]
  have g2 : Fr h1 ((h1.alloc (mkO [.sc (.string ⟨#[]⟩), .sc (.int .i64 0)] 2 53)).put h1.next 0 [.sc (.string nm), .sc (.int .i64 (-1))]) (fun _ => False) := (Fr.refl.alloc _).put (.inr (Nat.le_refl _))
  have f2 := f1'.trans (g2.mono fun _ h => h.elim)
  have r2 := r1.fr g2
  have a2 : ((h1.alloc (mkO [.sc (.string ⟨#[]⟩), .sc (.int .i64 0)] 2 53)).put h1.next 0 [.sc (.string nm), .sc (.int .i64 (-1))]).obj h1.next = some (oArg ⟨nm, -1⟩) := by simp [AH.put_obj, AH.alloc_obj]
  have q2 := g2.obj q1 (fun h => h)
  have t2 := f2.obj ht htr
  have an : h.next < h1.next := by omega
  generalize (h1.alloc (mkO [.sc (.string ⟨#[]⟩), .sc (.int .i64 0)] 2 53)).put h1.next 0 [.sc (.string nm), .sc (.int .i64 (-1))] = h2 at *
  generalize h1.next = a at *
  have an2 := h2.lt _ _ a2
  refine ⟨.inr (by omega), ?_⟩
  simp only [F32.k6, F32.t6, puts, upd]
  simp [-F32.k5]
  refine ⟨fun _ => False, fun _ h => h.elim, sign_r r2 t2 ?_⟩
  generalize hX1 : (rB X fun p => (nameP L en p).map fun _ => p + 1) = X1 at *
  cases hsg : signX L X1 sIxO with
  | false =>
    simp [-F32.k1]
    have key : (rB X fun p => (argP L en p).map (·.2)) = X1 ∧ ∀ y, rB X (argP L en) = .ok y → y.1 = ⟨nm, -1⟩ := by
      subst hX1
      cases X with
      | error x => exact ⟨rfl, by simp⟩
      | ok q =>
        simp only [rB_ok] at hnm hsg ⊢
        unfold argP
        cases hn : nameP L en q with
        | error e => simp [Except.map]
        | ok s' =>
          rw [hn] at hsg hnm
          have := hnm s' rfl
          subst this
          simp only [Except.map, signX] at hsg
          simp [hsg, Except.map]
    exact tail _ _ a ⟨nm, -1⟩ (by simp) (by simp) a2 ⟨_, _, q2⟩ f2 (by rw [key.1]; exact r2) key.2
  | true =>
    cases X1 with
    | error x => cases hsg
    | ok q1' =>
      cases X with
      | error x => simp at hX1
      | ok q =>
        simp only [rB_ok] at hX1 hnm
        cases hn : nameP L en q with
        | error e => rw [hn] at hX1; simp [Except.map] at hX1
        | ok s' =>
          rw [hn] at hX1 hnm
          have := hnm s' rfl
          subst this
          simp only [Except.map, Except.ok.injEq] at hX1
          subst hX1
          simp only [signX] at hsg
          obtain ⟨pp, ee, oo, ho2, rfl, rfl, rfl⟩ := r2
          have hlt1 : q + 1 < L.length := by
            unfold isSignP at hsg
            cases hg : L[q + 1]? with
            | none => rw [hg] at hsg; cases hsg
            | some t => exact (List.getElem?_eq_some_iff.1 hg).1
          have hw : IntKind.i64.wrap ((q : Int) + 1 + 1) = ((q + 2 : Nat) : Int) := by rw [wrap_in (by omega) (by omega)]; omega
          simp [-F32.k3, ho2, hM, hw]
          have g3 : Fr h2 (h2.put r 1 [.sc (.int .i64 ((q : Int) + 2))]) (· = r) := Fr.refl.put (.inl rfl)
          have f3 := f2.trans (g3.mono fun _ h => .inl h)
          have r3 : RF (h2.put r 1 [.sc (.int .i64 ((q : Int) + 2))]) r tk L en (.ok (q + 2)) rv := ⟨(q : Int) + 2, 0, 0, by rw [put_row ho2]; rfl, by simp, rfl, rfl⟩
          have a3 := g3.obj a2 (by omega)
          have q3 := g3.obj q2 (by omega)
          have t3 := g3.obj t2 htr
          generalize h2.put r 1 [.sc (.int .i64 ((q : Int) + 2))] = h3 at *
          have an3 := h3.lt _ _ a3
          simp only [F32.k3, F32.t3, puts, upd]
          simp [-F32.k2]
          refine ⟨(· = r), fun _ h _ => h ▸ .inl hM, number_r rfl hL r3 t3 ?_⟩
          intro n h4 f4 r4 hn4
          have a4 := f4.obj a3 (by omega)
          have q4 := f4.obj q3 (by omega)
          have t4 := f4.obj t3 htr
          have f4' := f3.trans (f4.mono fun _ h => .inl h)
          simp [-F32.k2, a4]
          have g5 : Fr h4 (h4.put a 1 [.sc (.int .i64 n)]) (· = a) := Fr.refl.put (.inl rfl)
          have f5 := f4'.trans (g5.mono fun id (hid : id = a) => .inr (by omega))
          have r5 : RF (h4.put a 1 [.sc (.int .i64 n)]) r tk L en (rB (.ok (q + 2)) fun p => (numberP L en p).map fun _ => p + 1) rv := by
            obtain ⟨p5, e5, o5, ho5, hx5⟩ := r4
            exact ⟨p5, e5, o5, g5.obj ho5 (by omega), hx5⟩
          have a5 : (h4.put a 1 [.sc (.int .i64 n)]).obj a = some (oArg ⟨s', n⟩) := by simp [AH.put_obj, a4]
          have q5 := g5.obj q4 (by omega)
          have ta : tk ≠ a := by have := h.lt _ _ ht; omega
          have t5 := g5.obj t4 ta
          have hsl : a < h4.next := h4.lt _ _ a4
          refine ⟨by omega, ?_⟩
          generalize h4.put a 1 [.sc (.int .i64 n)] = h5 at *
          simp only [F32.k2, F32.t2, puts, upd]
          simp [-F32.k1]
          refine ⟨(· = r), fun _ h _ => h ▸ .inl hM, want_r rfl hL0 r5 t5 ?_⟩
          intro h6 f6 r6
          simp [-F32.k1]
          have key : (rB (.ok q) fun p => (argP L en p).map (·.2)) = (rB (rB (.ok (q + 2)) fun p => (numberP L en p).map fun _ => p + 1) fun p => (signP L en p sIxC).map fun _ => p + 1) ∧ ∀ y, rB (.ok q) (argP L en) = .ok y → y.1 = ⟨s', n⟩ := by
            simp only [rB_ok] at hn4 ⊢
            unfold argP
            rw [hn]
            simp only [hsg, if_true]
            cases hu : numberP L en (q + 2) with
            | error e => simp [Except.map]
            | ok n' =>
              have := hn4 n' hu
              subst this
              simp only [Except.map, rB_ok]
              cases hsi : signP L en (q + 3) sIxC with
              | error e => simp
              | ok t => simp
          exact tail _ _ a ⟨s', n⟩ (by simp) (by simp) (f6.obj a5 (by omega)) ⟨_, _, f6.obj q5 (by omega)⟩ (f5.trans (f6.mono fun _ h => .inl h)) (by rw [key.1]; exact r6) key.2
end
end Go.Proofs.Ythkkgbmjjpcfaaa

namespace Go.Proofs.Ythkkgbmjjpcfaaa
open Go.Ab
/-! the reader of the document: the state of a statement -/
theorem RF.ty {h : AH} {r tk : Nat} {L : List Tok} {en : Int} {X : Res Nat} {rv : AV} (hr : RF h r tk L en X rv) : ∃ o, h.obj r = some o ∧ o.ty = 44 := let ⟨_, _, _, ho, _⟩ := hr; ⟨_, ho, rfl⟩
theorem RF.keep {h h' : AH} {r tk : Nat} {L : List Tok} {en : Int} {X : Res Nat} {rv : AV} {S : Nat → Prop} (hr : RF h r tk L en X rv) (hf : Fr h h' S) (hS : ¬ S r) : RF h' r tk L en X rv := by
  obtain ⟨p, e, o, ho, hx⟩ := hr
  exact ⟨p, e, o, hf.obj ho hS, hx⟩
/-- The places go up. -/
def UpX (L : List Tok) (X X' : Res Nat) : Prop := ∀ p', X' = .ok p' → p' ≤ L.length ∧ ∃ p, X = .ok p ∧ p + 1 ≤ p'
theorem UpX.name {L : List Tok} {en : Int} {X : Res Nat} : UpX L X (rB X fun p => (nameP L en p).map fun _ => p + 1) := by
  intro p' h
  cases X with
  | error x => simp at h
  | ok p =>
    simp only [rB_ok] at h
    cases hn : nameP L en p with
    | error e => rw [hn] at h; simp [Except.map] at h
    | ok s => rw [hn] at h; simp [Except.map] at h; have := (nameP_ok hn).1; exact ⟨by omega, p, rfl, by omega⟩
theorem UpX.number {L : List Tok} {en : Int} {X : Res Nat} : UpX L X (rB X fun p => (numberP L en p).map fun _ => p + 1) := by
  intro p' h
  cases X with
  | error x => simp at h
  | ok p =>
    simp only [rB_ok] at h
    cases hn : numberP L en p with
    | error e => rw [hn] at h; simp [Except.map] at h
    | ok s => rw [hn] at h; simp [Except.map] at h; have := numberP_ok hn; exact ⟨by omega, p, rfl, by omega⟩
theorem UpX.sign {L : List Tok} {en : Int} {X : Res Nat} {sg : ByteArray} : UpX L X (rB X fun p => (signP L en p sg).map fun _ => p + 1) := by
  intro p' h
  cases X with
  | error x => simp at h
  | ok p =>
    simp only [rB_ok] at h
    cases hn : signP L en p sg with
    | error e => rw [hn] at h; simp [Except.map] at h
    | ok s => rw [hn] at h; simp [Except.map] at h; have := signP_ok hn; exact ⟨by omega, p, rfl, by omega⟩
theorem UpX.arg {L : List Tok} {en : Int} {X : Res Nat} : UpX L X (rB X fun p => (argP L en p).map (·.2)) := by
  intro p' h
  cases X with
  | error x => simp at h
  | ok p =>
    simp only [rB_ok] at h
    cases hn : argP L en p with
    | error e => rw [hn] at h; simp [Except.map] at h
    | ok s => rw [hn] at h; simp [Except.map] at h; have := argP_ok hn; exact ⟨by omega, p, rfl, by omega⟩
structure RSX (h : AH) (r tk : Nat) (L : List Tok) (en : Int) (X : Res Nat) (rv : AV) (rs : List Row) (w : Nat) : Prop where
  r : RF h r tk L en X rv
  t : h.obj tk = some (oToks L)
  rows : RowsAt h rv rs
  b : rs.length ≤ L.length
  ok : ∀ p, X = .ok p → p ≤ L.length ∧ rs.length ≤ p + w
theorem RSX.ner {h : AH} {r tk : Nat} {L : List Tok} {en : Int} {X : Res Nat} {rv : AV} {rows : List Row} {w : Nat} (hs : RSX h r tk L en X rv rows w) {id : Nat} {o : AO} (ho : h.obj id = some o) (ht : o.ty ≠ 44) : id ≠ r := by
  obtain ⟨o', ho', ht'⟩ := hs.r.ty
  exact obj_ne ho ho' (by rw [ht']; exact ht)
theorem RSX.step {h h' : AH} {r tk : Nat} {L : List Tok} {en : Int} {X X' : Res Nat} {rv : AV} {rows : List Row} {w : Nat} (hw : w ≤ 1) (hs : RSX h r tk L en X rv rows w) (hf : Fr h h' (· = r)) (hr : RF h' r tk L en X' rv) (hu : UpX L X X') : RSX h' r tk L en X' rv rows 0 := by
  refine ⟨hr, hf.obj hs.t (hs.ner hs.t (show (38 : Nat) ≠ 44 by decide)), hs.rows.fr hf (fun id he hid => ?_) (fun id o ho hty hid => ?_), hs.b, fun p' he => ?_⟩
  · obtain ⟨_, _, o, ho, hty⟩ := hs.rows.id he
    exact hs.ner ho (by rw [hty]; show (36 : Nat) ≠ 44; decide) hid
  · exact hs.ner ho (by rw [hty]; show (53 : Nat) ≠ 44; decide) hid
  · obtain ⟨a, p, b, c⟩ := hu p' he
    have := hs.ok p b
    exact ⟨a, by omega⟩
theorem RSX.still {h h' : AH} {r tk : Nat} {L : List Tok} {en : Int} {X : Res Nat} {rv : AV} {rows : List Row} {w : Nat} (hs : RSX h r tk L en X rv rows w) {v : Nat} (hf : Fr h h' (· = v)) (hv : v ≠ r) (hrv : ∀ id, rv = .sl id 0 rows.length → id ≠ v) (hty : ∀ o, h.obj v = some o → o.ty ≠ 38 ∧ o.ty ≠ 53) : RSX h' r tk L en X rv rows w := by
  refine ⟨hs.r.keep hf (Ne.symm hv), hf.obj hs.t (fun e => (hty _ (e ▸ hs.t)).1 rfl), hs.rows.fr hf hrv (fun id o ho ht hid => ?_), hs.b, hs.ok⟩
  subst hid
  exact (hty _ ho).2 ht
theorem RSX.hrv {h : AH} {r tk : Nat} {L : List Tok} {en : Int} {X : Res Nat} {rv : AV} {rows : List Row} {w : Nat} (hs : RSX h r tk L en X rv rows w) : ∀ {id off n}, rv = .sl id off n → off = 0 ∧ n = rows.length ∧ id < h.next := by
  intro id off n he
  obtain ⟨a, b, o, ho, _⟩ := hs.rows.id he
  exact ⟨a, b, h.lt _ _ ho⟩
def StX (h : AH) (r tk : Nat) (L : List Tok) (en : Int) (rv : AV) (rows : List Row) (ret : AH → Prop) (res : Res (Nat × List Row)) : Prop :=
  ∀ h' rv' new X, RSX h' r tk L en X rv' (rows ++ new) 0 → X = res.map (·.1) → (∀ x, res = .ok x → new = x.2) → Fr h h' (SS r rv) → InS (fun id => SS r rv id ∨ h.next ≤ id) rv' → ret h'
def StmtX (L : List Tok) (en : Int) (k : Nat) : Prop := ∀ {h : AH} {r tk : Nat} {rv : AV} {rows : List Row} {M : Nat → Prop} {R : AE → AH → Prop} {p : Nat} {d : Int}, d = 32 - (k : Int) → (∀ id, SS r rv id → M id) → RSX h r tk L en (.ok p) rv rows 0 →
  StX h r tk L en rv rows (fun h' => R (.ret (.tup [])) h') (stmtP L en k p) → ACalls Try.prog 12 [.ptr r 0, .sc (.int .i64 d)] h M R
def BodyX (L : List Tok) (en : Int) (k : Nat) : Prop := ∀ {h : AH} {r tk : Nat} {rv : AV} {rows : List Row} {M : Nat → Prop} {R : AE → AH → Prop} {X : Res Nat} {d : Int}, d = 33 - (k : Int) → (∀ id, SS r rv id → M id) → RSX h r tk L en X rv rows 0 →
  StX h r tk L en rv rows (fun h' => R (.ret (.tup [])) h') (rB X (bdP L en k (stepP L en k))) → ACalls Try.prog 31 [.ptr r 0, .sc (.int .i64 d)] h M R
/-- A statement under way: its row's variable v; the rows slice is of its own. -/
structure SJ (h0 h : AH) (r tk : Nat) (L : List Tok) (en : Int) (rv0 : AV) (rows0 : List Row) (v : Nat) (X : Res Nat) (rv : AV) (d0 : Row) (inner : List Row) (cells : List AV) (w : Nat) : Prop where
  fr : Fr h0 h (SS r rv0)
  rs : RSX h r tk L en X rv (rows0 ++ d0 :: inner) w
  ins : InS (fun id => h0.next ≤ id ∧ id ≠ v) rv
  vo : h.obj v = some (mkO cells 6 36)
  vn : h0.next ≤ v
  rn : r < h0.next
section
variable {h0 h h' : AH} {r tk : Nat} {L : List Tok} {en : Int} {rv0 : AV} {rows0 : List Row} {v : Nat} {X X' : Res Nat} {rv : AV} {d0 : Row} {inner : List Row} {cells : List AV} {w : Nat}
theorem SJ.vr (s : SJ h0 h r tk L en rv0 rows0 v X rv d0 inner cells w) : v ≠ r := by have := s.vn; have := s.rn; omega
theorem SJ.call (hw : w ≤ 1) (s : SJ h0 h r tk L en rv0 rows0 v X rv d0 inner cells w) (hf : Fr h h' (· = r)) (hr : RF h' r tk L en X' rv) (hu : UpX L X X') : SJ h0 h' r tk L en rv0 rows0 v X' rv d0 inner cells 0 :=
  ⟨s.fr.trans (hf.mono fun _ h => .inl (.inl h)), s.rs.step hw hf hr hu, s.ins, hf.obj s.vo s.vr, s.vn, s.rn⟩
theorem SJ.quiet (s : SJ h0 h r tk L en rv0 rows0 v X rv d0 inner cells w) (hf : Fr h h' (fun _ => False)) : SJ h0 h' r tk L en rv0 rows0 v X rv d0 inner cells w :=
  ⟨s.fr.trans (hf.mono fun _ h => h.elim), ⟨s.rs.r.fr hf, hf.obj s.rs.t (fun h => h), s.rs.rows.fr hf (fun _ _ h => h) (fun _ _ _ _ h => h), s.rs.b, s.rs.ok⟩, s.ins, hf.obj s.vo (fun h => h), s.vn, s.rn⟩
theorem SJ.set (s : SJ h0 h r tk L en rv0 rows0 v X rv d0 inner cells w) (off : Nat) (cs : List AV) : SJ h0 (h.put v off cs) r tk L en rv0 rows0 v X rv d0 inner (putCells cells off cs) w := by
  have f : Fr h (h.put v off cs) (· = v) := Fr.refl.put (.inl rfl)
  refine ⟨s.fr.trans (f.mono fun id (hid : id = v) => .inr (hid ▸ s.vn)), s.rs.still f s.vr (fun id he => (s.ins id 0 _ he).2) ?_, s.ins, put_row s.vo, s.vn, s.rn⟩
  intro o ho
  rw [s.vo] at ho; cases ho
  exact ⟨show (36 : Nat) ≠ 38 by decide, show (36 : Nat) ≠ 53 by decide⟩
theorem SJ.body (s : SJ h0 h r tk L en rv0 rows0 v X rv d0 inner cells 0) {rv' : AV} {new : List Row} (hrs : RSX h' r tk L en X' rv' ((rows0 ++ d0 :: inner) ++ new) 0) (hf : Fr h h' (SS r rv)) (hi : InS (fun id => SS r rv id ∨ h.next ≤ id) rv') :
    SJ h0 h' r tk L en rv0 rows0 v X' rv' d0 (inner ++ new) cells 0 := by
  have hv : ¬ SS r rv v := by
    rintro (h1 | ⟨n, h1⟩)
    · exact s.vr h1
    · exact (s.ins v 0 n h1).2 rfl
  have hvn := h.lt _ _ s.vo
  refine ⟨s.fr.trans (hf.mono fun id hid => ?_), by simpa using hrs, fun id off n he => ?_, hf.obj s.vo hv, s.vn, s.rn⟩
  · rcases hid with h1 | ⟨n, h1⟩
    · exact .inl (.inl h1)
    · exact .inr (s.ins id 0 n h1).1
  · have h0 := (hrs.hrv he).1
    rcases hi id off n he with (h1 | ⟨m, h1⟩) | h1
    · obtain ⟨_, _, o, ho, hty⟩ := hrs.rows.id he
      exact (hrs.ner ho (by rw [hty]; show (36 : Nat) ≠ 44; decide) h1).elim
    · exact s.ins id 0 m h1
    · exact ⟨Nat.le_trans s.vn (by omega), by omega⟩
theorem SJ.a_call (s : SJ h0 h r tk L en rv0 rows0 v X rv d0 inner cells w) : ∀ id o, h.obj id = some o → o.ty = 53 → ¬ id = r := fun id o ho ht => s.rs.ner ho (by rw [ht]; show (53 : Nat) ≠ 44; decide)
theorem SJ.a_set (s : SJ h0 h r tk L en rv0 rows0 v X rv d0 inner cells w) : ∀ id o, h.obj id = some o → o.ty = 53 → ¬ id = v := fun id o ho ht => obj_ne ho s.vo (by rw [ht]; show (53 : Nat) ≠ 36; decide)
theorem SJ.a_body (s : SJ h0 h r tk L en rv0 rows0 v X rv d0 inner cells w) : ∀ id o, h.obj id = some o → o.ty = 53 → ¬ SS r rv id := by
  rintro id o ho ht (h1 | ⟨n, h1⟩)
  · exact s.a_call id o ho ht h1
  · obtain ⟨_, _, o', ho', hty⟩ := s.rs.rows.id h1
    exact obj_ne ho ho' (by rw [ht, hty]; show (53 : Nat) ≠ 36; decide) rfl
end
section
variable {h0 h h' : AH} {r tk : Nat} {L : List Tok} {en : Int} {rv0 : AV} {rows0 : List Row} {v : Nat} {X X' : Res Nat} {rv : AV} {d0 : Row} {inner : List Row} {cells : List AV} {a y : AV} {acc : List Arg} {w : Nat}
theorem RowsA.callX (ra : RowsA h rv (rows0 ++ d0 :: inner) a) (s : SJ h0 h r tk L en rv0 rows0 v X rv d0 inner cells w) (hf : Fr h h' (· = r)) : RowsA h' rv (rows0 ++ d0 :: inner) a :=
  ra.fr hf (fun id he hid => by
    obtain ⟨_, _, o, ho, hty⟩ := s.rs.rows.id he
    exact s.rs.ner ho (by rw [hty]; show (36 : Nat) ≠ 44; decide) hid) s.a_call
theorem RowsA.setX (ra : RowsA h rv (rows0 ++ d0 :: inner) a) (s : SJ h0 h r tk L en rv0 rows0 v X rv d0 inner cells w) (off : Nat) (cs : List AV) : RowsA (h.put v off cs) rv (rows0 ++ d0 :: inner) a :=
  ra.fr (Fr.refl.put (S := (· = v)) (.inl rfl)) (fun id he => (s.ins id 0 _ he).2) s.a_set
theorem SJ.app (s : SJ h0 h r tk L en rv0 rows0 v X rv d0 inner cells w) (ra : RowsA h rv (rows0 ++ d0 :: inner) a) (ha : SlL Arg.enc 2 53 h a acc) (hown : InS (h0.next ≤ ·) a) (hf : Fr h h' (fun i => ∃ off n, a = .sl i off n)) (hy : InS (h.next ≤ ·) y) :
    SJ h0 h' r tk L en rv0 rows0 v X rv d0 inner cells w ∧ RowsA h' rv (rows0 ++ d0 :: inner) y := by
  have aty : ∀ i, (∃ off n, a = .sl i off n) → ∃ o, h.obj i = some o ∧ o.ty = 53 := by
    rintro i ⟨off, n, he⟩
    rcases ha with ⟨h1, _⟩ | ⟨id, h1, ho⟩
    · rw [h1] at he; cases he
    · rw [h1] at he; cases he; exact ⟨_, ho, rfl⟩
  have not : ∀ i o, h.obj i = some o → o.ty ≠ 53 → ¬ ∃ off n, a = .sl i off n := fun i o ho hne he => by
    obtain ⟨o', ho', ht⟩ := aty i he
    rw [ho] at ho'; cases ho'; exact hne ht
  have ra' : RowsA h' rv (rows0 ++ d0 :: inner) y := by
    obtain ⟨l, h1, h2, h3⟩ := ra
    refine ⟨l, h1.of_fr hf (fun id he => ?_), h2, fun z hz => ⟨?_, fun id off n off' n' he he' => ?_⟩⟩
    · rcases h1 with ⟨h4, _⟩ | ⟨id', h4, ho⟩
      · rw [h4] at he; cases he
      · rw [h4] at he; cases he; exact not _ _ ho (show (36 : Nat) ≠ 53 by decide)
    · obtain ⟨h4, h5⟩ := h3 z hz
      rcases h4 with h4 | ⟨id, h4, ho⟩
      · exact .inl h4
      · refine .inr ⟨id, h4, hf.obj ho ?_⟩
        rintro ⟨off, n, he⟩
        exact h5 id off n _ _ he h4
    · have h6 := hy id off n he
      obtain ⟨h4, _⟩ := h3 z hz
      rcases h4 with ⟨h4, _⟩ | ⟨id', h4, ho⟩
      · rw [h4] at he'; cases he'
      · rw [h4] at he'; cases he'
        have := h.lt _ _ ho
        omega
  obtain ⟨ro, hro, hrt⟩ := s.rs.r.ty
  refine ⟨⟨s.fr.trans (hf.mono fun id hid => ?_), ⟨s.rs.r.keep hf (not _ _ hro (by rw [hrt]; show (44 : Nat) ≠ 53; decide)), hf.obj s.rs.t (not _ _ s.rs.t (show (38 : Nat) ≠ 53 by decide)), ra'.to, s.rs.b, s.rs.ok⟩, s.ins, hf.obj s.vo (not _ _ s.vo (show (36 : Nat) ≠ 53 by decide)), s.vn, s.rn⟩, ra'⟩
  obtain ⟨off, n, he⟩ := hid
  exact .inr (hown id off n he)
end
section
variable {h0 h : AH} {r tk : Nat} {L : List Tok} {en : Int} {rv0 : AV} {rows0 : List Row} {v : Nat} {X : Res Nat} {rv : AV} {d0 : Row} {inner : List Row} {M : Nat → Prop} {R : AE → AH → Prop} {tm : Nat → AV} {a : AV} {row : Row}
/-- What is left to be shown when the row is stored. -/
def FinE (h0 : AH) (r tk : Nat) (L : List Tok) (en : Int) (rv0 : AV) (rows0 : List Row) (R : AE → AH → Prop) (X : Res Nat) (new : List Row) : Prop :=
  ∀ h' rv', RSX h' r tk L en X rv' (rows0 ++ new) 0 → Fr h0 h' (SS r rv0) → InS (fun id => SS r rv0 id ∨ h0.next ≤ id) rv' → R (.ret (.tup [])) h'
def FinX (h0 : AH) (r tk : Nat) (L : List Tok) (en : Int) (rv0 : AV) (rows0 : List Row) (R : AE → AH → Prop) (res : Res (Nat × List Row)) : Prop := StX h0 r tk L en rv0 rows0 (fun h' => R (.ret (.tup [])) h') res
theorem FinX.e {res : Res (Nat × List Row)} {new : List Row} (hR : FinX h0 r tk L en rv0 rows0 R res) (h1 : X = res.map (·.1)) (h2 : ∀ x, res = .ok x → new = x.2) : FinE h0 r tk L en rv0 rows0 R X new :=
  fun h' rv' a b c => hR h' rv' new X a h1 h2 b c
/-- What the temporaries hold. -/
structure TN (tm : Nat → AV) (r v : Nat) (d : Int) (n : Nat) : Prop where
  e0 : tm 0 = .ptr r 0
  e1 : tm 1 = .sc (.int .i64 d)
  e5 : tm 5 = .sc (.int .i64 n)
  e6 : tm 6 = .ptr v 0
theorem TN.puts {tm : Nat → AV} {r v : Nat} {d : Int} {n : Nat} (t : TN tm r v d n) : ∀ (l : List (Nat × AV)), (∀ x ∈ l, 6 < x.1) → TN (puts tm l) r v d n
  | [], _ => t
  | x :: l, h => by
    have hx := h x (by simp)
    exact TN.puts (tm := Go.Ab.upd tm x.1 x.2) ⟨by rw [upd_ne (by omega)]; exact t.e0, by rw [upd_ne (by omega)]; exact t.e1, by rw [upd_ne (by omega)]; exact t.e5, by rw [upd_ne (by omega)]; exact t.e6⟩ l (fun y hy => h y (by simp [hy]))
theorem F12_store (s : SJ h0 h r tk L en rv0 rows0 v X rv d0 inner (encRA (row, a)) 0) (ha : SlL Arg.enc 2 53 h a row.args) {d : Int} (t : TN tm r v d rows0.length)
    (hR : FinE h0 r tk L en rv0 rows0 R X (row :: inner)) : F12.k1 (fun id => M id ∨ h0.next ≤ id) (Ab.bodyQ Try.prog [] R) (Ab.bodyP R) ⟨tm, []⟩ h := by
  obtain ⟨l, h1, h2, h3⟩ := s.rs.rows
  rcases h1 with ⟨_, h1⟩ | ⟨id, hid, ho⟩
  · subst h1; simp at h2
  obtain ⟨A, l2, rfl, hA, hl2⟩ := List.map_eq_append_iff.1 h2
  obtain ⟨x, B, rfl, hx, hB⟩ := List.map_eq_cons_iff.1 hl2
  have hAl : A.length = rows0.length := by rw [← hA]; simp
  obtain ⟨i1, i2⟩ := s.ins id 0 _ hid
  have hidr : id ≠ r := by have := s.rn; omega
  have hput := putCells_flat encRA_len A B x (row, a)
  have hlt : (rows0.length : Int) < ((A ++ x :: B).length : Nat) := by simp; omega
  have hbig : rows0.length * 6 + 6 ≤ ((A ++ x :: B).flatMap encRA).length := by rw [flat_len encRA_len]; simp; omega
  rw [hAl] at hput
  have f1 : Fr h (h.put id (rows0.length * 6) (encRA (row, a))) (· = id) := Fr.refl.put (.inl rfl)
  have o1 : (h.put id (rows0.length * 6) (encRA (row, a))).obj id = some (mkO ((A ++ (row, a) :: B).flatMap encRA) 6 36) := by rw [put_row ho, hput]
  have rs1 : RSX (h.put id (rows0.length * 6) (encRA (row, a))) r tk L en X rv (rows0 ++ row :: inner) 0 := by
    have ak : ∀ id' o, h.obj id' = some o → o.ty = 53 → ¬ id' = id := fun id' o ho' ht => obj_ne ho' ho (by rw [ht]; show (53 : Nat) ≠ 36; decide)
    refine ⟨s.rs.r.keep f1 (Ne.symm hidr), f1.obj s.rs.t (obj_ne s.rs.t ho (show (38 : Nat) ≠ 36 by decide)), ⟨A ++ (row, a) :: B, .inr ⟨id, by rw [hid]; simp, o1⟩, by simp [hA, hB], fun y hy => ?_⟩, by have := s.rs.b; simpa using this, fun p he => by have := s.rs.ok p he; simpa using this⟩
    rcases List.mem_append.1 hy with hy | hy
    · exact args_keep (h3 y (by simp [hy])) f1 ak
    · rcases List.mem_cons.1 hy with hy | hy
      · subst hy; exact args_keep ha f1 ak
      · exact args_keep (h3 y (by simp [hy])) f1 ak
  have hres := hR _ _ rs1 (s.fr.trans (f1.mono fun i (hi : i = id) => .inr (hi ▸ i1))) (fun i off n he => .inr (s.ins i off n he).1)
  have hv := s.vo
  obtain ⟨p, e, o, hr, _⟩ := s.rs.r
  simp only [F12.k1, F12.t1, t.e0, t.e5, t.e6, pNil_ptr, pFld_ptr, lLd_f, lLdn_f, hr, hv, ldk_mk, ldnk_mk]
  simp only [Nat.zero_add, List.getElem?_cons_succ, List.getElem?_cons_zero, cellK_some, hid, pIxA_sl, eStore_f, ho, stk_mk, avC_agg]
  have hen : (encRA (row, a)).length = 6 := rfl
  refine ⟨by simp [hen], ⟨by omega, hlt⟩, ?_⟩
  rw [show List.drop 0 (encRA (row, a)) = encRA (row, a) from rfl, List.take_of_length_le (by simp [hen])]
  rw [Int.toNat_natCast]
  exact ⟨⟨.inr i1, by rcases ha with ⟨rfl, _⟩ | ⟨id', rfl, _⟩ <;> rfl, rfl, hbig⟩, rfl, hres⟩
theorem F12_end (hL : LOK L) (s : SJ h0 h r tk L en rv0 rows0 v X rv d0 inner (encRA (row, a)) 0) (ha : SlL Arg.enc 2 53 h a row.args) {d : Int} (t : TN tm r v d rows0.length)
    (hR : FinE h0 r tk L en rv0 rows0 R X ({ row with rows := inner.length } :: inner)) : F12.k2 (fun id => M id ∨ h0.next ≤ id) (Ab.bodyQ Try.prog [] R) (Ab.bodyP R) ⟨tm, []⟩ h := by
  have hL0 := hL.len
  have hb := s.rs.b
  rw [List.length_append, List.length_cons] at hb
  obtain ⟨p, e, o, hr, _⟩ := s.rs.r
  have w1 : IntKind.i64.wrap (((rows0 ++ d0 :: inner).length : Int) - rows0.length) = (inner.length : Int) + 1 := by rw [List.length_append, List.length_cons, wrap_in (by omega) (by omega)]; omega
  have w2 : IntKind.i64.wrap ((inner.length : Int) + 1 - 1) = inner.length := by rw [wrap_in (by omega) (by omega)]; omega
  simp only [F12.k2, F12.t2, t.e0, t.e5, t.e6, pNil_ptr, pFld_ptr, lLd_f, hr, ldk_mk, Nat.zero_add, List.getElem?_cons_succ, List.getElem?_cons_zero, cellK_some, s.rs.rows.len.1, s.rs.rows.len.2, pBin_sub, w1, w2, eStore_f, s.vo, avC_int, stk_mk, true_and]
  refine ⟨⟨.inr s.vn, rfl, rfl, by simp [encRA]⟩, ?_⟩
  have s2 := s.set 4 [.sc (.int .i64 inner.length)]
  have a2 := args_keep ha (Fr.refl.put (h := h) (S := (· = v)) (id := v) (off := 4) (cs := [.sc (.int .i64 inner.length)]) (.inl rfl)) s.a_set
  exact F12_store (row := { row with rows := inner.length }) s2 a2 (t.puts _ (by simp)) hR
theorem hp_leX {cells : List AV} {w : Nat} (s : SJ h0 h r tk L en rv0 rows0 v X rv d0 inner cells w) (hM : ∀ id, SS r rv0 id → M id) : ∀ id, SS r rv id → M id ∨ h0.next ≤ id := by
  rintro id (h1 | ⟨n, h1⟩)
  · exact .inl (hM _ (.inl h1))
  · exact .inr (s.ins id 0 n h1).1
theorem F12_line (hL : LOK L) (hM : ∀ id, SS r rv0 id → M id) (s : SJ h0 h r tk L en rv0 rows0 v X rv d0 inner (encRA (row, a)) 0) (ha : SlL Arg.enc 2 53 h a row.args) {d : Int} {tmf : AV → Nat → AV} (t : ∀ u, TN (tmf u) r v d rows0.length)
    (hR : FinE h0 r tk L en rv0 rows0 R (rB X fun p => (signP L en p sSemi).map fun _ => p + 1) ({ row with rows := inner.length } :: inner)) :
    aCall Try.prog (fun id => M id ∨ h0.next ≤ id) 29 [.ptr r 0, .sc (.string ⟨#[59]⟩)] h (fun t h' => F12.k2 (fun id => M id ∨ h0.next ≤ id) (Ab.bodyQ Try.prog [] R) (Ab.bodyP R) ⟨tmf t, []⟩ h') (Ab.bodyP R []) := by
  refine ⟨(· = r), fun _ h _ => h ▸ .inl (hM r (.inl rfl)), want_r rfl hL.len s.rs.r s.rs.t ?_⟩
  intro h' f1 r1
  exact F12_end hL (s.call (by omega) f1 r1 .sign) (args_keep ha f1 s.a_call) (t _) hR
theorem F12_held {k : Nat} {d d' : Int} (hL : LOK L) (hb : BodyX L en k) (hd : d' = 33 - (k : Int)) (hM : ∀ id, SS r rv0 id → M id) (s : SJ h0 h r tk L en rv0 rows0 v X rv d0 [] (encRA (row, a)) 0) (ha : SlL Arg.enc 2 53 h a row.args)
    {tmf : AV → Nat → AV} (t : ∀ u, TN (tmf u) r v d rows0.length)
    (hR : ∀ X' new, X' = (rB X (bdP L en k (stepP L en k))).map (·.1) → (∀ x, rB X (bdP L en k (stepP L en k)) = .ok x → new = x.2) → FinE h0 r tk L en rv0 rows0 R X' ({ row with rows := new.length } :: new)) :
    aCall Try.prog (fun id => M id ∨ h0.next ≤ id) 31 [.ptr r 0, .sc (.int .i64 d')] h (fun t h' => F12.k2 (fun id => M id ∨ h0.next ≤ id) (Ab.bodyQ Try.prog [] R) (Ab.bodyP R) ⟨tmf t, []⟩ h') (Ab.bodyP R []) := by
  refine ⟨SS r rv, fun id hid _ => hp_leX s hM id hid, hb hd (fun _ h => h) s.rs ?_⟩
  intro h' rv' new X' rs' hX hn f1 i1
  have s1 := s.body rs' f1 i1
  have a1 := args_keep ha f1 s.a_body
  exact F12_end hL s1 a1 (t _) (by simpa using hR X' new hX hn)
end
end Go.Proofs.Ythkkgbmjjpcfaaa

namespace Go.Proofs.Ythkkgbmjjpcfaaa
open Go.Ab
/-! the reader of the document: the arms of a statement -/
section
variable {h0 h : AH} {r tk : Nat} {L : List Tok} {en : Int} {rv0 : AV} {rows0 : List Row} {v : Nat} {X : Res Nat} {rv : AV} {d0 : Row} {inner : List Row} {cells : List AV} {M : Nat → Prop} {R : AE → AH → Prop} {tm : Nat → AV}
theorem sj_name (hL : LOK L) (hM : ∀ id, SS r rv0 id → M id) {w : Nat} (hw : w ≤ 1) (s : SJ h0 h r tk L en rv0 rows0 v X rv d0 inner cells w) (hc : cells.length = 6) {C : KT} {tmf : AV → AV → Nat → AV} {off : Nat} (ho : off < 6)
    (hok : ∀ nm u h', (∀ s', rB X (nameP L en) = .ok s' → s' = nm) → SJ h0 h' r tk L en rv0 rows0 v (rB X fun p => (nameP L en p).map fun _ => p + 1) rv d0 inner (putCells cells off [.sc (.string nm)]) 0 → C ⟨tmf (.sc (.string nm)) u, []⟩ h') :
    aCall Try.prog (fun id => M id ∨ h0.next ≤ id) 27 [.ptr r 0] h (fun t h' => pFld (some off) (.ptr v 0) fun u => eStore (some 1) u t h' (fun id => M id ∨ h0.next ≤ id) fun h'' => C ⟨tmf t u, []⟩ h'') (Ab.bodyP R []) := by
  refine ⟨(· = r), fun _ h _ => h ▸ .inl (hM r (.inl rfl)), name_r rfl hL.len s.rs.r s.rs.t ?_⟩
  intro nm h' f1 r1 hn
  have s1 := s.call hw f1 r1 .name
  have s2 := s1.set off [.sc (.string nm)]
  show pFld (some off) (.ptr v 0) _
  simp only [pFld_ptr, eStore_f, s1.vo, avC_str, stk_mk, Nat.zero_add]
  exact ⟨⟨.inr s.vn, rfl, rfl, by omega⟩, hok nm _ _ hn s2⟩
theorem sj_number (hL : LOK L) (hM : ∀ id, SS r rv0 id → M id) {w : Nat} (hw : w ≤ 1) (s : SJ h0 h r tk L en rv0 rows0 v X rv d0 inner cells w) (hc : cells.length = 6) {C : KT} {tmf : AV → AV → Nat → AV} {off : Nat} (ho : off < 6)
    (hok : ∀ n u h', (∀ n', rB X (numberP L en) = .ok n' → n' = n) → SJ h0 h' r tk L en rv0 rows0 v (rB X fun p => (numberP L en p).map fun _ => p + 1) rv d0 inner (putCells cells off [.sc (.int .i64 n)]) 0 → C ⟨tmf (.sc (.int .i64 n)) u, []⟩ h') :
    aCall Try.prog (fun id => M id ∨ h0.next ≤ id) 28 [.ptr r 0] h (fun t h' => pFld (some off) (.ptr v 0) fun u => eStore (some 1) u t h' (fun id => M id ∨ h0.next ≤ id) fun h'' => C ⟨tmf t u, []⟩ h'') (Ab.bodyP R []) := by
  refine ⟨(· = r), fun _ h _ => h ▸ .inl (hM r (.inl rfl)), number_r rfl hL s.rs.r s.rs.t ?_⟩
  intro nm h' f1 r1 hn
  have s1 := s.call hw f1 r1 .number
  have s2 := s1.set off [.sc (.int .i64 nm)]
  show pFld (some off) (.ptr v 0) _
  simp only [pFld_ptr, eStore_f, s1.vo, avC_int, stk_mk, Nat.zero_add]
  exact ⟨⟨.inr s.vn, rfl, rfl, by omega⟩, hok nm _ _ hn s2⟩
/-- An argument is read into a variable of its own. -/
theorem sj_arg (hL : LOK L) (hM : ∀ id, SS r rv0 id → M id) {w : Nat} (hw : w ≤ 1) (s : SJ h0 h r tk L en rv0 rows0 v X rv d0 inner cells w) {C : KT} {tmf : AV → AV → Nat → AV} {K : AV → AH → Prop}
    (hC : ∀ t h', (eAlloc (some [.string ⟨#[]⟩, .int .i64 0]) 2 53 h' fun u h1 => eStore (some 2) u t h1 (fun id => M id ∨ h0.next ≤ id) fun h2 => C ⟨tmf t u, []⟩ h2) = K t h')
    (hok : ∀ a c h', (∀ x, rB X (argP L en) = .ok x → x.1 = a) → SJ h0 h' r tk L en rv0 rows0 v (rB X fun p => (argP L en p).map (·.2)) rv d0 inner cells 0 → Fr h h' (· = r) → h.next ≤ c → h'.obj c = some (oArg a) → C ⟨tmf (.agg a.enc) (.ptr c 0), []⟩ h') :
    aCall Try.prog (fun id => M id ∨ h0.next ≤ id) 32 [.ptr r 0] h K (Ab.bodyP R []) := by
  refine ⟨(· = r), fun _ h _ => h ▸ .inl (hM r (.inl rfl)), argument_r rfl hL s.rs.r s.rs.t ?_⟩
  intro a h' f1 r1 hn
  have s1 := s.call hw f1 r1 .arg
  show K (.agg a.enc) h'
  rw [← hC]
  simp only [eAlloc_d]
  refine ⟨rfl, ?_⟩
  have hv := AH.alloc_new h' (mkO ([.string ⟨#[]⟩, .int .i64 0].map AV.sc) 2 53)
  have g : Fr h' ((h'.alloc (mkO ([.string ⟨#[]⟩, .int .i64 0].map AV.sc) 2 53)).put h'.next 0 a.enc) (fun _ => False) := (Fr.refl.alloc _).put (.inr (Nat.le_refl _))
  simp only [eStore_f, hv, avC_agg, stk_mk]
  refine ⟨⟨.inr (Nat.le_trans s.fr.next f1.next), rfl, rfl, by simp [Arg.enc]⟩, ?_⟩
  exact hok a _ _ hn (s1.quiet g) (f1.trans (g.mono fun _ h => h.elim)) f1.next (by rw [put_row hv]; rfl)
theorem F12_regs {d : Int} {p : Nat} (hL : LOK L) (hM : ∀ id, SS r rv0 id → M id) {k : ByteArray} {pl : Int} (s : SJ h0 h r tk L en rv0 rows0 v (.ok p) rv d0 [] (encRA (⟨k, sEmpty, [], 0, 0, pl⟩, nilS)) 0) (t : TN tm r v d rows0.length)
    (hR : FinX h0 r tk L en rv0 rows0 R (match nameP L en p with | .error e => .error e | .ok nm => match numberP L en (p + 1) with | .error e => .error e | .ok n => lineP L en (p + 2) ⟨k, nm, [], n, 0, pl⟩)) :
    F12.k5 (fun id => M id ∨ h0.next ≤ id) (Ab.bodyQ Try.prog [] R) (Ab.bodyP R) ⟨tm, []⟩ h := by
  simp only [F12.k5, F12.t5, t.e0, t.e6]
  refine sj_name hL hM (by decide) s rfl (tmf := fun t u => puts tm [(98, .ptr r 0), (99, t), (100, u)]) (by decide) (fun nm u h1 hn s1 => ?_)
  have t1 := t.puts [(98, .ptr r 0), (99, .sc (.string nm)), (100, u)] (by simp)
  generalize puts tm [(98, .ptr r 0), (99, .sc (.string nm)), (100, u)] = tm1 at *
  simp only [F12.k4, F12.t4, t1.e0, t1.e6]
  refine sj_number hL hM (by decide) s1 rfl (tmf := fun t u => puts tm1 [(101, .ptr r 0), (102, t), (103, u)]) (by decide) (fun n u h2 hn2 s2 => ?_)
  have t2 := t1.puts [(101, .ptr r 0), (102, .sc (.int .i64 n)), (103, u)] (by simp)
  generalize puts tm1 [(101, .ptr r 0), (102, .sc (.int .i64 n)), (103, u)] = tm2 at *
  simp only [F12.k3, F12.t3, t2.e0]
  refine F12_line (row := ⟨k, nm, [], n, 0, pl⟩) (a := nilS) hL hM s2 .nil (tmf := fun t => puts tm2 [(104, .ptr r 0), (105, t)]) (fun _ => t2.puts _ (by simp)) ?_
  simp only [rB_ok] at hn hn2 ⊢
  cases h1 : nameP L en p with
  | error e => rw [h1] at hR; exact hR.e rfl (by simp)
  | ok nm' =>
    rw [h1] at hR hn hn2
    have := hn nm' rfl
    subst this
    simp only [Except.map, rB_ok] at hn2 ⊢
    cases h2 : numberP L en (p + 1) with
    | error e => simp only [h2] at hR; exact hR.e rfl (by simp)
    | ok n' =>
      simp only [h2] at hR hn2
      have := hn2 n' rfl
      subst this
      simp only [rB_ok]
      unfold lineP at hR
      cases h3 : signP L en (p + 2) sSemi with
      | error e => simp only [h3] at hR; exact hR.e (by simp [h3, Except.map]) (by simp)
      | ok t => simp only [h3] at hR; exact hR.e (by simp [h3, Except.map]) (by simp)
theorem F12_rep {d : Int} {kk p : Nat} (hL : LOK L) (hb : BodyX L en kk) (hd : d = 32 - (kk : Int)) (hkk : kk ≤ 32) (hM : ∀ id, SS r rv0 id → M id) {k : ByteArray} {pl : Int} (s : SJ h0 h r tk L en rv0 rows0 v (.ok p) rv d0 [] (encRA (⟨k, sEmpty, [], 0, 0, pl⟩, nilS)) 0) (t : TN tm r v d rows0.length)
    (hR : FinX h0 r tk L en rv0 rows0 R (match numberP L en p with | .error e => .error e | .ok n => heldP L en kk (stepP L en kk) (p + 1) ⟨k, sEmpty, [], n, 0, pl⟩)) :
    F12.k13 (fun id => M id ∨ h0.next ≤ id) (Ab.bodyQ Try.prog [] R) (Ab.bodyP R) ⟨tm, []⟩ h := by
  have hw : IntKind.i64.wrap (d + 1) = d + 1 := wrap_in (by omega) (by omega)
  simp only [F12.k13, F12.t13, t.e0, t.e6]
  refine sj_number hL hM (by decide) s rfl (tmf := fun t u => puts tm [(127, .ptr r 0), (128, t), (129, u)]) (by decide) (fun n u h2 hn2 s2 => ?_)
  have t2 := t.puts [(127, .ptr r 0), (128, .sc (.int .i64 n)), (129, u)] (by simp)
  generalize puts tm [(127, .ptr r 0), (128, .sc (.int .i64 n)), (129, u)] = tm2 at *
  simp only [F12.k12, F12.t12, t2.e0, t2.e1, pBin_add, hw]
  refine F12_held (row := ⟨k, sEmpty, [], n, 0, pl⟩) (a := nilS) (d := d) hL hb (by omega) hM s2 .nil (tmf := fun t => puts tm2 [(130, .ptr r 0), (131, .sc (.int .i64 d)), (132, .sc (.int .i64 (d + 1))), (133, t)]) (fun _ => t2.puts _ (by simp)) ?_
  intro X' new hX hnew
  simp only [rB_ok] at hn2 hX hnew
  cases h1 : numberP L en p with
  | error e => rw [h1] at hR hX; exact hR.e (by simpa [Except.map] using hX) (by simp)
  | ok n' =>
    simp only [h1] at hR hn2 hX hnew
    have := hn2 n' rfl
    subst this
    simp only [Except.map, rB_ok] at hX hnew
    unfold heldP at hR
    cases h3 : bdP L en kk (stepP L en kk) (p + 1) with
    | error e => simp only [h3] at hR hX; exact hR.e (by simpa [Except.map] using hX) (by simp)
    | ok x =>
      simp only [h3] at hR hX hnew
      have := hnew x rfl
      subst this
      exact hR.e (by simpa [Except.map] using hX) (by simp)
theorem F12_if {d : Int} {kk p : Nat} (hL : LOK L) (hb : BodyX L en kk) (hd : d = 32 - (kk : Int)) (hkk : kk ≤ 32) (hM : ∀ id, SS r rv0 id → M id) {k : ByteArray} {pl : Int} (s : SJ h0 h r tk L en rv0 rows0 v (.ok p) rv d0 [] (encRA (⟨k, sEmpty, [], 0, 0, pl⟩, nilS)) 0) (t : TN tm r v d rows0.length)
    (hR : FinX h0 r tk L en rv0 rows0 R (match nameP L en p with | .error e => .error e | .ok nm => match numberP L en (p + 1) with | .error e => .error e | .ok n => heldP L en kk (stepP L en kk) (p + 2) ⟨k, nm, [], n, 0, pl⟩)) :
    F12.k16 (fun id => M id ∨ h0.next ≤ id) (Ab.bodyQ Try.prog [] R) (Ab.bodyP R) ⟨tm, []⟩ h := by
  have hw : IntKind.i64.wrap (d + 1) = d + 1 := wrap_in (by omega) (by omega)
  simp only [F12.k16, F12.t16, t.e0, t.e6]
  refine sj_name hL hM (by decide) s rfl (tmf := fun t u => puts tm [(136, .ptr r 0), (137, t), (138, u)]) (by decide) (fun nm u h1 hn s1 => ?_)
  have t1 := t.puts [(136, .ptr r 0), (137, .sc (.string nm)), (138, u)] (by simp)
  generalize puts tm [(136, .ptr r 0), (137, .sc (.string nm)), (138, u)] = tm1 at *
  simp only [F12.k15, F12.t15, t1.e0, t1.e6]
  refine sj_number hL hM (by decide) s1 rfl (tmf := fun t u => puts tm1 [(139, .ptr r 0), (140, t), (141, u)]) (by decide) (fun n u h2 hn2 s2 => ?_)
  have t2 := t1.puts [(139, .ptr r 0), (140, .sc (.int .i64 n)), (141, u)] (by simp)
  generalize puts tm1 [(139, .ptr r 0), (140, .sc (.int .i64 n)), (141, u)] = tm2 at *
  simp only [F12.k14, F12.t14, t2.e0, t2.e1, pBin_add, hw]
  refine F12_held (row := ⟨k, nm, [], n, 0, pl⟩) (a := nilS) (d := d) hL hb (by omega) hM s2 .nil (tmf := fun t => puts tm2 [(142, .ptr r 0), (143, .sc (.int .i64 d)), (144, .sc (.int .i64 (d + 1))), (145, t)]) (fun _ => t2.puts _ (by simp)) ?_
  intro X' new hX hnew
  simp only [rB_ok] at hn hn2 hX hnew
  cases h0 : nameP L en p with
  | error e => rw [h0] at hR hX; exact hR.e (by simpa [Except.map] using hX) (by simp)
  | ok nm' =>
    simp only [h0] at hR hn hn2 hX hnew
    have := hn nm' rfl
    subst this
    simp only [Except.map, rB_ok] at hn2 hX hnew
    cases h1 : numberP L en (p + 1) with
    | error e => simp only [h1] at hR hX; exact hR.e (by simpa [Except.map] using hX) (by simp)
    | ok n' =>
      simp only [h1] at hR hn2 hX hnew
      have := hn2 n' rfl
      subst this
      simp only [rB_ok] at hX hnew
      unfold heldP at hR
      cases h3 : bdP L en kk (stepP L en kk) (p + 2) with
      | error e => simp only [h3] at hR hX; exact hR.e (by simpa [Except.map, h3] using hX) (by simp)
      | ok x =>
        simp only [h3] at hR
        simp only [show p + 1 + 1 = p + 2 from rfl, h3] at hX hnew
        have := hnew x rfl
        subst this
        exact hR.e (by simpa [Except.map] using hX) (by simp)
end
end Go.Proofs.Ythkkgbmjjpcfaaa

namespace Go.Ab
theorem bsl1 {α : Type} {f : α → List AV} {sz : Nat} {ty : TypeId} {z : List Value} (hf : ∀ x, (f x).length = sz) (hz : z.length = sz) (h1 : ∀ x, (f x).all oneA = true)
    {h : AH} {t : α} {K : AV → AH → Prop}
    (hK : ∀ h', SlL f sz ty h' (.sl h.next 0 1) [t] → Fr h h' (fun _ => False) → K (.sl h.next 0 1) h') :
    eBSl (some (sz, ty, z)) 1 [(0, .agg (f t))] h K := by
  have hfill : aFill (fun i => some (i * sz, sz)) (z.map .sc) [(0, .agg (f t))] = some (f t) := by
    simp only [aFill, avCells, Nat.zero_mul, hf, List.length_map, hz, Nat.zero_add, Nat.le_refl, and_self, if_true]
    rw [aFill_one (by simp [hf, hz])]
  refine ⟨f t, ⟨hfill, h1 t⟩, ?_⟩
  refine hK _ (.inr ⟨_, rfl, ?_⟩) (Fr.refl.alloc _)
  rw [AH.alloc_new]; simp [mkO]
theorem bsl2 {α : Type} {f : α → List AV} {sz : Nat} {ty : TypeId} {z : List Value} (hf : ∀ x, (f x).length = sz) (hz : z.length = sz + sz) (h1 : ∀ x, (f x).all oneA = true)
    {h : AH} {s t : α} {K : AV → AH → Prop}
    (hK : ∀ h', SlL f sz ty h' (.sl h.next 0 2) [s, t] → Fr h h' (fun _ => False) → K (.sl h.next 0 2) h') :
    eBSl (some (sz, ty, z)) 2 [(0, .agg (f s)), (1, .agg (f t))] h K := by
  have e1 : putCells (z.map AV.sc) 0 (f s) = f s ++ (z.map AV.sc).drop sz := by
    conv => lhs; rw [← List.take_append_drop sz (z.map AV.sc)]
    rw [putCells_0 _ _ _ (by rw [hf]; simp; omega)]
  have e2 : putCells (f s ++ (z.map AV.sc).drop sz) sz (f t) = f s ++ f t := by
    have := putCells_app (f s) (f t) ((z.map AV.sc).drop sz) 0
    rw [hf, Nat.add_zero] at this
    rw [this]
    have := putCells_0 (f t) ((z.map AV.sc).drop sz) [] (by rw [hf]; simp; omega)
    rw [List.append_nil, List.append_nil] at this
    rw [this]
  have hfill : aFill (fun i => some (i * sz, sz)) (z.map .sc) [(0, .agg (f s)), (1, .agg (f t))] = some (f s ++ f t) := by
    simp only [aFill, avC_agg, Nat.zero_mul, Nat.one_mul, Nat.zero_add, hf, true_and]
    rw [if_pos (by simp; omega), e1, if_pos (by simp [hf]; omega), e2]
  refine ⟨_, ⟨hfill, by simp only [List.all_append, h1, Bool.and_self]⟩, ?_⟩
  refine hK _ (.inr ⟨_, rfl, ?_⟩) (Fr.refl.alloc _)
  rw [AH.alloc_new]; simp [mkO]
end Go.Ab
namespace Go.Proofs.Ythkkgbmjjpcfaaa
open Go.Ab
section
variable {h0 h : AH} {r tk : Nat} {L : List Tok} {en : Int} {rv0 : AV} {rows0 : List Row} {v : Nat} {X : Res Nat} {rv : AV} {d0 : Row} {M : Nat → Prop} {R : AE → AH → Prop} {tm : Nat → AV}
theorem sj_push {inner : List Row} {k nm : ByteArray} {acc : List Arg} {pl : Int} {a : AV} {x : Arg} {W : Nat → Prop} {K : AV → AV → AH → Prop} (hW : ∀ id, h0.next ≤ id → W id) (s : SJ h0 h r tk L en rv0 rows0 v X rv d0 inner (encRA (⟨k, nm, acc, 0, 0, pl⟩, a)) 0)
    (ra : RowsA h rv (rows0 ++ d0 :: inner) a) (ha : SlL Arg.enc 2 53 h a acc) (hown : InS (h0.next ≤ ·) a) (hn : acc.length ≤ 65536)
    (hK : ∀ v1 y h', SJ h0 h' r tk L en rv0 rows0 v X rv d0 inner (encRA (⟨k, nm, acc ++ [x], 0, 0, pl⟩, y)) 0 → RowsA h' rv (rows0 ++ d0 :: inner) y → SlL Arg.enc 2 53 h' y (acc ++ [x]) → InS (h0.next ≤ ·) y → K v1 y h') :
    eBSl (some (2, 53, [.string ⟨#[]⟩, .int .i64 0])) 1 [(0, .agg x.enc)] h fun v1 h4 => eApp (some (2, 24, 53)) a v1 h4 W fun y h5 => eStore (some 1) (.ptr v 2) y h5 W fun h6 => K v1 y h6 := by
  refine app1' (f := Arg.enc) (K := fun v1 y h5 => eStore (some 1) (.ptr v 2) y h5 W fun h6 => K v1 y h6) Arg.enc_len (by decide) rfl Arg.enc_one (by decide) ha (fun id off n he => hW _ (hown id off n he)) (by omega) ?_
  intro v1 y h5 hy iy f5
  obtain ⟨s5, ra5⟩ := s.app ra ha hown f5 iy
  obtain ⟨id, hid⟩ := hy.sl (by simp)
  have iy' : InS (h0.next ≤ ·) y := fun i off n he => Nat.le_trans (Nat.le_trans s.vn (by have := h.lt _ _ s.vo; omega)) (iy i off n he)
  have s6 := s5.set 2 [y]
  have ra6 := ra5.setX s5 2 [y]
  have hy6 := args_keep hy (Fr.refl.put (h := h5) (S := (· = v)) (id := v) (off := 2) (cs := [y]) (.inl rfl)) s5.a_set
  subst hid
  simp only [eStore_f, s5.vo, avC_sl, stk_mk]
  exact ⟨⟨hW _ s.vn, rfl, rfl, by simp [encRA]⟩, hK _ _ _ s6 ra6 hy6 iy'⟩
theorem plainX_ok (h : plainX L X = true) : ∃ q, X = .ok q ∧ plainP L q = true := by
  cases X with
  | error x => cases h
  | ok q => exact ⟨q, rfl, h⟩
theorem F12_gate {d : Int} {kk p : Nat} (hL : LOK L) (hb : BodyX L en kk) (hd : d = 32 - (kk : Int)) (hkk : kk ≤ 32) (hM : ∀ id, SS r rv0 id → M id) {k : ByteArray} {pl : Int} (s : SJ h0 h r tk L en rv0 rows0 v (.ok p) rv d0 [] (encRA (⟨k, sEmpty, [], 0, 0, pl⟩, nilS)) 0) (t : TN tm r v d rows0.length)
    (hR : FinX h0 r tk L en rv0 rows0 R (match nameP L en p with | .error e => .error e | .ok nm => match namesP L en (L.length + 1) (p + 1) [] with | .error e => .error e | .ok (l, p') => heldP L en kk (stepP L en kk) p' ⟨k, nm, l, 0, 0, pl⟩)) :
    F12.k11 (fun id => M id ∨ h0.next ≤ id) (Ab.bodyQ Try.prog [] R) (Ab.bodyP R) ⟨tm, []⟩ h := by
  have hL0 := hL.len
  simp only [F12.k11, F12.t11, t.e0, t.e6]
  refine sj_name hL hM (by decide) s rfl (tmf := fun t u => puts tm [(108, .ptr r 0), (109, t), (110, u)]) (by decide) (fun nm u h1 hn s1 => ?_)
  have t1 := t.puts [(108, .ptr r 0), (109, .sc (.string nm)), (110, u)] (by simp)
  generalize puts tm [(108, .ptr r 0), (109, .sc (.string nm)), (110, u)] = tm1 at *
  unfold F12.k10
  simp only [rB_ok] at hn s1
  generalize hX1 : ((nameP L en p).map fun _ => p + 1) = X1 at *
  generalize hY : (rB X1 fun q => namesP L en (L.length + 1) q []) = Y
  refine aLoop_of (ι := Nat × Res Nat × List Arg) (fun x s' h' => s'.ds = [] ∧ TN s'.tm r v d rows0.length ∧ (∀ q, x.2.1 = .ok q → L.length < q + x.1 ∧ x.2.2.length ≤ q) ∧ (rB x.2.1 fun q => namesP L en x.1 q x.2.2) = Y ∧
    ∃ a, SJ h0 h' r tk L en rv0 rows0 v x.2.1 rv d0 [] (encRA (⟨k, nm, x.2.2, 0, 0, pl⟩, a)) 0 ∧ RowsA h' rv (rows0 ++ d0 :: []) a ∧ SlL Arg.enc 2 53 h' a x.2.2 ∧ InS (h0.next ≤ ·) a) (fun x => x.1) (L.length + 1, X1, []) ?_ ?_
  · exact ⟨rfl, t1, fun q hq => ⟨by simp only; omega, by simp⟩, hY, nilS, s1, .nil s1.rs.rows, .nil, fun _ _ _ he => by cases he⟩
  rintro ⟨n, Xq, acc⟩ ⟨tm2, ds⟩ h2 ⟨rfl, t2, hq, hX2, a, s2, ra2, ha2, hown2⟩
  simp only at t2 hq hX2 s2 ra2 ha2
  rw [F12.l1]
  simp only [F12.k9, F12.t9, t2.e0]
  refine ⟨fun _ => False, fun _ h => h.elim, plain_r s2.rs.r s2.rs.t ?_⟩
  have t3 := fun b => t2.puts [(111, .ptr r 0), (112, .sc (.bool b))] (by simp)
  cases hpl : plainX L Xq with
  | false =>
    have e87 : puts tm2 [(111, .ptr r 0), (112, .sc (.bool false))] 112 = .sc (.bool false) := by simp
    have t4 := t3 false
    show F12.k8 _ _ _ ⟨puts tm2 [(111, .ptr r 0), (112, .sc (.bool false))], []⟩ h2
    generalize puts tm2 [(111, .ptr r 0), (112, .sc (.bool false))] = tm3 at *
    have hw : IntKind.i64.wrap (d + 1) = d + 1 := wrap_in (by omega) (by omega)
    simp only [F12.k8, F12.t8, e87, aIf_b, Bool.false_eq_true, false_implies, true_and, true_implies, thenQ, blockQ, if_true]
    simp only [F12.k6, F12.t6, t4.e0, t4.e1, pBin_add, hw]
    refine F12_held (row := ⟨k, nm, acc, 0, 0, pl⟩) (a := a) (d := d) hL hb (by omega) hM s2 ha2 (tmf := fun t => puts tm3 [(121, .ptr r 0), (122, .sc (.int .i64 d)), (123, .sc (.int .i64 (d + 1))), (124, t)]) (fun _ => t4.puts _ (by simp)) ?_
    have hY' : Y = Xq.map fun q => (acc, q) := by
      rw [← hX2]
      cases Xq with
      | error e => rfl
      | ok q =>
        have := (hq q rfl).1
        have hq2 := (s2.rs.ok q rfl).1
        cases n with
        | zero => omega
        | succ n =>
          simp only [plainX] at hpl
          simp [namesP, hpl, Except.map]
    intro X' new hX hnew
    rw [← hY, ← hX1] at hY'
    cases h0 : nameP L en p with
    | error e =>
      rw [h0] at hR hY'
      cases Xq with
      | ok q => simp [Except.map] at hY'
      | error e' =>
        simp [Except.map] at hY'
        subst hY'
        exact hR.e (by simpa [Except.map] using hX) (by simp)
    | ok nm' =>
      rw [h0] at hR hY' hn
      have := hn nm' rfl
      subst this
      simp only [Except.map, rB_ok] at hY'
      cases Xq with
      | error e' =>
        simp only [hY'] at hR
        exact hR.e (by simpa [Except.map] using hX) (by simp)
      | ok q =>
        simp only [hY'] at hR
        simp only [rB_ok] at hX hnew
        unfold heldP at hR
        cases h3 : bdP L en kk (stepP L en kk) q with
        | error e => simp only [h3] at hR hX; exact hR.e (by simpa [Except.map] using hX) (by simp)
        | ok x =>
          simp only [h3] at hR hX hnew
          have := hnew x rfl
          subst this
          exact hR.e (by simpa [Except.map] using hX) (by simp)
  | true =>
    obtain ⟨q, rfl, hpq⟩ := plainX_ok hpl
    obtain ⟨hqn, hacc⟩ := hq q rfl
    have hq2 := (s2.rs.ok q rfl).1
    simp only [rB_ok] at hX2
    cases n with
    | zero => omega
    | succ n =>
      simp only [namesP, hpq, if_true] at hX2
      have e87 : puts tm2 [(111, .ptr r 0), (112, .sc (.bool true))] 112 = .sc (.bool true) := by simp
      have t4 := t3 true
      show F12.k8 _ _ _ ⟨puts tm2 [(111, .ptr r 0), (112, .sc (.bool true))], []⟩ h2
      generalize puts tm2 [(111, .ptr r 0), (112, .sc (.bool true))] = tm3 at *
      simp only [F12.k8, F12.t8, e87, aIf_b, Bool.true_eq_false, false_implies, and_true, true_implies]
      simp only [F12.k7, F12.t7]
      refine ⟨fun _ => v, by simp [s2.vo], ?_⟩
      simp only [t4.e6, t4.e0, pFld_ptr, lLd_f, s2.vo, ldk_mk, Nat.zero_add]
      simp only [encRA, List.getElem?_cons_succ, List.getElem?_cons_zero, cellK_some]
      refine ⟨by simp, (· = r), fun id hid _ => ?_, name_r rfl hL0 s2.rs.r s2.rs.t ?_⟩
      · have := s2.vr
        exact hid ▸ ⟨.inl (hM r (.inl rfl)), by simp; exact fun e => this e.symm⟩
      intro nm2 h3 f3 r3 hn2
      have s3 := s2.call (by omega) f3 r3 .name
      have ra3 := ra2.callX s2 f3
      have ha3 := args_keep ha2 f3 s2.a_call
      simp only [rB_ok] at hn2 s3
      have hnp : nameP L en q = .ok nm2 := by
        cases h5 : nameP L en q with
        | error e =>
          exfalso
          unfold plainP at hpq
          unfold nameP nextP at h5
          cases hg : L[q]? with
          | none => rw [hg] at hpq; cases hpq
          | some t' =>
            have : plainP L q = true := by unfold plainP; exact hpq
            simp [hg, this, Except.map] at h5
        | ok s' => rw [hn2 s' h5]
      rw [hnp] at hX2 s3
      simp only [Except.map] at s3
      refine ⟨Arg.enc ⟨nm2, -1⟩, rfl, ?_⟩
      show eBSl (some (2, 53, [.string ⟨#[]⟩, .int .i64 0])) 1 [(0, .agg (Arg.enc ⟨nm2, -1⟩))] h3 _
      refine sj_push (x := ⟨nm2, -1⟩) (fun id hid => Or.inr hid) s3 ra3 ha3 hown2 (by omega) ?_
      intro v1 y h6 s6 ra6 hy6 iy6
      simp only [thenQ]
      exact ⟨(n, .ok (q + 1), acc ++ [⟨nm2, -1⟩]), by simp, trivial, t4.puts _ (by simp), fun q' he => by cases he; exact ⟨by simp only; omega, by simp; omega⟩, by simp only [rB_ok]; exact hX2, y, s6, ra6, hy6, iy6⟩
end
end Go.Proofs.Ythkkgbmjjpcfaaa

namespace Go.Proofs.Ythkkgbmjjpcfaaa
open Go.Ab
section
variable {h0 h : AH} {r tk : Nat} {L : List Tok} {en : Int} {rv0 : AV} {rows0 : List Row} {v : Nat} {X : Res Nat} {rv : AV} {d0 : Row} {M : Nat → Prop} {R : AE → AH → Prop} {tm : Nat → AV}
theorem F12_meas {d : Int} {p : Nat} (hL : LOK L) (hM : ∀ id, SS r rv0 id → M id) {k : ByteArray} {pl : Int} (s : SJ h0 h r tk L en rv0 rows0 v (.ok p) rv d0 [] (encRA (⟨k, sEmpty, [], 0, 0, pl⟩, nilS)) 0) (t : TN tm r v d rows0.length)
    (hR : FinX h0 r tk L en rv0 rows0 R (match argP L en p with | .error e => .error e | .ok (a, p1) => match argP L en p1 with | .error e => .error e | .ok (b, p2) => lineP L en p2 ⟨k, sEmpty, [a, b], 0, 0, pl⟩)) :
    F12.k20 (fun id => M id ∨ h0.next ≤ id) (Ab.bodyQ Try.prog [] R) (Ab.bodyP R) ⟨tm, []⟩ h := by
  simp only [F12.k20, F12.t20, t.e0]
  refine sj_arg hL hM (by decide) s (tmf := fun t u => puts tm [(148, .ptr r 0), (149, t), (7, u)]) (fun _ _ => rfl) ?_
  intro a c1 h1 hn1 s1 f1 c1n o1
  have t1 := t.puts [(148, .ptr r 0), (149, .agg a.enc), (7, .ptr c1 0)] (by simp)
  have e7 : puts tm [(148, .ptr r 0), (149, .agg a.enc), (7, .ptr c1 0)] 7 = .ptr c1 0 := by simp
  show F12.k19 _ _ _ ⟨puts tm [(148, .ptr r 0), (149, .agg a.enc), (7, .ptr c1 0)], []⟩ h1
  generalize puts tm [(148, .ptr r 0), (149, .agg a.enc), (7, .ptr c1 0)] = tm1 at *
  simp only [F12.k19, F12.t19, t1.e0]
  refine sj_arg hL hM (by decide) s1 (tmf := fun t u => puts tm1 [(150, .ptr r 0), (151, t), (8, u)]) (fun _ _ => rfl) ?_
  intro b c2 h2 hn2 s2 f2 c2n o2
  have t2 := t1.puts [(150, .ptr r 0), (151, .agg b.enc), (8, .ptr c2 0)] (by simp)
  have g7 : puts tm1 [(150, .ptr r 0), (151, .agg b.enc), (8, .ptr c2 0)] 7 = .ptr c1 0 := by simp [e7]
  have g8 : puts tm1 [(150, .ptr r 0), (151, .agg b.enc), (8, .ptr c2 0)] 8 = .ptr c2 0 := by simp
  have c1r : c1 ≠ r := s1.rs.ner o1 (show (53 : Nat) ≠ 44 by decide)
  have o1' := f2.obj o1 c1r
  show F12.k18 _ _ _ ⟨puts tm1 [(150, .ptr r 0), (151, .agg b.enc), (8, .ptr c2 0)], []⟩ h2
  generalize puts tm1 [(150, .ptr r 0), (151, .agg b.enc), (8, .ptr c2 0)] = tm2 at *
  simp only [F12.k18, F12.t18, g7, g8, t2.e6, lLdn_f, o1', o2, ldnk_mk, pFld_ptr, Nat.zero_add]
  refine ⟨by simp, by simp, ?_⟩
  show eBSl (some (2, 53, [.string ⟨#[]⟩, .int .i64 0, .string ⟨#[]⟩, .int .i64 0])) 2 [(0, .agg a.enc), (1, .agg b.enc)] h2 _
  refine bsl2 (f := Arg.enc) Arg.enc_len rfl Arg.enc_one ?_
  intro h3 hy f3
  have s3 := s2.quiet f3
  have s4 := s3.set 2 [.sl h2.next 0 2]
  have hy4 := args_keep hy (Fr.refl.put (h := h3) (S := (· = v)) (id := v) (off := 2) (cs := [.sl h2.next 0 2]) (.inl rfl)) s3.a_set
  simp only [eStore_f, s3.vo, avC_sl, stk_mk]
  refine ⟨⟨.inr s.vn, rfl, rfl, by simp [encRA]⟩, ?_⟩
  have t4 := t2.puts [(152, .agg a.enc), (153, .agg b.enc), (154, .sl h2.next 0 2), (155, .ptr v 2)] (by simp)
  show F12.k17 _ _ _ ⟨puts tm2 [(152, .agg a.enc), (153, .agg b.enc), (154, .sl h2.next 0 2), (155, .ptr v 2)], []⟩ _
  generalize puts tm2 [(152, .agg a.enc), (153, .agg b.enc), (154, .sl h2.next 0 2), (155, .ptr v 2)] = tm3 at *
  simp only [F12.k17, F12.t17, t4.e0]
  refine F12_line (row := ⟨k, sEmpty, [a, b], 0, 0, pl⟩) (a := .sl h2.next 0 2) hL hM s4 hy4 (tmf := fun t => puts tm3 [(156, .ptr r 0), (157, t)]) (fun _ => t4.puts _ (by simp)) ?_
  simp only [rB_ok] at hn1 hn2 ⊢
  cases h1 : argP L en p with
  | error e => rw [h1] at hR; exact hR.e rfl (by simp)
  | ok x =>
    obtain ⟨a', p1⟩ := x
    rw [h1] at hR hn1 hn2
    have := hn1 _ rfl
    subst this
    simp only [Except.map, rB_ok] at hn2 ⊢
    cases h2 : argP L en p1 with
    | error e => simp only [h2] at hR; exact hR.e rfl (by simp)
    | ok x =>
      obtain ⟨b', p2⟩ := x
      simp only [h2] at hR hn2
      have := hn2 _ rfl
      subst this
      simp only [rB_ok]
      unfold lineP at hR
      cases h3 : signP L en p2 sSemi with
      | error e => simp only [h3] at hR; exact hR.e (by simp [Except.map]) (by simp)
      | ok t => simp only [h3] at hR; exact hR.e (by simp [Except.map]) (by simp)
theorem F12_reset {d : Int} {p : Nat} (hL : LOK L) (hM : ∀ id, SS r rv0 id → M id) {k : ByteArray} {pl : Int} (s : SJ h0 h r tk L en rv0 rows0 v (.ok p) rv d0 [] (encRA (⟨k, sEmpty, [], 0, 0, pl⟩, nilS)) 0) (t : TN tm r v d rows0.length)
    (hR : FinX h0 r tk L en rv0 rows0 R (match argP L en p with | .error e => .error e | .ok (a, p1) => lineP L en p1 ⟨k, sEmpty, [a], 0, 0, pl⟩)) :
    F12.k23 (fun id => M id ∨ h0.next ≤ id) (Ab.bodyQ Try.prog [] R) (Ab.bodyP R) ⟨tm, []⟩ h := by
  simp only [F12.k23, F12.t23, t.e0]
  refine sj_arg hL hM (by decide) s (tmf := fun t u => puts tm [(160, .ptr r 0), (161, t), (9, u)]) (fun _ _ => rfl) ?_
  intro a c1 h1 hn1 s1 f1 c1n o1
  have t1 := t.puts [(160, .ptr r 0), (161, .agg a.enc), (9, .ptr c1 0)] (by simp)
  have e9 : puts tm [(160, .ptr r 0), (161, .agg a.enc), (9, .ptr c1 0)] 9 = .ptr c1 0 := by simp
  show F12.k22 _ _ _ ⟨puts tm [(160, .ptr r 0), (161, .agg a.enc), (9, .ptr c1 0)], []⟩ h1
  generalize puts tm [(160, .ptr r 0), (161, .agg a.enc), (9, .ptr c1 0)] = tm1 at *
  simp only [F12.k22, F12.t22, e9, t1.e6, lLdn_f, o1, ldnk_mk, pFld_ptr, Nat.zero_add]
  refine ⟨by simp, ?_⟩
  show eBSl (some (2, 53, [.string ⟨#[]⟩, .int .i64 0])) 1 [(0, .agg a.enc)] h1 _
  refine bsl1 (f := Arg.enc) Arg.enc_len rfl Arg.enc_one ?_
  intro h3 hy f3
  have s3 := s1.quiet f3
  have s4 := s3.set 2 [.sl h1.next 0 1]
  have hy4 := args_keep hy (Fr.refl.put (h := h3) (S := (· = v)) (id := v) (off := 2) (cs := [.sl h1.next 0 1]) (.inl rfl)) s3.a_set
  simp only [eStore_f, s3.vo, avC_sl, stk_mk]
  refine ⟨⟨.inr s.vn, rfl, rfl, by simp [encRA]⟩, ?_⟩
  have t4 := t1.puts [(162, .agg a.enc), (163, .sl h1.next 0 1), (164, .ptr v 2)] (by simp)
  show F12.k21 _ _ _ ⟨puts tm1 [(162, .agg a.enc), (163, .sl h1.next 0 1), (164, .ptr v 2)], []⟩ _
  generalize puts tm1 [(162, .agg a.enc), (163, .sl h1.next 0 1), (164, .ptr v 2)] = tm3 at *
  simp only [F12.k21, F12.t21, t4.e0]
  refine F12_line (row := ⟨k, sEmpty, [a], 0, 0, pl⟩) (a := .sl h1.next 0 1) hL hM s4 hy4 (tmf := fun t => puts tm3 [(165, .ptr r 0), (166, t)]) (fun _ => t4.puts _ (by simp)) ?_
  simp only [rB_ok] at hn1 ⊢
  cases h1 : argP L en p with
  | error e => rw [h1] at hR; exact hR.e rfl (by simp)
  | ok x =>
    obtain ⟨a', p1⟩ := x
    rw [h1] at hR hn1
    have := hn1 _ rfl
    subst this
    simp only [Except.map, rB_ok]
    unfold lineP at hR
    cases h3 : signP L en p1 sSemi with
    | error e => simp only [h3] at hR; exact hR.e (by simp [Except.map]) (by simp)
    | ok t => simp only [h3] at hR; exact hR.e (by simp [Except.map]) (by simp)
theorem F12_use {d : Int} {p : Nat} {tx : ByteArray} (hL : LOK L) (hM : ∀ id, SS r rv0 id → M id) (hnm : nameP L en p = .ok tx) {pl : Int} (s : SJ h0 h r tk L en rv0 rows0 v (.ok p) rv d0 [] (encRA (⟨sUse, sEmpty, [], 0, 0, pl⟩, nilS)) 1) (t : TN tm r v d rows0.length)
    (hR : FinX h0 r tk L en rv0 rows0 R (match argsP L en (L.length + 1) (p + 1) [] with | .error e => .error e | .ok (l, p') => lineP L en p' ⟨sUse, tx, l, 0, 0, pl⟩)) :
    F12.k30 (fun id => M id ∨ h0.next ≤ id) (Ab.bodyQ Try.prog [] R) (Ab.bodyP R) ⟨tm, []⟩ h := by
  have hL0 := hL.len
  simp only [F12.k30, F12.t30, t.e0, t.e6]
  refine sj_name hL hM (by decide) s rfl (tmf := fun t u => puts tm [(80, .ptr r 0), (81, t), (82, u)]) (by decide) (fun nm u h1 hn s1 => ?_)
  have t1 := t.puts [(80, .ptr r 0), (81, .sc (.string nm)), (82, u)] (by simp)
  generalize puts tm [(80, .ptr r 0), (81, .sc (.string nm)), (82, u)] = tm1 at *
  simp only [rB_ok, hnm, Except.map] at hn s1
  have := hn tx rfl
  subst this
  unfold F12.k29
  generalize hY : argsP L en (L.length + 1) (p + 1) [] = Y at hR
  refine aLoop_of (ι := Nat × Res Nat × List Arg) (fun x s' h' => s'.ds = [] ∧ TN s'.tm r v d rows0.length ∧ (∀ q, x.2.1 = .ok q → L.length < q + x.1 ∧ x.2.2.length ≤ q) ∧ x.2.2.length ≤ 65536 ∧ (rB x.2.1 fun q => argsP L en x.1 q x.2.2) = Y ∧
    ∃ a, SJ h0 h' r tk L en rv0 rows0 v x.2.1 rv d0 [] (encRA (⟨sUse, tx, x.2.2, 0, 0, pl⟩, a)) 0 ∧ RowsA h' rv (rows0 ++ d0 :: []) a ∧ SlL Arg.enc 2 53 h' a x.2.2 ∧ InS (h0.next ≤ ·) a) (fun x => x.1) (L.length + 1, .ok (p + 1), []) ?_ ?_
  · exact ⟨rfl, t1, fun q hq => ⟨by simp only; omega, by simp⟩, by simp, hY, nilS, s1, .nil s1.rs.rows, .nil, fun _ _ _ he => by cases he⟩
  rintro ⟨n, Xq, acc⟩ ⟨tm2, ds⟩ h2 ⟨rfl, t2, hq, hac, hX2, a, s2, ra2, ha2, hown2⟩
  simp only at t2 hq hac hX2 s2 ra2 ha2
  rw [F12.l2]
  simp only [F12.k28, F12.t28, t2.e0]
  refine ⟨fun _ => False, fun _ h => h.elim, plain_r s2.rs.r s2.rs.t ?_⟩
  have t3 := fun b => t2.puts [(83, .ptr r 0), (84, .sc (.bool b))] (by simp)
  cases hpl : plainX L Xq with
  | false =>
    have e87 : puts tm2 [(83, .ptr r 0), (84, .sc (.bool false))] 84 = .sc (.bool false) := by simp
    have t4 := t3 false
    show F12.k27 _ _ _ ⟨puts tm2 [(83, .ptr r 0), (84, .sc (.bool false))], []⟩ h2
    generalize puts tm2 [(83, .ptr r 0), (84, .sc (.bool false))] = tm3 at *
    simp only [F12.k27, F12.t27, e87, aIf_b, Bool.false_eq_true, false_implies, true_and, true_implies, thenQ, blockQ, if_true]
    simp only [F12.k24, F12.t24, t4.e0]
    refine F12_line (row := ⟨sUse, tx, acc, 0, 0, pl⟩) (a := a) hL hM s2 ha2 (tmf := fun t => puts tm3 [(93, .ptr r 0), (94, t)]) (fun _ => t4.puts _ (by simp)) ?_
    cases Xq with
    | error e =>
      simp only [rB_error] at hX2 ⊢
      rw [← hX2] at hR
      exact hR.e rfl (by simp)
    | ok q =>
      have := (hq q rfl).1
      have hq2 := (s2.rs.ok q rfl).1
      cases n with
      | zero => omega
      | succ n =>
        simp only [plainX] at hpl
        simp only [rB_ok, argsP, hpl, Bool.false_eq_true, if_false] at hX2 ⊢
        rw [← hX2] at hR
        simp only at hR
        unfold lineP at hR
        cases h3 : signP L en q sSemi with
        | error e => simp only [h3] at hR; exact hR.e (by simp [Except.map]) (by simp)
        | ok t => simp only [h3] at hR; exact hR.e (by simp [Except.map]) (by simp)
  | true =>
    obtain ⟨q, rfl, hpq⟩ := plainX_ok hpl
    obtain ⟨hqn, hacc⟩ := hq q rfl
    have hq2 := (s2.rs.ok q rfl).1
    have hqlt := plain_lt hpq
    simp only [rB_ok] at hX2
    cases n with
    | zero => omega
    | succ n =>
      simp only [argsP, hpq, if_true] at hX2
      have e87 : puts tm2 [(83, .ptr r 0), (84, .sc (.bool true))] 84 = .sc (.bool true) := by simp
      have t4 := t3 true
      show F12.k27 _ _ _ ⟨puts tm2 [(83, .ptr r 0), (84, .sc (.bool true))], []⟩ h2
      generalize puts tm2 [(83, .ptr r 0), (84, .sc (.bool true))] = tm3 at *
      simp only [F12.k27, F12.t27, e87, aIf_b, Bool.true_eq_false, false_implies, and_true, true_implies]
      simp only [F12.k26, F12.t26, t4.e0]
      refine sj_arg hL hM (by decide) s2 (tmf := fun t u => puts tm3 [(85, .ptr r 0), (86, t), (10, u)]) (fun _ _ => rfl) ?_
      intro x c1 h3 hn3 s3 f3 c1n o1
      have ra3 : RowsA h3 rv (rows0 ++ d0 :: []) a := ra2.callX s2 f3
      have ha3 := args_keep ha2 f3 s2.a_call
      have t5 := t4.puts [(85, .ptr r 0), (86, .agg x.enc), (10, .ptr c1 0)] (by simp)
      have e10 : puts tm3 [(85, .ptr r 0), (86, .agg x.enc), (10, .ptr c1 0)] 10 = .ptr c1 0 := by simp
      show F12.k25 _ _ _ ⟨puts tm3 [(85, .ptr r 0), (86, .agg x.enc), (10, .ptr c1 0)], []⟩ h3
      generalize puts tm3 [(85, .ptr r 0), (86, .agg x.enc), (10, .ptr c1 0)] = tm4 at *
      simp only [F12.k25, F12.t25, t5.e6, e10, pFld_ptr, lLd_f, lLdn_f, s3.vo, o1, ldk_mk, ldnk_mk, Nat.zero_add]
      simp only [encRA, List.getElem?_cons_succ, List.getElem?_cons_zero, cellK_some]
      refine ⟨by simp, ?_⟩
      show eBSl (some (2, 53, [.string ⟨#[]⟩, .int .i64 0])) 1 [(0, .agg x.enc)] h3 _
      refine sj_push (x := x) (fun id hid => Or.inr hid) s3 ra3 ha3 hown2 (by omega) ?_
      intro v1 y h6 s6 ra6 hy6 iy6
      simp only [thenQ]
      simp only [rB_ok] at hn3 s6
      refine ⟨(n, (argP L en q).map (·.2), acc ++ [x]), by simp, trivial, t5.puts _ (by simp), fun q' he => ?_, by simp; omega, ?_, y, s6, ra6, hy6, iy6⟩
      · simp only at he ⊢
        cases h5 : argP L en q with
        | error e => rw [h5] at he; simp [Except.map] at he
        | ok z =>
          rw [h5] at he
          have := argP_ok h5
          simp only [Except.map, Except.ok.injEq] at he
          subst he
          exact ⟨by omega, by simp; omega⟩
      · simp only
        cases h5 : argP L en q with
        | error e => rw [h5] at hX2; exact hX2
        | ok z =>
          rw [h5] at hX2 hn3
          have := hn3 z rfl
          subst this
          exact hX2
end
end Go.Proofs.Ythkkgbmjjpcfaaa

namespace Go.Proofs.Ythkkgbmjjpcfaaa
open Go.Ab
structure TZ (tm : Nat → AV) (r v : Nat) (d : Int) (n : Nat) (kd : ByteArray) : Prop where
  m : TN tm r v d n
  e79 : tm 79 = .sc (.string kd)
theorem TZ.two {tm : Nat → AV} {r v : Nat} {d : Int} {n : Nat} {kd : ByteArray} (x : TZ tm r v d n kd) {i j : Nat} (hi : 79 < i) (hj : 79 < j) (a b : AV) : TZ (puts tm [(i, a), (j, b)]) r v d n kd ∧ puts tm [(i, a), (j, b)] j = b := by
  refine ⟨⟨x.m.puts _ (by simp; omega), ?_⟩, by simp only [puts]; exact upd_same _ _ _⟩
  simp only [puts]; rw [upd_ne (by omega), upd_ne (by omega)]; exact x.e79
section
variable {h : AH} {r v : Nat} {d : Int} {n : Nat} {kd : ByteArray} {W : Nat → Prop} {Q : Post} {QP : PPost} {tm : Nat → AV}
theorem F12_switch (x0 : TZ tm r v d n kd)
    (H5 : (kd = sQubits ∨ kd = sBits) → ∀ tm, TN tm r v d n → F12.k5 W Q QP ⟨tm, []⟩ h)
    (H11 : kd = sGate → ∀ tm, TN tm r v d n → F12.k11 W Q QP ⟨tm, []⟩ h)
    (H13 : kd = sRepeat → ∀ tm, TN tm r v d n → F12.k13 W Q QP ⟨tm, []⟩ h)
    (H16 : kd = sIf → ∀ tm, TN tm r v d n → F12.k16 W Q QP ⟨tm, []⟩ h)
    (H20 : kd = sMeasure → ∀ tm, TN tm r v d n → F12.k20 W Q QP ⟨tm, []⟩ h)
    (H23 : kd = sReset → ∀ tm, TN tm r v d n → F12.k23 W Q QP ⟨tm, []⟩ h)
    (H30 : ¬ (kd = sQubits ∨ kd = sBits) → kd ≠ sGate → kd ≠ sRepeat → kd ≠ sIf → kd ≠ sMeasure → kd ≠ sReset → ∀ tm, TN tm r v d n → F12.k30 W Q QP ⟨tm, []⟩ h) :
    F12.k43 W Q QP ⟨tm, []⟩ h := by
  have regs : ∀ (tm : Nat → AV), TZ tm r v d n kd → tm 95 = .sc (.bool true) → (kd = sQubits ∨ kd = sBits) → F12.k41 W Q QP ⟨tm, []⟩ h := by
    intro tm x e hor
    simp only [F12.k41, F12.t41, e, aIf_b, true_implies, Bool.true_eq_false, false_implies, and_true]
    exact H5 hor _ x.m
  simp only [F12.k43, F12.t43, x0.e79, pBin_seql]
  obtain ⟨x1, e1⟩ := x0.two (i := 96) (j := 95) (by decide) (by decide) (.sc (.bool (decide (kd = sQubits)))) (.sc (.bool (decide (kd = sQubits))))
  generalize puts tm [(96, .sc (.bool (decide (kd = sQubits)))), (95, .sc (.bool (decide (kd = sQubits))))] = tm1 at *
  simp only [F12.k42, F12.t42, e1, aIf_b, x1.e79, pBin_seql]
  refine ⟨fun h1 => regs tm1 x1 (by rw [e1, h1]) (.inl (of_decide_eq_true h1)), fun h1 => ?_⟩
  obtain ⟨x2, e2⟩ := x1.two (i := 97) (j := 95) (by decide) (by decide) (.sc (.bool (decide (kd = sBits)))) (.sc (.bool (decide (kd = sBits))))
  generalize puts tm1 [(97, .sc (.bool (decide (kd = sBits)))), (95, .sc (.bool (decide (kd = sBits))))] = tm2 at *
  by_cases h2 : kd = sBits
  · exact regs tm2 x2 (by rw [e2, decide_eq_true h2]) (.inr h2)
  clear regs
  rw [decide_eq_false h2] at e2
  simp only [F12.k41, F12.t41, e2, aIf_b, Bool.false_eq_true, false_implies, true_implies, true_and]
  simp only [F12.k40, F12.t40, x2.e79, pBin_seql]
  obtain ⟨x3, e3⟩ := x2.two (i := 107) (j := 106) (by decide) (by decide) (.sc (.bool (decide (kd = sGate)))) (.sc (.bool (decide (kd = sGate))))
  generalize puts tm2 [(107, .sc (.bool (decide (kd = sGate)))), (106, .sc (.bool (decide (kd = sGate))))] = tm3 at *
  simp only [F12.k39, F12.t39, e3, aIf_b]
  refine ⟨fun h3 => H11 (of_decide_eq_true h3) _ x3.m, fun h3 => ?_⟩
  simp only [F12.k38, F12.t38, x3.e79, pBin_seql]
  obtain ⟨x4, e4⟩ := x3.two (i := 126) (j := 125) (by decide) (by decide) (.sc (.bool (decide (kd = sRepeat)))) (.sc (.bool (decide (kd = sRepeat))))
  generalize puts tm3 [(126, .sc (.bool (decide (kd = sRepeat)))), (125, .sc (.bool (decide (kd = sRepeat))))] = tm4 at *
  simp only [F12.k37, F12.t37, e4, aIf_b]
  refine ⟨fun h3 => H13 (of_decide_eq_true h3) _ x4.m, fun h4 => ?_⟩
  simp only [F12.k36, F12.t36, x4.e79, pBin_seql]
  obtain ⟨x5, e5⟩ := x4.two (i := 135) (j := 134) (by decide) (by decide) (.sc (.bool (decide (kd = sIf)))) (.sc (.bool (decide (kd = sIf))))
  generalize puts tm4 [(135, .sc (.bool (decide (kd = sIf)))), (134, .sc (.bool (decide (kd = sIf))))] = tm5 at *
  simp only [F12.k35, F12.t35, e5, aIf_b]
  refine ⟨fun h3 => H16 (of_decide_eq_true h3) _ x5.m, fun h5 => ?_⟩
  simp only [F12.k34, F12.t34, x5.e79, pBin_seql]
  obtain ⟨x6, e6⟩ := x5.two (i := 147) (j := 146) (by decide) (by decide) (.sc (.bool (decide (kd = sMeasure)))) (.sc (.bool (decide (kd = sMeasure))))
  generalize puts tm5 [(147, .sc (.bool (decide (kd = sMeasure)))), (146, .sc (.bool (decide (kd = sMeasure))))] = tm6 at *
  simp only [F12.k33, F12.t33, e6, aIf_b]
  refine ⟨fun h3 => H20 (of_decide_eq_true h3) _ x6.m, fun h6 => ?_⟩
  simp only [F12.k32, F12.t32, x6.e79, pBin_seql]
  obtain ⟨x7, e7⟩ := x6.two (i := 159) (j := 158) (by decide) (by decide) (.sc (.bool (decide (kd = sReset)))) (.sc (.bool (decide (kd = sReset))))
  generalize puts tm6 [(159, .sc (.bool (decide (kd = sReset)))), (158, .sc (.bool (decide (kd = sReset))))] = tm7 at *
  simp only [F12.k31, F12.t31, e7, aIf_b]
  refine ⟨fun h3 => H23 (of_decide_eq_true h3) _ x7.m, fun h7 => ?_⟩
  exact H30 (fun hor => hor.elim (of_decide_eq_false h1) h2) (of_decide_eq_false h3) (of_decide_eq_false h4) (of_decide_eq_false h5) (of_decide_eq_false h6) (of_decide_eq_false h7) _ x7.m
end
section
variable {h0 h : AH} {r tk : Nat} {L : List Tok} {en : Int} {rv0 : AV} {rows0 : List Row} {v : Nat} {X : Res Nat} {rv : AV} {d0 : Row} {M : Nat → Prop} {R : AE → AH → Prop} {tm : Nat → AV}
/-- From the row's kind on. -/
theorem F12_kind {d : Int} {kk p : Nat} {t : Tok} {kd : ByteArray} (hL : LOK L) (hb : BodyX L en kk) (hd : d = 32 - (kk : Int)) (hkk : kk ≤ 32) (hM : ∀ id, SS r rv0 id → M id) (hg : L[p]? = some t) (hk1 : t.kind = 1)
    {w : Nat} (hkd : (ownB t.text = true ∧ kd = t.text ∧ X = .ok (p + 1) ∧ w = 0) ∨ (ownB t.text = false ∧ kd = sUse ∧ X = .ok p ∧ w = 1))
    (s : SJ h0 h r tk L en rv0 rows0 v X rv d0 [] (encRA (⟨kd, sEmpty, [], 0, 0, t.at_⟩, nilS)) w) (t0 : TN tm r v d rows0.length)
    (hR : FinX h0 r tk L en rv0 rows0 R (stmtB L en kk (stepP L en kk) p t)) :
    F12.k44 (fun id => M id ∨ h0.next ≤ id) (Ab.bodyQ Try.prog [] R) (Ab.bodyP R) ⟨tm, []⟩ h := by
  simp only [F12.k44, F12.t44, t0.e6, pFld_ptr, lLd_f, s.vo, ldk_mk, Nat.zero_add]
  simp only [encRA, List.getElem?_cons_zero, cellK_some]
  have x0 : TZ (puts tm [(78, .ptr v 0), (79, .sc (.string kd))]) r v d rows0.length kd := ⟨t0.puts _ (by simp), by simp⟩
  unfold stmtB at hR
  rcases hkd with ⟨ho, rfl, rfl, rfl⟩ | ⟨ho, rfl, rfl, rfl⟩
  · refine F12_switch x0 ?_ ?_ ?_ ?_ ?_ ?_ ?_
    · intro h1 tm1 t1
      rw [if_pos h1] at hR
      exact F12_regs hL hM s t1 hR
    · intro h1 tm1 t1
      rw [if_neg (by rw [h1]; decide), if_pos h1] at hR
      exact F12_gate hL hb hd hkk hM s t1 hR
    · intro h1 tm1 t1
      rw [if_neg (by rw [h1]; decide), if_neg (by rw [h1]; decide), if_pos h1] at hR
      exact F12_rep hL hb hd hkk hM s t1 hR
    · intro h1 tm1 t1
      rw [if_neg (by rw [h1]; decide), if_neg (by rw [h1]; decide), if_neg (by rw [h1]; decide), if_pos h1] at hR
      exact F12_if hL hb hd hkk hM s t1 hR
    · intro h1 tm1 t1
      rw [if_neg (by rw [h1]; decide), if_neg (by rw [h1]; decide), if_neg (by rw [h1]; decide), if_neg (by rw [h1]; decide), if_pos h1] at hR
      exact F12_meas hL hM s t1 hR
    · intro h1 tm1 t1
      rw [if_neg (by rw [h1]; decide), if_neg (by rw [h1]; decide), if_neg (by rw [h1]; decide), if_neg (by rw [h1]; decide), if_neg (by rw [h1]; decide), if_pos h1] at hR
      exact F12_reset hL hM s t1 hR
    · intro n1 n2 n3 n4 n5 n6
      simp only [not_or] at n1
      simp [ownB, n1.1, n1.2, n2, n3, n4, n5, n6] at ho
  · have hno : ¬ (t.text = sQubits ∨ t.text = sBits) ∧ t.text ≠ sGate ∧ t.text ≠ sRepeat ∧ t.text ≠ sIf ∧ t.text ≠ sMeasure ∧ t.text ≠ sReset := by
      simp only [ownB, Bool.or_eq_false_iff, decide_eq_false_iff_not] at ho
      obtain ⟨⟨⟨⟨⟨⟨a, b⟩, c⟩, d⟩, e⟩, f⟩, g⟩ := ho
      exact ⟨fun h => h.elim a b, c, d, e, f, g⟩
    rw [if_neg hno.1, if_neg hno.2.1, if_neg hno.2.2.1, if_neg hno.2.2.2.1, if_neg hno.2.2.2.2.1, if_neg hno.2.2.2.2.2] at hR
    have hnm : nameP L en p = .ok t.text := by
      have : plainP L p = true := by simp [plainP, hg, hk1, ho]
      simp [nameP, nextP, hg, this, Except.map]
    refine F12_switch x0 (fun h1 => absurd h1 (by decide)) (fun h1 => absurd h1 (by decide)) (fun h1 => absurd h1 (by decide)) (fun h1 => absurd h1 (by decide)) (fun h1 => absurd h1 (by decide)) (fun h1 => absurd h1 (by decide)) ?_
    intro _ _ _ _ _ _ tm1 t1
    exact F12_use hL hM hnm s t1 hR
end
end Go.Proofs.Ythkkgbmjjpcfaaa

namespace Go.Proofs.Ythkkgbmjjpcfaaa
open Go.Ab
section
variable {h : AH} {r tk : Nat} {L : List Tok} {en : Int} {rv : AV} {rows : List Row} {M : Nat → Prop} {R : AE → AH → Prop} {X : Res Nat} {tm : Nat → AV}
/-- The row is appended. -/
theorem F12_append {d : Int} {v : Nat} {kd : ByteArray} {pl : Int} {h2 : AH} (hL : LOK L) (hM : ∀ id, SS r rv id → M id) (hrn : r < h.next) (t0 : TN tm r v d rows.length)
    (f2 : Fr h h2 (· = r)) (rs2 : RSX h2 r tk L en X rv rows 0) {w : Nat} (hv2 : h2.obj v = some (mkO (encRA (⟨kd, sEmpty, [], 0, 0, pl⟩, nilS)) 6 36)) (vn : h.next ≤ v)
    (hlen : rows.length + 1 ≤ L.length) (hlen2 : ∀ q, X = .ok q → rows.length + 1 ≤ q + w) (hrvn : ∀ id off n, rv = .sl id off n → id < h.next)
    (hK : ∀ tm1 h3 y, TN tm1 r v d rows.length → SJ h h3 r tk L en rv rows v X y ⟨kd, sEmpty, [], 0, 0, pl⟩ [] (encRA (⟨kd, sEmpty, [], 0, 0, pl⟩, nilS)) w → F12.k44 (fun id => M id ∨ h.next ≤ id) (Ab.bodyQ Try.prog [] R) (Ab.bodyP R) ⟨tm1, []⟩ h3) :
    F12.k45 (fun id => M id ∨ h.next ≤ id) (Ab.bodyQ Try.prog [] R) (Ab.bodyP R) ⟨tm, []⟩ h2 := by
  have hL0 := hL.len
  obtain ⟨pp, ee, oo, hr2, hx2⟩ := rs2.r
  simp only [F12.k45, F12.t45, t0.e0, t0.e6, pNil_ptr, pFld_ptr, lLd_f, lLdn_f, hr2, hv2, ldk_mk, ldnk_mk, Nat.zero_add, List.getElem?_cons_succ, List.getElem?_cons_zero, cellK_some]
  have hen : (encRA (⟨kd, sEmpty, [], 0, 0, pl⟩, nilS)).length = 6 := rfl
  refine ⟨by rw [hen]; exact Nat.le_refl _, ?_⟩
  rw [show List.take 6 (List.drop 0 (encRA (⟨kd, sEmpty, [], 0, 0, pl⟩, nilS))) = encRA (⟨kd, sEmpty, [], 0, 0, pl⟩, nilS) from rfl]
  obtain ⟨l, l1, l2, l3⟩ := rs2.rows
  have hll : l.length = rows.length := by rw [← l2]; simp
  have hsl : SlL encRA 6 36 h2 rv l := l1
  refine app1t (f := encRA) (t := (⟨kd, sEmpty, [], 0, 0, pl⟩, nilS)) encRA_len (by decide) rfl (by decide) rfl hsl ?_ (by omega) ?_
  · intro id off n he
    exact .inl (hM id (.inr ⟨n, by rw [he, ((rs2.hrv he).1)]⟩))
  intro y h3 hy iy k3 n3
  have f3 : Fr h2 h3 (fun i => ∃ off n, rv = .sl i off n) := ⟨n3, fun i hi hs => k3 i hi fun off n he => hs ⟨off, n, he⟩⟩
  have not : ∀ i o, h2.obj i = some o → o.ty ≠ 36 → ¬ ∃ off n, rv = .sl i off n := by
    rintro i o ho hne ⟨off, n, he⟩
    obtain ⟨_, _, o', ho', ht⟩ := rs2.rows.id he
    rw [ho] at ho'; cases ho'; exact hne ht
  have r3 := f3.obj hr2 (not _ _ hr2 (show (44 : Nat) ≠ 36 by decide))
  simp only [pNil_ptr, pFld_ptr, eStore_f, r3, Nat.zero_add]
  obtain ⟨yid, hyid⟩ := hy.sl (by simp)
  have ey : avCells y = some [y] := by rw [hyid]; rfl
  simp only [ey, stk_mk]
  refine ⟨⟨.inl (hM r (.inl rfl)), by rw [hyid]; rfl, rfl, by simp⟩, ?_⟩
  refine hK _ _ y (t0.puts _ (by simp)) ?_
  have f4 : Fr h3 (h3.put r 5 [y]) (· = r) := Fr.refl.put (.inl rfl)
  have vr : v ≠ r := by omega
  have hvl : v < h2.next := h2.lt _ _ hv2
  have h2n := f2.next
  have yr : ∀ id, y = .sl id 0 (l ++ [((⟨kd, sEmpty, [], 0, 0, pl⟩ : Row), nilS)]).length → ¬ id = r := fun id he hid => by
    have := iy id _ _ he
    omega
  refine ⟨f2.mono (fun _ h => .inl h) |>.trans (f3.mono fun id ⟨off, n, he⟩ => .inl (.inr ⟨n, by rw [he, (rs2.hrv he).1]⟩)) |>.trans (f4.mono fun _ h => .inl (.inl h)), ⟨⟨pp, ee, oo, by rw [put_row r3]; rfl, hx2⟩, ?_, ⟨l ++ [(⟨kd, sEmpty, [], 0, 0, pl⟩, nilS)], hy.of_fr f4 yr, by simp [l2], ?_⟩, by simpa using hlen, ?_⟩, ?_, ?_, vn, hrn⟩
  · exact f4.obj (f3.obj rs2.t (not _ _ rs2.t (show (38 : Nat) ≠ 36 by decide))) (rs2.ner rs2.t (show (38 : Nat) ≠ 44 by decide))
  · intro z hz
    rcases List.mem_append.1 hz with hz | hz
    · rcases l3 z hz with h4 | ⟨id, h4, ho⟩
      · exact .inl h4
      · exact .inr ⟨id, h4, f4.obj (f3.obj ho (not _ _ ho (show (53 : Nat) ≠ 36 by decide))) (rs2.ner ho (show (53 : Nat) ≠ 44 by decide))⟩
    · simp only [List.mem_singleton] at hz
      subst hz
      exact .nil
  · intro q he
    have a1 := (rs2.ok q he).1
    refine ⟨a1, ?_⟩
    simpa using hlen2 q he
  · intro id off n he
    have := iy id off n he
    omega
  · refine f4.obj (f3.obj hv2 ?_) vr
    rintro ⟨off, n, he⟩
    have := hrvn v off n he
    omega
end
end Go.Proofs.Ythkkgbmjjpcfaaa

namespace Go.Proofs.Ythkkgbmjjpcfaaa
open Go.Ab
section
variable {h : AH} {r tk : Nat} {L : List Tok} {en : Int} {rv : AV} {rows : List Row} {M : Nat → Prop} {R : AE → AH → Prop} {tm : Nat → AV}
theorem F12_head {d : Int} {kk tc p : Nat} {t : Tok} {h1 : AH} (hL : LOK L) (hb : BodyX L en kk) (hd : d = 32 - (kk : Int)) (hkk : kk ≤ 32) (hM : ∀ id, SS r rv id → M id) (hg : L[p]? = some t) (hk1 : t.kind = 1) (hrn : r < h.next)
    (e0 : tm 0 = .ptr r 0) (e1 : tm 1 = .sc (.int .i64 d)) (e4 : tm 4 = .ptr tc 0) (hc : h1.obj tc = some (oTok t)) (hcn : h.next ≤ tc) (f1 : Fr h h1 (fun _ => False)) (rs1 : RSX h1 r tk L en (.ok p) rv rows 0)
    (hrvn : ∀ id off n, rv = .sl id off n → id < h.next)
    (hR : FinX h r tk L en rv rows R (stmtB L en kk (stepP L en kk) p t)) :
    F12.k51 (fun id => M id ∨ h.next ≤ id) (Ab.bodyQ Try.prog [] R) (Ab.bodyP R) ⟨tm, []⟩ h1 := by
  have hL0 := hL.len
  have hMr := hM r (.inl rfl)
  have hlt : p < L.length := (List.getElem?_eq_some_iff.1 hg).1
  obtain ⟨p1, e1', o1, ho1, rfl, rfl, rfl⟩ := rs1.r
  simp only [F12.k51, F12.t51, e0, pNil_ptr, pFld_ptr, lLd_f, ho1, ldk_mk, Nat.zero_add, List.getElem?_cons_succ, List.getElem?_cons_zero, cellK_some, rs1.rows.len.1, rs1.rows.len.2, true_and]
  generalize htm : puts tm _ = tm1
  have g0 : tm1 0 = .ptr r 0 := by rw [← htm]; simp [e0]
  have g1 : tm1 1 = .sc (.int .i64 d) := by rw [← htm]; simp [e1]
  have g4 : tm1 4 = .ptr tc 0 := by rw [← htm]; simp [e4]
  have g5 : tm1 5 = .sc (.int .i64 rows.length) := by rw [← htm]; simp
  clear htm
  simp only [F12.k50, F12.t50, g4, pFld_ptr, lLd_f, hc, ldk_mk, Nat.zero_add, List.getElem?_cons_succ, List.getElem?_cons_zero, cellK_some]
  refine ⟨encRA (⟨sUse, sEmpty, [], 0, 0, t.at_⟩, nilS), rfl, ?_⟩
  simp only [eAlloc_d]
  refine ⟨rfl, ?_⟩
  have hv := AH.alloc_new h1 (mkO ([.string ⟨#[]⟩, .string ⟨#[]⟩, .slice none 0 0, .int .i64 0, .int .i64 0, .int .i64 0].map AV.sc) 6 36)
  simp only [eStore_f, hv, avC_agg, stk_mk]
  refine ⟨⟨.inr f1.next, rfl, rfl, by simp⟩, ?_⟩
  have f2 := ((Fr.refl (h := h1) (S := fun _ => False)).alloc (mkO ([.string ⟨#[]⟩, .string ⟨#[]⟩, .slice none 0 0, .int .i64 0, .int .i64 0, .int .i64 0].map AV.sc) 6 36)).put (id := h1.next) (off := 0) (cs := encRA (⟨sUse, sEmpty, [], 0, 0, t.at_⟩, nilS)) (.inr (Nat.le_refl _))
  have hv2 := put_row (off := 0) (cs := encRA (⟨sUse, sEmpty, [], 0, 0, t.at_⟩, nilS)) hv
  generalize (h1.alloc (mkO ([.string ⟨#[]⟩, .string ⟨#[]⟩, .slice none 0 0, .int .i64 0, .int .i64 0, .int .i64 0].map AV.sc) 6 36)).put h1.next 0 (encRA (⟨sUse, sEmpty, [], 0, 0, t.at_⟩, nilS)) = h2 at *
  have hv2 : h2.obj h1.next = some (mkO (encRA (⟨sUse, sEmpty, [], 0, 0, t.at_⟩, nilS)) 6 36) := hv2
  have rs2 : RSX h2 r tk L en (.ok p) rv rows 0 := ⟨rs1.r.fr f2, f2.obj rs1.t (fun h => h), rs1.rows.fr f2 (fun _ _ h => h) (fun _ _ _ _ h => h), rs1.b, rs1.ok⟩
  have hc2 := f2.obj hc fun h => h
  have ho2 := f2.obj ho1 fun h => h
  have f2' : Fr h h2 (· = r) := (f1.trans (f2.mono fun _ h => h.elim)).mono fun _ h => h.elim
  have vn := f1.next
  have hvr : h1.next ≠ r := by omega
  have hvt : h1.next ≠ tk := by have := h1.lt _ _ rs1.t; omega
  have htcv : tc ≠ h1.next := by have := h1.lt _ _ hc; omega
  have hrvv : ∀ id, rv = .sl id 0 rows.length → id ≠ h1.next := fun id he => by have := hrvn _ _ _ he; omega
  generalize h1.next = v at *
  generalize htm : puts tm1 _ = tm2
  have t2 : TN tm2 r v d rows.length := ⟨by rw [← htm]; simp [g0], by rw [← htm]; simp [g1], by rw [← htm]; simp [g5], by rw [← htm]; simp⟩
  have k4 : tm2 4 = .ptr tc 0 := by rw [← htm]; simp [g4]
  clear htm
  simp only [F12.k49, F12.t49, k4, pFld_ptr, lLd_f, hc2, ldk_mk, Nat.zero_add, List.getElem?_cons_succ, List.getElem?_cons_zero, cellK_some]
  refine ⟨fun _ => False, fun _ h => h.elim, own_r ?_⟩
  have hpl := (rs1.ok p rfl).2
  simp only [Nat.add_zero] at hpl
  cases how : ownB t.text with
  | false =>
    have e57 : puts tm2 [(55, .ptr tc 1), (56, .sc (.string t.text)), (57, .sc (.bool false))] 57 = .sc (.bool false) := by simp
    have t3 := t2.puts [(55, .ptr tc 1), (56, .sc (.string t.text)), (57, .sc (.bool false))] (by simp)
    show F12.k48 _ _ _ ⟨puts tm2 [(55, .ptr tc 1), (56, .sc (.string t.text)), (57, .sc (.bool false))], []⟩ h2
    generalize puts tm2 [(55, .ptr tc 1), (56, .sc (.string t.text)), (57, .sc (.bool false))] = tm3 at *
    simp only [F12.k48, F12.t48, e57, aIf_b, Bool.false_eq_true, false_implies, true_and, true_implies]
    refine F12_append (w := 1) hL hM hrn t3 f2' rs2 hv2 vn (by omega) (fun q he => by cases he; omega) hrvn ?_
    intro tm4 h3 y t4 s4
    exact F12_kind hL hb hd hkk hM hg hk1 (.inr ⟨how, rfl, rfl, rfl⟩) s4 t4 hR
  | true =>
    have e57 : puts tm2 [(55, .ptr tc 1), (56, .sc (.string t.text)), (57, .sc (.bool true))] 57 = .sc (.bool true) := by simp
    have k4' : puts tm2 [(55, .ptr tc 1), (56, .sc (.string t.text)), (57, .sc (.bool true))] 4 = .ptr tc 0 := by simp [k4]
    have t3 := t2.puts [(55, .ptr tc 1), (56, .sc (.string t.text)), (57, .sc (.bool true))] (by simp)
    show F12.k48 _ _ _ ⟨puts tm2 [(55, .ptr tc 1), (56, .sc (.string t.text)), (57, .sc (.bool true))], []⟩ h2
    generalize puts tm2 [(55, .ptr tc 1), (56, .sc (.string t.text)), (57, .sc (.bool true))] = tm3 at *
    simp only [F12.k48, F12.t48, e57, aIf_b, Bool.true_eq_false, false_implies, and_true, true_implies]
    simp only [F12.k47, F12.t47, k4', t3.e6, pFld_ptr, lLd_f, hc2, ldk_mk, Nat.zero_add, List.getElem?_cons_succ, List.getElem?_cons_zero, cellK_some, eStore_f, hv2, avC_str, stk_mk]
    refine ⟨⟨.inr vn, rfl, rfl, by simp [encRA]⟩, ?_⟩
    have f3 : Fr h2 (h2.put v 0 [.sc (.string t.text)]) (· = v) := Fr.refl.put (.inl rfl)
    have hv3 : (h2.put v 0 [.sc (.string t.text)]).obj v = some (mkO (encRA (⟨t.text, sEmpty, [], 0, 0, t.at_⟩, nilS)) 6 36) := by rw [put_row hv2]; rfl
    have rs3 : RSX (h2.put v 0 [.sc (.string t.text)]) r tk L en (.ok p) rv rows 0 := rs2.still f3 hvr hrvv (fun o ho => by
      rw [hv2] at ho; cases ho
      exact ⟨show (36 : Nat) ≠ 38 by decide, show (36 : Nat) ≠ 53 by decide⟩)
    have ho3 := f3.obj ho2 (Ne.symm hvr)
    have f3' : Fr h (h2.put v 0 [.sc (.string t.text)]) (· = r) := f2'.trans (f3.mono fun id (hid : id = v) => .inr (by omega))
    generalize h2.put v 0 [.sc (.string t.text)] = h3 at *
    have t4 := t3.puts [(58, .ptr tc 1), (59, .sc (.string t.text)), (60, .ptr v 0)] (by simp)
    show F12.k46 _ _ _ ⟨puts tm3 [(58, .ptr tc 1), (59, .sc (.string t.text)), (60, .ptr v 0)], []⟩ h3
    generalize puts tm3 [(58, .ptr tc 1), (59, .sc (.string t.text)), (60, .ptr v 0)] = tm4 at *
    have hw : IntKind.i64.wrap ((p : Int) + 1) = (p : Int) + 1 := wrap_in (by omega) (by omega)
    simp only [F12.k46, F12.t46, t4.e0, pNil_ptr, pFld_ptr, lLd_f, ho3, ldk_mk, Nat.zero_add, List.getElem?_cons_succ, List.getElem?_cons_zero, cellK_some, pBin_add, hw, eStore_f, avC_int, stk_mk]
    refine ⟨⟨.inl hMr, rfl, rfl, by simp⟩, ?_⟩
    have f4 : Fr h3 (h3.put r 1 [.sc (.int .i64 ((p : Int) + 1))]) (· = r) := Fr.refl.put (.inl rfl)
    have r4 : RF (h3.put r 1 [.sc (.int .i64 ((p : Int) + 1))]) r tk L en (.ok (p + 1)) rv := ⟨(p : Int) + 1, 0, 0, by rw [put_row ho3]; rfl, by simp, rfl, rfl⟩
    have rs4 := rs3.step (by omega) f4 r4 (fun p' he => by cases he; exact ⟨by omega, p, rfl, by omega⟩)
    have hv4 := f4.obj hv3 hvr
    have f4' := f3'.trans (f4.mono fun _ h => .inl h)
    refine F12_append (w := 0) hL hM hrn (t4.puts _ (by simp)) f4' rs4 hv4 vn (by omega) (fun q he => by cases he; omega) hrvn ?_
    intro tm5 h5 y t5 s5
    exact F12_kind hL hb hd hkk hM hg hk1 (.inl ⟨how, rfl, rfl, rfl⟩) s5 t5 hR
theorem stmt_x {kk : Nat} (hL : LOK L) (hkk : kk ≤ 32) (hb : BodyX L en kk) : StmtX L en kk := by
  intro h r tk rv rows M R p d hd hM hrs hR
  have hL0 := hL.len
  have hMr := hM r (.inl rfl)
  have hr0 := hrs.r
  obtain ⟨p1, e1', o1, hr, rfl, rfl, rfl⟩ := hrs.r
  have ht := hrs.t
  have hrn := h.lt _ _ hr
  have htn := h.lt _ _ ht
  rw [stmtP_eq] at hR
  apply F12.calls
  have bad : ∀ tm : Nat → AV, tm 0 = .ptr r 0 → isNameP L p = false → F12.k53 (fun id => M id ∨ h.next ≤ id) (Ab.bodyQ Try.prog [] R) (Ab.bodyP R) ⟨tm, []⟩ h := by
    intro tm e hb
    simp only [F12.k53, F12.t53, e]
    refine ⟨(· = r), fun _ h _ => h ▸ .inl hMr, fail_r rfl (by decide) hr0 ht ?_⟩
    intro h' f1 r1
    simp
    have : nextP L en p (isNameP L p) = .error (failE L en p 100) := by
      simp only [nextP, failE, hb]
      cases L[p]? <;> rfl
    rw [this] at hR
    have rs' := hrs.step (by omega) f1 r1 (fun p' he => by cases he)
    refine hR h' rv [] (.error (failE L en p 100)) (by simpa using rs') rfl (by simp) (f1.mono fun _ h => .inl h) (fun id off n he => .inl (.inr ⟨n, ?_⟩))
    rw [he, (hrs.hrv he).1]
  by_cases hlt : p < L.length
  · have hge : ¬ (L.length : Int) ≤ p := by omega
    have hg : L[p]? = some L[p] := List.getElem?_eq_getElem hlt
    by_cases hk : L[p].kind = 1
    · have hw : isNameP L p = true := by simp [isNameP, hlt, hk]
      have hnx : nextP L en p (isNameP L p) = .ok L[p] := by simp [nextP, hw, hlt]
      rw [hnx] at hR
      simp [-F12.k52, -F12.k53, hr, hge, ht, hlt, flat_get0 Tok.enc_len, flat_get Tok.enc_len, hk, Tok.enc]
      simp [-F12.k51, hr, ht, hlt, flat_drop Tok.enc_len _ _ _ hg, Tok.enc, sum_const, AH.alloc_obj]
      refine ⟨by omega, ?_⟩
      have f1 : Fr h ((h.alloc (mkO [.sc (.int .i64 0), .sc (.string ⟨#[]⟩), .sc (.int .i64 0)] 3 38)).put h.next 0 [.sc (.int .i64 L[p].kind), .sc (.string L[p].text), .sc (.int .i64 L[p].at_)]) (fun _ => False) := (Fr.refl.alloc _).put (.inr (Nat.le_refl _))
      have rs1 : RSX ((h.alloc (mkO [.sc (.int .i64 0), .sc (.string ⟨#[]⟩), .sc (.int .i64 0)] 3 38)).put h.next 0 [.sc (.int .i64 L[p].kind), .sc (.string L[p].text), .sc (.int .i64 L[p].at_)]) r tk L en (.ok p) rv rows 0 := ⟨hrs.r.fr f1, f1.obj hrs.t (fun h => h), hrs.rows.fr f1 (fun _ _ h => h) (fun _ _ _ _ h => h), hrs.b, hrs.ok⟩
      refine F12_head (tc := h.next) (t := L[p]) hL hb hd hkk hM hg hk hrn (by simp) (by simp) (by simp) ?_ (Nat.le_refl _) ?_ ?_ (fun id off n he => (hrs.hrv he).2.2) hR
      · simp [AH.put_obj, AH.alloc_obj, hk]
      · exact f1
      · exact rs1
    · have hw : isNameP L p = false := by simp [isNameP, hlt, hk]
      simp [-F12.k52, -F12.k53, hr, hge, ht, hlt, flat_get0 Tok.enc_len, flat_get Tok.enc_len, hk, Tok.enc]
      exact bad _ (by simp) hw
  · have hw : isNameP L p = false := by simp [isNameP, hlt]
    have hge : L.length ≤ p := by omega
    simp [-F12.k52, -F12.k53, hr, hge]
    exact bad _ (by simp) hw
end
end Go.Proofs.Ythkkgbmjjpcfaaa

namespace Go.Proofs.Ythkkgbmjjpcfaaa
open Go.Ab
section
variable {h : AH} {r tk : Nat} {L : List Tok} {en : Int} {rv : AV} {rows : List Row} {M : Nat → Prop} {R : AE → AH → Prop} {tm : Nat → AV} {X1 : Res Nat}
theorem F31_loop {d : Int} {kk : Nat} {h1 : AH} (hL : LOK L) (hM : ∀ id, SS r rv id → M id) (hs : ∀ q, X1 = .ok q → StmtX L en kk ∧ d = 32 - (kk : Int)) (e0 : tm 0 = .ptr r 0) (e1 : tm 1 = .sc (.int .i64 d))
    (rs1 : RSX h1 r tk L en X1 rv rows 0) (f1 : Fr h h1 (SS r rv)) (hrv : InS (fun id => SS r rv id ∨ h.next ≤ id) rv)
    (hR : ∀ h' rv' new X', RSX h' r tk L en X' rv' (rows ++ new) 0 → X' = rB (rB X1 fun q => loopP L (stmtP L en kk) (L.length + 1) q []) (fun x => .ok (x.1 + 1)) → (∀ x, (rB X1 fun q => loopP L (stmtP L en kk) (L.length + 1) q []) = .ok x → new = x.2) → Fr h h' (SS r rv) → InS (fun id => SS r rv id ∨ h.next ≤ id) rv' → R (.ret (.tup [])) h') :
    F31.k7 (fun id => M id ∨ h.next ≤ id) (Ab.bodyQ Try.prog [] R) (Ab.bodyP R) ⟨tm, []⟩ h1 := by
  have hL0 := hL.len
  have hMr := hM r (.inl rfl)
  unfold F31.k7
  generalize hY : (rB X1 fun q => loopP L (stmtP L en kk) (L.length + 1) q []) = Y at *
  refine aLoop_of (ι := Nat × Res Nat × List Row) (fun x s' h' => s'.ds = [] ∧ s'.tm 0 = .ptr r 0 ∧ s'.tm 1 = .sc (.int .i64 d) ∧ (∀ q, x.2.1 = .ok q → L.length < q + x.1 ∧ StmtX L en kk ∧ d = 32 - (kk : Int)) ∧
    (rB x.2.1 fun q => loopP L (stmtP L en kk) x.1 q x.2.2) = Y ∧
    ∃ rv', RSX h' r tk L en x.2.1 rv' (rows ++ x.2.2) 0 ∧ Fr h h' (SS r rv) ∧ InS (fun id => SS r rv id ∨ h.next ≤ id) rv') (fun x => x.1) (L.length + 1, X1, []) ?_ ?_
  · exact ⟨rfl, e0, e1, fun q hq => ⟨by simp only; omega, hs q hq⟩, hY, rv, by simpa using rs1, f1, hrv⟩
  rintro ⟨n, X, acc⟩ ⟨tm2, ds⟩ h2 ⟨rfl, e0, e1, hq, hX2, rv2, rs2, f2, i2⟩
  simp only at e0 e1 hq hX2 rs2
  rw [F31.l1]
  have out : ∀ tm3, tm3 0 = .ptr r 0 → (∀ q, X = .ok q → isSignP L q sShut = true) → F31.k1 (fun id => M id ∨ h.next ≤ id) (Ab.bodyQ Try.prog [] R) (Ab.bodyP R) ⟨tm3, []⟩ h2 := by
    intro tm3 g0 hsg
    simp only [F31.k1, F31.t1, g0]
    refine ⟨(· = r), fun _ h _ => h ▸ .inl hMr, want_r rfl hL0 rs2.r rs2.t ?_⟩
    intro h' f3 r3
    have rs3 := rs2.step (by omega) f3 r3 .sign
    have f3' : Fr h h' (SS r rv) := fr_trans_rv f2 i2 (f3.mono fun _ h => .inl h)
    simp
    refine hR h' rv2 acc _ rs3 ?_ ?_ f3' i2
    · rw [← hX2]
      cases X with
      | error e => rfl
      | ok q =>
        have hg := hsg q rfl
        have hn := (hq q rfl).1
        have := (rs2.ok q rfl).1
        cases n with
        | zero => omega
        | succ n =>
          simp only [rB_ok, loopP, hg, if_true, signP, nextP]
          unfold isSignP at hg
          cases hgq : L[q]? with
          | none => rw [hgq] at hg; cases hg
          | some t => simp [Except.map]
    · rw [← hX2]
      cases X with
      | error e => simp
      | ok q =>
        have hg := hsg q rfl
        have hn := (hq q rfl).1
        have := (rs2.ok q rfl).1
        cases n with
        | zero => omega
        | succ n => simp [loopP, hg]
  obtain ⟨pp, ee, oo, hr2, hx2⟩ := rs2.r
  cases X with
  | error e =>
    obtain ⟨hne, rfl, rfl⟩ := hx2
    simp [-F31.k2, -F31.k1, e0, hr2, hne]
    exact out _ (by simp [e0]) (fun q he => by cases he)
  | ok q =>
    obtain ⟨rfl, rfl, rfl⟩ := hx2
    obtain ⟨hqn, hst, hdd⟩ := hq q rfl
    have hql := rs2.ok q rfl
    simp only [rB_ok] at hX2
    cases n with
    | zero => omega
    | succ n =>
      simp only [loopP] at hX2
      simp [-F31.k4, -Prod.exists, -exists_and_left, -exists_and_right, e0, hr2]
      refine ⟨fun _ => False, fun _ h => h.elim, sign_r rs2.r rs2.t ?_⟩
      simp only [signX]
      cases hsg : isSignP L q sShut with
      | true =>
        simp [-F31.k2, -F31.k1]
        exact out _ (by simp [e0]) (fun q' he => by cases he; exact hsg)
      | false =>
        simp only [hsg, Bool.false_eq_true, if_false] at hX2
        simp [-F31.k1, -Prod.exists, -exists_and_left, -exists_and_right, e0, e1]
        refine ⟨SS r rv2, fun id hid _ => ?_, hst (rv := rv2) (rows := rows ++ acc) (p := q) (by omega) (fun _ h => h) rs2 ?_⟩
        · rcases hid with hid | ⟨m, hid⟩
          · exact hid ▸ .inl hMr
          · rcases i2 id 0 m hid with h4 | h4
            · exact .inl (hM _ h4)
            · exact .inr h4
        intro h4 rv4 new X4 rs4 hX4 hn4 f4 in4
        refine ⟨(n, X4, acc ++ new), by simp, ?_, ?_, rv4, by simpa using rs4, fr_trans_rv f2 i2 f4, ins_trans_rv f2.next i2 in4 (fun he => (rs2.hrv he).1)⟩
        · intro q2 he
          simp only at he ⊢
          rw [he] at hX4
          cases h5 : stmtP L en kk q with
          | error e => rw [h5] at hX4; simp [Except.map] at hX4
          | ok x =>
            rw [h5] at hX4
            simp only [Except.map, Except.ok.injEq] at hX4
            obtain ⟨b1, b2, b3⟩ := stmtP_ok kk q x.1 x.2 h5
            exact ⟨by omega, hst, hdd⟩
        · cases h5 : stmtP L en kk q with
          | error e =>
            rw [h5] at hX4 hX2
            subst hX4
            exact hX2
          | ok x =>
            rw [h5] at hX4 hX2 hn4
            have := hn4 x rfl
            subst this
            subst hX4
            exact hX2
end
end Go.Proofs.Ythkkgbmjjpcfaaa

namespace Go.Proofs.Ythkkgbmjjpcfaaa
open Go.Ab
section
variable {L : List Tok} {en : Int}
theorem bdP_eq (k : Nat) (step : Nat → Res (Nat × List Row)) (p : Nat) : bdP L en (k + 1) step p = rB ((signP L en p sOpen).map fun _ => p + 1) fun q => rB (loopP L step (L.length + 1) q []) fun x => .ok (x.1 + 1, x.2) := by
  unfold bdP
  cases signP L en p sOpen with
  | error e => rfl
  | ok t =>
    simp only [Except.map, rB_ok]
    cases loopP L step (L.length + 1) (p + 1) [] <;> rfl
theorem body_x {k : Nat} (hL : LOK L) (hkk : k ≤ 33) (hs : ∀ k', k = k' + 1 → StmtX L en k') : BodyX L en k := by
  intro h r tk rv rows M R X d hd hM hrs hR
  have hL0 := hL.len
  have hMr := hM r (.inl rfl)
  have hr0 := hrs.r
  have ht := hrs.t
  apply F31.calls
  simp only [F31.k13, F31.t13]
  refine ⟨fun _ => False, fun _ h => h.elim, sign_r hr0 ht ?_⟩
  have irv : InS (fun id => SS r rv id ∨ h.next ≤ id) rv := fun id off n he => .inl (.inr ⟨n, by rw [he, (hrs.hrv he).1]⟩)
  have want : ∀ tm : Nat → AV, tm 0 = .ptr r 0 → tm 1 = .sc (.int .i64 d) → (∀ p, X = .ok p → isSignP L p sOpen = true → ∃ k', k = k' + 1) → F31.k8 (fun id => M id ∨ h.next ≤ id) (Ab.bodyQ Try.prog [] R) (Ab.bodyP R) ⟨tm, []⟩ h := by
    intro tm e0 e1 hk
    simp only [F31.k8, F31.t8, e0]
    refine ⟨(· = r), fun _ h _ => h ▸ .inl hMr, want_r rfl hL0 hr0 ht ?_⟩
    intro h1 f1 r1
    have rs1 := hrs.step (by omega) f1 r1 .sign
    have e0' : puts tm [(12, .ptr r 0), (13, .tup [])] 0 = .ptr r 0 := by simp [e0]
    have e1' : puts tm [(12, .ptr r 0), (13, .tup [])] 1 = .sc (.int .i64 d) := by simp [e1]
    refine F31_loop (kk := k - 1) hL hM ?_ e0' e1' rs1 (f1.mono fun _ h => .inl h) irv ?_
    · intro q hq
      cases X with
      | error e => simp at hq
      | ok p =>
        simp only [rB_ok] at hq
        cases hsi : signP L en p sOpen with
        | error e => rw [hsi] at hq; simp [Except.map] at hq
        | ok t =>
          have h3 := (nextP_ok hsi).2.2
          obtain ⟨k', rfl⟩ := hk p rfl h3
          exact ⟨hs k' rfl, by rw [hd, Nat.add_sub_cancel]; omega⟩
    intro h' rv' new X' rs' hX' hn f' i'
    cases X with
    | error e =>
      refine hR h' rv' new X' rs' ?_ (by simp) f' i'
      rw [hX']; rfl
    | ok p =>
      simp only [rB_ok] at hX' hn hR
      cases k with
      | zero =>
        have hsf : isSignP L p sOpen = false := by
          cases hh : isSignP L p sOpen with
          | false => rfl
          | true => obtain ⟨k', hk'⟩ := hk p rfl hh; omega
        have : ∃ e, signP L en p sOpen = .error e := by
          unfold signP nextP
          rw [hsf]
          cases L[p]? <;> exact ⟨_, rfl⟩
        obtain ⟨e, he⟩ := this
        have hb : bdP L en 0 (stepP L en 0) p = .error e := by unfold bdP; rw [he]
        rw [hb] at hR
        refine hR h' rv' new X' rs' ?_ (by simp) f' i'
        rw [hX', he]; rfl
      | succ k' =>
        rw [bdP_eq] at hR
        refine hR h' rv' new X' rs' ?_ ?_ f' i'
        · rw [hX']
          cases signP L en p sOpen with
          | error e => rfl
          | ok t =>
            simp only [Except.map, rB_ok, Nat.add_sub_cancel]
            have : stepP L en (k' + 1) = stmtP L en k' := rfl
            rw [this]
            cases loopP L (stmtP L en k') (L.length + 1) (p + 1) [] <;> rfl
        · intro x hx
          cases hsi : signP L en p sOpen with
          | error e => rw [hsi] at hx; simp [Except.map] at hx
          | ok t =>
            rw [hsi] at hx hn
            simp only [Except.map, rB_ok, Nat.add_sub_cancel] at hx hn
            have : stepP L en (k' + 1) = stmtP L en k' := rfl
            rw [this] at hx
            cases hl : loopP L (stmtP L en k') (L.length + 1) (p + 1) [] with
            | error e => rw [hl] at hx; simp at hx
            | ok y =>
              rw [hl] at hx hn
              simp only [rB_ok, Except.ok.injEq] at hx
              rw [← hx]
              exact hn y rfl
  cases hsg : signX L X sOpen with
  | false =>
    simp [-F31.k8, -F31.k9]
    refine want _ (by simp) (by simp) (fun p he hp => ?_)
    subst he
    simp only [signX] at hsg
    rw [hsg] at hp; cases hp
  | true =>
    cases X with
    | error e => cases hsg
    | ok p =>
      simp only [signX] at hsg
      cases k with
      | succ k' =>
        have hd' : ¬ (32 : Int) < d := by omega
        simp [-F31.k8, -F31.k9, hd']
        exact want _ (by simp) (by simp) (fun _ _ _ => ⟨k', rfl⟩)
      | zero =>
        have hd' : (32 : Int) < d := by omega
        simp [-F31.k8, hd']
        refine ⟨(· = r), fun _ h _ => h ▸ .inl hMr, fail_r rfl (by decide) hr0 ht ?_⟩
        intro h1 f1 r1
        have rs1 := hrs.step (by omega) f1 r1 (fun p' he => by cases he)
        simp only [rB_ok] at hR
        have hb : bdP L en 0 (stepP L en 0) p = .error (failE L en p 102) := by
          unfold bdP signP nextP failE
          rw [hsg]
          unfold isSignP at hsg
          cases hg : L[p]? with
          | none => simp [hg] at hsg
          | some t => rfl
        rw [hb] at hR
        exact hR h1 rv [] (.error (failE L en p 102)) (by simpa using rs1) rfl (by simp) (f1.mono fun _ h => .inl h) irv
theorem stmtX_ok (hL : LOK L) : ∀ kk, kk ≤ 32 → StmtX L en kk := by
  intro kk
  induction kk with
  | zero => intro hk; exact stmt_x hL hk (body_x hL (by omega) fun k' he => by omega)
  | succ kk ih => intro hk; exact stmt_x hL hk (body_x hL (by omega) fun k' he => by cases he; exact ih (by omega))
end
end Go.Proofs.Ythkkgbmjjpcfaaa

namespace Go.Proofs.Ythkkgbmjjpcfaaa
open Go.Ab
/-! the document's Parse -/
def TopR (h : AH) (R : AE → AH → Prop) (res : Res (List Row)) : Prop :=
  Outc res (fun rows => ∀ x h', RowsAt h' x rows → InS (h.next ≤ ·) x → Fr h h' (fun _ => False) → R (.ret (.tup [x, .sc (.int .i64 0), .sc (.int .i64 0)])) h')
    (fun e => ∀ h', Fr h h' (fun _ => False) → R (.ret (.tup [nilS, .sc (.int .i64 e.1), .sc (.int .i64 e.2)])) h')
section
variable {h : AH} {M : Nat → Prop} {R : AE → AH → Prop}
theorem F7_nil {en : Int} {h1 : AH} {tm : Nat → AV} {r : Nat} (f1 : Fr h h1 (fun _ => False)) (e8 : tm 8 = .ptr r 0)
    (hr : h1.obj r = some (mkO [nilS, .sc (.int .i64 0), .sc (.int .i64 en), .sc (.int .i64 0), .sc (.int .i64 0), nilS] 6 44))
    (hR : TopR h R (.ok [])) : F7.k10 (fun id => M id ∨ h.next ≤ id) (Ab.bodyQ Try.prog [.tmp 2, .tmp 3, .tmp 4] R) (Ab.bodyP R) ⟨tm, []⟩ h1 := by
  unfold F7.k10
  refine aLoop_of (ι := Nat) (fun x s' h' => s'.ds = [] ∧ s'.tm 8 = .ptr r 0 ∧ h' = h1) (fun x => x) 0 ⟨rfl, e8, rfl⟩ ?_
  rintro n ⟨tm2, ds⟩ h2 ⟨rfl, e8, rfl⟩
  simp only at e8
  rw [F7.l1]
  have := hR nilS h2 .nil (fun _ _ _ he => by cases he) f1
  simp [-F7.k5, e8, hr]
  exact this
theorem F7_loop {L : List Tok} {en : Int} {h1 : AH} {tm : Nat → AV} {r tk : Nat} (hL : LOK L) (f1 : Fr h h1 (fun _ => False)) (e8 : tm 8 = .ptr r 0) (hrn : h.next ≤ r)
    (rs1 : RSX h1 r tk L en (.ok 0) nilS [] 0)
    (hR : TopR h R (topP L en (L.length + 1) 0 [])) : F7.k10 (fun id => M id ∨ h.next ≤ id) (Ab.bodyQ Try.prog [.tmp 2, .tmp 3, .tmp 4] R) (Ab.bodyP R) ⟨tm, []⟩ h1 := by
  have hL0 := hL.len
  unfold F7.k10
  generalize hY : topP L en (L.length + 1) 0 [] = Y at hR
  refine aLoop_of (ι := Nat × Res Nat × List Row) (fun x s' h' => s'.ds = [] ∧ s'.tm 8 = .ptr r 0 ∧ (∀ q, x.2.1 = .ok q → L.length < q + x.1) ∧ (rB x.2.1 fun q => topP L en x.1 q x.2.2) = Y ∧
    ∃ rv', RSX h' r tk L en x.2.1 rv' x.2.2 0 ∧ Fr h h' (fun _ => False) ∧ InS (h.next ≤ ·) rv') (fun x => x.1) (L.length + 1, .ok 0, []) ?_ ?_
  · exact ⟨rfl, e8, fun q hq => by cases hq; simp only; omega, hY, nilS, rs1, f1, fun _ _ _ he => by cases he⟩
  rintro ⟨n, X, acc⟩ ⟨tm2, ds⟩ h2 ⟨rfl, e8, hq, hX2, rv2, rs2, f2, i2⟩
  simp only at e8 hq hX2 rs2
  rw [F7.l1]
  obtain ⟨pp, ee, oo, hr2, hx2⟩ := rs2.r
  cases X with
  | error e =>
    obtain ⟨hne, rfl, rfl⟩ := hx2
    simp only [rB_error] at hX2
    rw [← hX2] at hR
    have := hR h2 f2
    simp [-F7.k5, e8, hr2, hne]
    exact this
  | ok q =>
    obtain ⟨rfl, rfl, rfl⟩ := hx2
    have hqn := hq q rfl
    have hql := rs2.ok q rfl
    simp only [rB_ok] at hX2
    cases n with
    | zero => omega
    | succ n =>
      simp only [topP] at hX2
      by_cases hlt : q < L.length
      · rw [if_pos hlt] at hX2
        simp [-F7.k4, -Prod.exists, -exists_and_left, -exists_and_right, e8, hr2, hlt]
        refine ⟨SS r rv2, fun id hid _ => .inr ?_, stmtX_ok (en := en) hL 32 (by omega) (rv := rv2) (rows := acc) (p := q) (by omega) (fun _ h => h) rs2 ?_⟩
        · rcases hid with hid | ⟨m, hid⟩
          · omega
          · exact i2 id 0 m hid
        intro h4 rv4 new X4 rs4 hX4 hn4 f4 in4
        have f4' : Fr h h4 (fun _ => False) := f2.trans (f4.mono fun id hid => .inr (by
          rcases hid with hid | ⟨m, hid⟩
          · omega
          · exact i2 id 0 m hid))
        have i4 : InS (h.next ≤ ·) rv4 := fun id off m he => by
          have h0 := (rs4.hrv he).1
          rcases in4 id off m he with (hid | ⟨m2, hid⟩) | hid
          · omega
          · exact i2 id 0 m2 hid
          · exact Nat.le_trans f2.next hid
        refine ⟨(n, X4, acc ++ new), by simp, ?_, ?_, rv4, by simpa using rs4, f4', i4⟩
        · intro q2 he
          simp only at he ⊢
          rw [he] at hX4
          cases h5 : stmtP L en 32 q with
          | error e => rw [h5] at hX4; simp [Except.map] at hX4
          | ok x =>
            rw [h5] at hX4
            simp only [Except.map, Except.ok.injEq] at hX4
            obtain ⟨b1, b2, b3⟩ := stmtP_ok 32 q x.1 x.2 h5
            omega
        · cases h5 : stmtP L en 32 q with
          | error e =>
            rw [h5] at hX4 hX2
            subst hX4
            exact hX2
          | ok x =>
            rw [h5] at hX4 hX2 hn4
            have := hn4 x rfl
            subst this
            subst hX4
            exact hX2
      · rw [if_neg hlt] at hX2
        rw [← hX2] at hR
        have := hR rv2 h2 rs2.rows i2 f2
        simp [-F7.k5, e8, hr2, hlt]
        exact this
theorem parse_r {s : ByteArray} {h : AH} {M : Nat → Prop} {R : AE → AH → Prop} (hR : ParseR s h R) : ACalls Try.prog 7 [.sc (.string s)] h M R := by
  apply F7.calls
  simp only [F7.k16, F7.t16, F7.k15, F7.t15]
  refine ⟨fun _ => False, fun _ h => h.elim, scan_ok' ?_⟩
  unfold ParseR parseP at hR
  unfold ScanR
  by_cases hb : 65536 < s.size
  · rw [if_pos hb] at hR ⊢
    intro h2 m1 m2
    have := hR h2 ⟨m1, fun i hi _ => m2 i hi⟩
    simp [-F7.k11]
    exact this
  rw [if_neg hb] at hR ⊢
  cases hsc : scanS s 0 [] with
  | error p =>
    rw [hsc] at hR
    intro h2 m1 m2
    have := hR h2 ⟨m1, fun i hi _ => m2 i hi⟩
    simp [-F7.k11]
    exact this
  | ok L =>
    rw [hsc] at hR
    simp only at hR
    have hL := scan_LOK (by omega) hsc
    intro x h2 hx ix m1 m2
    have f2 : Fr h h2 (fun _ => False) := ⟨m1, fun i hi _ => m2 i hi⟩
    have f3 := f2.alloc (mkO [x, .sc (.int .i64 0), .sc (.int .i64 s.size), .sc (.int .i64 0), .sc (.int .i64 0), nilS] 6 44)
    have g3 := (Fr.refl (h := h2) (S := fun _ => False)).alloc (mkO [x, .sc (.int .i64 0), .sc (.int .i64 s.size), .sc (.int .i64 0), .sc (.int .i64 0), nilS] 6 44)
    have o3 := AH.alloc_new h2 (mkO [x, .sc (.int .i64 0), .sc (.int .i64 s.size), .sc (.int .i64 0), .sc (.int .i64 0), nilS] 6 44)
    simp [-F7.k11]
    simp only [F7.k11, F7.t11]
    rcases hx with ⟨rfl, rfl⟩ | ⟨tk, rfl, ho⟩
    · simp [-F7.k10]
      refine ⟨[nilS, .sc (.int .i64 0), .sc (.int .i64 s.size), .sc (.int .i64 0), .sc (.int .i64 0), nilS], rfl, rfl, ?_⟩
      refine F7_nil (r := h2.next) f3 ?_ o3 hR
      simp
    · simp [-F7.k10]
      refine ⟨[.sl tk 0 L.length, .sc (.int .i64 0), .sc (.int .i64 s.size), .sc (.int .i64 0), .sc (.int .i64 0), nilS], rfl, rfl, ?_⟩
      refine F7_loop (tk := tk) (r := h2.next) (en := s.size) hL f3 ?_ m1 ⟨⟨0, 0, 0, o3, rfl, rfl, rfl⟩, g3.obj ho (fun h => h), .nil, by simp, fun p he => by cases he; simp⟩ hR
      simp
end
end Go.Proofs.Ythkkgbmjjpcfaaa

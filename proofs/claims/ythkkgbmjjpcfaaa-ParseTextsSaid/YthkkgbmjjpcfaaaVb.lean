/- The contract of the scanner of the document. No condition. -/
import Derived.Test.YthkkgbmjjpcfaaaGr
import Derived.Test.YthkkgbmjjpcfaaaVa
namespace Go.Proofs.Ythkkgbmjjpcfaaa
open Go.Ab
/-- What a reading loop leaves alone. -/
def Ik (tm tm' : Nat → AV) : Prop := tm' 0 = tm 0 ∧ tm' 5 = tm 5 ∧ tm' 8 = tm 8
theorem F11_l2 {W : Nat → Prop} {Q : Post} {QP : PPost} {tm : Nat → AV} {h : AH} {s : ByteArray} {i : Nat} (hs : s.size < 9223372036854775807) (h0 : tm 0 = .sc (.string s)) (h6 : tm 6 = .sc (.int .i64 i))
    (hQ : ∀ tm', Ik tm tm' → tm' 6 = .sc (.int .i64 (runS (fun c => c != 10) s i)) → Q (.exit 3) ⟨tm', []⟩ h) : aLoop (aw Try.prog 121 W F11.pl F11.c2) Q QP ⟨tm, []⟩ h := by
  refine aLoop_of (ι := Nat) (fun j s' h' => s'.ds = [] ∧ h' = h ∧ Ik tm s'.tm ∧ s'.tm 6 = .sc (.int .i64 j) ∧ runS (fun c => c != 10) s j = runS (fun c => c != 10) s i) (fun j => s.size - j) i ⟨rfl, rfl, ⟨rfl, rfl, rfl⟩, h6, rfl⟩ ?_
  rintro j ⟨tm', ds⟩ h' ⟨rfl, rfl, ⟨k0, k5, k8⟩, k6, hr⟩
  rw [F11.l2]
  simp only at k0 k5 k8 k6
  rw [h0] at k0
  rw [runS] at hr
  by_cases hj : j < s.size
  · have hw : IntKind.i64.wrap (↑j + 1) = ((j + 1 : Nat) : Int) := by rw [wrap_in (by omega) (by omega)]; simp
    rw [dif_pos hj] at hr
    cases hp : ((s[j].toNat : Nat) : Int) != 10
    · simp only [hp, Bool.false_eq_true, if_false] at hr
      simp [k0, k6, hj, hp]
      refine hQ _ ⟨?_, ?_, ?_⟩ ?_ <;> simp [k0, k5, k8, h0, k6, hr]
    · simp only [hp, if_true] at hr
      simp [k0, k6, hj, hp]
      refine ⟨j + 1, by omega, ⟨?_, ?_, ?_⟩, ?_, hr⟩ <;> simp [k0, k5, k8, h0, hw]
  · rw [dif_neg hj] at hr
    have hj' : ¬ (j : Int) < s.size := by omega
    simp [k0, k6, hj]
    refine hQ _ ⟨?_, ?_, ?_⟩ ?_ <;> simp [k0, k5, k8, h0, k6, hr]
theorem F11_l4 {W : Nat → Prop} {Q : Post} {QP : PPost} {tm : Nat → AV} {h : AH} {s : ByteArray} {i : Nat} (hs : s.size < 9223372036854775807) (h0 : tm 0 = .sc (.string s)) (h6 : tm 6 = .sc (.int .i64 i))
    (hQ : ∀ tm', Ik tm tm' → tm' 6 = .sc (.int .i64 (runS isDigit s i)) → Q (.exit 7) ⟨tm', []⟩ h) : aLoop (aw Try.prog 121 W F11.pl F11.c4) Q QP ⟨tm, []⟩ h := by
  refine aLoop_of (ι := Nat) (fun j s' h' => s'.ds = [] ∧ h' = h ∧ Ik tm s'.tm ∧ s'.tm 6 = .sc (.int .i64 j) ∧ runS isDigit s j = runS isDigit s i) (fun j => s.size - j) i ⟨rfl, rfl, ⟨rfl, rfl, rfl⟩, h6, rfl⟩ ?_
  rintro j ⟨tm', ds⟩ h' ⟨rfl, rfl, ⟨k0, k5, k8⟩, k6, hr⟩
  rw [F11.l4]
  simp only at k0 k5 k8 k6
  rw [h0] at k0
  rw [runS] at hr
  by_cases hj : j < s.size
  · have hw : IntKind.i64.wrap (↑j + 1) = ((j + 1 : Nat) : Int) := by rw [wrap_in (by omega) (by omega)]; simp
    rw [dif_pos hj] at hr
    simp [k0, k6, hj]
    refine ⟨fun _ => False, fun _ h => h.elim, digit_ok' ?_⟩
    cases hp : isDigit ((s[j].toNat : Nat) : Int)
    · simp only [hp, Bool.false_eq_true, if_false] at hr
      simp
      refine hQ _ ⟨?_, ?_, ?_⟩ ?_ <;> simp [k0, k5, k8, h0, k6, hr]
    · simp only [hp, if_true] at hr
      simp [k6]
      refine ⟨j + 1, by omega, ⟨?_, ?_, ?_⟩, ?_, hr⟩ <;> simp [k0, k5, k8, h0, hw]
  · rw [dif_neg hj] at hr
    have hj' : ¬ (j : Int) < s.size := by omega
    simp [k0, k6, hj]
    refine hQ _ ⟨?_, ?_, ?_⟩ ?_ <;> simp [k0, k5, k8, h0, k6, hr]
theorem F11_l3 {W : Nat → Prop} {Q : Post} {QP : PPost} {tm : Nat → AV} {h : AH} {s : ByteArray} {i : Nat} (hs : s.size < 9223372036854775807) (h0 : tm 0 = .sc (.string s)) (h6 : tm 6 = .sc (.int .i64 i))
    (hQ : ∀ tm', Ik tm tm' → tm' 6 = .sc (.int .i64 (runS isNameB s i)) → Q (.exit 5) ⟨tm', []⟩ h) : aLoop (aw Try.prog 121 W F11.pl F11.c3) Q QP ⟨tm, []⟩ h := by
  refine aLoop_of (ι := Nat) (fun j s' h' => s'.ds = [] ∧ h' = h ∧ Ik tm s'.tm ∧ s'.tm 6 = .sc (.int .i64 j) ∧ runS isNameB s j = runS isNameB s i) (fun j => s.size - j) i ⟨rfl, rfl, ⟨rfl, rfl, rfl⟩, h6, rfl⟩ ?_
  rintro j ⟨tm', ds⟩ h' ⟨rfl, rfl, ⟨k0, k5, k8⟩, k6, hr⟩
  rw [F11.l3]
  simp only at k0 k5 k8 k6
  rw [h0] at k0
  rw [runS] at hr
  by_cases hj : j < s.size
  · have hw : IntKind.i64.wrap (↑j + 1) = ((j + 1 : Nat) : Int) := by rw [wrap_in (by omega) (by omega)]; simp
    rw [dif_pos hj] at hr
    simp [k0, k6, hj]
    refine ⟨fun _ => False, fun _ h => h.elim, letter_ok' ?_⟩
    have out : isNameB ((s[j].toNat : Nat) : Int) = false → ∀ tm2, Ik tm tm2 → tm2 6 = tm' 6 → Q (.exit 5) ⟨tm2, []⟩ h' := by
      intro hp tm2 e1 e2
      simp only [hp, Bool.false_eq_true, if_false] at hr
      exact hQ _ e1 (by rw [e2, k6, hr])
    have on : isNameB ((s[j].toNat : Nat) : Int) = true → runS isNameB s (j + 1) = runS isNameB s i := by
      intro hp; simpa only [hp, if_true] using hr
    cases hl : isLetter ((s[j].toNat : Nat) : Int)
    · simp [k0, k6, hj]
      refine ⟨fun _ => False, fun _ h => h.elim, digit_ok' ?_⟩
      cases hd : isDigit ((s[j].toNat : Nat) : Int)
      · simp
        refine out (by simp [isNameB, hl, hd]) _ ⟨?_, ?_, ?_⟩ ?_ <;> simp [k0, k5, k8, h0, k6]
      · simp [k6]
        refine ⟨j + 1, by omega, ⟨?_, ?_, ?_⟩, ?_, on (by simp [isNameB, hd])⟩ <;> simp [k0, k5, k8, h0, hw]
    · simp [k6]
      refine ⟨j + 1, by omega, ⟨?_, ?_, ?_⟩, ?_, on (by simp [isNameB, hl])⟩ <;> simp [k0, k5, k8, h0, hw]
  · rw [dif_neg hj] at hr
    have hj' : ¬ (j : Int) < s.size := by omega
    simp [k0, k6, hj]
    refine hQ _ ⟨?_, ?_, ?_⟩ ?_ <;> simp [k0, k5, k8, h0, k6, hr]
end Go.Proofs.Ythkkgbmjjpcfaaa

namespace Go.Proofs.Ythkkgbmjjpcfaaa
open Go.Ab
theorem tok_ap {W : Nat → Prop} {h : AH} {s : ByteArray} {i j : Nat} {k : Int} {acc : List Tok} {x5 : AV} {K : AV → AV → AV → AV → AH → Prop} {jz : Int} (hjz : jz = (j : Int)) (h5 : SlL Tok.enc 3 38 h x5 acc) (hw : InS W x5) (hij : i ≤ j) (hjs : j ≤ s.size) (hn : acc.length ≤ 100000000)
    (hK : ∀ t1 t2 t3 y h', SlL Tok.enc 3 38 h' y (acc ++ [⟨k, s.extract i j, i⟩]) → InS (h.next ≤ ·) y → (∀ i, i < h.next → (∀ off n, x5 ≠ .sl i off n) → h'.obj i = h.obj i) → h.next ≤ h'.next → K t1 t2 t3 y h') :
    pSlS (.sc (.string s)) (some (.sc (.int .i64 i))) (some (.sc (.int .i64 jz))) fun t1 =>
    pBld (some ([.int .i64 0, .string ⟨#[]⟩, .int .i64 0], .inl [(0, 1), (1, 1), (2, 1)])) [(0, .sc (.int .i64 k)), (1, t1), (2, .sc (.int .i64 i))] fun t2 =>
    eBSl (some (3, 38, [.int .i64 0, .string ⟨#[]⟩, .int .i64 0])) 1 [(0, t2)] h fun t3 h4 =>
    eApp (some (3, 32, 38)) x5 t3 h4 W (K t1 t2 t3) := by
  subst hjz
  simp only [pSlS, bnd]
  refine ⟨i, j, rfl, rfl, ⟨by omega, by omega, by omega⟩, ?_⟩
  refine ⟨Tok.enc ⟨k, s.extract i j, i⟩, rfl, ?_⟩
  exact app1 (f := Tok.enc) Tok.enc_len (by decide) rfl Tok.enc_one (by decide) h5 hw hn (hK _ _ (.sl h.next 0 1))
theorem scan_ok' {h : AH} {s : ByteArray} {M : Nat → Prop} {R : AE → AH → Prop} (hR : ScanR s h R) : ACalls Try.prog 11 [.sc (.string s)] h M R := by
  apply F11.calls
  unfold ScanR at hR
  simp only [F11.k54, F11.t54, F11.k53, F11.t53, F11.k52, F11.t52]
  by_cases hb : 65536 < s.size
  · rw [if_pos hb] at hR
    have hb' : (65536 : Int) < s.size := by omega
    simp [-F11.k50, hb']
    exact hR h (Nat.le_refl _) fun _ _ => rfl
  rw [if_neg hb] at hR
  have hs : s.size < 9223372036854775807 := by omega
  have hb' : ¬ (65536 : Int) < s.size := by omega
  simp [-F11.k48, hb']
  unfold F11.k48
  refine aLoop_of (ι := Nat × List Tok) (ScanI s h) (fun i => s.size - i.1) (0, []) ?_ ?_
  · simp [ScanI]
    exact ⟨.nil, by intro id off n h; cases h⟩
  rintro ⟨i, acc⟩ ⟨tm, ds⟩ h' ⟨rfl, h0, h6, h5, hin, hacc, hile, hsc, hn, hf⟩
  simp only at h0 h6 h5 hin hacc hsc hile
  rw [F11.l1]
  rw [scanS] at hsc
  simp only [F11.k47, F11.t47, F11.k46, F11.t46]
  by_cases hi : i < s.size
  · rw [dif_pos hi] at hsc
    have hw : IntKind.i64.wrap (↑i + 1) = ((i + 1 : Nat) : Int) := by rw [wrap_in (by omega) (by omega)]; simp
    have hby : byteAt s i = s[i].toNat := by simp [byteAt, hi]
    simp only [F11.k45, F11.t45, F11.k44, F11.t44]
    simp [-F11.k43, h0, h6, hi]
    generalize hc : ((s[i].toNat : Nat) : Int) = c at *
    rw [hby] at hsc
    have skip : ∀ j, i < j → j ≤ s.size → scanS s j acc = scanS s 0 [] → ∀ (tm' : Nat → AV) , tm' 0 = .sc (.string s) → tm' 5 = tm 5 → tm' 6 = .sc (.int .i64 j) →
        ∃ a, s.size - a < s.size - i ∧ ∃ x : List Tok, ScanI s h (a, x) ⟨tm', []⟩ h' := by
      intro j hj1 hj2 hj3 tm' e0 e5 e6
      exact ⟨j, by omega, acc, rfl, e0, e6, by simpa [e5] using h5, by simpa [e5] using hin, by simp only; omega, hj2, hj3, hn, hf⟩
    have nxt : ∀ j t, i < j → j ≤ s.size → scanS s j (acc ++ [t]) = scanS s 0 [] → ∀ (tm' : Nat → AV) (h2 : AH), tm' 0 = .sc (.string s) → tm' 6 = .sc (.int .i64 j) → SlL Tok.enc 3 38 h2 (tm' 5) (acc ++ [t]) → InS (h'.next ≤ ·) (tm' 5) →
        (∀ i, i < h'.next → (∀ off n, tm 5 ≠ .sl i off n) → h2.obj i = h'.obj i) → h'.next ≤ h2.next → ∃ a, s.size - a < s.size - i ∧ ∃ x : List Tok, ScanI s h (a, x) ⟨tm', []⟩ h2 := by
      intro j t hj1 hj2 hj3 tm' h2 e0 e6 e5 e5' e7 e8
      refine ⟨j, by omega, acc ++ [t], rfl, e0, e6, e5, ?_, ?_, hj2, hj3, by omega, ?_⟩
      · intro id off n he; exact Nat.le_trans hn (e5' id off n he)
      · simp; omega
      · intro q hq
        rw [e7 q (by omega) ?_]; exact hf q hq
        intro off n he
        have := hin q off n he
        simp only at this; omega
    have hW : InS (fun id => M id ∨ h.next ≤ id) (tm 5) := fun id off n he => .inr (hin id off n he)
    simp only [F11.k43, F11.t43]
    simp [-F11.k42]
    refine ⟨fun _ => False, fun _ h => h.elim, blank_ok ?_⟩
    simp only [F11.k42, F11.t42]
    cases hbl : isBlank c
    · simp only [lexAt, hbl, Bool.false_eq_true, if_false] at hsc
      simp only [F11.k41, F11.t41, F11.k40, F11.t40]
      cases h35 : c == 35
      · simp only [h35, Bool.false_eq_true, if_false] at hsc
        simp [-F11.k38, -F11.k9, h35]
        refine ⟨fun _ => False, fun _ h => h.elim, letter_ok' ?_⟩
        simp only [F11.k38, F11.t38]
        cases hl : isLetter c
        · simp only [hl, Bool.false_eq_true, if_false] at hsc
          simp [-F11.k36, -F11.k18]
          refine ⟨fun _ => False, fun _ h => h.elim, digit_ok' ?_⟩
          simp only [F11.k36, F11.t36]
          cases hd : isDigit c
          · simp only [hd, Bool.false_eq_true, if_false] at hsc
            simp [-F11.k34, -F11.k30]
            refine ⟨fun _ => False, fun _ h => h.elim, isSign_ok ?_⟩
            cases hsb : isSignB c
            · simp only [hsb, Bool.false_eq_true, if_false] at hsc
              rw [← hsc] at hR
              simp [-F11.k32, h6]
              exact hR _ hn hf
            · simp only [hsb, if_true] at hsc
              rw [if_pos (by omega)] at hsc
              simp only [F11.k34, F11.t34, F11.k32, F11.t32, F11.k31, F11.t31]
              simp [-pBld, -aFill, -putCells, -eAlloc_d, -eStore_f, h0, h6, hw]
              refine tok_ap (s := s) (i := i) (j := i + 1) (k := 3) (acc := acc) (x5 := tm 5) (jz := (i : Int) + 1) (by simp) h5 hW (by omega) (by omega) (by omega) ?_
              intro t1 t2 t3 y h2 e1 e2 e3 e4
              refine nxt _ _ (by omega) (by omega) hsc _ _ ?_ ?_ ?_ ?_ e3 e4 <;> simp [h0, h6, hw, e1, e2]
          · simp only [hd, if_true] at hsc
            have hg := runS_gt isDigit s i hi (by rw [hby]; exact hd)
            simp [-F11.k30]
            unfold F11.k30
            refine F11_l4 (s := s) (i := i) hs (by simp [h0]) (by simp [h6]) ?_
            rintro tm' ⟨e0, e5, e8⟩ e6
            simp [h0, h6] at e0 e5 e8
            simp only [blockQ, if_true, thenQ]
            generalize runS isDigit s i = j at *
            simp only [F11.k24, F11.t24, F11.k23, F11.t23]
            by_cases hj : j < s.size
            · have hbj : byteAt s j = s[j].toNat := by simp [byteAt, hj]
              simp [-F11.k22, e0, e6, hj]
              refine ⟨fun _ => False, fun _ h => h.elim, letter_ok' ?_⟩
              rw [hbj] at hsc
              simp only [F11.k22, F11.t22, F11.k21, F11.t21]
              cases hlj : isLetter (s[j].toNat : Nat)
              · simp only [hlj, Bool.and_false, Bool.false_eq_true, if_false] at hsc
                rw [if_pos hg.1] at hsc
                simp [-pBld, -aFill, -putCells, -eAlloc_d, -eStore_f, e0, e5, e6, e8]
                refine tok_ap (s := s) (i := i) (j := j) (k := 2) (acc := acc) (x5 := tm 5) rfl h5 hW (by omega) (by omega) (by omega) ?_
                intro t1 t2 t3 y h2 e1 e2 e3 e4
                refine nxt _ _ (by omega) (by omega) hsc _ _ ?_ ?_ ?_ ?_ e3 e4 <;> simp [e0, e6, e1, e2]
              · simp only [hlj, hj, decide_true, Bool.and_true, if_true] at hsc
                rw [← hsc] at hR
                simp [-F11.k19, e6]
                exact hR _ hn hf
            · simp only [hj, decide_false, Bool.false_and, Bool.false_eq_true, if_false] at hsc
              rw [if_pos hg.1] at hsc
              simp [-pBld, -aFill, -putCells, -eAlloc_d, -eStore_f, e0, e5, e6, e8, hj]
              refine tok_ap (s := s) (i := i) (j := j) (k := 2) (acc := acc) (x5 := tm 5) rfl h5 hW (by omega) (by omega) (by omega) ?_
              intro t1 t2 t3 y h2 e1 e2 e3 e4
              refine nxt _ _ (by omega) (by omega) hsc _ _ ?_ ?_ ?_ ?_ e3 e4 <;> simp [e0, e6, e1, e2]
        · simp only [hl, if_true] at hsc
          have hg := runS_gt isNameB s i hi (by rw [hby]; simp [isNameB, hl])
          rw [if_pos hg.1] at hsc
          simp [-F11.k18]
          unfold F11.k18
          refine F11_l3 (s := s) (i := i) hs (by simp [h0]) (by simp [h6]) ?_
          rintro tm' ⟨e0, e5, e8⟩ e6
          simp [h0, h6] at e0 e5 e8
          simp [-pBld, -aFill, -putCells, -eAlloc_d, -eStore_f, e0, e5, e6, e8]
          refine tok_ap (s := s) (i := i) (j := runS isNameB s i) (k := 1) (acc := acc) (x5 := tm 5) rfl h5 hW (by omega) (by omega) (by omega) ?_
          intro t1 t2 t3 y h2 e1 e2 e3 e4
          refine nxt _ _ (by omega) (by omega) hsc _ _ ?_ ?_ ?_ ?_ e3 e4 <;> simp [e0, e6, e1, e2]
      · simp only [h35, if_true] at hsc
        have hg := runS_gt (fun c => c != 10) s i hi (by rw [hby]; simp at h35; simp [h35])
        rw [if_pos hg.1] at hsc
        simp [-F11.k39, -F11.k9, h35]
        unfold F11.k9
        refine F11_l2 (s := s) (i := i) hs (by simp [h0]) (by simp [h6]) ?_
        rintro tm' ⟨e0, e5, e8⟩ e6
        simp [h0, h6] at e0 e5 e8
        simp
        refine skip _ hg.1 hg.2 hsc _ ?_ ?_ ?_ <;> simp [e0, e5, e6]
    · simp only [lexAt, hbl, if_true] at hsc
      rw [if_pos (by omega)] at hsc
      simp [-F11.k41, h6, hw]
      refine skip (i + 1) (by omega) (by omega) hsc _ ?_ ?_ ?_ <;> simp [h0]
  · rw [dif_neg hi] at hsc
    rw [← hsc] at hR
    have hi' : ¬ (i : Int) < s.size := by omega
    simp [-F11.k45, h0, h6, hi]
    exact hR _ _ h5 hin hn hf
end Go.Proofs.Ythkkgbmjjpcfaaa

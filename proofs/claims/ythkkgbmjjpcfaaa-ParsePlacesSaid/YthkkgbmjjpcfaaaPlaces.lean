/- ParsePlaces answers true for every text: rows rise, the first token of each stands at its Place, a fault lies in the text. No condition. -/
import Derived.Test.YthkkgbmjjpcfaaaRows
import Derived.ProofKit
import Derived.Below
import Derived.ChangeSame
import Derived.ChangeMaps5
import Derived.Test.YthkkgbmjjpcfaaaWb
namespace Go.Proofs.Ythkkgbmjjpcfaaa
open Go.Ab
theorem F4_find {W : Nat → Prop} {Q : Post} {QP : PPost} {tm : Nat → AV} {h : AH} {L : List Tok} {n i k kk yid v : Nat} {t : Tok} {r : Row} {a : AV} (hup : AtUp L n) (hL0 : L.length ≤ 65536) (hi : i ≤ 65536) (hk : k ≤ kk) (ht : L[kk]? = some t) (hpl : r.place = t.at_) (hhd : headOf r = t.text) (hyo : h.obj yid = some (mkO (L.flatMap Tok.enc) 3 38)) (v5 : h.obj v = some (mkO (encRA (r, a)) 6 36))
    (e6 : tm 6 = .sl yid 0 L.length) (e9 : tm 9 = .sc (.int .i64 k)) (e11 : tm 11 = .ptr v 0) (e46 : tm 46 = .sc (.int .i64 i))
    (hQ : ∀ tm', (∀ j, j = 3 ∨ j = 4 ∨ j = 6 ∨ j = 44 ∨ j = 45 → tm' j = tm j) → tm' 9 = .sc (.int .i64 kk) → tm' 46 = .sc (.int .i64 (i + 1 : Nat)) → Q .normal ⟨tm', []⟩ h) : F4.k18 W Q QP ⟨tm, []⟩ h := by
  have hkl : kk < L.length := (List.getElem?_eq_some_iff.1 ht).1
  have htt : L[kk] = t := (List.getElem?_eq_some_iff.1 ht).2
  unfold F4.k18
  refine aLoop_of (ι := Nat) (fun k' s' h' => s'.ds = [] ∧ h' = h ∧ k' ≤ kk ∧ s'.tm 9 = .sc (.int .i64 k') ∧ s'.tm 11 = .ptr v 0 ∧ s'.tm 46 = .sc (.int .i64 i) ∧ ∀ j, j = 3 ∨ j = 4 ∨ j = 6 ∨ j = 44 ∨ j = 45 → s'.tm j = tm j) (fun k' => kk - k') k ⟨rfl, rfl, hk, e9, e11, e46, fun _ _ => rfl⟩ ?_
  rintro k' ⟨tm', ds⟩ h' ⟨rfl, rfl, hk', e9, e11, e46, hsame⟩
  simp only at e9 e11 e46 hsame
  have e6' : tm' 6 = .sl yid 0 L.length := by rw [hsame 6 (by simp)]; exact e6
  rw [F4.l2]
  have hkl' : k' < L.length := by omega
  have hg' : L[k']? = some L[k'] := List.getElem?_eq_getElem hkl'
  have fa : (L.flatMap Tok.enc)[k' * 3 + 2]? = some (.sc (.int .i64 L[k'].at_)) := by rw [flat_get Tok.enc_len L k' 2 (by decide), hg']; rfl
  by_cases hlt : k' < kk
  · have hw : IntKind.i64.wrap ((k' : Int) + 1) = ((k' + 1 : Nat) : Int) := by rw [wrap_in (by omega) (by omega)]; simp
    have hord : L[k'].at_ < r.place := by
      have := List.pairwise_iff_getElem.1 hup.2 k' kk hkl' hkl hlt
      rw [htt] at this
      omega
    simp [-List.length_flatMap, e6', e9, e11, hkl', hyo, fa, v5, encRA, hord, hw]
    exact ⟨k' + 1, by omega, by omega, rfl, e46, hsame 3 (by simp), hsame 4 (by simp), e6.symm, hsame 44 (by simp), hsame 45 (by simp)⟩
  · have : k' = kk := by omega
    subst this
    have hord : ¬ L[k'].at_ < r.place := by rw [htt]; omega
    have fb : (L.flatMap Tok.enc)[k' * 3 + 1]? = some (.sc (.string t.text)) := by rw [flat_get Tok.enc_len L k' 1 (by decide), ht]; rfl
    have hne : ¬ (k' : Int) = L.length := by omega
    have hneb : ((k' : Int) == (L.length : Int)) = false := by simpa using hne
    have hw : IntKind.i64.wrap ((i : Int) + 1) = ((i + 1 : Nat) : Int) := by rw [wrap_in (by omega) (by omega)]; simp
    have hat : L[k'].at_ = r.place := by rw [htt]; omega
    simp [-F4.k12, -List.length_flatMap, e6', e9, e11, hkl', hyo, fa, v5, encRA, hord]
    have fin : ∀ tm2 : Nat → AV, (∀ j, j = 3 ∨ j = 4 ∨ j = 6 ∨ j = 44 ∨ j = 45 → tm2 j = tm j) → tm2 9 = .sc (.int .i64 k') → tm2 46 = .sc (.int .i64 (i + 1 : Nat)) → Q .normal ⟨tm2, []⟩ h' := hQ
    unfold headOf at hhd
    by_cases hu : r.kind = sUse
    · rw [if_pos hu] at hhd
      simp [-List.length_flatMap, e6', e9, e11, e46, hkl', hyo, fa, fb, v5, encRA, hu, hne, hneb, hat, hhd, hw]
      refine fin _ (fun j hj => ?_) ?_ ?_
      · rw [← hsame j hj]
        rcases hj with rfl | rfl | rfl | rfl | rfl <;> simp
      · simp [e9]
      · simp
    · rw [if_neg hu] at hhd
      have hu' : ¬ t.text = sUse := by rw [← hhd]; exact hu
      simp [hu', -List.length_flatMap, e6', e9, e11, e46, hkl', hyo, fa, fb, v5, encRA, hu, hne, hneb, hat, hhd, hw]
      refine fin _ (fun j hj => ?_) ?_ ?_
      · rw [← hsame j hj]
        rcases hj with rfl | rfl | rfl | rfl | rfl <;> simp
      · simp [e9]
      · simp
theorem places_ok {s : ByteArray} {h : AH} {M : Nat → Prop} {R : AE → AH → Prop} (hR : ∀ h', R (.ret (.sc (.bool true))) h') : ACalls Try.prog 4 [.sc (.string s)] h M R := by
  apply F4.calls
  simp only [F4.k50, F4.t50, F4.k49, F4.t49]
  refine ⟨fun _ => False, fun _ h => h.elim, awake_ok ?_⟩
  intro h1 f1
  simp [-F4.k46]
  simp only [F4.k46, F4.t46]
  simp [-F4.k45]
  refine ⟨fun _ => False, fun _ h => h.elim, parse_ok ?_⟩
  unfold ParseR
  cases hp : parseP s with
  | error e =>
    intro h2 f2
    obtain ⟨e1, e2, e3⟩ := parseP_err hp
    have e1' : (e.2 != 0) = true := by simpa using e1
    simp [e1', e2, e3]
    exact hR _
  | ok rows =>
    intro x h2 hx ix f2
    obtain ⟨hb, L, pe, hsc, hup, hL, hG⟩ := parseP_ok hp
    simp [-F4.k37]
    simp only [F4.k37, F4.t37]
    simp [-F4.k36]
    refine ⟨fun _ => False, fun _ h => h.elim, scan_ok ?_⟩
    unfold ScanR
    rw [if_neg hb, hsc]
    intro y h3 hy iy m1 m2
    have f3 : Fr h2 h3 (fun _ => False) := ⟨m1, fun i hi _ => m2 i hi⟩
    have hx3 := hx.fr f3 (fun _ _ h => h) (fun _ _ _ _ h => h)
    simp [-F4.k31, hx3.len.1, hx3.len.2]
    unfold F4.k31
    refine aLoop_of (ι := Nat × Nat × Nat) (fun z s' h' => s'.ds = [] ∧ s'.tm 3 = x ∧ s'.tm 4 = .sc (.int .i64 0) ∧ s'.tm 6 = y ∧ s'.tm 9 = .sc (.int .i64 z.2.1) ∧ s'.tm 44 = x ∧ s'.tm 45 = .sc (.int .i64 rows.length) ∧ s'.tm 46 = .sc (.int .i64 z.1) ∧
      Fr h3 h' (fun _ => False) ∧ RowsG L z.2.2 pe (rows.drop z.1) ∧ z.2.1 ≤ z.2.2 ∧ z.1 ≤ rows.length ∧
      (0 < z.1 → ∃ r t, rows[z.1 - 1]? = some r ∧ L[z.2.1]? = some t ∧ r.place = t.at_ ∧ z.2.1 < z.2.2)) (fun z => rows.length - z.1) (0, 0, 0) ?_ ?_
    · refine ⟨rfl, by simp, by simp, by simp, by simp, by simp, by simp, by simp, Fr.refl, by simpa using hG, Nat.le_refl _, Nat.zero_le _, fun h => by simp at h⟩
    rintro ⟨i, k, q⟩ ⟨tm, ds⟩ h4 ⟨rfl, e3, e4, e6, e9, e44, e45, e46, f4, hg, hkq, hin, hprev⟩
    simp only at e3 e4 e6 e9 e44 e45 e46 hg hkq hin hprev
    rw [F4.l1]
    have hx4 := hx3.fr f4 (fun _ _ h => h) (fun _ _ _ _ h => h)
    have hy4 := hy.of_fr f4 (fun _ _ h => h)
    by_cases hlt : i < rows.length
    · have hr : rows[i]? = some rows[i] := List.getElem?_eq_getElem hlt
      have hd : rows.drop i = rows[i] :: rows.drop (i + 1) := by rw [List.drop_eq_getElem_cons hlt]
      rw [hd] at hg
      generalize rows[i] = r at hr hg
      cases hg with
      | cons a1 a2 a3 a4 a5 a6 a7 a8 =>
      rename_i q2 kk t
      obtain ⟨l, l1, l2, l3⟩ := hx4
      have hll : l.length = rows.length := by rw [← l2]; simp
      rcases l1 with ⟨_, l1⟩ | ⟨id, hid, ho⟩
      · subst l1; simp at hll; omega
      rcases hy4 with ⟨_, hy4⟩ | ⟨yid, hyid, hyo⟩
      · subst hy4; simp at a2
      obtain ⟨a, hla⟩ : ∃ a, l[i]? = some (r, a) := by
        rw [← l2, List.getElem?_map] at hr
        cases hli : l[i]? with
        | none => rw [hli] at hr; cases hr
        | some z => rw [hli] at hr; simp only [Option.map_some, Option.some.injEq] at hr; subst hr; exact ⟨z.2, rfl⟩
      have hkl : kk < L.length := (List.getElem?_eq_some_iff.1 a2).1
      subst hid hyid
      have hlen6 : (l.flatMap encRA).length = l.length * 6 := flat_len encRA_len l
      have hdrop := flat_drop encRA_len l i (r, a) hla
      simp only [F4.k30, F4.t30, F4.k29, F4.t29]
      have hone : (encRA (r, a)).all oneA = true := by
        have := (l3 _ (List.mem_of_getElem? hla))
        rcases this with ⟨h5, _⟩ | ⟨id', h5, _⟩ <;> (simp only at h5; subst h5; rfl)
      have hnn : h.next ≤ h4.next := Nat.le_trans f1.next (Nat.le_trans f2.next (Nat.le_trans f3.next f4.next))
      simp [-F4.k27, -List.length_flatMap, e44, e45, e46, hlt, ho, hll, hlen6, hdrop, AH.alloc_obj, hone, encRA_len]
      refine ⟨by omega, .inr hnn, ?_⟩
      have f5 := ((Fr.refl (h := h4) (S := fun _ => False)).alloc (mkO [.sc (.string ⟨#[]⟩), .sc (.string ⟨#[]⟩), .sc (.slice none 0 0), .sc (.int .i64 0), .sc (.int .i64 0), .sc (.int .i64 0)] 6 36)).put (id := h4.next) (off := 0) (cs := encRA (r, a)) (.inr (Nat.le_refl _))
      have v5 : ((h4.alloc (mkO [.sc (.string ⟨#[]⟩), .sc (.string ⟨#[]⟩), .sc (.slice none 0 0), .sc (.int .i64 0), .sc (.int .i64 0), .sc (.int .i64 0)] 6 36)).put h4.next 0 (encRA (r, a))).obj h4.next = some (mkO (encRA (r, a)) 6 36) := by
        rw [put_row (AH.alloc_new _ _)]
        rfl
      generalize (h4.alloc (mkO [.sc (.string ⟨#[]⟩), .sc (.string ⟨#[]⟩), .sc (.slice none 0 0), .sc (.int .i64 0), .sc (.int .i64 0), .sc (.int .i64 0)] 6 36)).put h4.next 0 (encRA (r, a)) = h5 at *
      have o5 := f5.obj ho (fun h => h)
      have y5 := f5.obj hyo (fun h => h)
      have f5' : Fr h3 h5 (fun _ => False) := f4.trans (f5.mono fun _ h => h.elim)
      generalize h4.next = v at v5
      have hL0 := hL.len
      have hll' : l.length = rows.length := hll
      have hrl : rows.length ≤ 65536 := by
        rcases hG.len with h6 | h6
        · rw [h6]; simp
        · omega
      rw [hll] at e3 e44
      have hw1 : IntKind.i64.wrap ((i : Int) - 1) = (i : Int) - 1 := wrap_in (by omega) (by omega)
      have hw2 : IntKind.i64.wrap ((rows.length : Int) - i) = (rows.length : Int) - i := wrap_in (by omega) (by omega)
      have hw3 : IntKind.i64.wrap ((rows.length : Int) - i - 1) = (rows.length : Int) - i - 1 := wrap_in (by omega) (by omega)
      have hrr : ¬ r.rows < 0 := by omega
      have hrr2 : ¬ (rows.length : Int) - i - 1 < r.rows := by
        have : (rows.drop (i + 1)).length = rows.length - (i + 1) := by simp
        rw [this] at a6
        omega
      by_cases hi0 : 0 < i
      · obtain ⟨r', t', hr', ht', hpl, hkq'⟩ := hprev hi0
        obtain ⟨a', hla'⟩ : ∃ a', l[i - 1]? = some (r', a') := by
          rw [← l2, List.getElem?_map] at hr'
          cases hli : l[i - 1]? with
          | none => rw [hli] at hr'; cases hr'
          | some z => rw [hli] at hr'; simp only [Option.map_some, Option.some.injEq] at hr'; subst hr'; exact ⟨z.2, rfl⟩
        have hord : ¬ r.place ≤ r'.place := by
          rw [a3, hpl]
          have h6 := List.pairwise_iff_getElem.1 hup.2 k kk (List.getElem?_eq_some_iff.1 ht').1 hkl (by omega)
          have h7 := (List.getElem?_eq_some_iff.1 ht').2
          have h8 := (List.getElem?_eq_some_iff.1 a2).2
          rw [h7, h8] at h6
          omega
        have hfl : (l.flatMap encRA)[(i - 1) * 6 + 5]? = some (.sc (.int .i64 r'.place)) := by rw [flat_get encRA_len l (i - 1) 5 (by decide), hla']; rfl
        have hi1 : (1 : Int) ≤ i := by omega
        have hi2 : ((i : Int) - 1).toNat = i - 1 := by omega
        simp [-F4.k18, -List.length_flatMap, hi0, v5, encRA, e3, hw1, hw2, hw3, hi1, hi2, o5, hfl, hord, hrr, hrr2]
        refine ⟨by omega, ?_⟩
        refine F4_find (i := i) (k := k) (kk := kk) (t := t) (r := r) (a := a) (v := v) (yid := yid) hup hL0 (by omega) (by omega) a2 a3 a4 y5 v5 (by simp [e6]) (by simp [e9]) (by simp) (by simp [e46]) ?_
        intro tm' hs' e9' e46'
        have s3 := hs' 3 (by simp); have s4 := hs' 4 (by simp); have s6 := hs' 6 (by simp); have s44 := hs' 44 (by simp); have s45 := hs' 45 (by simp)
        simp [e3, e4, e6, e44, e45] at s3 s4 s6 s44 s45
        refine ⟨i + 1, by omega, rfl, s3, s4, s6, kk, e9', s44, s45, e46', f5', q2, a8, by omega, by omega, fun _ => ⟨r, hr, t, a2, a3, a7⟩⟩
      · have hi00 : i = 0 := by omega
        subst hi00
        simp only [Int.natCast_zero, Int.sub_zero] at hw2 hw3 hrr2
        simp [-F4.k18, -List.length_flatMap, v5, encRA, e3, hrr, hw2, hw3, hrr2]
        refine F4_find (i := 0) (k := k) (kk := kk) (t := t) (r := r) (a := a) (v := v) (yid := yid) hup hL0 (by omega) (by omega) a2 a3 a4 y5 v5 (by simp [e6]) (by simp [e9]) (by simp) (by simp [e46]) ?_
        intro tm' hs' e9' e46'
        have s3 := hs' 3 (by simp); have s4 := hs' 4 (by simp); have s6 := hs' 6 (by simp); have s44 := hs' 44 (by simp); have s45 := hs' 45 (by simp)
        simp [e3, e4, e6, e44, e45] at s3 s4 s6 s44 s45
        refine ⟨0 + 1, by omega, rfl, s3, s4, s6, kk, e9', s44, s45, e46', f5', q2, a8, by omega, by omega, fun _ => ⟨r, hr, t, a2, a3, a7⟩⟩
    · have : i = rows.length := by omega
      subst this
      simp [e44, e45, e46, e4]
      exact hR _
end Go.Proofs.Ythkkgbmjjpcfaaa

namespace Go.Ab
open Go.RowKit
/-- An empty table. -/
def AH.empty : AH := ⟨fun _ => none, 0, fun _ _ h => by cases h⟩
theorem Rel.empty (w : World) : Rel (fun _ => none) AH.empty w := ⟨fun _ _ h => (by cases h), fun _ _ _ _ _ _ h => (by cases h), fun _ _ => rfl⟩
theorem Step.below {E E' : Env} {h h' : AH} {w w' : World} (s : Step E h (fun _ => False) w E' h' w') : Below w.heap.size w w' := ⟨s.os, s.tape, s.output, s.size, fun b hb => s.frame b hb fun _ _ hm => hm.elim⟩
/-- A law whose call answers true, whatever it is given. -/
theorem law_calls {P : Program} {f : FuncId} {args : List AV} {cargs : List Value} (hc : ACalls P f args AH.empty (fun _ => False) (fun ae _ => ae = .ret (.sc (.bool true)))) (ha : VRs (fun _ => none) args cargs) (w : World) :
    Calls P f cargs.toArray w fun e w' => e = .returned (.bool true) ∧ Below w.heap.size w w' := by
  refine (hc _ w cargs (Rel.empty w) ha).mono ?_
  rintro e w' ⟨E', h', ae, hs, he, rfl⟩
  refine ⟨?_, hs.below⟩
  cases e <;> first | exact he.elim | skip
  cases he
  rfl
end Go.Ab
namespace Go.Proofs.Ythkkgbmjjpcfaaa
open Go.ChangeShapes Go.WideShapes Go.ChangeAt Go.RowKit Go.ChangeMaps
section
variable {H : Type} {enc : TypeId × Value → H} {P : Program}
theorem post_of_below {f : Func} {s : ChangeSpec} {apart fresh handsOn again : Bool} {W W' : World} {args : Array Value} {v : Value} {ds gs : List (DataW H)} {before pa pv : List MemPlace}
    (hW : DataW.Whole enc P f.params.toList s.vars apart W args.toList ds gs before)
    (hres : ∀ (b : Nat) (sp : Nat → Bool) (hd : Bool), DataW.TrodAll enc P W' b sp hd f.resultTypes.toList (v.resultList f.resultTypes.size) (s.fn H (ds ++ gs)).results [])
    (hargs : ∀ sp : Nat → Bool, (∀ p ∈ before, sp p.block = true) → DataW.TrodAll enc P W' 0 sp true f.params.toList args.toList (s.fn H (ds ++ gs)).args pa)
    (hvars : ∀ sp : Nat → Bool, (∀ p ∈ before, sp p.block = true) → DataW.TrodVars enc P W' sp s.vars (s.fn H (ds ++ gs)).vars pv)
    (hps : before = pa ++ pv) (hb : Below W.heap.size W W')
    (hok : ∀ (j : Nat) (t : TypeId) (r : Value), f.resultTypes[j]? = some t → (v.resultList f.resultTypes.size)[j]? = some r → Value.okWide P W' .any 0 t r) :
    s.post enc P f apart fresh handsOn again W args v W' := by
  have hlt : ∀ p ∈ before, p.block < W.heap.size := fun p hp => hW.lt p hp
  have hold : ∀ p ∈ before, (fun b => decide (b < W.heap.size)) p.block = true := fun p hp => by simpa using hlt p hp
  refine ⟨ds, gs, before, [], pa, pv, hW, hres _ _ _, hargs _ hold, hvars _ hold, World.keptBut_mono (fun p hp => ⟨hp, ?_⟩) (hb.frame (· ∈ before)), fun _ => ?_⟩
  · rw [hps, List.mem_append] at hp
    exact Or.inr hp
  · obtain ⟨_, _, _, _, _, hz, hn⟩ := hW
    refine ⟨hok, _, _, ([] ++ pa) ++ pv, ⟨[] ++ pa, pv, trodAll_append (hargs _ (fun _ _ => rfl)) (hres _ _ _), hvars _ (fun _ _ => rfl), rfl, ?_, ?_⟩, ?_⟩
    · intro b off hp
      have hin : MemPlace.cell b off ∈ before := by rw [hps]; simpa using hp
      rw [hb.frozen (hlt _ hin)]
      exact hz b off hin
    · intro ha
      have := hn ha
      rw [hps] at this
      simpa using this
    · intro p hp _
      rw [hps]
      simpa using hp
end
theorem Try.own : ownKnob Try.prog.godebug = none := by kernel_rfl
theorem Try.laidOut : laidOutB Try.prog = true := by kernel_rfl
theorem places_any (s : ByteArray) (w : World) : Calls Try.prog 4 #[.string s] w fun e w' => e = .returned (.bool true) ∧ Below w.heap.size w w' :=
  Go.Ab.law_calls (places_ok fun _ => rfl) (.cons (.sc _) .nil) w
set_option maxRecDepth 100000 in
theorem places_lifted (os : Os) (started : os.Started) (H : Type) (enc : TypeId × Value → H) :
    ReturnsInHanded {} Try.checked os 4 .any (Rows.parsePlacesSpec.pre6 enc Try.prog Try.f4 Rows.parsePlacesRow.domain false) (Rows.parsePlacesSpec.post enc Try.prog Try.f4 false true false false) := by
  refine returnsInHanded_of_change (C := Try.checked) Try.own started (by kernel_rfl) Try.func4
    (ChangeSpec.witness6 (enc := enc) (C := Try.checked) false ⟨#[], #[.string ⟨#[]⟩], []⟩ 8 (by kernel_rfl) (by kernel_rfl) (by kernel_rfl) (by kernel_rfl)) ?_
  intro W base args ds gs before hval0 hW hcnd _
  have hval : ∀ (j : Nat) t v, Try.f4.params[j]? = some t → args[j]? = some v → Value.okWide Try.prog W .any base t v := hval0
  have hW' := hW
  obtain ⟨p, q, hA0, hV, rfl, hfz, hnd⟩ := hW
  have hA : DataW.TrodAll enc Try.prog W 0 (fun _ => true) true Try.f4.params.toList args.toList ds p := hA0
  rw [Try.params4] at hA hval
  obtain ⟨v0, d0, rfl, rfl, h0⟩ := trodAll_one hA
  obtain ⟨rfl, rfl⟩ := trodVars_none hV
  obtain ⟨a, rfl, rfl, rfl, wa⟩ := open_string Try.underlying9 (hval 0 9 v0 rfl rfl) h0
  clear hA0 hval0
  simp only [List.append_nil] at hW'
  refine (places_any a W).mono fun e W' ⟨he, hb⟩ => ?_
  subst he
  exact ⟨_, rfl, post_of_below (pa := []) (pv := []) hW' (fun _ _ _ => trodAll_mk1 (shut_bool Try.underlying4 true)) (fun sp _ => trodAll_mk1 (shut_string Try.underlying9 wa)) (fun _ _ => rfl) rfl hb (ok_one (by kernel_rfl) rfl (okWide_bool_mk Try.underlying4 true))⟩
theorem places_holds : Rows.ParsePlacesSaid :=
  OpenClaim.holds_of_wide 4 Try.f4 rfl rfl rfl rfl rfl rfl rfl ⟨rfl, rfl, rfl, rfl, rfl⟩ rfl rfl rfl rfl rfl (by kernel_rfl) Try.func4 (by kernel_rfl)
    (of_decide_eq_true (by kernel_rfl)) (by unfold Func.isWrapper; first | (rw [if_pos (by decide +kernel)]; kernel_rfl) | (rw [if_neg (by decide +kernel)]; exact ⟨rfl, rfl⟩))
    (fun os started H enc _ => places_lifted os started H enc)
end Go.Proofs.Ythkkgbmjjpcfaaa

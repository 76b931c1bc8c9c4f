/- The library's Show, and the law's own functions. No condition. -/
import Derived.Test.YthkkgbmjjpcfaaaDoorSa
set_option maxRecDepth 100000
namespace Go.Proofs.YthkkgbmjjpcfaaaDoor
open Go.Ab
attribute [-simp] eAlloc_d eStore_f
theorem SW.back {n0 : Nat} {h h' : AH} (hf : Fr h h' (SW n0 h)) {id : Nat} (hs : SW n0 h' id) : SW n0 h id ∨ h.next ≤ id := by
  by_cases hl : id < h.next
  · refine .inl (Classical.byContradiction fun hc => hc ?_)
    obtain ⟨h1, o, h2, h3⟩ := hs
    exact ⟨h1, o, by rw [← hf.keep id hl hc]; exact h2, h3⟩
  · exact .inr (by omega)
theorem SW.ty {n0 : Nat} {h : AH} {id : Nat} {o : AO} (ho : h.obj id = some o) (h1 : o.ty ≠ 50) (h2 : o.ty ≠ 5) : ¬ SW n0 h id := by
  rintro ⟨_, o', h3, _, h4⟩
  rw [ho] at h3; cases h3
  exact h4.elim h1 h2
theorem SW.ro {n0 : Nat} {h : AH} {id : Nat} {o : AO} (ho : h.obj id = some o) (h1 : o.ro = false → o.ty ≠ 50 ∧ o.ty ≠ 5) : ¬ SW n0 h id := by
  rintro ⟨_, o', h3, h5, h4⟩
  rw [ho] at h3; cases h3
  exact h4.elim (h1 h5).1 (h1 h5).2
def putS (acc s : List UInt8) : List UInt8 := if acc.length ≤ 65536 then acc ++ s else acc
section
variable {h : AH} {M W : Nat → Prop} {R : AE → AH → Prop} {QR QN : VK} {QE : Nat → VK} {QP : AV → AH → Prop} {n0 w : Nat} {rv : AV} {acc : List UInt8}
theorem put_ok {s : List UInt8} (hw : Wr n0 h w rv acc) (ha : acc.length ≤ 100000000) (hs : s.length ≤ 100000000) (hn : n0 ≤ h.next) (hM : ∀ id, SW n0 h id → M id)
    (hR : ∀ h', Fr h h' (SW n0 h) → Wr n0 h' w rv (putS acc s) → R (.ret (.tup [])) h') : ACalls Tryd.prog 27 [.ptr w 0, S s] h M R := by
  apply F27.callsN
  simp only [F27.n2, pNil_ptr, pFld_ptr, Nat.zero_add]
  refine ⟨fun _ => False, fun _ h => h.elim, len_ok hw ?_⟩
  unfold putS at hR
  by_cases hl : acc.length ≤ 65536
  · rw [if_pos hl] at hR
    have hli : (acc.length : Int) ≤ 65536 := by omega
    simp only [pBin_leq, F27.n1, decide_eq_true hli, aIf_b, true_implies, Bool.true_eq_false, false_implies, and_true, pNil_ptr, pFld_ptr, Nat.zero_add]
    refine ⟨SW n0 h, fun id hs _ => .inl (hM id hs), wstr_ok hw (by rw [bs_size]; omega) hn (fun _ h => h) fun h' hf hw' => ?_⟩
    exact hR h' hf hw'
  · rw [if_neg hl] at hR
    have hli : ¬ (acc.length : Int) ≤ 65536 := by omega
    simp only [pBin_leq, F27.n1, decide_eq_false hli, aIf_b, true_implies, Bool.false_eq_true, false_implies, true_and]
    exact hR h Fr.refl hw
theorem putS_le {acc s : List UInt8} (ha : acc.length ≤ 90000000) (hs : s.length ≤ 20000000) : (putS acc s).length ≤ 90000000 := by
  unfold putS; split
  · simp only [List.length_append]; omega
  · omega
def indT (d : Nat) : List UInt8 := Lib.repeatL [32, 32] d
theorem indT_len (d : Nat) : (indT d).length = d * 2 := Lib.repeatL_length _ _
theorem indent_ok {d : Nat} (hw : Wr n0 h w rv acc) (ha : acc.length ≤ 90000000) (hd : d ≤ 40) (hn : n0 ≤ h.next) (hM : ∀ id, SW n0 h id → M id)
    (hR : ∀ h', Fr h h' (SW n0 h) → Wr n0 h' w rv (putS acc (indT d)) → R (.ret (.tup [])) h') : ACalls Tryd.prog 26 [.ptr w 0, I d] h M R := by
  apply F26.callsN
  simp only [F26.n1]
  refine ⟨fun _ => False, fun _ h => h.elim, repeat_ok (s := bs [32, 32]) (by omega) (by rw [bs_size]; simp) ?_⟩
  refine ⟨SW n0 h, fun id hs _ => .inl (hM id hs), put_ok (s := indT d) hw (by omega) (by rw [indT_len]; omega) hn (fun _ h => h) fun h' hf hw' => ?_⟩
  exact hR h' hf hw'
end
end Go.Proofs.YthkkgbmjjpcfaaaDoor
namespace Go.Proofs.YthkkgbmjjpcfaaaDoor
open Go.Ab
attribute [-simp] eAlloc_d eStore_f
def argS (g : Arg) : ByteArray := bs (argT g)
structure LI (n0 : Nat) (h0 h : AH) (w : Nat) (rv : AV) (acc : List UInt8) (vr vs : Nat) (y : Row × AV) (sh : Shape) (x : AV) (ps : List ByteArray) : Prop where
  fr : Fr h0 h (SW n0 h0)
  wr : Wr n0 h w rv acc
  ov : h.obj vr = some (mkO (encRA y) 6 39)
  os : h.obj vs = some (mkO sh.enc 4 67)
  ar : SlR Arg.enc 2 41 h y.2 y.1.args
  tb : SlL strCell 1 9 h x ps
  fx : InS (h0.next ≤ ·) x
  ht : HasTab 1 h
section
variable {h0 h h' : AH} {n0 w : Nat} {rv : AV} {acc : List UInt8} {vr vs : Nat} {y : Row × AV} {sh : Shape} {x : AV} {ps : List ByteArray}
theorem _root_.Go.Ab.HasTab.fr0 {g : Nat} {h h' : AH} (ht : HasTab g h) (hf : Fr h h' fun _ => False) : HasTab g h' := HasTab.fr ht hf fun h => h
theorem _root_.Go.Ab.HasTab.frS {g : Nat} {h h' : AH} {n0 : Nat} (ht : HasTab g h) (hf : Fr h h' (SW n0 h)) : HasTab g h' := by
  refine HasTab.fr ht hf ?_
  obtain ⟨ty, fz, h0⟩ := ht
  exact SW.ty h0 (show (0 : Nat) ≠ 50 by decide) (show (0 : Nat) ≠ 5 by decide)
theorem LI.call (i : LI n0 h0 h w rv acc vr vs y sh x ps) (hf : Fr h h' fun _ => False) : LI n0 h0 h' w rv acc vr vs y sh x ps :=
  ⟨SW.trans i.fr (SW.of_fr hf), i.wr.fr0 hf, hf.ob0 i.ov, hf.ob0 i.os, i.ar.fr0 hf, i.tb.of_fr hf (fun _ _ h => h), i.fx, HasTab.fr0 i.ht hf⟩
theorem LI.push {K : AV → AH → Prop} {W : Nat → Prop} {s : ByteArray} (i : LI n0 h0 h w rv acc vr vs y sh x ps) (hl : ps.length ≤ 100000000) (hW : ∀ id, h0.next ≤ id → W id)
    (hK : ∀ x' h', LI n0 h0 h' w rv acc vr vs y sh x' (ps ++ [s]) → K x' h') :
    eBSl (some (1, 9, [.string ⟨#[]⟩])) 1 [(0, .sc (.string s))] h fun v h4 => eApp (some (1, 16, 9)) x v h4 W fun v' h5 => K v' h5 := by
  show eBSl (some (1, 9, [.string ⟨#[]⟩])) 1 [(0, .agg (strCell s))] h fun v h4 => eApp (some (1, 16, 9)) x v h4 W fun v' h5 => K v' h5
  refine app1' (sz := 1) (bytes := 16) (ty := 9) (K := fun _ => K) (f := strCell) (fun _ => rfl) (by omega) rfl (fun _ => rfl) (by omega) i.tb (fun id off n he => hW id (i.fx id off n he)) hl fun v x' h' ht hx hf => ?_
  have hne : ∀ id o, h.obj id = some o → (o.ro = false → o.ty ≠ 9) → ¬ ∃ off n, x = .sl id off n := by
    rintro id o ho hty ⟨off, n, he⟩
    rcases i.tb with ⟨h1, _⟩ | ⟨id', h1, h2⟩
    · rw [h1] at he; cases he
    · rw [h1] at he; cases he
      rw [ho] at h2; cases h2
      exact hty rfl rfl
  refine hK x' h' ⟨?_, ?_, hf.obj i.ov (hne _ _ i.ov (fun _ => show (39 : Nat) ≠ 9 by decide)), hf.obj i.os (hne _ _ i.os (fun _ => show (67 : Nat) ≠ 9 by decide)), ?_, ht, ?_, ?_⟩
  · refine i.fr.trans (hf.mono ?_)
    rintro id ⟨off, n, he⟩
    exact .inr (i.fx id off n he)
  · refine i.wr.fr hf fun id o ho hty => hne id o ho fun _ => ?_
    rcases hty with hty | hty <;> rw [hty] <;> decide
  · exact i.ar.fr hf fun id o ho hty => hne id o ho fun hr => by rw [hty hr]; decide
  · intro id off n he
    exact Nat.le_trans i.fr.next (hx id off n he)
  · refine HasTab.fr i.ht hf ?_
    obtain ⟨ty, fz, h00⟩ := i.ht
    exact hne _ _ h00 (fun _ => show (0 : Nat) ≠ 9 by decide)
end
end Go.Proofs.YthkkgbmjjpcfaaaDoor
namespace Go.Proofs.YthkkgbmjjpcfaaaDoor
open Go.Ab
attribute [-simp] eAlloc_d eStore_f
section
variable {W : Nat → Prop} {QR QN : VK} {QE : Nat → VK} {QP : AV → AH → Prop} {h0 h h' : AH} {n0 w : Nat} {rv : AV} {acc : List UInt8} {vr vs : Nat} {y : Row × AV} {sh : Shape} {x : AV} {ps : List ByteArray}
theorem F25_18 (i : LI n0 h0 h w rv acc vr vs y sh x ps) (hl : ps.length ≤ 1000000) (hW : ∀ id, h0.next ≤ id → W id)
    (hK : ∀ x' h', LI n0 h0 h' w rv acc vr vs y sh x' (ps ++ if y.1.kind = sUse then [] else [y.1.kind]) → F25.n16 W QR QN QE QP (.ptr w 0) (.ptr vr 0) (.ptr vs 0) x' h') : F25.n18 W QR QN QE QP (.ptr w 0) (.ptr vr 0) (.ptr vs 0) x h := by
  by_cases hk : y.1.kind = sUse
  · rw [if_pos hk, List.append_nil] at hK
    simp [-F25.n16, i.ov, encRA, hk, sUse]
    exact hK x h i
  · rw [if_neg hk] at hK
    unfold sUse at hk
    simp [-F25.n16, i.ov, encRA, hk]
    exact i.push (by omega) hW hK
theorem F25_16 (i : LI n0 h0 h w rv acc vr vs y sh x ps) (hl : ps.length ≤ 1000000) (hW : ∀ id, h0.next ≤ id → W id)
    (hK : ∀ x' h', LI n0 h0 h' w rv acc vr vs y sh x' (ps ++ if sh.name then [y.1.name] else []) → F25.n14 W QR QN QE QP (.ptr w 0) (.ptr vr 0) (.ptr vs 0) x' h') : F25.n16 W QR QN QE QP (.ptr w 0) (.ptr vr 0) (.ptr vs 0) x h := by
  cases hk : sh.name with
  | false =>
    rw [hk, if_neg (by decide), List.append_nil] at hK
    simp [-F25.n14, i.ov, i.os, encRA, Shape.enc, hk]
    exact hK x h i
  | true =>
    rw [hk, if_pos rfl] at hK
    simp [-F25.n14, i.ov, i.os, encRA, Shape.enc, hk]
    exact i.push (by omega) hW hK
theorem F25_14 (i : LI n0 h0 h w rv acc vr vs y sh x ps) (hl : ps.length ≤ 1000000) (hW : ∀ id, h0.next ≤ id → W id) (hn0 : -9223372036854775808 ≤ y.1.num) (hn1 : y.1.num ≤ 9223372036854775807)
    (hK : ∀ x' h', LI n0 h0 h' w rv acc vr vs y sh x' (ps ++ if sh.num then [bs (Lib.itoa y.1.num)] else []) → F25.n12 W QR QN QE QP (.ptr w 0) (.ptr vr 0) (.ptr vs 0) x' h') : F25.n14 W QR QN QE QP (.ptr w 0) (.ptr vr 0) (.ptr vs 0) x h := by
  cases hk : sh.num with
  | false =>
    rw [hk, if_neg (by decide), List.append_nil] at hK
    simp [-F25.n12, i.ov, i.os, encRA, Shape.enc, hk]
    exact hK x h i
  | true =>
    rw [hk, if_pos rfl] at hK
    simp [-F25.n12, i.ov, i.os, encRA, Shape.enc, hk]
    refine ⟨fun _ => False, fun _ h => h.elim, itoa_ok hn0 hn1 i.ht ?_⟩
    exact i.push (by omega) hW hK
theorem F25_loop (i0 : LI n0 h0 h w rv acc vr vs y sh x ps) (hl : ps.length ≤ 1000) (hb : RowB y.1) (hI : IdxB y.1) (hW : ∀ id, h0.next ≤ id → W id)
    (hK : ∀ x' h', LI n0 h0 h' w rv acc vr vs y sh x' (ps ++ y.1.args.map argS) → F25.n3 W QR QN QE QP (.ptr w 0) (.ptr vs 0) x' h') : F25.n12 W QR QN QE QP (.ptr w 0) (.ptr vr 0) (.ptr vs 0) x h := by
  have hlen := hb.len
  simp only [F25.n12, pFld_ptr, lLd_f, i0.ov, ldk_mk, Nat.zero_add, encRA, List.getElem?_cons_succ, List.getElem?_cons_zero, cellK_some, i0.ar.len.1, i0.ar.len.2, true_and]
  unfold F25.n11
  refine vLoop_of (ι := Nat × AV) (fun z v h' => v = [.ptr w 0, .ptr vs 0, z.2, y.2, I y.1.args.length, I z.1] ∧ z.1 ≤ y.1.args.length ∧ LI n0 h0 h' w rv acc vr vs y sh z.2 (ps ++ (y.1.args.take z.1).map argS)) (fun z => y.1.args.length - z.1) (0, x) ?_ ?_
  · exact ⟨rfl, by simp, by simpa using i0⟩
  rintro K ⟨i, xx⟩ v h' ⟨rfl, hi, li⟩ hK2
  simp only at hi li hK2
  simp only [F25.g1_, List.getD_cons_zero, List.getD_cons_succ]
  by_cases hlt : i < y.1.args.length
  · have hli : (i : Int) < y.1.args.length := by omega
    have g1 : y.1.args[i]? = some y.1.args[i] := List.getElem?_eq_getElem hlt
    have gi := hI _ (List.getElem_mem hlt)
    have gb := hb.args _ (List.getElem_mem hlt)
    have ht : ps ++ (y.1.args.take (i + 1)).map argS = (ps ++ (y.1.args.take i).map argS) ++ [argS y.1.args[i]] := by
      rw [List.take_succ_eq_append_getElem hlt, List.map_append]; simp only [List.map_cons, List.map_nil, List.append_assoc]
    have hw : IntKind.i64.wrap ((i : Int) + 1) = ((i + 1 : Nat) : Int) := by rw [wrap_in (by omega) (by omega)]; simp
    have fin : ∀ x' h', LI n0 h0 h' w rv acc vr vs y sh x' ((ps ++ (y.1.args.take i).map argS) ++ [argS y.1.args[i]]) → F25.n4 W QR K (fun (i : Nat) (vs : List AV) (h : AH) => if i = 0 then F25.n3 W QR QN QE QP (vs.getD 0 noA) (vs.getD 1 noA) (vs.getD 2 noA) h else QE i vs h) QP (.ptr w 0) (.ptr vs 0) x' y.2 (I y.1.args.length) (I i) h' := by
      intro x' h2 li2
      simp only [F25.n4, pBin_add, hw]
      exact hK2 (i + 1, x') _ _ (by simp only; omega) ⟨rfl, by simp only; omega, by rw [ht]; exact li2⟩
    have hpl : (ps ++ (y.1.args.take i).map argS).length ≤ 1000000 := by simp; omega
    generalize y.1.args[i] = g at *
    simp only [F25.n10, pBin_lss, decide_eq_true hli, F25.n9, aIf_b, true_implies, Bool.true_eq_false, false_implies, and_true, F25.n8]
    refine rng_var li.ar Arg.enc_len (Arg.enc_one _) g1 rfl rfl (fun id hid => hW id (Nat.le_trans li.fr.next hid)) fun vn h1 f1 hvn ov => ?_
    have li1 := li.call f1
    by_cases hx : g.index < 0
    · have e : argS g = g.name := by unfold argS argT; rw [if_pos hx, List.append_nil]
      have hx0 : ¬ 0 ≤ g.index := by omega
      rw [e] at fin
      simp [-F25.n4, ov, Arg.enc, hx0]
      exact li1.push (by omega) hW fin
    · have hx0 : 0 ≤ g.index := by omega
      have e : argS g = g.name ++ bs [91] ++ bs (Lib.itoa g.index) ++ bs [93] := by
        apply ByteArray.ext; simp [argS, argT, hx, bs, ls]
      have e91 : (bs [91]).size = 1 := rfl
      have e93 : (bs [93]).size = 1 := rfl
      have hlen := Lib.itoa_length_le g.index (by omega) (by omega)
      rw [e] at fin
      simp only [F25.n7, F25.n6, F25.n5, pFld_ptr, lLd_f, ov, ldk_mk, Nat.zero_add, Arg.enc, List.getElem?_cons_succ, List.getElem?_cons_zero, cellK_some, pBin_geq, decide_eq_true hx0, ge_iff_le, aIf_b, true_implies, Bool.true_eq_false, false_implies, and_true, pBin_sadd]
      refine ⟨by show g.name.size + (bs [91]).size < _; omega, fun _ => False, fun _ h => h.elim, itoa_ok (by omega) (by omega) li1.ht ?_⟩
      simp only [pBin_sadd]
      have es : (g.name ++ bs [91]).size = g.name.size + 1 := by rw [ByteArray.size_append, e91]
      have es2 : (g.name ++ bs [91] ++ bs (Lib.itoa g.index)).size = g.name.size + 1 + (Lib.itoa g.index).length := by rw [ByteArray.size_append, es]; rfl
      refine ⟨?_, ?_, li1.push (by omega) hW fin⟩
      · show (g.name ++ bs [91]).size + (Lib.itoa g.index).length < _
        rw [es]; omega
      · show (g.name ++ bs [91] ++ bs (Lib.itoa g.index)).size + (bs [93]).size < _
        rw [es2, e93]; omega
  · have hnl : ¬ (i : Int) < y.1.args.length := by omega
    rw [List.take_of_length_le (by omega)] at li
    simp only [F25.n10, pBin_lss, decide_eq_false hnl, F25.n9, aIf_b, true_implies, Bool.false_eq_true, false_implies, true_and, if_true, List.getD_cons_zero, List.getD_cons_succ]
    exact hK _ _ li
end
end Go.Proofs.YthkkgbmjjpcfaaaDoor
namespace Go.Proofs.YthkkgbmjjpcfaaaDoor
open Go.Ab
attribute [-simp] eAlloc_d eStore_f
def wordsP (sh : Shape) (r : Row) : List ByteArray := (((if r.kind = sUse then [] else [r.kind]) ++ if sh.name then [r.name] else []) ++ if sh.num then [bs (Lib.itoa r.num)] else []) ++ r.args.map argS
def lineJ (sh : Shape) (r : Row) : List UInt8 := Lib.join ((wordsP sh r).map ls) [32]
def endT (b : Bool) : List UInt8 := if b then [32, 123, 10] else [59, 10]
def lineS (d : Nat) (sh : Shape) (r : Row) (acc : List UInt8) : List UInt8 := putS (putS (putS acc (indT d)) (lineJ sh r)) (endT sh.body)
section
variable {h : AH} {M : Nat → Prop} {R : AE → AH → Prop} {n0 w : Nat} {rv : AV} {acc : List UInt8} {y : Row × AV} {sh : Shape}
theorem line_ok {d : Nat} (hw : Wr n0 h w rv acc) (ha : acc.length ≤ 90000000) (hd : d ≤ 40) (hn : n0 ≤ h.next) (ht : HasTab 1 h) (har : SlR Arg.enc 2 41 h y.2 y.1.args) (hb : RowB y.1) (hI : IdxB y.1) (hn0 : 0 ≤ y.1.num) (hn1 : y.1.num ≤ 9007199254740991) (hJ : (lineJ sh y.1).length ≤ 20000000)
    (hM : ∀ id, SW n0 h id → M id) (hR : ∀ h', Fr h h' (SW n0 h) → Wr n0 h' w rv (lineS d sh y.1 acc) → R (.ret (.tup [])) h') : ACalls Tryd.prog 25 [.ptr w 0, .agg (encRA y), .agg sh.enc, I d] h M R := by
  apply F25.callsN
  unfold F25.n21
  refine box_var (encRA_one har) fun vr h1 f1 hvr ov => ?_
  refine box_var (cs := sh.enc) (by rfl) fun vs h2 f2 hvs os => ?_
  unfold F25.n20
  have f12 := f1.tr0 f2
  have hnn : n0 ≤ h2.next := Nat.le_trans hn f12.next
  have s12 : Fr h h2 (SW n0 h) := SW.of_fr f12
  have toM : ∀ {h'}, Fr h h' (SW n0 h) → ∀ id, SW n0 h' id → M id ∨ h.next ≤ id := fun hf id hs => (SW.back hf hs).imp (hM id) fun h => h
  refine ⟨SW n0 h2, fun id hs _ => toM s12 id hs, indent_ok (hw.fr0 f12) ha hd hnn (fun _ h => h) fun h3 f3 hw3 => ?_⟩
  have s3 := SW.trans s12 f3
  have li : LI n0 h h3 w rv (putS acc (indT d)) vr vs y sh nilS [] := by
    refine ⟨s3, hw3, ?_, ?_, ?_, .nil, (fun _ _ _ he => by cases he), HasTab.frS (HasTab.fr0 ht f12) f3⟩
    · exact f3.obj (f2.ob0 ov) (SW.ty (f2.ob0 ov) (show (39 : Nat) ≠ 50 by decide) (show (39 : Nat) ≠ 5 by decide))
    · exact f3.obj os (SW.ty os (show (67 : Nat) ≠ 50 by decide) (show (67 : Nat) ≠ 5 by decide))
    · exact (har.fr0 f12).fr f3 fun id o ho hty => SW.ro ho fun hr => by rw [hty hr]; decide
  simp only [F25.n19]
  have hW : ∀ id, h.next ≤ id → M id ∨ h.next ≤ id := fun id hid => .inr hid
  have a1 : (if y.1.kind = sUse then [] else [y.1.kind] : List ByteArray).length ≤ 1 := by split <;> simp
  have a2 : (if sh.name then [y.1.name] else [] : List ByteArray).length ≤ 1 := by split <;> simp
  have a3 : (if sh.num then [bs (Lib.itoa y.1.num)] else [] : List ByteArray).length ≤ 1 := by split <;> simp
  refine F25_18 li (by simp) hW fun x1 h4 li1 => ?_
  rw [List.nil_append] at li1
  refine F25_16 li1 (by omega) hW fun x2 h5 li2 => ?_
  refine F25_14 li2 (by rw [List.length_append]; omega) hW (by omega) (by omega) fun x3 h6 li3 => ?_
  refine F25_loop li3 (by rw [List.length_append, List.length_append]; omega) hb hI hW fun x4 h7 li4 => ?_
  have l4 := hb.len
  unfold F25.n3
  have hwl : (wordsP sh y.1).length ≤ 100000 := by
    unfold wordsP
    rw [List.length_append, List.length_map, List.length_append, List.length_append]
    omega
  refine ⟨fun _ => False, fun _ h => h.elim, join_ok (xs := wordsP sh y.1) (sep := bs [32]) li4.tb hwl (by show (lineJ sh y.1).length ≤ _; omega) ?_⟩
  have p1 : (putS acc (indT d)).length ≤ 90000000 := putS_le ha (by rw [indT_len]; omega)
  refine ⟨SW n0 h7, fun id hs _ => toM li4.fr id hs, put_ok (s := lineJ sh y.1) li4.wr (by omega) (by omega) (Nat.le_trans hn li4.fr.next) (fun _ h => h) fun h8 f8 hw8 => ?_⟩
  have p2 := putS_le p1 hJ
  have os8 := f8.obj li4.os (SW.ty li4.os (show (67 : Nat) ≠ 50 by decide) (show (67 : Nat) ≠ 5 by decide))
  have s8 := SW.trans li4.fr f8
  have p3 := putS_le (s := endT sh.body) p2 (by unfold endT; split <;> simp)
  unfold lineS at hR
  cases hbd : sh.body with
  | true =>
    rw [hbd] at hR
    simp [os8, Shape.enc, hbd]
    refine ⟨SW n0 h8, fun id hs _ => toM s8 id hs, put_ok (s := [32, 123, 10]) hw8 (by omega) (by simp) (Nat.le_trans hn s8.next) (fun _ h => h) fun h9 f9 hw9 => ?_⟩
    exact hR h9 (SW.trans s8 f9) hw9
  | false =>
    rw [hbd] at hR
    simp [os8, Shape.enc, hbd]
    refine ⟨SW n0 h8, fun id hs _ => toM s8 id hs, put_ok (s := [59, 10]) hw8 (by omega) (by simp) (Nat.le_trans hn s8.next) (fun _ h => h) fun h9 f9 hw9 => ?_⟩
    exact hR h9 (SW.trans s8 f9) hw9
end
end Go.Proofs.YthkkgbmjjpcfaaaDoor
namespace Go.Proofs.YthkkgbmjjpcfaaaDoor
open Go.Ab
attribute [-simp] eAlloc_d eStore_f
theorem shape_body (k : ByteArray) : (shapeP k).1.body = bodyK k := by
  unfold shapeP bodyK
  by_cases k1 : k = sQubits
  · simp [k1, sQubits, sGate, sRepeat, sIf]
  by_cases k2 : k = sBits
  · simp [k2, sQubits, sBits, sGate, sRepeat, sIf]
  by_cases k3 : k = sGate
  · simp [k3, sQubits, sBits, sGate, sRepeat, sIf]
  by_cases k4 : k = sRepeat
  · simp [k4, sQubits, sBits, sGate, sRepeat, sIf]
  by_cases k5 : k = sIf
  · simp [k5, sQubits, sBits, sGate, sRepeat, sIf]
  by_cases k6 : k = sMeasure
  · simp [k6, sQubits, sBits, sGate, sRepeat, sIf, sMeasure]
  by_cases k7 : k = sReset
  · simp [k7, sQubits, sBits, sGate, sRepeat, sIf, sMeasure, sReset]
  by_cases k8 : k = sUse
  · simp [k8, sQubits, sBits, sGate, sRepeat, sIf, sMeasure, sReset, sUse]
  simp [k1, k2, k3, k4, k5, k6, k7, k8]
theorem shape_num (k : ByteArray) : (shapeP k).1.num = numK k := by
  unfold shapeP numK
  by_cases k1 : k = sQubits
  · simp [k1]
  by_cases k2 : k = sBits
  · simp [k2]
  by_cases k3 : k = sGate
  · simp [k3, sQubits, sBits, sGate, sRepeat, sIf]
  by_cases k4 : k = sRepeat
  · simp [k4, sQubits, sBits, sGate, sRepeat, sIf]
  by_cases k5 : k = sIf
  · simp [k5, sQubits, sBits, sGate, sRepeat, sIf]
  by_cases k6 : k = sMeasure
  · simp [k6, sQubits, sBits, sGate, sRepeat, sIf, sMeasure]
  by_cases k7 : k = sReset
  · simp [k7, sQubits, sBits, sGate, sRepeat, sIf, sMeasure, sReset]
  by_cases k8 : k = sUse
  · simp [k8, sQubits, sBits, sGate, sRepeat, sIf, sMeasure, sReset, sUse]
  simp [k1, k2, k3, k4, k5, k6, k7, k8]
theorem shape_use : (shapeP sUse).1.name = true := by simp [shapeP, sQubits, sBits, sGate, sRepeat, sIf, sMeasure, sReset, sUse]
theorem lineJ_head {r : Row} (hr : rightP r = true) : lineJ (shapeP r.kind).1 r = refHead r := by
  unfold rightP headOk at hr
  simp only [Bool.and_eq_true] at hr
  obtain ⟨⟨⟨⟨⟨⟨⟨_, h1⟩, h2⟩, _⟩, _⟩, _⟩, _⟩, _⟩ := hr
  have h1 : (shapeP r.kind).1.name = plainS r.name := by simpa using h1
  have hargs : Lib.joinTail [32] ((r.args.map argS).map ls) = argsT r.args := by
    unfold Lib.joinTail argsT
    generalize r.args = l
    induction l with
    | nil => rfl
    | cons g l ih => simp only [List.map_cons, List.flatten_cons, List.flatMap_cons, ih]; rfl
  have htail : ∀ A B : List (List UInt8), Lib.joinTail [32] (A ++ B) = Lib.joinTail [32] A ++ Lib.joinTail [32] B := fun A B => by simp [Lib.joinTail]
  have hone : ∀ s : List UInt8, Lib.joinTail [32] [s] = 32 :: s := fun s => by simp [Lib.joinTail]
  have hnil : Lib.joinTail [32] [] = [] := rfl
  unfold lineJ wordsP refHead baseT
  rw [shape_num]
  have hnum : Lib.joinTail [32] ((if numK r.kind then [bs (Lib.itoa r.num)] else [] : List ByteArray).map ls) = (if numK r.kind then 32 :: Lib.itoa r.num else []) := by
    split
    · simp only [List.map_cons, List.map_nil, hone]
    · rfl
  by_cases hu : r.kind = sUse
  · rw [if_pos hu, if_pos hu, List.nil_append, hu, shape_use, if_pos rfl]
    rw [← hu]
    simp only [List.map_append, List.map_cons, List.map_nil, List.singleton_append, List.cons_append, List.nil_append]
    rw [Lib.join_cons, htail, hnum, hargs]
    simp only [List.append_assoc]
  · rw [if_neg hu, if_neg hu]
    by_cases hn : r.name = ByteArray.empty
    · have hp : plainS r.name = false := by
        cases hp : plainS r.name with
        | true => exact absurd hn (plain_ne hp)
        | false => rfl
      rw [if_pos hn, h1, hp, if_neg (by decide), List.append_nil]
      simp only [List.map_append, List.map_cons, List.map_nil, List.singleton_append, List.cons_append, List.nil_append]
      rw [Lib.join_cons, htail, hnum, hargs]
      simp only [List.append_assoc]
    · have hs : (shapeP r.kind).1.name = true := by simpa [hn] using h2
      rw [if_neg hn, hs, if_pos rfl]
      simp only [List.map_append, List.map_cons, List.map_nil, List.singleton_append, List.cons_append, List.nil_append]
      rw [Lib.join_cons]
      rw [show (ls r.name :: (List.map ls (if numK r.kind = true then [bs (Lib.itoa r.num)] else []) ++ List.map ls (List.map argS r.args))) = [ls r.name] ++ (List.map ls (if numK r.kind = true then [bs (Lib.itoa r.num)] else []) ++ List.map ls (List.map argS r.args)) from rfl, htail, htail, hone, hnum, hargs]
      simp only [List.append_assoc]
def writeS (d : Nat) (rows : List Row) (acc : List UInt8) : List UInt8 :=
  match rows with
  | [] => acc
  | r :: rest => writeS d (rest.drop r.rows.toNat) (if bodyK r.kind then putS (putS (writeS (d + 1) (rest.take r.rows.toNat) (lineS d (shapeP r.kind).1 r acc)) (indT d)) [125, 10] else lineS d (shapeP r.kind).1 r acc)
termination_by rows.length
decreasing_by all_goals (simp only [List.length_take, List.length_drop, List.length_cons]; omega)
theorem writeS_nil {d : Nat} {acc : List UInt8} : writeS d [] acc = acc := by rw [writeS]
theorem writeS_cons {d : Nat} {r : Row} {rest : List Row} {acc : List UInt8} : writeS d (r :: rest) acc = writeS d (rest.drop r.rows.toNat) (if bodyK r.kind then putS (putS (writeS (d + 1) (rest.take r.rows.toNat) (lineS d (shapeP r.kind).1 r acc)) (indT d)) [125, 10] else lineS d (shapeP r.kind).1 r acc) := by rw [writeS]
theorem refHead_len {r : Row} (hb : RowB r) (hI : IdxB r) (h0 : 0 ≤ r.num) (h1 : r.num ≤ 9007199254740991) : (refHead r).length ≤ 11000000 := by
  have := argsT_len hI; have := hb.all; have := hb.kind; have := hb.name
  have e1 : (ls r.kind).length = r.kind.size := rfl
  have e2 : (ls r.name).length = r.name.size := rfl
  have hi := Lib.itoa_length_le r.num (by omega) (by omega)
  have hb : (baseT r).length ≤ 300000 := by
    unfold baseT
    split
    · omega
    · split
      · omega
      · simp only [List.length_append, List.length_cons]; omega
  unfold refHead
  simp only [List.length_append]
  have : (if numK r.kind = true then 32 :: Lib.itoa r.num else []).length ≤ 22 := by split <;> simp <;> omega
  omega
end Go.Proofs.YthkkgbmjjpcfaaaDoor
namespace Go.Proofs.YthkkgbmjjpcfaaaDoor
open Go.Ab
attribute [-simp] eAlloc_d eStore_f
theorem RowsL.frS {h h' : AH} {x : AV} {l : List (Row × AV)} {n0 : Nat} (a : RowsL h x l) (hf : Fr h h' (SW n0 h)) : RowsL h' x l :=
  ⟨a.tab.fr hf fun id o ho hty => SW.ro ho fun hr => by rw [hty hr]; decide, fun y hy => (a.args y hy).fr hf fun id o ho hty => SW.ro ho fun hr => by rw [hty hr]; decide⟩
def okSt (d : Nat) (r : Row) (n : Nat) : Bool := rightP r && decide (0 ≤ r.rows) && decide (r.rows ≤ n) && decide (d ≤ 32) && !(bodyK r.kind && decide (d = 32))
theorem okRows_st {d : Nat} {r : Row} {rest : List Row} : okRows d (r :: rest) = (okSt d r rest.length && okRows (d + 1) (rest.take r.rows.toNat) && okRows d (rest.drop r.rows.toNat)) := by
  rw [okRows_cons]
  unfold okSt fitP
  by_cases hd : d ≤ 32
  · have e : decide (32 ≤ d) = decide (d = 32) := by by_cases h : d = 32 <;> simp [h] <;> omega
    rw [e, decide_eq_true hd]
    simp only [Bool.true_and, Bool.and_true]
    ac_rfl
  · rw [decide_eq_false hd]; simp
section
variable {W : Nat → Prop} {QR QN : VK} {QE : Nat → VK} {QP : AV → AH → Prop} {h : AH} {x0 : AV} {vr vs : Nat} {y : Row × AV} {sh : Shape} {b : Bool} {i j d : Nat}
theorem F15_1 {x2 x3 x9 : AV} (hv : h.obj vr = some (mkO (encRA y) 6 39)) (hK : F15.n21 W QR QN QE QP x0 x2 x3 x9 (.ptr vr 0) (.ptr vs 0) (B (b || decide (y.1.rows < 0))) h) : F15.n23 W QR QN QE QP x0 x2 x3 x9 (.ptr vr 0) (.ptr vs 0) (B b) h := by
  cases b <;> simp [-F15.n21, hv, encRA] at hK ⊢ <;> exact hK
theorem F15_2 {x3 : AV} (hi : i < j) (hj : j ≤ 1000000) (hv : h.obj vr = some (mkO (encRA y) 6 39)) (hK : F15.n19 W QR QN QE QP x0 (I j) x3 (I i) (.ptr vr 0) (.ptr vs 0) (B (b || decide (((j - (i + 1) : Nat) : Int) < y.1.rows))) h) : F15.n21 W QR QN QE QP x0 (I j) x3 (I i) (.ptr vr 0) (.ptr vs 0) (B b) h := by
  have wji : IntKind.i64.wrap ((j : Int) - i) = ((j - i : Nat) : Int) := by rw [wrap_in (by omega) (by omega)]; omega
  have wji1 : IntKind.i64.wrap (((j - i : Nat) : Int) - 1) = ((j - (i + 1) : Nat) : Int) := by rw [wrap_in (by omega) (by omega)]; omega
  cases b
  · simp only [F15.n21, aIg_b, Bool.not_false, Bool.false_eq_true, true_implies, false_implies, and_true, pFld_ptr, lLd_f, hv, ldk_mk, Nat.zero_add, encRA, List.getElem?_cons_succ, List.getElem?_cons_zero, cellK_some, pBin_sub, wji, wji1, pBin_gtr, gt_iff_lt, F15.n20, pPick_b, if_false]
    simpa [-F15.n19] using hK
  · simp [-F15.n19] at hK ⊢; exact hK
theorem F15_3 {x2 x9 x10 x11 : AV} (hK : F15.n17 W QR QN QE QP x0 x2 (I d) x9 x10 x11 (B (b || decide (32 < d))) h) : F15.n19 W QR QN QE QP x0 x2 (I d) x9 x10 x11 (B b) h := by
  have e : decide ((32 : Int) < (d : Int)) = decide (32 < d) := by by_cases h : 32 < d <;> simp [h] <;> omega
  cases b
  · simp only [F15.n19, aIg_b, Bool.not_false, Bool.false_eq_true, true_implies, false_implies, and_true, pBin_gtr, gt_iff_lt, e, F15.n18, pPick_b, if_false]
    simpa [-F15.n17] using hK
  · simp [-F15.n17] at hK ⊢; exact hK
theorem F15_4 {x2 x9 x10 : AV} (hs : h.obj vs = some (mkO sh.enc 4 67)) (hK : F15.n13 W QR QN QE QP x0 x2 (I d) x9 x10 (.ptr vs 0) (B (b || (sh.body && decide (d = 32)))) h) : F15.n17 W QR QN QE QP x0 x2 (I d) x9 x10 (.ptr vs 0) (B b) h := by
  have e : ((d : Int) == 32) = decide (d = 32) := by by_cases h : d = 32 <;> simp [h] <;> omega
  cases b
  · cases hb : sh.body
    · simp [-F15.n13, hs, Shape.enc, hb] at hK ⊢; exact hK
    · rw [hb] at hK
      simp only [F15.n17, aIg_b, Bool.not_false, Bool.false_eq_true, true_implies, false_implies, and_true, pFld_ptr, lLd_f, hs, ldk_mk, Nat.zero_add, Shape.enc, List.getElem?_cons_succ, List.getElem?_cons_zero, cellK_some, hb, F15.n16, Bool.not_true, Bool.true_eq_false, pBin_eql, e, F15.n15, F15.n14, pPick_b, if_true, if_false]
      simpa [-F15.n13] using hK
  · simp [-F15.n13] at hK ⊢; exact hK
end
end Go.Proofs.YthkkgbmjjpcfaaaDoor
namespace Go.Proofs.YthkkgbmjjpcfaaaDoor
open Go.Ab
attribute [-simp] eAlloc_d eStore_f
theorem endT_len (b : Bool) : (endT b).length ≤ 3 := by unfold endT; split <;> simp
theorem lineS_le {d : Nat} {r : Row} {acc : List UInt8} (hd : d ≤ 40) (ha : acc.length ≤ 90000000) (hr : rightP r = true) (hb : RowB r) (hI : IdxB r) (h0 : 0 ≤ r.num) (h1 : r.num ≤ 9007199254740991) : (lineS d (shapeP r.kind).1 r acc).length ≤ 90000000 := by
  have := refHead_len hb hI h0 h1
  have := endT_len (shapeP r.kind).1.body
  unfold lineS
  refine putS_le (putS_le (putS_le ha ?_) ?_) (by omega)
  · rw [indT_len]; omega
  · rw [lineJ_head hr]; omega
def WC (n0 : Nat) (h : AH) (w : Nat) (x : AV) (ok : Bool) (acc2 : List UInt8) (Q : AH → Prop) : Prop :=
  ∀ h' acc', Fr h h' (SW n0 h) → Wr n0 h' w x acc' → acc'.length ≤ 90000000 → (ok = true → acc' = acc2) → Q h'
section
variable {W : Nat → Prop} {QR QN : VK} {QE : Nat → VK} {QP : AV → AH → Prop} {h : AH} {n0 w : Nat} {x : AV} {acc : List UInt8} {l : List (Row × AV)} {i j d : Nat}
theorem F15_step (hx : RowsL h x l) (hw : Wr n0 h w x acc) (ht : HasTab 1 h) (ha : acc.length ≤ 90000000) (hB : ∀ y ∈ l, RowB y.1) (hi : i < j) (hj : j ≤ l.length) (hl : l.length ≤ 1000000) (hd : d ≤ 33) (hn : n0 ≤ h.next) (hW : ∀ id, SW n0 h id ∨ h.next ≤ id → W id)
    (rec : ∀ {h : AH} {acc : List UInt8} {M : Nat → Prop} {R : AE → AH → Prop} {i' j' d'}, RowsL h x l → Wr n0 h w x acc → HasTab 1 h → acc.length ≤ 90000000 → i < i' → i' ≤ j' → j' ≤ j → d' ≤ 33 → n0 ≤ h.next → (∀ id, SW n0 h id → M id) →
      WC n0 h w x (okRows d' (sg l i' j')) (writeS d' (sg l i' j') acc) (R (.ret (B (okRows d' (sg l i' j'))))) → ACalls Tryd.prog 15 [.ptr w 0, I i', I j', I d'] h M R)
    (hf : okRows d (sg l i j) = false → ∀ h' acc', Fr h h' (SW n0 h) → Wr n0 h' w x acc' → acc'.length ≤ 90000000 → QR [B false] h')
    (hT : ∀ k : Nat, okRows d (sg l (i + 1 + k) j) = okRows d (sg l i j) → i + 1 + k ≤ j → ∀ h' acc', writeS d (sg l (i + 1 + k) j) acc' = writeS d (sg l i j) acc → acc'.length ≤ 90000000 → Fr h h' (SW n0 h) → Wr n0 h' w x acc' → QN [.ptr w 0, I j, I d, I (i + 1 + k : Nat)] h') :
    F15.n26 W QR QN QE QP (.ptr w 0) (I j) (I d) (I i) h := by
  have hlt : i < l.length := by omega
  have g1 : l[i]? = some l[i] := List.getElem?_eq_getElem hlt
  rw [sg_cons hi hj, okRows_st, sg_len (by omega) hj] at hf hT
  rw [writeS_cons] at hT
  have hb := hB _ (List.getElem_mem hlt)
  have hya := hx.args _ (List.getElem_mem hlt)
  generalize l[i] = y at *
  obtain ⟨p, bv, how, _, _⟩ := hw.ex
  simp only [F15.n26, pNil_ptr, pFld_ptr, lLd_f, how, ldk_mk, Nat.zero_add, List.getElem?_cons_zero, cellK_some]
  refine rng_var hx.tab encRA_len (encRA_one hya) g1 rfl rfl (fun id hid => hW id (.inr hid)) fun vr h1 f1 hvr ov => ?_
  simp only [F15.n25, pFld_ptr, lLd_f, ov, ldk_mk, Nat.zero_add, encRA, List.getElem?_cons_zero, cellK_some]
  refine ⟨fun _ => False, fun _ h => h.elim, shapeOf_ok fun h2 f2 => ?_⟩
  simp only [pExt_tup, cellK_some, List.getElem?_cons_zero, List.getElem?_cons_succ]
  have f12 := f1.tr0 f2
  refine new_var (by rfl) rfl rfl rfl (fun id hid => hW id (.inr (Nat.le_trans f12.next hid))) fun vs h3 f3 hvs os => ?_
  have f13 := f12.tr0 f3
  have ov3 := (f2.tr0 f3).ob0 ov
  unfold F15.n24
  refine var_ld ov3 rfl fun q => ?_
  refine ⟨fun _ => False, fun _ h => h.elim, right_ok (hya.fr0 f13) (by have := hb.name; omega) (fun g hg => by have := hb.args g hg; omega) (by have := hb.len; omega) fun h4 f4 => ?_⟩
  have f14 := f13.tr0 f4
  have ov4 := f4.ob0 ov3
  have os4 := f4.ob0 os
  simp only [pUn_not]
  refine F15_1 ov4 (F15_2 hi (by omega) ov4 (F15_3 (F15_4 os4 ?_)))
  have e : ((((!rightP y.1) || decide (y.1.rows < 0)) || decide (((j - (i + 1) : Nat) : Int) < y.1.rows)) || decide (32 < d) || ((shapeP y.1.kind).1.body && decide (d = 32))) = !okSt d y.1 (j - (i + 1)) := by
    unfold okSt
    rw [shape_body]
    have e1 : decide (y.1.rows < 0) = !decide (0 ≤ y.1.rows) := by by_cases hx : y.1.rows < 0 <;> by_cases hy : 0 ≤ y.1.rows <;> simp [hx, hy] <;> omega
    have e2 : decide (((j - (i + 1) : Nat) : Int) < y.1.rows) = !decide (y.1.rows ≤ ((j - (i + 1) : Nat) : Int)) := by by_cases hx : ((j - (i + 1) : Nat) : Int) < y.1.rows <;> by_cases hy : y.1.rows ≤ ((j - (i + 1) : Nat) : Int) <;> simp only [hx, hy, decide_true, decide_false, Bool.not_true, Bool.not_false] <;> omega
    have e3 : decide (32 < d) = !decide (d ≤ 32) := by by_cases hx : 32 < d <;> by_cases hy : d ≤ 32 <;> simp [hx, hy] <;> omega
    rw [e1, e2, e3]
    simp only [Bool.not_and, Bool.not_or, Bool.not_not]
  rw [e]
  have s14 : Fr h h4 (SW n0 h) := SW.of_fr f14
  cases hst : okSt d y.1 (j - (i + 1)) with
  | false =>
    simp
    exact hf (by rw [hst]; rfl) h4 acc s14 (hw.fr0 f14) ha
  | true =>
    rw [hst, Bool.true_and] at hf hT
    unfold okSt at hst
    simp only [Bool.and_eq_true, decide_eq_true_eq, Bool.not_eq_true', Bool.and_eq_false_iff, decide_eq_false_iff_not] at hst
    obtain ⟨⟨⟨⟨hr, hr0⟩, hrl⟩, hd32⟩, hbd⟩ := hst
    obtain ⟨k, hk⟩ : ∃ k : Nat, y.1.rows = k := ⟨y.1.rows.toNat, by omega⟩
    have hkr : i + 1 + k ≤ j := by omega
    rw [hk, Int.toNat_natCast, sg_take (by omega), sg_drop (by omega)] at hf hT
    have hfit : fitP y.1 = true := by unfold fitP; rw [hr, decide_eq_true hr0]; rfl
    have hn3 := fit_num hfit
    have wi : IntKind.i64.wrap ((i : Int) + 1) = ((i + 1 : Nat) : Int) := by rw [wrap_in (by omega) (by omega)]; simp
    have wk : IntKind.i64.wrap (((i + 1 : Nat) : Int) + k) = ((i + 1 + k : Nat) : Int) := by rw [wrap_in (by omega) (by omega)]; simp
    have wd : IntKind.i64.wrap ((d : Int) + 1) = ((d + 1 : Nat) : Int) := by rw [wrap_in (by omega) (by omega)]; simp
    have toM : ∀ {h'}, Fr h h' (SW n0 h) → ∀ id, SW n0 h' id → W id := fun hf id hs => hW id (SW.back hf hs)
    simp only [Bool.not_true, F15.n13, aIf_b, Bool.false_eq_true, true_implies, false_implies, true_and, F15.n11]
    refine var_ld ov4 rfl fun q2 => ?_
    refine var_ld os4 rfl fun q3 => ?_
    have hjl : (lineJ (shapeP y.1.kind).1 y.1).length ≤ 20000000 := by
      rw [lineJ_head hr]
      have := refHead_len hb hn3.2.2 hn3.1 hn3.2.1
      omega
    refine ⟨SW n0 h4, fun id hs _ => toM s14 id hs, line_ok (hw.fr0 f14) ha (by omega) (Nat.le_trans hn f14.next) (HasTab.fr0 ht f14) (hya.fr0 f14) hb hn3.2.2 hn3.1 hn3.2.1 hjl (fun _ h => h) fun h5 f5 hw5 => ?_⟩
    have hl5 := lineS_le (d := d) (by omega) ha hr hb hn3.2.2 hn3.1 hn3.2.1
    have s15 := SW.trans s14 f5
    have ov5 := f5.obj ov4 (SW.ty ov4 (show (39 : Nat) ≠ 50 by decide) (show (39 : Nat) ≠ 5 by decide))
    have os5 := f5.obj os4 (SW.ty os4 (show (67 : Nat) ≠ 50 by decide) (show (67 : Nat) ≠ 5 by decide))
    simp only [F15.n10, F15.n9, pFld_ptr, lLd_f, ov5, os5, ldk_mk, Nat.zero_add, encRA, Shape.enc, List.getElem?_cons_succ, List.getElem?_cons_zero, cellK_some, hk, pBin_add, wi, wk, shape_body]
    cases hbk : bodyK y.1.kind with
    | false =>
      rw [hbk, if_neg (by decide)] at hT
      have hk0 : k = 0 := by
        have hh := hr
        unfold rightP headOk at hh
        simp only [Bool.and_eq_true] at hh
        have h0 := hh.1.2
        rw [shape_body, hbk] at h0
        simp at h0
        omega
      subst hk0
      rw [show sg l (i + 1) (i + 1 + 0) = [] by unfold sg; rw [seg_nil (by omega)]; rfl, okRows_nil, Bool.true_and] at hT
      simp only [F15.n8, aIf_b, Bool.false_eq_true, true_implies, false_implies, true_and, F15.n2]
      exact hT 0 rfl hkr h5 _ rfl hl5 s15 hw5
    | true =>
      rw [hbk, if_pos rfl] at hT
      have hd31 : d < 32 := by
        rcases hbd with hb' | hb'
        · rw [hbk] at hb'; cases hb'
        · omega
      simp only [F15.n8, aIf_b, Bool.true_eq_false, true_implies, false_implies, and_true, F15.n7, pBin_add, wi, wd]
      refine ⟨SW n0 h5, fun id hs _ => toM s15 id hs, rec (hx.frS s15) hw5 (HasTab.frS ht s15) hl5 (Nat.lt_succ_self i) (by omega) hkr (by omega) (Nat.le_trans hn s15.next) (fun _ h => h) fun h6 acc6 f6 hw6 hl6 he6 => ?_⟩
      have s16 := SW.trans s15 f6
      simp only [pUn_not]
      cases hrec : okRows (d + 1) (sg l (i + 1) (i + 1 + k)) with
      | false =>
        simp
        exact hf (by rw [hrec]; rfl) h6 acc6 s16 hw6 hl6
      | true =>
        rw [hrec, Bool.true_and] at hT
        have he6 := he6 hrec
        simp only [Bool.not_true, F15.n6, aIf_b, Bool.false_eq_true, true_implies, false_implies, true_and, F15.n4]
        refine ⟨SW n0 h6, fun id hs _ => toM s16 id hs, indent_ok hw6 hl6 (by omega) (Nat.le_trans hn s16.next) (fun _ h => h) fun h7 f7 hw7 => ?_⟩
        have s17 := SW.trans s16 f7
        have hl7 := putS_le (s := indT d) hl6 (by rw [indT_len]; omega)
        simp only [F15.n3]
        refine ⟨SW n0 h7, fun id hs _ => toM s17 id hs, put_ok (s := [125, 10]) hw7 (by omega) (by simp) (Nat.le_trans hn s17.next) (fun _ h => h) fun h8 f8 hw8 => ?_⟩
        have s18 := SW.trans s17 f8
        have hl8 := putS_le (s := [125, 10]) hl7 (by simp)
        simp only [F15.n2]
        rw [he6] at hw8 hl8
        exact hT k rfl hkr h8 _ rfl hl8 s18 hw8
theorem write_ok (m : Nat) : ∀ {h : AH} {acc : List UInt8} {M : Nat → Prop} {R : AE → AH → Prop} {i j d : Nat}, j - i < m → RowsL h x l → Wr n0 h w x acc → HasTab 1 h → acc.length ≤ 90000000 → (∀ y ∈ l, RowB y.1) → i ≤ j → j ≤ l.length → l.length ≤ 1000000 → d ≤ 33 → n0 ≤ h.next → (∀ id, SW n0 h id → M id) →
    WC n0 h w x (okRows d (sg l i j)) (writeS d (sg l i j) acc) (R (.ret (B (okRows d (sg l i j))))) → ACalls Tryd.prog 15 [.ptr w 0, I i, I j, I d] h M R := by
  induction m with
  | zero => intro h acc M R i j d hm; omega
  | succ m ih =>
    intro h acc M R i j d hm hx hw ht ha hB hij hj hl hd hn hM hR
    apply F15.callsN
    unfold F15.n31 F15.n30 F15.n29
    refine vLoop_of (ι := Nat × List UInt8) (fun z vs h' => vs = [.ptr w 0, I j, I d, I z.1] ∧ i ≤ z.1 ∧ z.1 ≤ j ∧ Fr h h' (SW n0 h) ∧ Wr n0 h' w x z.2 ∧ z.2.length ≤ 90000000 ∧ okRows d (sg l z.1 j) = okRows d (sg l i j) ∧ writeS d (sg l z.1 j) z.2 = writeS d (sg l i j) acc) (fun z => j - z.1) (i, acc) ?_ ?_
    · exact ⟨rfl, Nat.le_refl _, hij, Fr.refl, hw, ha, rfl, rfl⟩
    rintro K ⟨i', acc'⟩ vs h' ⟨rfl, hi1, hi2, hf, hw', ha', he, hs⟩ hK
    simp only at hi1 hi2 hw' ha' he hs hK
    simp only [F15.g1_, List.getD_cons_zero, List.getD_cons_succ]
    have hn' := Nat.le_trans hn hf.next
    by_cases hlt : i' < j
    · have hli : (i' : Int) < j := by omega
      simp only [F15.n28, F15.n27, pBin_lss, decide_eq_true hli, aIf_b, true_implies, Bool.true_eq_false, false_implies, and_true]
      refine F15_step (hx.frS hf) hw' (HasTab.frS ht hf) ha' hB hlt hj hl hd hn' ?_ ?_ ?_ ?_
      · rintro id (hid | hid)
        · exact (SW.back hf hid).imp (hM id) fun h => h
        · exact .inr (Nat.le_trans hf.next hid)
      · intro h2 acc2 M2 R2 i2 j2 d2 a1 a2 a3 a4 a5 a6 a7 a8 a9 a10 a11
        exact ih (by omega) a1 a2 a3 a4 hB a6 (by omega) hl a8 a9 a10 a11
      · intro h1 h2 acc2 f2 hw2 hl2
        have := hR h2 acc2 (SW.trans hf f2) hw2 hl2 (fun ho => by rw [← he, h1] at ho; cases ho)
        rw [← he, h1] at this
        simpa using this
      · intro k hk1 hk2 h2 acc2 hs2 hl2 f2 hw2
        exact hK (i' + 1 + k, acc2) _ _ (by simp only; omega) ⟨rfl, by simp only; omega, hk2, SW.trans hf f2, hw2, hl2, by rw [hk1, he], by rw [hs2, hs]⟩
    · have hnl : ¬ (i' : Int) < j := by omega
      have e0 : sg l i' j = [] := by unfold sg; rw [seg_nil (by omega)]; rfl
      rw [e0, okRows_nil] at he
      rw [e0, writeS_nil] at hs
      have := hR h' acc' hf hw' ha' (fun _ => hs)
      rw [← he] at this
      simpa [hnl] using this
end
end Go.Proofs.YthkkgbmjjpcfaaaDoor
namespace Go.Proofs.YthkkgbmjjpcfaaaDoor
open Go.Ab
attribute [-simp] eAlloc_d eStore_f
def Trk (acc T : List UInt8) : Prop := (T.length ≤ 65536 → acc = T) ∧ (65536 < T.length → 65536 < acc.length)
theorem Trk.put {acc T s : List UInt8} (h : Trk acc T) : Trk (putS acc s) (T ++ s) := by
  unfold Trk putS at *
  simp only [List.length_append]
  by_cases hT : T.length ≤ 65536
  · have e := h.1 hT
    subst e
    rw [if_pos hT]
    exact ⟨fun _ => rfl, fun h => by simpa using h⟩
  · have := h.2 (by omega)
    rw [if_neg (by omega)]
    exact ⟨fun h => by omega, fun _ => this⟩
theorem indT_succ (d : Nat) : indT (d + 1) = indT d ++ [32, 32] := by
  unfold indT
  induction d with
  | zero => rfl
  | succ d ih =>
    show [32, 32] ++ Lib.repeatL [32, 32] (d + 1) = ([32, 32] ++ Lib.repeatL [32, 32] d) ++ [32, 32]
    rw [ih, List.append_assoc]
theorem writeS_trk (n : Nat) : ∀ {d : Nat} {rows : List Row} {acc T : List UInt8}, rows.length < n → okRows d rows = true → Trk acc T → Trk (writeS d rows acc) (T ++ textP (indT d) rows) := by
  induction n with
  | zero => intro d rows acc T h; omega
  | succ n ih =>
    intro d rows acc T hn hok ht
    cases rows with
    | nil => rw [writeS_nil, textP_nil, List.append_nil]; exact ht
    | cons r rest =>
      obtain ⟨_, hfit, _, _, hin, _, hrest⟩ := ok_cons hok
      have hr : rightP r = true := by unfold fitP at hfit; simp only [Bool.and_eq_true] at hfit; exact hfit.1
      rw [writeS_cons, textP_cons]
      have hl : Trk (lineS d (shapeP r.kind).1 r acc) (T ++ indT d ++ refHead r ++ endT (bodyK r.kind)) := by
        unfold lineS
        rw [lineJ_head hr, shape_body]
        exact ((ht.put).put).put
      simp only [List.length_cons] at hn
      have hlt : (rest.take r.rows.toNat).length < n := by rw [List.length_take]; omega
      have hld : (rest.drop r.rows.toNat).length < n := by rw [List.length_drop]; omega
      cases hbk : bodyK r.kind with
      | false =>
        rw [hbk] at hl
        rw [if_neg (by decide), if_neg (by decide)]
        have := ih hld hrest hl
        simpa only [endT, if_neg Bool.false_ne_true, List.append_assoc] using this
      | true =>
        rw [hbk] at hl
        rw [if_pos rfl, if_pos rfl]
        have h1 := ih hlt hin hl
        have h2 := ih hld hrest ((h1.put (s := indT d)).put (s := [125, 10]))
        rw [indT_succ] at h2
        simpa only [endT, if_pos, List.append_assoc] using h2
def showI (rows : List Row) : List AV :=
  if okRows 0 rows then (if (writeS 0 rows []).length ≤ 65536 then [S (writeS 0 rows []), I 0] else [S [], I 1]) else [S [], I 100]
theorem showI_showP (rows : List Row) : showI rows = showP rows := by
  unfold showI showP
  cases hok : okRows 0 rows with
  | false => rfl
  | true =>
    have ht : Trk (writeS 0 rows []) (textP [] rows) := writeS_trk (rows.length + 1) (T := []) (by omega) hok ⟨fun _ => rfl, fun h => h⟩
    rw [if_pos rfl, if_pos rfl]
    by_cases hl : (textP [] rows).length ≤ 65536
    · rw [ht.1 hl]
    · have := ht.2 (by omega)
      rw [if_neg hl, if_neg (by omega)]
section
variable {h : AH} {M : Nat → Prop} {R : AE → AH → Prop} {x : AV} {l : List (Row × AV)}
theorem show_ok (hx : RowsL h x l) (ht : HasTab 1 h) (hB : ∀ y ∈ l, RowB y.1) (hl : l.length ≤ 1000000)
    (hR : ∀ h', Fr h h' (fun _ => False) → R (.ret (.tup (showP (l.map (·.1))))) h') : ACalls Tryd.prog 9 [x] h M R := by
  rw [← showI_showP] at hR
  apply F9.callsN
  unfold F9.n9 F9.n8
  have hone := hx.tab.one
  have hb : pBld (some ([.slice none 0 0, .pointer none, .slice none 0 0], .inl [(0, 1), (1, 2)])) [(0, x)] (fun t14 => eBox 3 50 t14 h fun t15 h16 => F9.n7 (fun id => M id ∨ h.next ≤ id) (retV Tryd.prog [.tmp 2, .tmp 3] R) (retV Tryd.prog [.tmp 2, .tmp 3] R) (fun _ _ _ => False) (fun v h => R (.pan v) h) x t15 h16) = eBox 3 50 (.agg [x, .sc (.pointer none), nilS]) h fun t15 h16 => F9.n7 (fun id => M id ∨ h.next ≤ id) (retV Tryd.prog [.tmp 2, .tmp 3] R) (retV Tryd.prog [.tmp 2, .tmp 3] R) (fun _ _ _ => False) (fun v h => R (.pan v) h) x t15 h16 := by
    simp [hone.2]
  rw [hb]
  refine box_var (by show (oneA x && (true && (true && true))) = true; rw [hone.1]; rfl) fun w h1 f1 hw1 ow => ?_
  have hw : Wr h.next h1 w x [] := ⟨hw1, _, _, ow, .inl rfl, .inl ⟨rfl, rfl⟩⟩
  simp only [F9.n7, hx.tab.len.1, hx.tab.len.2, true_and]
  refine ⟨SW h.next h1, fun id hs _ => .inr hs.1, write_ok (i := 0) (d := 0) (l.length + 1) (by omega) (hx.fr0 f1) hw (HasTab.fr0 ht f1) (by simp) hB (by omega) (Nat.le_refl _) hl (by omega) f1.next (fun _ h => h) fun h2 acc2 f2 hw2 hl2 he2 => ?_⟩
  rw [sg_all] at he2 ⊢
  have f12 : Fr h h2 (fun _ => False) := f1.trans (f2.mono fun id hs => .inr hs.1)
  unfold showI at hR
  simp only [pUn_not]
  cases hok : okRows 0 (l.map (·.1)) with
  | false =>
    rw [hok, if_neg (by decide)] at hR
    simpa using hR h2 f12
  | true =>
    rw [hok, if_pos rfl] at hR
    rw [← he2 hok] at hR
    simp only [Bool.not_true, F9.n6, aIf_b, Bool.false_eq_true, true_implies, false_implies, true_and, F9.n4, pNil_ptr, pFld_ptr, Nat.zero_add]
    refine ⟨fun _ => False, fun _ h => h.elim, len_ok hw2 ?_⟩
    by_cases hs : acc2.length ≤ 65536
    · rw [if_pos hs] at hR
      have hli : ¬ (65536 : Int) < (acc2.length : Int) := by omega
      simp only [pBin_gtr, gt_iff_lt, decide_eq_false hli, F9.n3, aIf_b, Bool.false_eq_true, true_implies, false_implies, true_and, F9.n1, pNil_ptr, pFld_ptr, Nat.zero_add]
      refine ⟨SW h.next h2, fun id hs _ => .inr hs.1, bstr_ok hw2 (fun _ h => h) fun h3 f3 => ?_⟩
      exact hR h3 (f12.trans (f3.mono fun id hs => .inr hs.1))
    · rw [if_neg hs] at hR
      have hli : (65536 : Int) < (acc2.length : Int) := by omega
      simp only [pBin_gtr, gt_iff_lt, decide_eq_true hli, F9.n3, aIf_b, Bool.true_eq_false, true_implies, false_implies, and_true, F9.n2]
      exact hR h2 f12
end
end Go.Proofs.YthkkgbmjjpcfaaaDoor
namespace Go.Proofs.YthkkgbmjjpcfaaaDoor
open Go.Ab
attribute [-simp] eAlloc_d eStore_f
def argsW (l : List Arg) : Nat := (l.map fun g => g.name.size + 8).sum
def rowW (r : Row) : Nat := r.kind.size + r.name.size + 8 + argsW r.args
def rowsW (l : List Row) : Nat := (l.map rowW).sum
theorem argsW_app (a b : List Arg) : argsW (a ++ b) = argsW a + argsW b := by simp [argsW]
theorem rowsW_app (a b : List Row) : rowsW (a ++ b) = rowsW a + rowsW b := by simp [rowsW]
theorem argsW_len : ∀ l : List Arg, 8 * l.length ≤ argsW l
  | [] => by simp
  | a :: l => by have := argsW_len l; simp [argsW] at this ⊢; omega
theorem rowsW_len : ∀ l : List Row, 8 * l.length ≤ rowsW l
  | [] => by simp
  | a :: l => by have := rowsW_len l; simp [rowsW, rowW] at this ⊢; omega
section
variable {W : Nat → Prop} {QR QN : VK} {QE : Nat → VK} {QP : AV → AH → Prop} {h : AH} {x : AV}
theorem F6_args {l : List Arg} {a x8 x9 x10 : AV} {s : Nat} (ha : SlR Arg.enc 2 41 h a l) (hs : s + argsW l ≤ 1000000000) (hW : ∀ id, h.next ≤ id → W id)
    (hK : ∀ h', Fr h h' (fun _ => False) → F6.n5 W QR QN QE QP (I (s + argsW l : Nat)) x8 x9 x10 h') : F6.n11 W QR QN QE QP (I s) x8 x9 x10 a (I l.length) (I 0) h := by
  have hll := argsW_len l
  unfold F6.n11
  refine vLoop_of (ι := Nat) (fun i v h' => v = [I (s + argsW (l.take i) : Nat), x8, x9, x10, a, I l.length, I i] ∧ i ≤ l.length ∧ Fr h h' (fun _ => False)) (fun i => l.length - i) 0 ?_ ?_
  · exact ⟨by simp [argsW], by omega, Fr.refl⟩
  rintro K i v h' ⟨rfl, hi, hf⟩ hK2
  simp only [F6.g2_, List.getD_cons_zero, List.getD_cons_succ]
  by_cases hlt : i < l.length
  · have hli : (i : Int) < l.length := by omega
    have g1 : l[i]? = some l[i] := List.getElem?_eq_getElem hlt
    have ht : argsW (l.take (i + 1)) = argsW (l.take i) + (l[i].name.size + 8) := by
      rw [List.take_succ_eq_append_getElem hlt, argsW_app]; simp [argsW]
    have hle : argsW (l.take (i + 1)) ≤ argsW l := by
      have := congrArg argsW (List.take_append_drop (i + 1) l)
      rw [argsW_app] at this; omega
    generalize l[i] = g at *
    simp only [F6.n10, pBin_lss, decide_eq_true hli, F6.n9, aIf_b, true_implies, Bool.true_eq_false, false_implies, and_true, F6.n8]
    refine rng_var (ha.fr0 hf) Arg.enc_len (Arg.enc_one _) g1 rfl rfl (fun id hid => hW id (Nat.le_trans hf.next hid)) fun vn h1 f1 hvn ov => ?_
    have w1 : IntKind.i64.wrap ((g.name.size : Int) + 8) = ((g.name.size + 8 : Nat) : Int) := by rw [wrap_in (by omega) (by omega)]; simp
    have w2 : IntKind.i64.wrap (((s + argsW (l.take i) : Nat) : Int) + ((g.name.size + 8 : Nat) : Int)) = ((s + argsW (l.take (i + 1)) : Nat) : Int) := by rw [wrap_in (by omega) (by omega)]; omega
    have w3 : IntKind.i64.wrap ((i : Int) + 1) = ((i + 1 : Nat) : Int) := by rw [wrap_in (by omega) (by omega)]; simp
    simp only [F6.n7, F6.n6, pFld_ptr, lLd_f, ov, ldk_mk, Nat.zero_add, Arg.enc, List.getElem?_cons_succ, List.getElem?_cons_zero, cellK_some, strArg_s, pLen_s, true_and, pBin_add, w1, w2, w3]
    exact hK2 (i + 1) _ _ (by omega) ⟨rfl, by omega, hf.tr0 f1⟩
  · have hnl : ¬ (i : Int) < l.length := by omega
    rw [List.take_of_length_le (by omega)]
    simp only [F6.n10, pBin_lss, decide_eq_false hnl, F6.n9, aIf_b, true_implies, Bool.false_eq_true, false_implies, true_and, if_true, List.getD_cons_zero, List.getD_cons_succ]
    exact hK h' hf
theorem great_ok {l : List (Row × AV)} {M : Nat → Prop} {R : AE → AH → Prop} (hx : RowsL h x l) (hs : rowsW (l.map (·.1)) ≤ 500000000)
    (hR : ∀ h', Fr h h' (fun _ => False) → R (.ret (B (decide (16384 < rowsW (l.map (·.1)))))) h') : ACalls Tryd.prog 6 [x] h M R := by
  have hll := rowsW_len (l.map (·.1))
  rw [List.length_map] at hll
  apply F6.callsN
  simp only [F6.n20, F6.n19, F6.n18, hx.tab.len.1, hx.tab.len.2, true_and]
  unfold F6.n17
  refine vLoop_of (ι := Nat) (fun i v h' => v = [I (rowsW ((l.take i).map (·.1)) : Nat), x, I l.length, I i] ∧ i ≤ l.length ∧ Fr h h' (fun _ => False) ∧ rowsW ((l.take i).map (·.1)) ≤ 16384) (fun i => l.length - i) 0 ?_ ?_
  · exact ⟨by simp [rowsW], by omega, Fr.refl, by simp [rowsW]⟩
  rintro K i v h' ⟨rfl, hi, hf, hw⟩ hK2
  simp only [F6.g1_, List.getD_cons_zero, List.getD_cons_succ]
  by_cases hlt : i < l.length
  · have hli : (i : Int) < l.length := by omega
    have g1 : l[i]? = some l[i] := List.getElem?_eq_getElem hlt
    have ht : rowsW ((l.take (i + 1)).map (·.1)) = rowsW ((l.take i).map (·.1)) + rowW l[i].1 := by
      rw [List.take_succ_eq_append_getElem hlt, List.map_append, rowsW_app]; simp [rowsW]
    have hle : rowsW ((l.take (i + 1)).map (·.1)) ≤ rowsW (l.map (·.1)) := by
      have := congrArg rowsW (congrArg (List.map (·.1)) (List.take_append_drop (i + 1) l))
      rw [List.map_append, rowsW_app] at this; omega
    have hya := hx.args _ (List.getElem_mem hlt)
    generalize l[i] = y at *
    simp only [F6.n16, pBin_lss, decide_eq_true hli, F6.n15, aIf_b, true_implies, Bool.true_eq_false, false_implies, and_true, F6.n14]
    refine rng_var (hx.tab.fr0 hf) encRA_len (encRA_one hya) g1 rfl rfl (fun id hid => .inr (Nat.le_trans hf.next hid)) fun vn h1 f1 hvn ov => ?_
    have hr : rowW y.1 = y.1.kind.size + y.1.name.size + 8 + argsW y.1.args := rfl
    have w1 : IntKind.i64.wrap ((y.1.kind.size : Int) + y.1.name.size) = ((y.1.kind.size + y.1.name.size : Nat) : Int) := by rw [wrap_in (by omega) (by omega)]; simp
    have w2 : IntKind.i64.wrap (((y.1.kind.size + y.1.name.size : Nat) : Int) + 8) = ((y.1.kind.size + y.1.name.size + 8 : Nat) : Int) := by rw [wrap_in (by omega) (by omega)]; simp
    have w3 : IntKind.i64.wrap (((rowsW ((l.take i).map (·.1)) : Nat) : Int) + ((y.1.kind.size + y.1.name.size + 8 : Nat) : Int)) = ((rowsW ((l.take i).map (·.1)) + (y.1.kind.size + y.1.name.size + 8) : Nat) : Int) := by rw [wrap_in (by omega) (by omega)]; simp
    have w4 : IntKind.i64.wrap ((i : Int) + 1) = ((i + 1 : Nat) : Int) := by rw [wrap_in (by omega) (by omega)]; simp
    have hya1 := hya.fr0 (hf.tr0 f1)
    simp only [F6.n13, F6.n12, pFld_ptr, lLd_f, ov, ldk_mk, Nat.zero_add, encRA, List.getElem?_cons_succ, List.getElem?_cons_zero, cellK_some, strArg_s, pLen_s, true_and, pBin_add, w1, w2, w3, hya1.len.1, hya1.len.2]
    refine F6_args hya1 (by omega) (fun id hid => .inr (Nat.le_trans (hf.tr0 f1).next hid)) fun h2 f2 => ?_
    have f02 := (hf.tr0 f1).tr0 f2
    have e : rowsW ((l.take i).map (·.1)) + (y.1.kind.size + y.1.name.size + 8) + argsW y.1.args = rowsW ((l.take (i + 1)).map (·.1)) := by omega
    rw [e]
    by_cases hg : 16384 < rowsW ((l.take (i + 1)).map (·.1))
    · have hgi : (16384 : Int) < ((rowsW ((l.take (i + 1)).map (·.1)) : Nat) : Int) := by omega
      have hgt : 16384 < rowsW (l.map (·.1)) := by omega
      have := hR h2 f02
      rw [decide_eq_true hgt] at this
      simp only [F6.n5, pBin_gtr, gt_iff_lt, decide_eq_true hgi, F6.n4, aIf_b, true_implies, Bool.true_eq_false, false_implies, and_true, F6.n3]
      exact this
    · have hgi : ¬ (16384 : Int) < ((rowsW ((l.take (i + 1)).map (·.1)) : Nat) : Int) := by omega
      simp only [F6.n5, pBin_gtr, gt_iff_lt, decide_eq_false hgi, F6.n4, aIf_b, true_implies, Bool.false_eq_true, false_implies, true_and, F6.n2, pBin_add, w4]
      exact hK2 (i + 1) _ _ (by omega) ⟨rfl, by omega, f02, by omega⟩
  · have hnl : ¬ (i : Int) < l.length := by omega
    rw [List.take_of_length_le (by omega)] at hw
    have := hR h' hf
    rw [decide_eq_false (by omega)] at this
    simp only [F6.n16, pBin_lss, decide_eq_false hnl, F6.n15, aIf_b, true_implies, Bool.false_eq_true, false_implies, true_and, if_true, F6.n1]
    exact this
end
end Go.Proofs.YthkkgbmjjpcfaaaDoor
namespace Go.Ab
end Go.Ab
namespace Go.Proofs.YthkkgbmjjpcfaaaDoor
open Go.Ab
attribute [-simp] eAlloc_d eStore_f
def spareA : List AV := [S [115, 112, 97, 114, 101], I 77]
def spareR : List AV := [S [115, 112, 97, 114, 101], .sc (.string ⟨#[]⟩), nilS, I 0, I 0, I 0]
def KeptA (h : AH) (y : Row × AV) : Prop := ∃ ida, y.2 = .sl ida 0 y.1.args.length ∧ h.obj ida = some (mkO (y.1.args.flatMap Arg.enc ++ spareA) 2 41)
structure KeptL (h : AH) (x : AV) (l : List (Row × AV)) : Prop where
  tab : ∃ id, x = .sl id 0 l.length ∧ h.obj id = some (mkO (l.flatMap encRA ++ spareR) 6 39)
  args : ∀ y ∈ l, KeptA h y
theorem KeptA.fr {h h' : AH} {S : Nat → Prop} {y : Row × AV} (a : KeptA h y) (hf : Fr h h' S) (hs : ∀ id o, h.obj id = some o → o.ty = 41 → ¬ S id) : KeptA h' y := by
  obtain ⟨ida, h1, h2⟩ := a
  exact ⟨ida, h1, hf.obj h2 (hs _ _ h2 rfl)⟩
theorem KeptA.to {h : AH} {y : Row × AV} (a : KeptA h y) : SlR Arg.enc 2 41 h y.2 y.1.args := by
  obtain ⟨ida, h1, h2⟩ := a
  exact .inr (.inr ⟨ida, spareA, false, 41, h1, fun _ => rfl, h2⟩)
theorem KeptL.to {h : AH} {x : AV} {l : List (Row × AV)} (a : KeptL h x l) : RowsL h x l := by
  obtain ⟨id, h1, h2⟩ := a.tab
  exact ⟨.inr (.inr ⟨id, spareR, false, 39, h1, fun _ => rfl, h2⟩), fun y hy => (a.args y hy).to⟩
theorem KeptL.fr0 {h h' : AH} {x : AV} {l : List (Row × AV)} (a : KeptL h x l) (hf : Fr h h' fun _ => False) : KeptL h' x l := by
  obtain ⟨id, h1, h2⟩ := a.tab
  exact ⟨⟨id, h1, hf.ob0 h2⟩, fun y hy => (a.args y hy).fr hf fun _ _ _ _ h => h⟩
end Go.Proofs.YthkkgbmjjpcfaaaDoor
namespace Go.Ab
end Go.Ab
namespace Go.Proofs.YthkkgbmjjpcfaaaDoor
open Go.Ab
attribute [-simp] eAlloc_d eStore_f
def argEq (a b : Arg) : Bool := decide (a.name = b.name) && (a.index == b.index)
def eqArgs : List Arg → List Arg → Bool
  | a :: A, b :: B => argEq a b && eqArgs A B
  | _, _ => true
def headEq (pl : Bool) (a b : Row) : Bool := decide (a.kind = b.kind) && decide (a.name = b.name) && decide (a.num = b.num) && decide (a.rows = b.rows) && (!pl || decide (a.place = b.place)) && decide (a.args.length = b.args.length)
def rowEq (pl : Bool) (a b : Row) : Bool := headEq pl a b && eqArgs a.args b.args
def eqRows (pl : Bool) : List Row → List Row → Bool
  | a :: A, b :: B => rowEq pl a b && eqRows pl A B
  | _, _ => true
def sameL (pl : Bool) (A B : List Row) : Bool := decide (A.length = B.length) && eqRows pl A B
theorem argEq_self (a : Arg) : argEq a a = true := by simp [argEq]
theorem eqArgs_self : ∀ A : List Arg, eqArgs A A = true
  | [] => rfl
  | a :: A => by simp [eqArgs, argEq_self, eqArgs_self A]
theorem flat41 : flatEq Tryd.prog 41 = some [true, false] := by kernel_rfl
theorem pBin_argEq {c : Bool} {a b : Arg} {K : AV → Prop} : pBin Tryd.prog .neq 41 c (.agg a.enc) (.agg b.enc) K = K (B (!argEq a b)) := by
  have h : aggCmp Tryd.prog 41 a.enc b.enc = some (argEq a b) := by
    unfold aggCmp
    rw [flat41]
    simp [aggEq, Arg.enc, argEq]
  show ((aggCmp Tryd.prog 41 a.enc b.enc).isSome = true ∧ K (.b (!(aggCmp Tryd.prog 41 a.enc b.enc).getD false))) = _
  rw [h]
  simp
theorem nat_bne (x y : Nat) : ((x : Int) != (y : Int)) = !decide (x = y) := by by_cases h : x = y <;> simp [h]; omega
section
variable {W : Nat → Prop} {QR QN : VK} {QE : Nat → VK} {QP : AV → AH → Prop} {h : AH} {x1 x17 x18 x19 : AV} {v8 v9 : Nat} {r s : Row × AV} {pl b : Bool}
theorem F12_1 (h8 : h.obj v8 = some (mkO (encRA r) 6 39)) (h9 : h.obj v9 = some (mkO (encRA s) 6 39))
    (hK : F12.n25 W QR QN QE QP x1 (B pl) (.ptr v8 0) (.ptr v9 0) x17 x18 x19 (B (!decide (r.1.kind = s.1.kind))) h) : F12.n26 W QR QN QE QP x1 (B pl) (.ptr v8 0) (.ptr v9 0) x17 x18 x19 h := by
  simp [-F12.n25, h8, h9, encRA]; exact hK
theorem F12_2 (h8 : h.obj v8 = some (mkO (encRA r) 6 39)) (h9 : h.obj v9 = some (mkO (encRA s) 6 39))
    (hK : F12.n23 W QR QN QE QP x1 (B pl) (.ptr v8 0) (.ptr v9 0) x17 x18 x19 (B (b || !decide (r.1.name = s.1.name))) h) : F12.n25 W QR QN QE QP x1 (B pl) (.ptr v8 0) (.ptr v9 0) x17 x18 x19 (B b) h := by
  cases b <;> simp [-F12.n23, h8, h9, encRA] at hK ⊢ <;> exact hK
theorem F12_3 (h8 : h.obj v8 = some (mkO (encRA r) 6 39)) (h9 : h.obj v9 = some (mkO (encRA s) 6 39))
    (hK : F12.n21 W QR QN QE QP x1 (B pl) (.ptr v8 0) (.ptr v9 0) x17 x18 x19 (B (b || !decide (r.1.num = s.1.num))) h) : F12.n23 W QR QN QE QP x1 (B pl) (.ptr v8 0) (.ptr v9 0) x17 x18 x19 (B b) h := by
  cases b <;> simp [-F12.n21, h8, h9, encRA, int_bne] at hK ⊢ <;> exact hK
theorem F12_4 (h8 : h.obj v8 = some (mkO (encRA r) 6 39)) (h9 : h.obj v9 = some (mkO (encRA s) 6 39))
    (hK : F12.n19 W QR QN QE QP x1 (B pl) (.ptr v8 0) (.ptr v9 0) x17 x18 x19 (B (b || !decide (r.1.rows = s.1.rows))) h) : F12.n21 W QR QN QE QP x1 (B pl) (.ptr v8 0) (.ptr v9 0) x17 x18 x19 (B b) h := by
  cases b <;> simp [-F12.n19, h8, h9, encRA, int_bne] at hK ⊢ <;> exact hK
theorem F12_5 (h8 : h.obj v8 = some (mkO (encRA r) 6 39)) (h9 : h.obj v9 = some (mkO (encRA s) 6 39))
    (hK : F12.n15 W QR QN QE QP x1 (B pl) (.ptr v8 0) (.ptr v9 0) x17 x18 x19 (B (b || (pl && !decide (r.1.place = s.1.place)))) h) : F12.n19 W QR QN QE QP x1 (B pl) (.ptr v8 0) (.ptr v9 0) x17 x18 x19 (B b) h := by
  cases b <;> cases pl <;> simp [-F12.n15, h8, h9, encRA, int_bne] at hK ⊢ <;> exact hK
theorem F12_6 (h8 : h.obj v8 = some (mkO (encRA r) 6 39)) (h9 : h.obj v9 = some (mkO (encRA s) 6 39)) (ha : SlR Arg.enc 2 41 h r.2 r.1.args) (hb : SlR Arg.enc 2 41 h s.2 s.1.args)
    (hK : F12.n13 W QR QN QE QP x1 (B pl) (.ptr v8 0) (.ptr v9 0) x17 x18 x19 (B (b || !decide (r.1.args.length = s.1.args.length))) h) : F12.n15 W QR QN QE QP x1 (B pl) (.ptr v8 0) (.ptr v9 0) x17 x18 x19 (B b) h := by
  cases b
  · simp only [F12.n15, aIg_b, Bool.not_false, Bool.false_eq_true, true_implies, false_implies, and_true, pFld_ptr, lLd_f, h8, h9, ldk_mk, Nat.zero_add, encRA, List.getElem?_cons_succ, List.getElem?_cons_zero, cellK_some, ha.len.1, ha.len.2, hb.len.1, hb.len.2, true_and, pBin_neq, nat_bne, F12.n14, pPick_b, if_false]
    simpa [-F12.n13] using hK
  · simp [-F12.n13] at hK ⊢; exact hK
theorem F12_args (hW : ∀ id, h.next ≤ id → W id) (h8 : h.obj v8 = some (mkO (encRA r) 6 39)) (h9 : h.obj v9 = some (mkO (encRA s) 6 39)) (ha : SlR Arg.enc 2 41 h r.2 r.1.args) (hb : SlR Arg.enc 2 41 h s.2 s.1.args)
    (hlen : r.1.args.length = s.1.args.length) (hbig : r.1.args.length ≤ 1000000000)
    (hF : eqArgs r.1.args s.1.args = false → ∀ h', Fr h h' (fun _ => False) → QR [B false] h')
    (hT : eqArgs r.1.args s.1.args = true → ∀ h', Fr h h' (fun _ => False) → F12.n2 W QR QN QE QP x1 (B pl) x17 x18 x19 h') :
    F12.n11 W QR QN QE QP x1 (B pl) (.ptr v8 0) (.ptr v9 0) x17 x18 x19 h := by
  simp only [F12.n11, pFld_ptr, lLd_f, h8, ldk_mk, Nat.zero_add, encRA, List.getElem?_cons_succ, List.getElem?_cons_zero, cellK_some, ha.len.1, ha.len.2, true_and]
  unfold F12.n10
  refine vLoop_of (ι := Nat) (fun j v h' => v = [x1, B pl, .ptr v9 0, x17, x18, x19, r.2, I r.1.args.length, I j] ∧ j ≤ r.1.args.length ∧ Fr h h' (fun _ => False) ∧ eqArgs (r.1.args.drop j) (s.1.args.drop j) = eqArgs r.1.args s.1.args) (fun j => r.1.args.length - j) 0 ?_ ?_
  · exact ⟨rfl, by omega, Fr.refl, rfl⟩
  rintro K j v h' ⟨rfl, hj, hf, he⟩ hK
  simp only [F12.g2_, List.getD_cons_zero, List.getD_cons_succ]
  by_cases hlt : j < r.1.args.length
  · have hli : (j : Int) < r.1.args.length := by omega
    have hlt2 : j < s.1.args.length := by omega
    have g1 : r.1.args[j]? = some r.1.args[j] := List.getElem?_eq_getElem hlt
    have g2 : s.1.args[j]? = some s.1.args[j] := List.getElem?_eq_getElem hlt2
    rw [List.drop_eq_getElem_cons hlt, List.drop_eq_getElem_cons hlt2] at he
    simp only [eqArgs] at he
    generalize r.1.args[j] = ra at *
    generalize s.1.args[j] = sa at *
    have hw : IntKind.i64.wrap ((j : Int) + 1) = ((j + 1 : Nat) : Int) := by rw [wrap_in (by omega) (by omega)]; simp
    simp only [F12.n9, pBin_lss, decide_eq_true hli, F12.n8, aIf_b, true_implies, Bool.true_eq_false, false_implies, and_true, F12.n7]
    refine rng_var (ha.fr0 hf) Arg.enc_len (Arg.enc_one _) g1 rfl rfl (fun id hid => hW id (Nat.le_trans hf.next hid)) fun vn h2 f2 hvn ov => ?_
    have f02 := hf.tr0 f2
    unfold F12.n6
    refine var_ld ov rfl fun q => ?_
    simp only [pFld_ptr, lLd_f, f02.ob0 h9, ldk_mk, Nat.zero_add, encRA, List.getElem?_cons_succ, List.getElem?_cons_zero, cellK_some]
    refine rng_at (hb.fr0 f02) Arg.enc_len g2 fun q2 => ?_
    rw [pBin_argEq]
    cases hae : argEq ra sa with
    | false =>
      rw [hae, Bool.false_and] at he
      simp
      exact hF he.symm h2 f02
    | true =>
      rw [hae, Bool.true_and] at he
      simp only [Bool.not_true, F12.n5, aIf_b, Bool.false_eq_true, false_implies, true_implies, true_and, F12.n3, pBin_add, hw]
      exact hK (j + 1) _ _ (by omega) ⟨rfl, by omega, f02, he⟩
  · have hnl : ¬ (j : Int) < r.1.args.length := by omega
    rw [List.drop_eq_nil_of_le (by omega)] at he
    simp only [F12.n9, pBin_lss, decide_eq_false hnl, F12.n8, aIf_b, Bool.false_eq_true, false_implies, true_implies, true_and, if_true, List.getD_cons_zero, List.getD_cons_succ]
    exact hT he.symm h' hf
theorem F12_row (hW : ∀ id, h.next ≤ id → W id) (h8 : h.obj v8 = some (mkO (encRA r) 6 39)) (h9 : h.obj v9 = some (mkO (encRA s) 6 39)) (ha : SlR Arg.enc 2 41 h r.2 r.1.args) (hb : SlR Arg.enc 2 41 h s.2 s.1.args) (hbig : r.1.args.length ≤ 1000000000)
    (hF : rowEq pl r.1 s.1 = false → ∀ h', Fr h h' (fun _ => False) → QR [B false] h')
    (hT : rowEq pl r.1 s.1 = true → ∀ h', Fr h h' (fun _ => False) → F12.n2 W QR QN QE QP x1 (B pl) x17 x18 x19 h') :
    F12.n26 W QR QN QE QP x1 (B pl) (.ptr v8 0) (.ptr v9 0) x17 x18 x19 h := by
  refine F12_1 h8 h9 (F12_2 h8 h9 (F12_3 h8 h9 (F12_4 h8 h9 (F12_5 h8 h9 (F12_6 h8 h9 ha hb ?_)))))
  have e : ((((((!decide (r.1.kind = s.1.kind)) || !decide (r.1.name = s.1.name)) || !decide (r.1.num = s.1.num)) || !decide (r.1.rows = s.1.rows)) || (pl && !decide (r.1.place = s.1.place))) || !decide (r.1.args.length = s.1.args.length)) = !headEq pl r.1 s.1 := by
    unfold headEq
    simp only [Bool.not_and, Bool.not_or, Bool.not_not]
  rw [e]
  unfold rowEq at hF hT
  cases hh : headEq pl r.1 s.1 with
  | false =>
    rw [hh] at hF
    simp
    exact hF rfl h Fr.refl
  | true =>
    rw [hh, Bool.true_and] at hF hT
    have hlen : r.1.args.length = s.1.args.length := by
      unfold headEq at hh
      simp only [Bool.and_eq_true, decide_eq_true_eq] at hh
      exact hh.2
    simp only [Bool.not_true, F12.n13, aIf_b, Bool.false_eq_true, false_implies, true_implies, true_and]
    exact F12_args hW h8 h9 ha hb hlen hbig hF hT
theorem same_ok {x y : AV} {A C : List (Row × AV)} {M : Nat → Prop} {R : AE → AH → Prop} (hA : RowsL h x A) (hC : RowsL h y C) (hl : A.length ≤ 1000000000) (ha : ∀ z ∈ A, z.1.args.length ≤ 1000000000)
    (hR : ∀ h', Fr h h' (fun _ => False) → R (.ret (B (sameL pl (A.map (·.1)) (C.map (·.1))))) h') : ACalls Tryd.prog 12 [x, y, B pl] h M R := by
  apply F12.callsN
  unfold sameL at hR
  rw [List.length_map, List.length_map] at hR
  simp only [F12.n36, F12.n35, hA.tab.len.1, hA.tab.len.2, hC.tab.len.1, hC.tab.len.2, true_and, pBin_neq, nat_bne]
  by_cases hle : A.length = C.length
  · rw [decide_eq_true hle, Bool.true_and] at hR
    rw [decide_eq_true hle]
    simp only [Bool.not_true, F12.n34, aIf_b, Bool.false_eq_true, false_implies, true_implies, true_and, F12.n32, hA.tab.len.1, hA.tab.len.2]
    unfold F12.n31
    refine vLoop_of (ι := Nat) (fun i v h' => v = [y, B pl, x, I A.length, I i] ∧ i ≤ A.length ∧ Fr h h' (fun _ => False) ∧ eqRows pl ((A.drop i).map (·.1)) ((C.drop i).map (·.1)) = eqRows pl (A.map (·.1)) (C.map (·.1))) (fun i => A.length - i) 0 ?_ ?_
    · exact ⟨rfl, by omega, Fr.refl, rfl⟩
    rintro K i v h' ⟨rfl, hi, hf, he⟩ hK
    simp only [F12.g1_, List.getD_cons_zero, List.getD_cons_succ]
    by_cases hlt : i < A.length
    · have hli : (i : Int) < A.length := by omega
      have hlt2 : i < C.length := by omega
      have g1 : A[i]? = some A[i] := List.getElem?_eq_getElem hlt
      have g2 : C[i]? = some C[i] := List.getElem?_eq_getElem hlt2
      rw [List.drop_eq_getElem_cons hlt, List.drop_eq_getElem_cons hlt2, List.map_cons, List.map_cons] at he
      simp only [eqRows] at he
      have hya := hA.args _ (List.getElem_mem hlt)
      have hyc := hC.args _ (List.getElem_mem hlt2)
      have hal := ha _ (List.getElem_mem hlt)
      generalize A[i] = r at *
      generalize C[i] = s at *
      have hw : IntKind.i64.wrap ((i : Int) + 1) = ((i + 1 : Nat) : Int) := by rw [wrap_in (by omega) (by omega)]; simp
      simp only [F12.n30, pBin_lss, decide_eq_true hli, F12.n29, aIf_b, true_implies, Bool.true_eq_false, false_implies, and_true, F12.n28]
      refine rng_var (hA.tab.fr0 hf) encRA_len (encRA_one hya) g1 rfl rfl (fun id hid => .inr (Nat.le_trans hf.next hid)) fun v8 h2 f2 hv8 ov8 => ?_
      have f02 := hf.tr0 f2
      unfold F12.n27
      refine rng_var (hC.tab.fr0 f02) encRA_len (encRA_one hyc) g2 rfl rfl (fun id hid => .inr (Nat.le_trans f02.next hid)) fun v9 h3 f3 hv9 ov9 => ?_
      have f03 := f02.tr0 f3
      refine F12_row (fun id hid => .inr (Nat.le_trans f03.next hid)) (f3.ob0 ov8) ov9 (hya.fr0 f03) (hyc.fr0 f03) hal (fun hh h4 f4 => ?_) (fun hh h4 f4 => ?_)
      · rw [hh, Bool.false_and] at he
        have := hR h4 (f03.tr0 f4)
        rw [← he] at this
        simpa using this
      · rw [hh, Bool.true_and] at he
        simp only [F12.n2, pBin_add, hw]
        exact hK (i + 1) _ _ (by omega) ⟨rfl, by omega, f03.tr0 f4, he⟩
    · have hnl : ¬ (i : Int) < A.length := by omega
      rw [List.drop_eq_nil_of_le (by omega)] at he
      have := hR h' hf
      rw [← he] at this
      simp only [F12.n30, pBin_lss, decide_eq_false hnl, F12.n29, aIf_b, Bool.false_eq_true, false_implies, true_implies, true_and, if_true, F12.n1]
      simpa [eqRows] using this
  · rw [decide_eq_false hle, Bool.false_and] at hR
    rw [decide_eq_false hle]
    simpa using hR h Fr.refl
end
end Go.Proofs.YthkkgbmjjpcfaaaDoor
namespace Go.Proofs.YthkkgbmjjpcfaaaDoor
open Go.Ab
attribute [-simp] eAlloc_d eStore_f
theorem rowsW_mem {l : List Row} {r : Row} (h : r ∈ l) : rowW r ≤ rowsW l := by
  obtain ⟨a, b, rfl⟩ := List.append_of_mem h
  rw [rowsW_app]; simp [rowsW]; omega
theorem argsW_mem {l : List Arg} {g : Arg} (h : g ∈ l) : g.name.size + 8 ≤ argsW l := by
  obtain ⟨a, b, rfl⟩ := List.append_of_mem h
  rw [argsW_app]; simp [argsW]; omega
theorem args30 : ∀ l : List Arg, (l.map fun g => g.name.size + 30).sum ≤ 4 * argsW l
  | [] => by simp
  | g :: l => by have := args30 l; simp [argsW] at this ⊢; omega
theorem rowB_of {r : Row} (h : rowW r ≤ 16384) : RowB r := by
  unfold rowW at h
  have h1 := argsW_len r.args
  have h2 := args30 r.args
  refine ⟨by omega, by omega, fun g hg => ?_, by omega, by omega⟩
  have := argsW_mem hg
  omega
end Go.Proofs.YthkkgbmjjpcfaaaDoor

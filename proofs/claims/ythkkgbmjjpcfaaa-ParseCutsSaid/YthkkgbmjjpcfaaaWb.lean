/- Contracts of a statement and of parse.Parse, with its deferred recover; where tokens, rows and faults stand; awake answers true. No condition. -/
import Derived.Test.YthkkgbmjjpcfaaaGx
import Derived.Test.YthkkgbmjjpcfaaaGt
import Derived.Test.YthkkgbmjjpcfaaaWa
namespace Go.Ab
/-- append of one element. -/
theorem app1t {α : Type} {f : α → List AV} {sz bytes : Nat} {ty : TypeId} {z : List Value} (hf : ∀ x, (f x).length = sz) (hsz : 0 < sz) (hz : z.length = sz) (hb : bytes ≤ 1024)
    {h : AH} {x : AV} {l : List α} {t : α} {W : Nat → Prop} {K : AV → AV → AH → Prop} (h1 : (f t).all oneA = true) (hl : SlL f sz ty h x l) (hw : InS W x) (hn : l.length ≤ 100000000)
    (hK : ∀ y h', SlL f sz ty h' y (l ++ [t]) → InS (h.next ≤ ·) y → (∀ i, i < h.next → (∀ off n, x ≠ .sl i off n) → h'.obj i = h.obj i) → h.next ≤ h'.next → K (.sl h.next 0 1) y h') :
    eBSl (some (sz, ty, z)) 1 [(0, .agg (f t))] h (fun v h4 => eApp (some (sz, bytes, ty)) x v h4 W (K v)) := by
  have hfill : aFill (fun i => some (i * sz, sz)) (z.map .sc) [(0, .agg (f t))] = some (f t) := by
    simp only [aFill, avCells, Nat.zero_mul, hf, List.length_map, hz, Nat.zero_add, Nat.le_refl, and_self, if_true]
    rw [aFill_one (by simp [hf, hz])]
  refine ⟨f t, ⟨hfill, h1⟩, ?_⟩
  have hnb : (l.length + 1) * bytes ≤ 140737488355328 := by
    have : (l.length + 1) * bytes ≤ 100000001 * 1024 := Nat.mul_le_mul (by omega) hb
    omega
  have htake : ((f t).drop 0).take (1 * sz) = f t := by rw [List.drop_zero, List.take_of_length_le (by rw [hf]; omega)]
  rcases hl with ⟨rfl, rfl⟩ | ⟨id, rfl, ho⟩
  · refine ⟨1, f t, ⟨rfl, _, AH.alloc_new _ _, rfl, by simp [hf], htake.symm⟩, ?_⟩
    show if 1 = 0 then _ else _
    rw [if_neg (by omega)]
    refine ⟨⟨by omega, by simpa using hnb⟩, ?_⟩
    refine hK _ _ (.inr ⟨_, rfl, ?_⟩) ?_ ?_ ?_
    · rw [AH.alloc_new]; simp [mkO]
    · intro i off n he; cases he; simp only [AH.alloc_next]; omega
    · intro i hi _; rw [AH.alloc_old (by simp only [AH.alloc_next]; omega), AH.alloc_old hi]
    · simp only [AH.alloc_next]; omega
  · have hid := h.lt _ _ ho
    refine ⟨1, f t, ⟨rfl, _, AH.alloc_new _ _, rfl, by simp [hf], htake.symm⟩, ?_⟩
    show if 1 = 0 then _ else _
    rw [if_neg (by omega)]
    have hlen : (l.flatMap f).length = l.length * sz := flat_len hf l
    refine ⟨rfl, _, ⟨hw _ _ _ rfl, by rw [AH.alloc_old hid]; exact ho, rfl, rfl, rfl, rfl, by simp [mkO, hlen], by omega, hnb⟩, ?_⟩
    refine hK _ _ (.inr ⟨_, by rw [List.length_append, List.length_singleton], ?_⟩) ?_ ?_ ?_
    · rw [AH.alloc_obj, if_pos (by simp [AH.alloc_next, AH.del_next])]
      simp only [mkO, List.flatMap_append, List.flatMap_cons, List.flatMap_nil, List.append_nil]
      rw [List.take_of_length_le (by rw [hlen]; exact Nat.le_refl _)]
    · intro i off n he; cases he; simp only [AH.alloc_next]; omega
    · intro i hi hne
      have : i ≠ id := fun e => hne 0 l.length (by rw [e])
      rw [AH.alloc_old (by simp only [AH.alloc_next, AH.del_next]; omega), AH.del_old this, AH.alloc_old hi]
    · simp only [AH.alloc_next, AH.del_next]; omega
end Go.Ab
namespace Go.Proofs.Ythkkgbmjjpcfaaa
open Go.Ab
structure TX (tm : Nat → AV) (r v : Nat) (d : Int) (n tc : Nat) (t : Tok) : Prop where
  m : TM tm r v d n
  e4 : tm 4 = .ptr tc 0
  e54 : tm 54 = .sc (.string t.text)
theorem TX.two {tm : Nat → AV} {r v : Nat} {d : Int} {n tc : Nat} {t : Tok} (x : TX tm r v d n tc t) {i j : Nat} (hi : 54 < i) (hj : 54 < j) (a b : AV) : TX (puts tm [(i, a), (j, b)]) r v d n tc t ∧ puts tm [(i, a), (j, b)] j = b := by
  refine ⟨⟨x.m.puts _ (by simp; omega), ?_, ?_⟩, by simp only [puts]; exact upd_same _ _ _⟩
  · simp only [puts]; rw [upd_ne (by omega), upd_ne (by omega)]; exact x.e4
  · simp only [puts]; rw [upd_ne (by omega), upd_ne (by omega)]; exact x.e54
section
variable {h0 h : AH} {r tk : Nat} {L : List Tok} {en : Int} {rv0 : AV} {rows0 : List Row} {v p : Nat} {rv : AV} {d0 : Row} {M : Nat → Prop} {R : AE → AH → Prop} {tm : Nat → AV}
theorem F14_switch {d : Int} {kk tc : Nat} {t : Tok} (hL : LOK L) (hb : BodyOK L en kk) (hd : d = 32 - (kk : Int)) (hkk : kk ≤ 32) (hp : p + 1 ≤ L.length) (hlen : rows0.length ≤ p) (hM : ∀ id, SS r rv0 id → M id) (hcv : tc ≠ v) (hc : h.obj tc = some (oTok t))
    (s : SI h0 h r tk L en rv0 rows0 v (p + 1) rv d0 [] (encRA (⟨t.text, sEmpty, [], 0, 0, t.at_⟩, nilS))) (x0 : TX tm r v d rows0.length tc t)
    (hR : Fin h0 r tk L en rv0 rows0 R (stmtB L en kk (stepP L en kk) p t)) :
    F14.k38 (fun id => M id ∨ h0.next ≤ id) (Ab.bodyQ Try.prog [] R) (Ab.bodyP R) ⟨tm, []⟩ h := by
  unfold stmtB at hR
  have hlp : rows0.length + 1 ≤ p + 1 := by omega
  have regs : ∀ (tm : Nat → AV), TX tm r v d rows0.length tc t → tm 70 = .sc (.bool true) → (t.text = sQubits ∨ t.text = sBits) → F14.k36 (fun id => M id ∨ h0.next ≤ id) (Ab.bodyQ Try.prog [] R) (Ab.bodyP R) ⟨tm, []⟩ h := by
    intro tm x e hor
    rw [if_pos hor] at hR
    simp only [F14.k36, F14.t36, e, aIf_b, true_implies, Bool.true_eq_false, false_implies, and_true]
    exact F14_regs hL hM s x.m hR
  simp only [F14.k38, F14.t38, x0.e54, pBin_seql]
  obtain ⟨x1, e1⟩ := x0.two (i := 71) (j := 70) (by decide) (by decide) (.sc (.bool (decide (t.text = sQubits)))) (.sc (.bool (decide (t.text = sQubits))))
  generalize puts tm [(71, .sc (.bool (decide (t.text = sQubits)))), (70, .sc (.bool (decide (t.text = sQubits))))] = tm1 at *
  simp only [F14.k37, F14.t37, e1, aIf_b, x1.e54, pBin_seql]
  refine ⟨fun h1 => regs tm1 x1 (by rw [e1, h1]) (.inl (of_decide_eq_true h1)), fun h1 => ?_⟩
  obtain ⟨x2, e2⟩ := x1.two (i := 72) (j := 70) (by decide) (by decide) (.sc (.bool (decide (t.text = sBits)))) (.sc (.bool (decide (t.text = sBits))))
  generalize puts tm1 [(72, .sc (.bool (decide (t.text = sBits)))), (70, .sc (.bool (decide (t.text = sBits))))] = tm2 at *
  by_cases h2 : t.text = sBits
  · exact regs tm2 x2 (by rw [e2, decide_eq_true h2]) (.inr h2)
  rw [if_neg (fun hor => hor.elim (of_decide_eq_false h1) h2)] at hR
  clear regs
  rw [decide_eq_false h2] at e2
  simp only [F14.k36, F14.t36, e2, aIf_b, Bool.false_eq_true, false_implies, true_implies, true_and]
  simp only [F14.k35, F14.t35, x2.e54, pBin_seql]
  obtain ⟨x3, e3⟩ := x2.two (i := 82) (j := 81) (by decide) (by decide) (.sc (.bool (decide (t.text = sGate)))) (.sc (.bool (decide (t.text = sGate))))
  generalize puts tm2 [(82, .sc (.bool (decide (t.text = sGate)))), (81, .sc (.bool (decide (t.text = sGate))))] = tm3 at *
  simp only [F14.k34, F14.t34, e3, aIf_b]
  refine ⟨fun h3 => ?_, fun h3 => ?_⟩
  · rw [if_pos (of_decide_eq_true h3)] at hR
    exact F14_gate hL hb hd hkk hlp hM s x3.m hR
  rw [if_neg (of_decide_eq_false h3)] at hR
  simp only [F14.k33, F14.t33, x3.e54, pBin_seql]
  obtain ⟨x4, e4⟩ := x3.two (i := 102) (j := 101) (by decide) (by decide) (.sc (.bool (decide (t.text = sRepeat)))) (.sc (.bool (decide (t.text = sRepeat))))
  generalize puts tm3 [(102, .sc (.bool (decide (t.text = sRepeat)))), (101, .sc (.bool (decide (t.text = sRepeat))))] = tm4 at *
  simp only [F14.k32, F14.t32, e4, aIf_b]
  refine ⟨fun h3 => ?_, fun h4 => ?_⟩
  · rw [if_pos (of_decide_eq_true h3)] at hR
    exact F14_rep hL hb hd hkk hlp hM s x4.m hR
  rw [if_neg (of_decide_eq_false h4)] at hR
  simp only [F14.k31, F14.t31, x4.e54, pBin_seql]
  obtain ⟨x5, e5⟩ := x4.two (i := 112) (j := 111) (by decide) (by decide) (.sc (.bool (decide (t.text = sIf)))) (.sc (.bool (decide (t.text = sIf))))
  generalize puts tm4 [(112, .sc (.bool (decide (t.text = sIf)))), (111, .sc (.bool (decide (t.text = sIf))))] = tm5 at *
  simp only [F14.k30, F14.t30, e5, aIf_b]
  refine ⟨fun h3 => ?_, fun h5 => ?_⟩
  · rw [if_pos (of_decide_eq_true h3)] at hR
    exact F14_if hL hb hd hkk hlp hM s x5.m hR
  rw [if_neg (of_decide_eq_false h5)] at hR
  simp only [F14.k29, F14.t29, x5.e54, pBin_seql]
  obtain ⟨x6, e6⟩ := x5.two (i := 125) (j := 124) (by decide) (by decide) (.sc (.bool (decide (t.text = sMeasure)))) (.sc (.bool (decide (t.text = sMeasure))))
  generalize puts tm5 [(125, .sc (.bool (decide (t.text = sMeasure)))), (124, .sc (.bool (decide (t.text = sMeasure))))] = tm6 at *
  simp only [F14.k28, F14.t28, e6, aIf_b]
  refine ⟨fun h3 => ?_, fun h6 => ?_⟩
  · rw [if_pos (of_decide_eq_true h3)] at hR
    exact F14_meas hL hM hp s x6.m hR
  rw [if_neg (of_decide_eq_false h6)] at hR
  simp only [F14.k27, F14.t27, x6.e54, pBin_seql]
  obtain ⟨x7, e7⟩ := x6.two (i := 138) (j := 137) (by decide) (by decide) (.sc (.bool (decide (t.text = sReset)))) (.sc (.bool (decide (t.text = sReset))))
  generalize puts tm6 [(138, .sc (.bool (decide (t.text = sReset)))), (137, .sc (.bool (decide (t.text = sReset))))] = tm7 at *
  simp only [F14.k26, F14.t26, e7, aIf_b]
  refine ⟨fun h3 => ?_, fun h7 => ?_⟩
  · rw [if_pos (of_decide_eq_true h3)] at hR
    exact F14_reset hL hM hp s x7.m hR
  rw [if_neg (of_decide_eq_false h7)] at hR
  exact F14_use hL hM hp hlp hcv x7.e4 hc s x7.m hR
end
section
variable {h : AH} {r tk : Nat} {L : List Tok} {en : Int} {rv : AV} {rows : List Row} {p : Nat} {M : Nat → Prop} {R : AE → AH → Prop}
theorem F14_head {d : Int} {kk tc : Nat} {t : Tok} {h1 : AH} {tm : Nat → AV} (hL : LOK L) (hb : BodyOK L en kk) (hd : d = 32 - (kk : Int)) (hkk : kk ≤ 32) (hp : p + 1 ≤ L.length) (hlen : rows.length ≤ p) (hM : ∀ id, SS r rv id → M id)
    (hrn : r < h.next) (e0 : tm 0 = .ptr r 0) (e1 : tm 1 = .sc (.int .i64 d)) (e4 : tm 4 = .ptr tc 0) (hc : h1.obj tc = some (oTok t)) (f1 : Fr h h1 (· = r)) (rs1 : RS h1 r tk L en (p + 1) rv rows)
    (hrvn : ∀ id off n, rv = .sl id off n → id < h.next)
    (hR : Fin h r tk L en rv rows R (stmtB L en kk (stepP L en kk) p t)) :
    F14.k42 (fun id => M id ∨ h.next ≤ id) (Ab.bodyQ Try.prog [] R) (Ab.bodyP R) ⟨tm, []⟩ h1 := by
  have hL0 := hL.len
  simp only [F14.k42, F14.t42, e4, pFld_ptr, lLd_f, hc, ldk_mk, Nat.zero_add, List.getElem?_cons_succ, List.getElem?_cons_zero, cellK_some]
  refine ⟨encRA (⟨t.text, sEmpty, [], 0, 0, t.at_⟩, nilS), rfl, ?_⟩
  simp only [eAlloc_d]
  refine ⟨rfl, ?_⟩
  have hv := AH.alloc_new h1 (mkO ([.string ⟨#[]⟩, .string ⟨#[]⟩, .slice none 0 0, .int .i64 0, .int .i64 0, .int .i64 0].map AV.sc) 6 36)
  simp only [eStore_f, hv, avC_agg, stk_mk]
  refine ⟨⟨.inr f1.next, rfl, rfl, by simp⟩, ?_⟩
  have f2 := ((Fr.refl (h := h1) (S := fun _ => False)).alloc (mkO ([.string ⟨#[]⟩, .string ⟨#[]⟩, .slice none 0 0, .int .i64 0, .int .i64 0, .int .i64 0].map AV.sc) 6 36)).put (id := h1.next) (off := 0) (cs := encRA (⟨t.text, sEmpty, [], 0, 0, t.at_⟩, nilS)) (.inr (Nat.le_refl _))
  have hv2 := put_row (off := 0) (cs := encRA (⟨t.text, sEmpty, [], 0, 0, t.at_⟩, nilS)) hv
  have hvn : h1.next < ((h1.alloc (mkO ([.string ⟨#[]⟩, .string ⟨#[]⟩, .slice none 0 0, .int .i64 0, .int .i64 0, .int .i64 0].map AV.sc) 6 36)).put h1.next 0 (encRA (⟨t.text, sEmpty, [], 0, 0, t.at_⟩, nilS))).next := by simp [AH.put_next, AH.alloc_next]
  generalize (h1.alloc (mkO ([.string ⟨#[]⟩, .string ⟨#[]⟩, .slice none 0 0, .int .i64 0, .int .i64 0, .int .i64 0].map AV.sc) 6 36)).put h1.next 0 (encRA (⟨t.text, sEmpty, [], 0, 0, t.at_⟩, nilS)) = h2 at *
  have hv2 : h2.obj h1.next = some (mkO (encRA (⟨t.text, sEmpty, [], 0, 0, t.at_⟩, nilS)) 6 36) := hv2
  have rs2 : RS h2 r tk L en (p + 1) rv rows := rs1.step (f2.mono fun _ h => h.elim) (f2.obj rs1.r fun h => h)
  have hc2 := f2.obj hc fun h => h
  have f2' : Fr h h2 (· = r) := f1.trans (f2.mono fun _ h => h.elim)
  have htv : tc ≠ h1.next := by have := h1.lt _ _ hc; omega
  have vn := f1.next
  generalize h1.next = v at *
  generalize htm : puts tm _ = tm1
  have g0 : tm1 0 = .ptr r 0 := by rw [← htm]; simp [e0]
  have g1 : tm1 1 = .sc (.int .i64 d) := by rw [← htm]; simp [e1]
  have g4 : tm1 4 = .ptr tc 0 := by rw [← htm]; simp [e4]
  have g5 : tm1 5 = .ptr v 0 := by rw [← htm]; simp
  clear htm
  simp only [F14.k41, F14.t41, g0, pNil_ptr, pFld_ptr, lLd_f, rs2.r, ldk_mk, Nat.zero_add, List.getElem?_cons_succ, List.getElem?_cons_zero, cellK_some, rs2.rows.len.1, rs2.rows.len.2, true_and]
  generalize htm : puts tm1 _ = tm2
  have k0 : tm2 0 = .ptr r 0 := by rw [← htm]; simp [g0]
  have k1 : tm2 1 = .sc (.int .i64 d) := by rw [← htm]; simp [g1]
  have k4 : tm2 4 = .ptr tc 0 := by rw [← htm]; simp [g4]
  have k5 : tm2 5 = .ptr v 0 := by rw [← htm]; simp [g5]
  have k6 : tm2 6 = .sc (.int .i64 rows.length) := by rw [← htm]; simp
  clear htm
  simp only [F14.k40, F14.t40, k0, k5, pNil_ptr, pFld_ptr, lLd_f, lLdn_f, rs2.r, hv2, ldk_mk, ldnk_mk, Nat.zero_add, List.getElem?_cons_succ, List.getElem?_cons_zero, cellK_some]
  have hen : (encRA (⟨t.text, sEmpty, [], 0, 0, t.at_⟩, nilS)).length = 6 := rfl
  refine ⟨by rw [hen]; exact Nat.le_refl _, ?_⟩
  rw [show List.take 6 (List.drop 0 (encRA (⟨t.text, sEmpty, [], 0, 0, t.at_⟩, nilS))) = encRA (⟨t.text, sEmpty, [], 0, 0, t.at_⟩, nilS) from rfl]
  obtain ⟨l, l1, l2, l3⟩ := rs2.rows
  have hll : l.length = rows.length := by rw [← l2]; simp
  have hsl : SlL encRA 6 36 h2 rv l := l1
  refine app1t (f := encRA) (t := (⟨t.text, sEmpty, [], 0, 0, t.at_⟩, nilS)) encRA_len (by decide) rfl (by decide) rfl hsl ?_ (by omega) ?_
  · intro id off n he
    exact .inl (hM id (.inr ⟨n, by rw [he, ((rs2.hrv he).1)]⟩))
  intro y h3 hy iy k3 n3
  have f3 : Fr h2 h3 (fun i => ∃ off n, rv = .sl i off n) := ⟨n3, fun i hi hs => k3 i hi fun off n he => hs ⟨off, n, he⟩⟩
  have not : ∀ i o, h2.obj i = some o → o.ty ≠ 36 → ¬ ∃ off n, rv = .sl i off n := by
    rintro i o ho hne ⟨off, n, he⟩
    obtain ⟨_, _, o', ho', ht⟩ := rs2.rows.id he
    rw [ho] at ho'; cases ho'; exact hne ht
  have r3 := f3.obj rs2.r (not _ _ rs2.r (show (51 : Nat) ≠ 36 by decide))
  simp only [k0, pNil_ptr, pFld_ptr, eStore_f, r3, Nat.zero_add]
  obtain ⟨yid, hyid⟩ := hy.sl (by simp)
  have ey : avCells y = some [y] := by rw [hyid]; rfl
  simp only [ey, stk_mk]
  refine ⟨⟨.inl (hM r (.inl rfl)), by rw [hyid]; rfl, rfl, by simp⟩, ?_⟩
  have hvr : v < h2.next := hvn
  have s3 : SI h (h3.put r 3 [y]) r tk L en rv rows v (p + 1) y ⟨t.text, sEmpty, [], 0, 0, t.at_⟩ [] (encRA (⟨t.text, sEmpty, [], 0, 0, t.at_⟩, nilS)) := by
    have f4 : Fr h3 (h3.put r 3 [y]) (· = r) := Fr.refl.put (.inl rfl)
    have vr : v ≠ r := by omega
    have yr : ∀ id, y = .sl id 0 (l ++ [((⟨t.text, sEmpty, [], 0, 0, t.at_⟩ : Row), nilS)]).length → ¬ id = r := fun id he hid => by
      have := iy id _ _ he
      omega
    refine ⟨f2'.mono (fun _ h => .inl h) |>.trans (f3.mono fun id ⟨off, n, he⟩ => .inl (.inr ⟨n, by rw [he, (rs2.hrv he).1]⟩)) |>.trans (f4.mono fun _ h => .inl (.inl h)), ⟨?_, ?_, l ++ [(⟨t.text, sEmpty, [], 0, 0, t.at_⟩, nilS)], hy.of_fr f4 yr, by simp [l2], ?_⟩, ?_, ?_, vn, hrn⟩
    · rw [put_row r3]; rfl
    · exact f4.obj (f3.obj rs2.t (not _ _ rs2.t (show (38 : Nat) ≠ 36 by decide))) (obj_ne rs2.t rs2.r (show (38 : Nat) ≠ 51 by decide))
    · intro z hz
      rcases List.mem_append.1 hz with hz | hz
      · rcases l3 z hz with h4 | ⟨id, h4, ho⟩
        · exact .inl h4
        · exact .inr ⟨id, h4, f4.obj (f3.obj ho (not _ _ ho (show (53 : Nat) ≠ 36 by decide))) (obj_ne ho rs2.r (show (53 : Nat) ≠ 51 by decide))⟩
      · simp only [List.mem_singleton] at hz
        subst hz
        exact .nil
    · intro id off n he
      have := iy id off n he
      omega
    · refine f4.obj (f3.obj hv2 ?_) vr
      rintro ⟨off, n, he⟩
      have := hrvn v off n he
      omega
  have hc3 : (h3.put r 3 [y]).obj tc = some (oTok t) := by
    rw [AH.put_old (obj_ne hc2 rs2.r (show (38 : Nat) ≠ 51 by decide))]
    exact f3.obj hc2 (not _ _ hc2 (show (38 : Nat) ≠ 36 by decide))
  generalize h3.put r 3 [y] = h4 at *
  generalize htm : puts tm2 _ = tm3
  have j0 : tm3 0 = .ptr r 0 := by rw [← htm]; simp [k0]
  have j1 : tm3 1 = .sc (.int .i64 d) := by rw [← htm]; simp [k1]
  have j4 : tm3 4 = .ptr tc 0 := by rw [← htm]; simp [k4]
  have j5 : tm3 5 = .ptr v 0 := by rw [← htm]; simp [k5]
  have j6 : tm3 6 = .sc (.int .i64 rows.length) := by rw [← htm]; simp [k6]
  clear htm
  simp only [F14.k39, F14.t39, j4, pFld_ptr, lLd_f, hc3, ldk_mk, Nat.zero_add, List.getElem?_cons_succ, List.getElem?_cons_zero, cellK_some]
  refine F14_switch hL hb hd hkk hp hlen hM htv hc3 s3 ⟨⟨?_, ?_, ?_, ?_⟩, ?_, ?_⟩ hR <;> simp [j0, j1, j4, j5, j6]
end
end Go.Proofs.Ythkkgbmjjpcfaaa

namespace Go.Proofs.Ythkkgbmjjpcfaaa
open Go.Ab
section
variable {L : List Tok} {en : Int}
theorem stmt_of {kk : Nat} (hL : LOK L) (hkk : kk ≤ 32) (hb : BodyOK L en kk) : StmtOK L en kk := by
  intro h r tk rv rows M R p d hd hM hrs hp hrp hR
  have hrn := h.lt _ _ hrs.r
  have htn := h.lt _ _ hrs.t
  have hMr := hM r (.inl rfl)
  have hL0 := hL.len
  rw [stmtP_eq] at hR
  apply F14.calls
  have hr := hrs.r
  have ht := hrs.t
  have tail : ∀ (t : Tok) (tm : Nat → AV) (tc : Nat) (h1 : AH), nextP L en p (isNameP L p) = .ok t → tm 0 = .ptr r 0 → tm 1 = .sc (.int .i64 d) → tm 4 = .ptr tc 0 → h1.obj tc = some (oTok t) → h.next ≤ tc → Fr h h1 (· = r) → h1.obj r = some (oRd tk L.length (p + 1 : Nat) en rv) → F14.k42 (fun id => M id ∨ h.next ≤ id) (Ab.bodyQ Try.prog [] R) (Ab.bodyP R) ⟨tm, []⟩ h1 := by
    intro t tm tc h1 hx e0 e1 e4 hc hcn hf hr1
    rw [hx] at hR
    have := (nextP_ok hx).1
    exact F14_head hL hb hd hkk (by omega) hrp hM hrn e0 e1 e4 hc hf (hrs.step hf hr1) (fun id off n he => (hrs.hrv he).2.2) hR
  have he : ∀ e, nextP L en p (isNameP L p) = .error e → ∀ h', Fr h h' (· = r) → R (.pan (faultV e)) h' := by
    intro e hx h' hf; rw [hx] at hR; exact hR _ (hf.mono fun _ h => .inl h)
  have A1 : ∀ (tmf : AV → AV → Nat → AV), (∀ a b, tmf a b 0 = .ptr r 0 ∧ tmf a b 1 = .sc (.int .i64 d) ∧ tmf a b 4 = b) → aCall Try.prog (fun id => M id ∨ h.next ≤ id) 33 [.ptr r 0, .sc (.bool (isNameP L p))] h (fun t44 h45 => eAlloc (some [.int .i64 0, .string ⟨#[]⟩, .int .i64 0]) 3 38 h45 fun t46 h47 =>
      eStore (some 3) t46 t44 h47 (fun id => M id ∨ h.next ≤ id) fun h48 => F14.k42 (fun id => M id ∨ h.next ≤ id) (Ab.bodyQ Try.prog [] R) (Ab.bodyP R) ⟨tmf t44 t46, []⟩ h48) (Ab.bodyP R []) := by
    intro tmf htm
    refine ⟨(· = r), fun _ h _ => h ▸ .inl hMr, next_ok rfl hL0 hr ht ?_⟩
    cases hx : nextP L en p (isNameP L p) with
    | error e => intro h' h1; exact ⟨rfl, he e hx h' h1⟩
    | ok t =>
      intro h' h1 h2
      have h3 := h1.next
      have h4 := h'.lt _ _ h2
      simp [-F14.k42, Tok.enc, AH.alloc_obj, h3]
      obtain ⟨m0, m1, m4⟩ := htm (.agg [.sc (.int .i64 t.kind), .sc (.string t.text), .sc (.int .i64 t.at_)]) (.ptr h'.next 0)
      refine tail t _ h'.next _ hx m0 m1 m4 (by simp [AH.put_obj, AH.alloc_obj]) h3 ((h1.alloc _).put (.inr h3)) (by simp [AH.put_obj, AH.alloc_obj, nel h4, h2])
  have A2 : ∀ (tmf : AV → AV → Nat → AV), (∀ a b, tmf a b 0 = .ptr r 0 ∧ tmf a b 1 = .sc (.int .i64 d) ∧ tmf a b 4 = b) → eAlloc (some [.int .i64 0, .string ⟨#[]⟩, .int .i64 0]) 3 38 h fun t49 h50 => aCall Try.prog (fun id => M id ∨ h.next ≤ id) 33 [.ptr r 0, .sc (.bool (isNameP L p))] h50 (fun t51 h52 =>
      eStore (some 3) t49 t51 h52 (fun id => M id ∨ h.next ≤ id) fun h53 => F14.k42 (fun id => M id ∨ h.next ≤ id) (Ab.bodyQ Try.prog [] R) (Ab.bodyP R) ⟨tmf t51 t49, []⟩ h53) (Ab.bodyP R []) := by
    intro tmf htm
    simp only [eAlloc_d]
    refine ⟨rfl, (· = r), fun _ h _ => h ▸ .inl hMr, next_ok rfl hL0 (p := p) (L := L) (tk := tk) (en := en) (rv := rv) (by rw [AH.alloc_old hrn]; exact hr) (by rw [AH.alloc_old htn]; exact ht) ?_⟩
    have hf := (Fr.refl (h := h) (S := (· = r))).alloc (mkO ([.int .i64 0, .string ⟨#[]⟩, .int .i64 0].map .sc) 3 38)
    cases hx : nextP L en p (isNameP L p) with
    | error e => intro h' h1; exact ⟨rfl, he e hx h' (hf.trans (h1.mono fun _ h => .inl h))⟩
    | ok t =>
      intro h' h1 h2
      have h3 := h1.obj (AH.alloc_new _ _) (nel hrn).2.1
      have h4 := h1.next
      simp only [AH.alloc_next] at h4
      simp [-F14.k42, Tok.enc, h3]
      obtain ⟨m0, m1, m4⟩ := htm (.agg [.sc (.int .i64 t.kind), .sc (.string t.text), .sc (.int .i64 t.at_)]) (.ptr h.next 0)
      refine tail t _ h.next _ hx m0 m1 m4 (by simp [AH.put_obj, h3]) (Nat.le_refl _) ((hf.trans (h1.mono fun _ h => .inl h)).put (.inr (Nat.le_refl _))) (by simp [AH.put_obj, nel hrn, h2])
  by_cases hlt : p < L.length
  · by_cases hk : L[p].kind = 1
    · have hw : isNameP L p = true := by simp [isNameP, hlt, hk]
      simp only [hw] at A1 A2
      simp [-F14.k42, -eAlloc_d, -eStore_f, hr, ht, hlt, flat_get0 Tok.enc_len, flat_get Tok.enc_len, Tok.enc, hk]
      exact ⟨A1 _ (fun _ _ => by simp), A2 _ (fun _ _ => by simp)⟩
    · have hw : isNameP L p = false := by simp [isNameP, hlt, hk]
      have hkb : (L[p].kind == 1) = false := by simpa using hk
      simp only [hw] at A1 A2
      simp [-F14.k42, -eAlloc_d, -eStore_f, hr, ht, hlt, flat_get0 Tok.enc_len, flat_get Tok.enc_len, Tok.enc, hkb]
      exact ⟨A1 _ (fun _ _ => by simp), A2 _ (fun _ _ => by simp)⟩
  · have hw : isNameP L p = false := by simp [isNameP, hlt]
    simp only [hw] at A1 A2
    simp [-F14.k42, -eAlloc_d, -eStore_f, hr, hlt]
    exact ⟨A1 _ (fun _ _ => by simp), A2 _ (fun _ _ => by simp)⟩
theorem stmt_ok (hL : LOK L) : ∀ kk, kk ≤ 32 → StmtOK L en kk := by
  intro kk
  induction kk with
  | zero => intro hk; exact stmt_of hL hk (body_of hL fun k' he => by omega)
  | succ kk ih => intro hk; exact stmt_of hL hk (body_of hL fun k' he => by cases he; exact ih (by omega))
end
end Go.Proofs.Ythkkgbmjjpcfaaa

namespace Go.Proofs.Ythkkgbmjjpcfaaa
open Go.Ab
theorem if20 : isIfaceT Try.prog 20 = some true := by kernel_rfl
theorem F13_code : F13.code = .seq (Code.at F13.code [0]) (Code.at F13.code [1]) := by kernel_rfl
theorem F13_r : Code.at F13.code [0] = .region 0 (regOps (Code.at F13.code [0])) false := by kernel_rfl
theorem F13_o : ∃ o0 o1, regOps (Code.at F13.code [0]) = #[o0, o1] ∧ o0.op = .call { callee := .builtin .recover, args := #[], argTypes := #[] } ∧ o0.dst = some 6 ∧ o0.guard = none ∧ o1.op = .assign (.tmp 6) ∧ o1.dst = some 3 ∧ o1.guard = none := by
  refine ⟨_, _, rfl, rfl, rfl, rfl, rfl, rfl, rfl⟩
/-- The deferred function, from what recover gives. -/
theorem F13_callsD {args : Array Value} {u u' : FrameMode} {w : World} {R : Ending → FrameMode → World → Prop} (v : Value)
    (hrec : ∀ (c₀ : Frame) (cs : List Frame), c₀.mode = u → (recoverD (c₀ :: cs) = none ∧ v = .nilIface ∧ u' = u) ∨ recoverD (c₀ :: cs) = some (v, { c₀ with mode := u' } :: cs))
    (h : (Code.at F13.code [1]).wp Try.prog (fun e a w => (e = .normal ∨ e = .ret) ∧ a.defers = [] ∧ R (.returned (.tuple #[])) u' w) (Act.put (Act.put { tmps := args ++ Array.replicate (21 - args.size) undef, defers := [] } (some 6) v) (some 3) v) w) :
    CallsD Try.prog 13 args u w R := by
  refine callsD_of_wpS (c := F13.code) Try.func13 rfl ?_
  intro c₀ cs hu
  rw [F13_code]
  refine wpS_seq ?_
  rw [F13_r]
  refine wpS_region ?_
  obtain ⟨o0, o1, e1, a1, a2, a3, b1, b2, b3⟩ := F13_o
  rw [e1]
  have fin : ∀ cs' : List Frame, cs' = { c₀ with mode := u' } :: cs → (Code.at F13.code [1]).wpS Try.prog (bodyPostS Try.prog Try.f13 c₀ cs R) (Act.put (Act.put { tmps := args ++ Array.replicate (Try.f13.ntmps - args.size) undef, defers := [] } (some 6) v) (some 3) v) cs' w := by
    intro cs' hcs
    refine wpS_of_wp (wp_mono h ?_)
    rintro e a w' ⟨he, hd, hR⟩
    have hres : (results Try.f13 a.tmps).run Try.prog w' = .ok (.tuple #[]) w' := by
      have : Try.f13.results = #[] := rfl
      simp [results, this]
    rcases he with rfl | rfl
    · exact ⟨hd, u', hcs, _, hres, hR⟩
    · exact ⟨hd, u', hcs, _, hres, hR⟩
  have w0 : ∀ y, Region.wanted o0 y = true := fun y => by unfold Region.wanted; rw [a3]
  have w1 : ∀ y, Region.wanted o1 y = true := fun y => by unfold Region.wanted; rw [b3]
  have x0 : ∀ (ev : Operand → Value) (w' : World), (execOp ev o0).run Try.prog w' = .ok .recover w' := fun ev w' => by
    obtain ⟨d, op, t, p, af, gd⟩ := o0
    simp only at a1; subst a1
    simp [execOp, resolve, invoke, builtin]
  have x1 : ∀ (ev : Operand → Value) (w' : World), (execOp ev o1).run Try.prog w' = .ok (.value (ev (.tmp 6))) w' := fun ev w' => by
    obtain ⟨d, op, t, p, af, gd⟩ := o1
    simp only at b1; subst b1
    simp [execOp]
  have hsz : 6 < (args ++ Array.replicate (Try.f13.ntmps - args.size) undef).size := by
    have : Try.f13.ntmps = 21 := rfl
    simp; omega
  have step : ∀ cs' : List Frame, cs' = { c₀ with mode := u' } :: cs → wpOpsS Try.prog #[o0, o1] (Exit.thenS ((Code.at F13.code [1]).wpS Try.prog (bodyPostS Try.prog Try.f13 c₀ cs R)) (bodyPostS Try.prog Try.f13 c₀ cs R)) [1] (Act.put { tmps := args ++ Array.replicate (Try.f13.ntmps - args.size) undef, defers := [] } (some 6) v) cs' w := by
    intro cs' hcs
    simp only [wpOpsS, List.getElem?_toArray, List.getElem?_cons_succ, List.getElem?_cons_zero, w1, if_true, x1, Oper.upon_value, b2]
    have e6 : (Act.put { tmps := args ++ Array.replicate (Try.f13.ntmps - args.size) undef, defers := [] } (some 6) v).eval (.tmp 6) = v := by
      show ((args ++ Array.replicate (Try.f13.ntmps - args.size) undef).setIfInBounds 6 v).getD 6 undef = v
      rw [Array.getD_eq_getD_getElem?, Array.getElem?_setIfInBounds_self_of_lt hsz]; rfl
    rw [e6]
    exact fin cs' hcs
  show wpOpsS Try.prog #[o0, o1] _ [0, 1] _ _ _
  rw [wpOpsS]
  simp only [List.getElem?_toArray, List.getElem?_cons_zero, w0, if_true, x0, a2]
  rcases hrec c₀ cs hu with ⟨h1, rfl, rfl⟩ | h1
  · rw [h1]
    exact step _ (by subst hu; rfl)
  · rw [h1]
    exact step _ rfl
section
variable {h : AH} {M : Nat → Prop} {rc ac ec : Nat}
theorem F13_any {E : Env} {w : World} {cargs : List Value} {u u' : FrameMode} {v : Value} {av : AV} {R : AH → Prop} (hr : Rel E h w) (ha : VRs E [.ptr rc 0, .ptr ac 0, .ptr ec 0] cargs) (hv : VR E av v)
    (hrec : ∀ (c₀ : Frame) (cs : List Frame), c₀.mode = u → (recoverD (c₀ :: cs) = none ∧ v = .nilIface ∧ u' = u) ∨ recoverD (c₀ :: cs) = some (v, { c₀ with mode := u' } :: cs))
    (hp : F13.k6 (fun id => M id ∨ h.next ≤ id) (fun x s h' => (x = .normal ∨ x = .ret) ∧ s.ds = [] ∧ R h') noPan ⟨upd (upd (s0 [.ptr rc 0, .ptr ac 0, .ptr ec 0]).tm 6 av) 3 av, []⟩ h) :
    CallsD Try.prog 13 cargs.toArray u w fun e u2 w' => (∃ r, e = .returned r) ∧ u2 = u' ∧ ∃ E' h', Step E h M w E' h' w' ∧ R h' := by
  refine F13_callsD v hrec ?_
  have ar : AR E 21 ⟨upd (upd (s0 [.ptr rc 0, .ptr ac 0, .ptr ec 0]).tm 6 av) 3 av, []⟩ (Act.put (Act.put { tmps := cargs.toArray ++ Array.replicate (21 - cargs.toArray.size) undef, defers := [] } (some 6) v) (some 3) v) :=
    ((s0_ok ha (n := 21) (by simp)).put (some 6) hv).put (some 3) hv
  refine wp_mono (aw_ok (W := fun id => M id ∨ h.next ≤ id) (pl := F13.pl) Try.mixed (Code.at F13.code [1]) (fun x s h' => (x = .normal ∨ x = .ret) ∧ s.ds = [] ∧ R h') noPan _ h F13.ok ?_ E w _ hr ar) ?_
  · exact Eq.mpr (F13.k6_ok _ _ _ _ _) hp
  rintro e a' w' (⟨x, E', h', s', a1, a2, a3, a4, a5, a6⟩ | ⟨_, _, _, _, _, _, _, _, _, a5⟩)
  · have hd : a'.defers = [] := by
      have := a3.ds
      rw [a5] at this
      generalize a'.defers = l at this
      cases this; rfl
    refine ⟨?_, hd, ⟨_, rfl⟩, rfl, E', h', ?_, a6⟩
    · rcases a4 with rfl | rfl
      · cases e <;> first | exact .inl rfl | exact a1.elim
      · cases e <;> first | exact .inr rfl | exact a1.elim
    · exact (Step.refl hr).trans hr a2 (fun id hlt hm => by
        rcases hm with hm | hm
        · exact .inl hm
        · exact .inr hm)
  · exact a5.elim
theorem F13_ret {R : AH → Prop} (hR : R h) : ADRet Try.prog 13 [.ptr rc 0, .ptr ac 0, .ptr ec 0] h M R := by
  intro E w cargs hr ha
  refine F13_any (v := .nilIface) (av := .sc .nilIface) hr ha (.sc _) (fun c₀ cs hu => .inl ⟨by simp [recoverD, hu], rfl, rfl⟩) ?_
  have e3 : (Go.Ab.upd (Go.Ab.upd (s0 [.ptr rc 0, .ptr ac 0, .ptr ec 0]).tm 6 (.sc .nilIface)) 3 (.sc .nilIface)) 3 = .sc .nilIface := by simp
  simp only [F13.k6, F13.t6, e3]
  refine ⟨rfl, if20, ?_⟩
  simp only [F13.k5, F13.t5]
  have e8 : ∀ tm : Nat → AV, puts tm [(7, .sc .nilIface), (8, .sc (.bool false))] 8 = .sc (.bool false) := fun tm => by simp
  rw [e8]
  simp only [aIf_b, Bool.false_eq_true, false_implies, true_and, true_implies]
  exact ⟨.inl trivial, hR⟩
theorem F13_pan {R : AH → Prop} {e : Int × Int} {x y z : AV} (hM : M rc ∧ M ac ∧ M ec) (h1 : h.obj rc = some (mkO [x] 1 23)) (h2 : h.obj ac = some (mkO [y] 1 3)) (h3 : h.obj ec = some (mkO [z] 1 26))
    (hR : ∀ h', h'.obj rc = some (mkO [nilS] 1 23) → h'.obj ac = some (mkO [.sc (.int .i64 e.1)] 1 3) → h'.obj ec = some (mkO [.sc (.int .i64 e.2)] 1 26) → Fr h h' (fun id => id = rc ∨ id = ac ∨ id = ec) → R h') : ADPan Try.prog 13 [.ptr rc 0, .ptr ac 0, .ptr ec 0] (faultV e) h M R := by
  intro E w cargs u hr ha hv
  have n1 := h.lt _ _ h1
  have n2 := h.lt _ _ h2
  have n3 := h.lt _ _ h3
  have d12 := obj_ne h1 h2 (show (23 : Nat) ≠ 3 by decide)
  have d13 := obj_ne h1 h3 (show (23 : Nat) ≠ 26 by decide)
  have d23 := obj_ne h2 h3 (show (3 : Nat) ≠ 26 by decide)
  refine F13_any (v := u) (av := faultV e) (u' := .panicking [{ v := u, recovered := true }]) hr ha hv (fun c₀ cs hu => .inr (by simp [recoverD, hu])) ?_
  have e0 : (Go.Ab.upd (Go.Ab.upd (s0 [.ptr rc 0, .ptr ac 0, .ptr ec 0]).tm 6 (faultV e)) 3 (faultV e)) 0 = .ptr rc 0 := by simp
  have e1 : (Go.Ab.upd (Go.Ab.upd (s0 [.ptr rc 0, .ptr ac 0, .ptr ec 0]).tm 6 (faultV e)) 3 (faultV e)) 1 = .ptr ac 0 := by simp
  have e2 : (Go.Ab.upd (Go.Ab.upd (s0 [.ptr rc 0, .ptr ac 0, .ptr ec 0]).tm 6 (faultV e)) 3 (faultV e)) 2 = .ptr ec 0 := by simp
  have e3 : (Go.Ab.upd (Go.Ab.upd (s0 [.ptr rc 0, .ptr ac 0, .ptr ec 0]).tm 6 (faultV e)) 3 (faultV e)) 3 = faultV e := by simp
  generalize Go.Ab.upd (Go.Ab.upd (s0 [.ptr rc 0, .ptr ac 0, .ptr ec 0]).tm 6 (faultV e)) 3 (faultV e) = tm0 at *
  simp only [F13.k6, F13.t6, e3]
  refine ⟨if20, ?_⟩
  show F13.k5 _ _ _ ⟨puts tm0 [(7, faultV e), (8, .sc (.bool true))], []⟩ h
  have g0 : puts tm0 [(7, faultV e), (8, .sc (.bool true))] 0 = .ptr rc 0 := by simp [e0]
  have g1 : puts tm0 [(7, faultV e), (8, .sc (.bool true))] 1 = .ptr ac 0 := by simp [e1]
  have g2 : puts tm0 [(7, faultV e), (8, .sc (.bool true))] 2 = .ptr ec 0 := by simp [e2]
  have g3 : puts tm0 [(7, faultV e), (8, .sc (.bool true))] 3 = faultV e := by simp [e3]
  have g8 : puts tm0 [(7, faultV e), (8, .sc (.bool true))] 8 = .sc (.bool true) := by simp
  generalize puts tm0 [(7, faultV e), (8, .sc (.bool true))] = tm1 at *
  simp only [F13.k5, F13.t5, g8, aIf_b, Bool.true_eq_false, false_implies, true_implies, and_true]
  simp only [F13.k4, F13.t4, g3]
  simp [-F13.k1, faultV, AH.alloc_obj]
  have f4 := ((Fr.refl (h := h) (S := fun _ => False)).alloc (mkO [.sc (.int .i64 0), .sc (.int .i64 0)] 2 47)).put (id := h.next) (off := 0) (cs := [.sc (.int .i64 e.1), .sc (.int .i64 e.2)]) (.inr (Nat.le_refl _))
  have o4 : ((h.alloc (mkO [.sc (.int .i64 0), .sc (.int .i64 0)] 2 47)).put h.next 0 [.sc (.int .i64 e.1), .sc (.int .i64 e.2)]).obj h.next = some (mkO [.sc (.int .i64 e.1), .sc (.int .i64 e.2)] 2 47) := by simp [AH.put_obj, AH.alloc_obj]
  have p1 := f4.obj h1 fun h => h
  have p2 := f4.obj h2 fun h => h
  have p3 := f4.obj h3 fun h => h
  generalize (h.alloc (mkO [.sc (.int .i64 0), .sc (.int .i64 0)] 2 47)).put h.next 0 [.sc (.int .i64 e.1), .sc (.int .i64 e.2)] = h4 at *
  simp only [F13.k1, F13.t1]
  refine ⟨fun _ => h.next, by simp [o4], ?_⟩
  have q1 : rc ≠ h.next := by omega
  have q2 : ac ≠ h.next := by omega
  simp [g0, g1, g2, o4, p1, p2, p3, AH.put_obj, hM.1, hM.2.1, hM.2.2, q1, q2, d12, d13, d23, Ne.symm d12, Ne.symm d13, Ne.symm d23]
  refine ⟨⟨.inl hM.1, fun i _ => q1⟩, ⟨.inl hM.2.1, fun i _ => q2⟩, ?_⟩
  refine hR _ ?_ ?_ ?_ ?_
  · simp [AH.put_obj, p1, d12, d13]
  · simp [AH.put_obj, p2, d23, Ne.symm d12]
  · simp [AH.put_obj, p3, Ne.symm d13, Ne.symm d23]
  · exact (((f4.mono fun _ h => h.elim).put (.inl (.inl rfl))).put (.inl (.inr (.inl rfl)))).put (.inl (.inr (.inr rfl)))
end
end Go.Proofs.Ythkkgbmjjpcfaaa

namespace Go.Proofs.Ythkkgbmjjpcfaaa
open Go.Ab
theorem runS_all (p : Int → Bool) (s : ByteArray) : ∀ (n i : Nat), s.size - i = n → ∀ j, i ≤ j → j < runS p s i → p (byteAt s j) = true := by
  intro n
  induction n with
  | zero => intro i h j h1 h2; rw [runS, dif_neg (by omega)] at h2; omega
  | succ n ih =>
    intro i h j h1 h2
    have hi : i < s.size := by omega
    rw [runS, dif_pos hi] at h2
    split at h2
    · rename_i hp
      by_cases e : i = j
      · subst e; simpa [byteAt, hi] using hp
      · exact ih (i + 1) (by omega) j (by omega) h2
    · omega
theorem extract_mem {s : ByteArray} {a b : Nat} {c : UInt8} (h : c ∈ (s.extract a b).data.toList) : ∃ j, a ≤ j ∧ j < b ∧ j < s.size ∧ byteAt s j = c.toNat := by
  rw [ByteArray.data_extract, Array.toList_extract, List.extract_eq_take_drop] at h
  obtain ⟨k, hk, rfl⟩ := List.mem_iff_getElem.1 h
  simp only [List.length_take, List.length_drop, Array.length_toList] at hk
  refine ⟨a + k, by omega, by omega, by have : s.data.size = s.size := rfl; omega, ?_⟩
  have hs : a + k < s.size := by have : s.data.size = s.size := rfl; omega
  simp [byteAt, hs]
  rfl
theorem extract_size (s : ByteArray) (a b : Nat) : (s.extract a b).size ≤ s.size := by rw [ByteArray.size_extract]; omega
def TokOK (s : ByteArray) (t : Tok) : Prop := t.text.size ≤ s.size ∧ (t.kind = 2 → ∀ c ∈ t.text.data.toList, 48 ≤ c.toNat ∧ c.toNat ≤ 57)
theorem lexAt_ok {s : ByteArray} {i j : Nat} {t : Tok} (h : lexAt s i (byteAt s i) = .tok t j) : TokOK s t := by
  unfold lexAt at h
  split at h
  · cases h
  split at h
  · cases h
  split at h
  · cases h; exact ⟨extract_size _ _ _, fun h => by cases h⟩
  split at h
  · split at h
    · cases h
    · cases h
      refine ⟨extract_size _ _ _, fun _ c hc => ?_⟩
      obtain ⟨k, h1, h2, h3, h4⟩ := extract_mem hc
      have := runS_all isDigit s _ i rfl k h1 h2
      rw [h4] at this
      simp [isDigit] at this
      omega
  split at h
  · cases h; exact ⟨extract_size _ _ _, fun h => by cases h⟩
  · cases h
theorem scanS_ok {s : ByteArray} : ∀ (n i : Nat) (acc l : List Tok), s.size - i = n → scanS s i acc = .ok l → acc.length ≤ i → i ≤ s.size → (∀ t ∈ acc, TokOK s t) → l.length ≤ s.size ∧ ∀ t ∈ l, TokOK s t := by
  intro n
  induction n using Nat.strongRecOn with
  | _ n ih =>
    intro i acc l hn h ha hi hok
    rw [scanS] at h
    split at h
    · rename_i hlt
      split at h
      · split at h
        · rename_i j _ hj
          by_cases hjs : j ≤ s.size
          · exact ih (s.size - j) (by omega) j acc l rfl h (by omega) hjs hok
          · rw [scanS, dif_neg (by omega)] at h; cases h; exact ⟨by omega, hok⟩
        · cases h
      · rename_i t j hl
        have hok' : ∀ t' ∈ acc ++ [t], TokOK s t' := by
          intro t' ht'
          rcases List.mem_append.1 ht' with ht' | ht'
          · exact hok t' ht'
          · simp only [List.mem_singleton] at ht'; subst ht'; exact lexAt_ok hl
        split at h
        · rename_i hj
          by_cases hjs : j ≤ s.size
          · exact ih (s.size - j) (by omega) j _ l rfl h (by simp; omega) hjs hok'
          · rw [scanS, dif_neg (by omega)] at h; cases h; exact ⟨by simp; omega, hok'⟩
        · cases h
      · cases h
    · cases h; exact ⟨by omega, hok⟩
theorem scan_LOK {s : ByteArray} {l : List Tok} (hs : s.size ≤ 65536) (h : scanS s 0 [] = .ok l) : LOK l := by
  obtain ⟨h1, h2⟩ := scanS_ok _ 0 [] l rfl h (by simp) (by omega) (by simp)
  exact ⟨by omega, fun t ht => (h2 t ht).2, fun t ht => Nat.le_trans (h2 t ht).1 hs⟩
def parseP (s : ByteArray) : Res (List Row) :=
  if 65536 < s.size then .error (0, 1)
  else match scanS s 0 [] with
  | .error p => .error (p, 90)
  | .ok L => topP L s.size (L.length + 1) 0 []
end Go.Proofs.Ythkkgbmjjpcfaaa

namespace Go.Proofs.Ythkkgbmjjpcfaaa
open Go.Ab
section
variable (W : Nat → Prop) (Q : Post) (QP : PPost) (s : St) (h : AH)
theorem F8_A2 (C : KT) : aw Try.prog 36 W F8.pl (Code.at F8.code [1, 1, 0]) (thenQ C Q) QP s h = F8.t11 s h (fun s h => F8.t10 s h C (fun s h => F8.t9 W s h C (fun s h => F8.t8 Q s h C))) C := by
  have o5 : ∀ s h, aw Try.prog 36 W F8.pl (Code.at F8.code [1, 1, 0, 1, 0]) (thenQ C Q) QP s h = F8.t9 W s h C (fun s h => F8.t8 Q s h C) := fun s h =>
    nd_seq (a := (Code.at F8.code [1, 1, 0, 1, 0, 0])) (b := (Code.at F8.code [1, 1, 0, 1, 0, 1])) (by kernel_rfl) (fun s h => F8.k8_a W Q QP s h C) (F8.k9_a W Q QP s h C _)
  have k10 : ∀ s h, aw Try.prog 36 W F8.pl (Code.at F8.code [1, 1, 0, 1]) (thenQ C Q) QP s h = F8.t10 s h C (fun s h => F8.t9 W s h C (fun s h => F8.t8 Q s h C)) := fun s h =>
    nd_cond (o := .tmp 14) (a := (Code.at F8.code [1, 1, 0, 1, 0])) (b := (Code.at F8.code [1, 1, 0, 1, 1])) (by kernel_rfl) (o5 s h) rfl (F8.k10_a W Q QP s h C (fun s h => F8.t9 W s h C (fun s h => F8.t8 Q s h C)))
  exact nd_seq (a := (Code.at F8.code [1, 1, 0, 0])) (b := (Code.at F8.code [1, 1, 0, 1])) (by kernel_rfl) k10 (F8.k11_a W Q QP s h _ C)
theorem F8_A6 (C : KT) : aw Try.prog 36 W F8.pl (Code.at F8.code [1, 1, 1, 1, 1, 0, 0, 0, 0]) (thenQ C Q) QP s h = F8.t4 s h C (fun s h => F8.t3 Q s h C) :=
  nd_seq (a := (Code.at F8.code [1, 1, 1, 1, 1, 0, 0, 0, 0, 0])) (b := (Code.at F8.code [1, 1, 1, 1, 1, 0, 0, 0, 0, 1])) (by kernel_rfl)
    (fun s h => nd_cond (o := .tmp 29) (a := (Code.at F8.code [1, 1, 1, 1, 1, 0, 0, 0, 0, 1, 0])) (b := (Code.at F8.code [1, 1, 1, 1, 1, 0, 0, 0, 0, 1, 1])) (by kernel_rfl) rfl rfl (F8.k3_a W Q QP s h C)) (F8.k4_a W Q QP s h C _)
theorem F8_R7 (K : KT) (KP : St → AV → AH → Prop) : evS Try.prog 36 W (regOps (Code.at F8.code [1, 1, 1, 1, 1, 0, 0, 0, 1, 0])) (List.range (regOps (Code.at F8.code [1, 1, 1, 1, 1, 0, 0, 0, 1, 0])).size) K KP s h =
    (aCall Try.prog W 14 [(s.tm 6), (.sc (.int .i64 0))] h (fun t8 h9 => K ⟨puts s.tm [(30, (s.tm 6)), (31, t8)], s.ds⟩ h9) (KP ⟨puts s.tm [(30, (s.tm 6))], s.ds⟩)) := by kernel_rfl
theorem F8_c0 : F8.code = .seq (Code.at F8.code [0]) (Code.at F8.code [1]) := by kernel_rfl
theorem F8_c1 : Code.at F8.code [1] = .seq (Code.at F8.code [1, 0]) (Code.at F8.code [1, 1]) := by kernel_rfl
theorem F8_c2 : Code.at F8.code [1, 1] = .seq (Code.at F8.code [1, 1, 0]) (Code.at F8.code [1, 1, 1]) := by kernel_rfl
theorem F8_c3 : Code.at F8.code [1, 1, 1] = .seq (Code.at F8.code [1, 1, 1, 0]) (Code.at F8.code [1, 1, 1, 1]) := by kernel_rfl
theorem F8_c4 : Code.at F8.code [1, 1, 1, 1] = .seq (Code.at F8.code [1, 1, 1, 1, 0]) (Code.at F8.code [1, 1, 1, 1, 1]) := by kernel_rfl
theorem F8_c5 : Code.at F8.code [1, 1, 1, 1, 1] = .seq (Code.at F8.code [1, 1, 1, 1, 1, 0]) (Code.at F8.code [1, 1, 1, 1, 1, 1]) := by kernel_rfl
theorem F8_c6 : Code.at F8.code [1, 1, 1, 1, 1, 0] = .block 0 (Code.at F8.code [1, 1, 1, 1, 1, 0, 0]) := by kernel_rfl
theorem F8_c7 : Code.at F8.code [1, 1, 1, 1, 1, 0, 0] = .loop F8.c1 := by kernel_rfl
theorem F8_c8 : F8.c1 = .seq (Code.at F8.code [1, 1, 1, 1, 1, 0, 0, 0, 0]) (Code.at F8.code [1, 1, 1, 1, 1, 0, 0, 0, 1]) := by kernel_rfl
theorem F8_c9 : Code.at F8.code [1, 1, 1, 1, 1, 0, 0, 0, 1] = .block 1 (Code.at F8.code [1, 1, 1, 1, 1, 0, 0, 0, 1, 0]) := by kernel_rfl
theorem F8_c10 : Code.at F8.code [1, 1, 1, 1, 1, 0, 0, 0, 1, 0] = .region 7 (regOps (Code.at F8.code [1, 1, 1, 1, 1, 0, 0, 0, 1, 0])) false := by kernel_rfl
end
end Go.Proofs.Ythkkgbmjjpcfaaa

namespace Go.Proofs.Ythkkgbmjjpcfaaa
open Go.Ab
def ParseR (s : ByteArray) (h : AH) (R : AE → AH → Prop) : Prop :=
  Outc (parseP s) (fun rows => ∀ x h', RowsAt h' x rows → InS (h.next ≤ ·) x → Fr h h' (fun _ => False) → R (.ret (.tup [x, .sc (.int .i64 0), .sc (.int .i64 0)])) h')
    (fun e => ∀ h', Fr h h' (fun _ => False) → R (.ret (.tup [nilS, .sc (.int .i64 e.1), .sc (.int .i64 e.2)])) h')
abbrev o1 (x : AV) (ty : TypeId) : AO := mkO [x] 1 ty
/-- Where the results lie. -/
structure RC (h : AH) (rc ac ec : Nat) (x y z : AV) : Prop where
  r : h.obj rc = some (o1 x 23)
  a : h.obj ac = some (o1 y 3)
  e : h.obj ec = some (o1 z 26)
theorem RC.ne {h : AH} {rc ac ec : Nat} {x y z : AV} (c : RC h rc ac ec x y z) : rc ≠ ac ∧ rc ≠ ec ∧ ac ≠ ec :=
  ⟨obj_ne c.r c.a (show (23 : Nat) ≠ 3 by decide), obj_ne c.r c.e (show (23 : Nat) ≠ 26 by decide), obj_ne c.a c.e (show (3 : Nat) ≠ 26 by decide)⟩
theorem RC.res {h : AH} {rc ac ec : Nat} {x y z : AV} (c : RC h rc ac ec x y z) {s : St} (e2 : s.tm 2 = .ptr rc 0) (e3 : s.tm 3 = .ptr ac 0) (e4 : s.tm 4 = .ptr ec 0) {K : List AV → Prop} (hK : K [x, y, z]) : aRes Try.prog Try.f8.results.toList s h K := by
  have : Try.f8.results.toList = [.cell 2 23, .cell 3 3, .cell 4 26] := rfl
  rw [this]
  have a1 : aggOf Try.prog 23 = some false := by kernel_rfl
  have a2 : aggOf Try.prog 3 = some false := by kernel_rfl
  have a3 : aggOf Try.prog 26 = some false := by kernel_rfl
  simp [aRes, e2, e3, e4, a1, a2, a3, c.r, c.a, c.e]
  exact hK
theorem RC.fr {h h' : AH} {rc ac ec : Nat} {x y z : AV} (c : RC h rc ac ec x y z) {S : Nat → Prop} (hf : Fr h h' S) (h1 : ¬ S rc) (h2 : ¬ S ac) (h3 : ¬ S ec) : RC h' rc ac ec x y z := ⟨hf.obj c.r h1, hf.obj c.a h2, hf.obj c.e h3⟩
section
variable {h : AH} {M : Nat → Prop} {R : AE → AH → Prop} {E : Env} {w : World}
theorem step_back {hr : Rel E h w} {E' : Env} {h' : AH} {w' : World} (hs : Step E h (fun id => M id ∨ h.next ≤ id) w E' h' w') : Step E h M w E' h' w' := (Step.refl hr).trans hr hs fun _ _ hm => hm
/-- The function returns, its one deferred call still to be made. -/
theorem F8_ret (hr : Rel E h w) {s : St} {h' : AH} {rc ac ec : Nat} {x y z : AV} (hds : s.ds = [⟨.func 13, [.ptr rc 0, .ptr ac 0, .ptr ec 0], []⟩]) (e2 : s.tm 2 = .ptr rc 0) (e3 : s.tm 3 = .ptr ac 0) (e4 : s.tm 4 = .ptr ec 0) (c : RC h' rc ac ec x y z)
    (hR : R (.ret (.tup [x, y, z])) h') : toC 36 (fun id => M id ∨ h.next ≤ id) E h w (bodyPostD Try.prog Try.f8 (RcOf E h M w R)) .ret s h' := by
  intro e E' w' a hx hs ha
  cases e <;> first | exact hx.elim | skip
  exact leave_ret (M' := fun _ => False) hr (step_back (hr := hr) hs) ha hds rfl (fun _ _ h => h.elim) (F13_ret (R := fun h2 => aRes Try.prog Try.f8.results.toList s h2 fun vs => R (.ret (tupOf vs)) h2) (c.res e2 e3 e4 hR))
/-- It returns before any call was deferred. -/
theorem F8_ret0 (hr : Rel E h w) {s : St} {h' : AH} {rc ac ec : Nat} {x y z : AV} (hds : s.ds = []) (e2 : s.tm 2 = .ptr rc 0) (e3 : s.tm 3 = .ptr ac 0) (e4 : s.tm 4 = .ptr ec 0) (c : RC h' rc ac ec x y z)
    (hR : R (.ret (.tup [x, y, z])) h') : toC 36 (fun id => M id ∨ h.next ≤ id) E h w (bodyPostD Try.prog Try.f8 (RcOf E h M w R)) .ret s h' := by
  intro e E' w' a hx hs ha
  cases e <;> first | exact hx.elim | skip
  have hd : a.defers = [] := by
    have := ha.ds
    rw [hds] at this
    generalize a.defers = l at this
    cases this; rfl
  show Leaves Try.prog Try.f8 a.tmps _ a.defers _ _
  rw [hd]
  exact leave_res (step_back (hr := hr) hs) ha (c.res e2 e3 e4 hR)
/-- It panics with a fault. -/
theorem F8_pan (hr : Rel E h w) {s : St} {h' : AH} {rc ac ec : Nat} {x y z : AV} {f : Int × Int} (hds : s.ds = [⟨.func 13, [.ptr rc 0, .ptr ac 0, .ptr ec 0], []⟩]) (e2 : s.tm 2 = .ptr rc 0) (e3 : s.tm 3 = .ptr ac 0) (e4 : s.tm 4 = .ptr ec 0) (c : RC h' rc ac ec x y z)
    (n1 : h.next ≤ rc) (n2 : h.next ≤ ac) (n3 : h.next ≤ ec) (hf : Fr h h' (fun _ => False)) (hR : ∀ h2, Fr h h2 (fun _ => False) → R (.ret (.tup [nilS, .sc (.int .i64 f.1), .sc (.int .i64 f.2)])) h2)
    {E' : Env} {w' : World} {a : Act} {u : Value} (hs : Step E h (fun id => M id ∨ h.next ≤ id) w E' h' w') (ha : AR E' 36 s a) (hu : VR E' (faultV f) u) :
    bodyPostD Try.prog Try.f8 (RcOf E h M w R) (.panic [{ v := u, recovered := false }]) a w' := by
  refine leave_pan (M' := fun id => id = rc ∨ id = ac ∨ id = ec) hr (step_back (hr := hr) hs) ha hds rfl hu (fun id _ hm => .inr ?_) (F13_pan ⟨.inl rfl, .inr (.inl rfl), .inr (.inr rfl)⟩ c.r c.a c.e ?_)
  · rcases hm with hm | hm | hm <;> omega
  · intro h2 a1 a2 a3 f2
    refine RC.res ⟨a1, a2, a3⟩ e2 e3 e4 (hR h2 (hf.trans (f2.mono fun id hid => .inr ?_)))
    rcases hid with hm | hm | hm <;> omega
end
end Go.Proofs.Ythkkgbmjjpcfaaa

namespace Go.Proofs.Ythkkgbmjjpcfaaa
open Go.Ab
theorem RowsAt.cell {h : AH} {x : AV} {rows : List Row} (hr : RowsAt h x rows) : avCells x = some [x] ∧ oneA x = true := by
  obtain ⟨l, h1, _, _⟩ := hr
  rcases h1 with ⟨rfl, _⟩ | ⟨id, rfl, _⟩ <;> exact ⟨rfl, rfl⟩
abbrev D8 (rc ac ec : Nat) : List ADef := [⟨.func 13, [.ptr rc 0, .ptr ac 0, .ptr ec 0], []⟩]
structure T8 (s : St) (rc ac ec r : Nat) (tk : AV) : Prop where
  ds : s.ds = D8 rc ac ec
  e2 : s.tm 2 = .ptr rc 0
  e3 : s.tm 3 = .ptr ac 0
  e4 : s.tm 4 = .ptr ec 0
  e5 : s.tm 5 = tk
  e6 : s.tm 6 = .ptr r 0
theorem T8.puts {s : St} {rc ac ec r : Nat} {tk : AV} (t : T8 s rc ac ec r tk) (l : List (Nat × AV)) (hl : ∀ x ∈ l, 6 < x.1) : T8 ⟨puts s.tm l, s.ds⟩ rc ac ec r tk := by
  have key : ∀ (l : List (Nat × AV)) (tm : Nat → AV) (i : Nat), i ≤ 6 → (∀ x ∈ l, 6 < x.1) → Go.Ab.puts tm l i = tm i := by
    intro l
    induction l with
    | nil => intro tm i _ _; rfl
    | cons x l ih =>
      intro tm i hi hl
      have hx := hl x (by simp)
      show Go.Ab.puts (Go.Ab.upd tm x.1 x.2) l i = tm i
      rw [ih _ i hi (fun y hy => hl y (by simp [hy])), upd_ne (by omega)]
  exact ⟨t.ds, (key l _ _ (by omega) hl).trans t.e2, (key l _ _ (by omega) hl).trans t.e3, (key l _ _ (by omega) hl).trans t.e4, (key l _ _ (by omega) hl).trans t.e5, (key l _ _ (by omega) hl).trans t.e6⟩
section
variable {h : AH} {M : Nat → Prop} {R : AE → AH → Prop} {E : Env} {w : World}
theorem F8_end (hr : Rel E h w) {s : St} {h' : AH} {rc ac ec r : Nat} {tk x y z rv c0 c1 c2 : AV} {rows : List Row} (t : T8 s rc ac ec r tk) (c : RC h' rc ac ec x y z) (n1 : h.next ≤ rc) (n2 : h.next ≤ ac) (n3 : h.next ≤ ec) (hro : h'.obj r = some (mkO [c0, c1, c2, rv] 4 51)) (hrows : RowsAt h' rv rows) (hf : Fr h h' (fun _ => False))
    (hR : ∀ h2, RowsAt h2 rv rows → Fr h h2 (fun _ => False) → R (.ret (.tup [rv, .sc (.int .i64 0), .sc (.int .i64 0)])) h2) :
    TC Try.prog 36 (fun id => M id ∨ h.next ≤ id) E h w (Code.at F8.code [1, 1, 1, 1, 1, 1]) (bodyPostD Try.prog Try.f8 (RcOf E h M w R)) s h' := by
  refine TC_of Try.mixed hr (pl := F8.pl) (by kernel_rfl) ?_
  rw [F8.k1_ok]
  obtain ⟨d12, d13, d23⟩ := c.ne
  simp only [F8.k1, F8.t1, t.e6, t.e2, t.e3, t.e4, pNil_ptr, pFld_ptr, lLd_f, hro, ldk_mk, Nat.zero_add, List.getElem?_cons_succ, List.getElem?_cons_zero, cellK_some, eStore_f, c.r, hrows.cell.1, stk_mk]
  refine ⟨⟨.inr n1, by rw [List.all_cons, hrows.cell.2]; rfl, rfl, by simp⟩, ?_⟩
  have ca := c.a
  have ce := c.e
  have cr := c.r
  simp only [AH.put_obj, d12, d13, d23, Ne.symm d12, Ne.symm d13, Ne.symm d23, if_false, ca, ce, avC_int, stk_mk]
  refine ⟨⟨.inr n2, rfl, rfl, by simp⟩, ⟨.inr n3, rfl, rfl, by simp⟩, ?_⟩
  have f3 : Fr h' (((h'.put rc 0 [rv]).put ac 0 [.sc (.int .i64 0)]).put ec 0 [.sc (.int .i64 0)]) (fun id => id = rc ∨ id = ac ∨ id = ec) := ((Fr.refl.put (.inl (.inl rfl))).put (.inl (.inr (.inl rfl)))).put (.inl (.inr (.inr rfl)))
  have rw3 : RowsAt (((h'.put rc 0 [rv]).put ac 0 [.sc (.int .i64 0)]).put ec 0 [.sc (.int .i64 0)]) rv rows := by
    refine hrows.fr f3 (fun id he hid => ?_) (fun id o ho ht hid => ?_)
    · obtain ⟨_, _, o, ho, ht⟩ := hrows.id he
      rcases hid with h1 | h1 | h1
      · exact obj_ne ho cr (by rw [ht]; show (36 : Nat) ≠ 23; decide) h1
      · exact obj_ne ho ca (by rw [ht]; show (36 : Nat) ≠ 3; decide) h1
      · exact obj_ne ho ce (by rw [ht]; show (36 : Nat) ≠ 26; decide) h1
    · rcases hid with h1 | h1 | h1
      · exact obj_ne ho cr (by rw [ht]; show (53 : Nat) ≠ 23; decide) h1
      · exact obj_ne ho ca (by rw [ht]; show (53 : Nat) ≠ 3; decide) h1
      · exact obj_ne ho ce (by rw [ht]; show (53 : Nat) ≠ 26; decide) h1
  have t3 := t.puts [(32, .ptr r 0), (33, .ptr r 0), (34, .ptr r 3), (35, rv)] (by simp)
  refine F8_ret (x := rv) (y := .sc (.int .i64 0)) (z := .sc (.int .i64 0)) hr t3.ds t3.e2 t3.e3 t3.e4 ⟨?_, ?_, ?_⟩ (hR _ rw3 (hf.trans (f3.mono fun id hid => .inr ?_)))
  · simp [AH.put_obj, cr, d12, d13]
  · simp [AH.put_obj, ca, d23, Ne.symm d12]
  · simp [AH.put_obj, ce, Ne.symm d13, Ne.symm d23]
  · rcases hid with h1 | h1 | h1 <;> omega
theorem F8_loop {L : List Tok} {en : Int} (hr : Rel E h w) (hL : LOK L) {s : St} {h1 : AH} {rc ac ec r tk : Nat} (t : T8 s rc ac ec r (.sl tk 0 L.length)) (c : RC h1 rc ac ec nilS (.sc (.int .i64 0)) (.sc (.int .i64 0))) (n1 : h.next ≤ rc) (n2 : h.next ≤ ac) (n3 : h.next ≤ ec) (n4 : h.next ≤ r)
    (rs : RS h1 r tk L en 0 nilS []) (hf : Fr h h1 (fun _ => False))
    (hR : Outc (topP L en (L.length + 1) 0 []) (fun rows => ∀ x h', RowsAt h' x rows → InS (h.next ≤ ·) x → Fr h h' (fun _ => False) → R (.ret (.tup [x, .sc (.int .i64 0), .sc (.int .i64 0)])) h')
    (fun e => ∀ h', Fr h h' (fun _ => False) → R (.ret (.tup [nilS, .sc (.int .i64 e.1), .sc (.int .i64 e.2)])) h')) :
    TC Try.prog 36 (fun id => M id ∨ h.next ≤ id) E h w (Code.at F8.code [1, 1, 1, 1, 1]) (bodyPostD Try.prog Try.f8 (RcOf E h M w R)) s h1 := by
  rw [F8_c5]
  refine TC_seq ?_
  refine TC_block F8_c6 ?_
  generalize hX : topP L en (L.length + 1) 0 [] = X at hR
  have hL0 := hL.len
  refine TC_loop (ι := Nat × Nat × List Row × AV) F8_c7 (fun x s' h' => T8 s' rc ac ec r (.sl tk 0 L.length) ∧ RC h' rc ac ec nilS (.sc (.int .i64 0)) (.sc (.int .i64 0)) ∧ RS h' r tk L en x.2.1 x.2.2.2 x.2.2.1 ∧ Fr h h' (fun _ => False) ∧ InS (h.next ≤ ·) x.2.2.2 ∧
    x.2.1 ≤ L.length ∧ L.length < x.2.1 + x.1 ∧ x.2.2.1.length ≤ x.2.1 ∧ topP L en x.1 x.2.1 x.2.2.1 = X) (fun x => x.1) (L.length + 1, 0, [], nilS) ?_ ?_
  · exact ⟨t, c, rs, hf, (fun _ _ _ he => by cases he), Nat.zero_le _, by simp, by simp, hX⟩
  rintro ⟨n, p, acc, rv⟩ s' h' ⟨t', c', rs', hf', in', hp, hpn, hacc, hX'⟩
  simp only at rs' in' hp hpn hacc hX'
  cases n with
  | zero => omega
  | succ n =>
    simp only [topP] at hX'
    refine TC_then Try.mixed hr (pl := F8.pl) F8_c8 (by kernel_rfl) ?_
    rw [F8_A6]
    have hl : pLen (.sl tk 0 L.length) = fun K => K (.sc (.int .i64 L.length)) := rfl
    simp only [F8.t4, t'.e6, t'.e5, pNil_ptr, pFld_ptr, lLd_f, rs'.r, ldk_mk, Nat.zero_add, List.getElem?_cons_succ, List.getElem?_cons_zero, cellK_some, strArg_sl, true_and, pLen_sl, pBin_lss]
    by_cases hlt : p < L.length
    · rw [if_pos hlt] at hX'
      have hd : decide ((p : Int) < (L.length : Nat)) = true := by simpa using hlt
      rw [hd]
      have t2 := t'.puts [(23, .ptr r 0), (24, .ptr r 0), (25, .ptr r 1), (26, .sc (.int .i64 p)), (27, .sl tk 0 L.length), (28, .sc (.int .i64 L.length)), (29, .sc (.bool true))] (by simp)
      have e29 : Go.Ab.puts s'.tm [(23, .ptr r 0), (24, .ptr r 0), (25, .ptr r 1), (26, .sc (.int .i64 p)), (27, .sl tk 0 L.length), (28, .sc (.int .i64 L.length)), (29, .sc (.bool true))] 29 = .sc (.bool true) := by simp
      generalize Go.Ab.puts s'.tm [(23, .ptr r 0), (24, .ptr r 0), (25, .ptr r 1), (26, .sc (.int .i64 p)), (27, .sl tk 0 L.length), (28, .sc (.int .i64 L.length)), (29, .sc (.bool true))] = tm2 at *
      simp only [F8.t3, e29, aIf_b, Bool.true_eq_false, false_implies, true_implies, and_true]
      refine TC_block F8_c9 ?_
      refine TC_region hr F8_c10 (K := fun s2 h2 => T8 s2 rc ac ec r (.sl tk 0 L.length) ∧ RC h2 rc ac ec nilS (.sc (.int .i64 0)) (.sc (.int .i64 0)) ∧ ∃ p2 new rv2, stmtP L en 32 p = .ok (p2, new) ∧ RS h2 r tk L en p2 rv2 (acc ++ new) ∧ Fr h h2 (fun _ => False) ∧ InS (h.next ≤ ·) rv2)
        (KP := fun s2 v h2 => T8 s2 rc ac ec r (.sl tk 0 L.length) ∧ RC h2 rc ac ec nilS (.sc (.int .i64 0)) (.sc (.int .i64 0)) ∧ Fr h h2 (fun _ => False) ∧ ∃ e, stmtP L en 32 p = .error e ∧ v = faultV e) ?_ ?_ ?_
      · rintro s2 h2 E2 w2 a2 ⟨t3, c3, p2, new, rv2, g1, g2, g3, g4⟩ hs2 ha2
        obtain ⟨b1, b2, b3⟩ := stmtP_ok 32 p p2 new g1
        rw [g1] at hX'
        exact ⟨(n, p2, acc ++ new, rv2), s2, h2, E2, by simp, ⟨t3, c3, g2, g3, g4, b2, by simp only; omega, by simp; omega, hX'⟩, hs2, ha2⟩
      · rintro s2 v h2 E2 w2 a2 u ⟨t3, c3, f3, e, g1, rfl⟩ hs2 ha2 hu
        rw [g1] at hX'
        rw [← hX'] at hR
        exact F8_pan hr t3.ds t3.e2 t3.e3 t3.e4 c3 n1 n2 n3 f3 hR hs2 ha2 hu
      · rw [F8_R7]
        rw [t2.e6]
        have not : ∀ i o, h'.obj i = some o → o.ty ≠ 51 → o.ty ≠ 36 → ¬ SS r rv i := by
          rintro i o ho h51 h36 (rfl | ⟨m, he⟩)
          · exact obj_ne ho rs'.r h51 rfl
          · obtain ⟨_, _, o', ho', ht⟩ := rs'.rows.id he
            rw [ho] at ho'; cases ho'; exact h36 ht
        refine ⟨SS r rv, fun id hid _ => .inr ?_, stmt_ok (en := en) hL 32 (by omega) (rv := rv) (rows := acc) (p := p) (by omega) (fun _ h => h) rs' hp hacc ?_⟩
        · rcases hid with hid | ⟨m, hid⟩
          · omega
          · exact in' id 0 m hid
        · have frr : ∀ h2, Fr h' h2 (SS r rv) → Fr h h2 (fun _ => False) := fun h2 f2 => hf'.trans (f2.mono fun id hid => .inr (by
            rcases hid with hid | ⟨m, hid⟩
            · omega
            · exact in' id 0 m hid))
          have rcc : ∀ h2, Fr h' h2 (SS r rv) → RC h2 rc ac ec nilS (.sc (.int .i64 0)) (.sc (.int .i64 0)) := fun h2 f2 => c'.fr f2 (not _ _ c'.r (by show (23 : Nat) ≠ 51; decide) (by show (23 : Nat) ≠ 36; decide)) (not _ _ c'.a (by show (3 : Nat) ≠ 51; decide) (by show (3 : Nat) ≠ 36; decide)) (not _ _ c'.e (by show (26 : Nat) ≠ 51; decide) (by show (26 : Nat) ≠ 36; decide))
          cases hst : stmtP L en 32 p with
          | error e =>
            intro h2 f2
            exact ⟨t2.puts [(30, .ptr r 0)] (by simp), rcc h2 f2, frr h2 f2, e, rfl, rfl⟩
          | ok x =>
            obtain ⟨p2, new⟩ := x
            intro h2 rv2 rs2 f2 i2
            refine ⟨t2.puts [(30, .ptr r 0), (31, _)] (by simp), rcc h2 f2, p2, new, rv2, rfl, rs2, frr h2 f2, fun id off m he => ?_⟩
            have h0 := (rs2.hrv he).1
            rcases i2 id off m he with (hid | ⟨m2, hid⟩) | hid
            · omega
            · exact in' id 0 m2 hid
            · exact Nat.le_trans hf'.next hid
    · rw [if_neg hlt] at hX'
      have hd : decide ((p : Int) < (L.length : Nat)) = false := by simpa using hlt
      rw [hd]
      rw [← hX'] at hR
      have t2 := t'.puts [(23, .ptr r 0), (24, .ptr r 0), (25, .ptr r 1), (26, .sc (.int .i64 p)), (27, .sl tk 0 L.length), (28, .sc (.int .i64 L.length)), (29, .sc (.bool false))] (by simp)
      have e29 : Go.Ab.puts s'.tm [(23, .ptr r 0), (24, .ptr r 0), (25, .ptr r 1), (26, .sc (.int .i64 p)), (27, .sl tk 0 L.length), (28, .sc (.int .i64 L.length)), (29, .sc (.bool false))] 29 = .sc (.bool false) := by simp
      generalize Go.Ab.puts s'.tm [(23, .ptr r 0), (24, .ptr r 0), (25, .ptr r 1), (26, .sc (.int .i64 p)), (27, .sl tk 0 L.length), (28, .sc (.int .i64 L.length)), (29, .sc (.bool false))] = tm2 at *
      simp only [F8.t3, e29, aIf_b, Bool.false_eq_true, false_implies, true_implies, true_and]
      intro e2 E2 w2 a2 hx hs2 ha2
      cases e2 <;> first | exact hx.elim | skip
      cases hx
      exact F8_end (M := M) hr t2 c' n1 n2 n3 rs'.r rs'.rows hf' (fun h2 r2 f2 => hR rv h2 r2 in' f2) E2 w2 a2 hs2 ha2
end
end Go.Proofs.Ythkkgbmjjpcfaaa

namespace Go.Proofs.Ythkkgbmjjpcfaaa
open Go.Ab
section
variable {h : AH} {M : Nat → Prop} {R : AE → AH → Prop} {E : Env} {w : World}
theorem F8_loop0 {en : Int} (hr : Rel E h w) {s : St} {h1 : AH} {rc ac ec r : Nat} (t : T8 s rc ac ec r nilS) (c : RC h1 rc ac ec nilS (.sc (.int .i64 0)) (.sc (.int .i64 0))) (n1 : h.next ≤ rc) (n2 : h.next ≤ ac) (n3 : h.next ≤ ec)
    (hro : h1.obj r = some (mkO [nilS, .sc (.int .i64 0), .sc (.int .i64 en), nilS] 4 51)) (hf : Fr h h1 (fun _ => False))
    (hR : ∀ x h', RowsAt h' x [] → InS (h.next ≤ ·) x → Fr h h' (fun _ => False) → R (.ret (.tup [x, .sc (.int .i64 0), .sc (.int .i64 0)])) h') :
    TC Try.prog 36 (fun id => M id ∨ h.next ≤ id) E h w (Code.at F8.code [1, 1, 1, 1, 1]) (bodyPostD Try.prog Try.f8 (RcOf E h M w R)) s h1 := by
  rw [F8_c5]
  refine TC_seq ?_
  refine TC_block F8_c6 ?_
  refine TC_loop (ι := Unit) F8_c7 (fun x s' h' => s' = s ∧ h' = h1) (fun _ => 0) () ⟨rfl, rfl⟩ ?_
  rintro _ s' h' ⟨e1, e2⟩
  rw [e1, e2]
  clear e1 e2
  refine TC_then Try.mixed hr (pl := F8.pl) F8_c8 (by kernel_rfl) ?_
  rw [F8_A6]
  simp only [F8.t4, t.e6, t.e5, pNil_ptr, pFld_ptr, lLd_f, hro, ldk_mk, Nat.zero_add, List.getElem?_cons_succ, List.getElem?_cons_zero, cellK_some, strArg_nil, true_and, pLen_nil, pBin_lss]
  have hd : decide ((0 : Int) < ((0 : Nat) : Int)) = false := by decide
  rw [hd]
  have t2 := t.puts [(23, .ptr r 0), (24, .ptr r 0), (25, .ptr r 1), (26, .sc (.int .i64 0)), (27, nilS), (28, .sc (.int .i64 (0 : Nat))), (29, .sc (.bool false))] (by simp)
  have e29 : Go.Ab.puts s.tm [(23, .ptr r 0), (24, .ptr r 0), (25, .ptr r 1), (26, .sc (.int .i64 0)), (27, nilS), (28, .sc (.int .i64 (0 : Nat))), (29, .sc (.bool false))] 29 = .sc (.bool false) := by simp
  generalize Go.Ab.puts s.tm [(23, .ptr r 0), (24, .ptr r 0), (25, .ptr r 1), (26, .sc (.int .i64 0)), (27, nilS), (28, .sc (.int .i64 (0 : Nat))), (29, .sc (.bool false))] = tm2 at *
  simp only [F8.t3, e29, aIf_b, Bool.false_eq_true, false_implies, true_implies, true_and]
  intro e2 E2 w2 a2 hx hs2 ha2
  cases e2 <;> first | exact hx.elim | skip
  cases hx
  exact F8_end (M := M) hr t2 c n1 n2 n3 hro RowsAt.nil hf (fun h2 r2 f2 => hR nilS h2 r2 (fun _ _ _ he => by cases he) f2) E2 w2 a2 hs2 ha2
end
section
variable (h : AH) (M : Nat → Prop) (R : AE → AH → Prop) (E : Env) (w : World)
/-- What follows the scanning, where there is no error. -/
def K8 : KT := TC Try.prog 36 (fun id => M id ∨ h.next ≤ id) E h w (Code.at F8.code [1, 1, 1]) (bodyPostD Try.prog Try.f8 (RcOf E h M w R))
def Y8 : KT := fun s h3 => F8.t9 (fun id => M id ∨ h.next ≤ id) s h3 (K8 h M R E w) (fun s h3 => F8.t8 (toC 36 (fun id => M id ∨ h.next ≤ id) E h w (bodyPostD Try.prog Try.f8 (RcOf E h M w R))) s h3 (K8 h M R E w))
def X8 : KT := fun s h3 => F8.t11 s h3 (fun s h3 => F8.t10 s h3 (K8 h M R E w) (Y8 h M R E w)) (K8 h M R E w)
end
structure S8 (tm : Nat → AV) (s : ByteArray) (rc ac ec : Nat) : Prop where
  e0 : tm 0 = .sc (.string s)
  e2 : tm 2 = .ptr rc 0
  e3 : tm 3 = .ptr ac 0
  e4 : tm 4 = .ptr ec 0
theorem puts_at {i : Nat} : ∀ (l : List (Nat × AV)) (tm : Nat → AV), (∀ x ∈ l, x.1 ≠ i) → puts tm l i = tm i
  | [], _, _ => rfl
  | x :: l, tm, hl => by
    have hx := hl x (by simp)
    show puts (upd tm x.1 x.2) l i = tm i
    rw [puts_at l _ (fun y hy => hl y (by simp [hy])), upd_ne (fun e => hx e.symm)]
theorem S8.puts {tm : Nat → AV} {s : ByteArray} {rc ac ec : Nat} (t : S8 tm s rc ac ec) (l : List (Nat × AV)) (hl : ∀ x ∈ l, 4 < x.1) : S8 (puts tm l) s rc ac ec :=
  ⟨(puts_at l tm fun x hx => by have := hl x hx; omega).trans t.e0, (puts_at l tm fun x hx => by have := hl x hx; omega).trans t.e2, (puts_at l tm fun x hx => by have := hl x hx; omega).trans t.e3, (puts_at l tm fun x hx => by have := hl x hx; omega).trans t.e4⟩
section
variable {h : AH} {M : Nat → Prop} {R : AE → AH → Prop} {E : Env} {w : World} {s : ByteArray} {rc ac ec : Nat}
theorem F8_up (hr : Rel E h w) {tm : Nat → AV} {h1 h2 : AH} {x : AV} {a e : Int} (t : S8 tm s rc ac ec) (n1 : h.next ≤ rc) (n2 : h.next ≤ ac) (n3 : h.next ≤ ec) (f0 : Fr h h1 (fun _ => False)) (c0 : RC h1 rc ac ec nilS (.sc (.int .i64 0)) (.sc (.int .i64 0))) (f2 : Fr h1 h2 (fun _ => False))
    (hk : ∀ tm2 h3, S8 tm2 s rc ac ec → tm2 5 = x → RC h3 rc ac ec nilS (.sc (.int .i64 a)) (.sc (.int .i64 e)) → Fr h h3 (fun _ => False) → (∀ id o, h2.obj id = some o → o.ty ≠ 3 → o.ty ≠ 26 → h3.obj id = some o) → X8 h M R E w ⟨tm2, []⟩ h3) :
    pExt (.tup [x, .sc (.int .i64 a), .sc (.int .i64 e)]) 0 fun t33 => pExt (.tup [x, .sc (.int .i64 a), .sc (.int .i64 e)]) 1 fun t34 => pExt (.tup [x, .sc (.int .i64 a), .sc (.int .i64 e)]) 2 fun t35 =>
        eStore (some 1) (.ptr ac 0) t34 h2 (fun id => M id ∨ h.next ≤ id) fun h36 => eStore (some 1) (.ptr ec 0) t35 h36 (fun id => M id ∨ h.next ≤ id) fun h37 =>
        TC Try.prog 36 (fun id => M id ∨ h.next ≤ id) E h w (Code.at F8.code [1, 1]) (bodyPostD Try.prog Try.f8 (RcOf E h M w R)) ⟨puts tm [(8, .sc (.string s)), (9, .tup [x, .sc (.int .i64 a), .sc (.int .i64 e)]), (7, .tup [x, .sc (.int .i64 a), .sc (.int .i64 e)]), (10, t33), (11, t34), (12, t35), (5, t33)], []⟩ h37 := by
  have c2 := c0.fr f2 (fun h => h) (fun h => h) (fun h => h)
  obtain ⟨d12, d13, d23⟩ := c0.ne
  have f5 := c2.e
  simp only [pExt_tup, List.getElem?_cons_zero, List.getElem?_cons_succ, cellK_some, eStore_f, c2.a, avC_int, stk_mk, AH.put_obj, Ne.symm d23, if_false, f5]
  refine ⟨⟨.inr n2, rfl, rfl, by simp⟩, ⟨.inr n3, rfl, rfl, by simp⟩, ?_⟩
  have t2 := t.puts [(8, .sc (.string s)), (9, .tup [x, .sc (.int .i64 a), .sc (.int .i64 e)]), (7, .tup [x, .sc (.int .i64 a), .sc (.int .i64 e)]), (10, x), (11, .sc (.int .i64 a)), (12, .sc (.int .i64 e)), (5, x)] (by simp)
  have t25 : Go.Ab.puts tm [(8, .sc (.string s)), (9, .tup [x, .sc (.int .i64 a), .sc (.int .i64 e)]), (7, .tup [x, .sc (.int .i64 a), .sc (.int .i64 e)]), (10, x), (11, .sc (.int .i64 a)), (12, .sc (.int .i64 e)), (5, x)] 5 = x := by simp
  have cc : RC ((h2.put ac 0 [.sc (.int .i64 a)]).put ec 0 [.sc (.int .i64 e)]) rc ac ec nilS (.sc (.int .i64 a)) (.sc (.int .i64 e)) :=
    ⟨by simp [AH.put_obj, c2.r, d12, d13], by simp [AH.put_obj, c2.a, d23], by simp [AH.put_obj, c2.e, Ne.symm d23]⟩
  have ff : Fr h ((h2.put ac 0 [.sc (.int .i64 a)]).put ec 0 [.sc (.int .i64 e)]) (fun _ => False) := ((f0.trans (f2.mono fun _ h => h.elim)).put (.inr n2)).put (.inr n3)
  have keep : ∀ id o, h2.obj id = some o → o.ty ≠ 3 → o.ty ≠ 26 → ((h2.put ac 0 [.sc (.int .i64 a)]).put ec 0 [.sc (.int .i64 e)]).obj id = some o := fun id o ho h3 h26 => by
    rw [AH.put_old (obj_ne ho c2.e h26), AH.put_old (obj_ne ho c2.a h3)]
    exact ho
  have := hk _ _ t2 t25 cc ff keep
  generalize Go.Ab.puts tm [(8, .sc (.string s)), (9, .tup [x, .sc (.int .i64 a), .sc (.int .i64 e)]), (7, .tup [x, .sc (.int .i64 a), .sc (.int .i64 e)]), (10, x), (11, .sc (.int .i64 a)), (12, .sc (.int .i64 e)), (5, x)] = tm3 at *
  refine TC_then Try.mixed hr (pl := F8.pl) F8_c2 (by kernel_rfl) ?_
  rw [F8_A2]
  exact this
theorem F8_errs (hr : Rel E h w) {a e : Int} (hne : e ≠ 0) (hR2 : ∀ h', Fr h h' (fun _ => False) → R (.ret (.tup [nilS, .sc (.int .i64 a), .sc (.int .i64 e)])) h') {tm2 : Nat → AV} {h3 : AH} (t : S8 tm2 s rc ac ec) (n1 : h.next ≤ rc) (n2 : h.next ≤ ac) (n3 : h.next ≤ ec)
    (c3 : RC h3 rc ac ec nilS (.sc (.int .i64 a)) (.sc (.int .i64 e))) (f3 : Fr h h3 (fun _ => False)) : X8 h M R E w ⟨tm2, []⟩ h3 := by
  obtain ⟨d12, d13, d23⟩ := c3.ne
  have hne' : (e != 0) = true := by simpa using hne
  unfold X8
  simp only [F8.t11, t.e4, lLd_f, c3.e, ldk_mk, List.getElem?_cons_zero, cellK_some, pBin_neq, hne']
  have k14 : puts tm2 [(13, .sc (.int .i64 e)), (14, .sc (.bool true))] 14 = .sc (.bool true) := by simp
  have t2 := t.puts [(13, .sc (.int .i64 e)), (14, .sc (.bool true))] (by simp)
  generalize Go.Ab.puts tm2 [(13, .sc (.int .i64 e)), (14, .sc (.bool true))] = tm3 at *
  simp only [F8.t10, k14, aIf_b, Bool.true_eq_false, false_implies, and_true, true_implies]
  unfold Y8
  simp only [F8.t9]
  refine ⟨fun i => if i = 0 then ac else ec, by simp [c3.a, c3.e], ?_⟩
  have ca := c3.a
  have ce := c3.e
  simp only [t2.e2, t2.e3, t2.e4, lLd_f, ca, ce, c3.r, ldk_mk, List.getElem?_cons_zero, cellK_some, eStore_f, avC_int, avC_sln, stk_mk, AH.put_obj, d12, d13, d23, Ne.symm d12, Ne.symm d13, Ne.symm d23, if_false]
  refine ⟨rfl, rfl, ⟨⟨.inr n1, ?_⟩, rfl, rfl, by simp⟩, ⟨⟨.inr n2, ?_⟩, rfl, rfl, by simp⟩, ⟨.inr n3, rfl, rfl, by simp⟩, ?_⟩
  · simp [d12, d13]
  · simp [d23]
  have t4 := t2.puts [(15, .sc (.int .i64 a)), (16, .sc (.int .i64 e))] (by simp)
  refine F8_ret0 (x := nilS) (y := .sc (.int .i64 a)) (z := .sc (.int .i64 e)) hr rfl t4.e2 t4.e3 t4.e4 ⟨?_, ?_, ?_⟩ (hR2 _ ?_)
  · simp [AH.put_obj, c3.r, d12, d13]
  · simp [AH.put_obj, ca, d23, Ne.symm d12]
  · simp [AH.put_obj, ce, Ne.symm d13, Ne.symm d23]
  · exact ((f3.put (.inr n1)).put (.inr n2)).put (.inr n3)
theorem F8_fine (hr : Rel E h w) {L : List Tok} (hL : LOK L) (hR : Outc (topP L s.size (L.length + 1) 0 []) (fun rows => ∀ x h', RowsAt h' x rows → InS (h.next ≤ ·) x → Fr h h' (fun _ => False) → R (.ret (.tup [x, .sc (.int .i64 0), .sc (.int .i64 0)])) h')
    (fun e => ∀ h', Fr h h' (fun _ => False) → R (.ret (.tup [nilS, .sc (.int .i64 e.1), .sc (.int .i64 e.2)])) h')) {tm2 : Nat → AV} {h3 : AH} {x : AV} (t : S8 tm2 s rc ac ec) (g5 : tm2 5 = x) (n1 : h.next ≤ rc) (n2 : h.next ≤ ac) (n3 : h.next ≤ ec)
    (c3 : RC h3 rc ac ec nilS (.sc (.int .i64 0)) (.sc (.int .i64 0))) (f3 : Fr h h3 (fun _ => False)) (hx : SlL Tok.enc 3 38 h3 x L) : X8 h M R E w ⟨tm2, []⟩ h3 := by
  have hne' : ((0 : Int) != 0) = false := by decide
  unfold X8
  simp only [F8.t11, t.e4, lLd_f, c3.e, ldk_mk, List.getElem?_cons_zero, cellK_some, pBin_neq, hne']
  have k14 : puts tm2 [(13, .sc (.int .i64 0)), (14, .sc (.bool false))] 14 = .sc (.bool false) := by simp
  have k5 : puts tm2 [(13, .sc (.int .i64 0)), (14, .sc (.bool false))] 5 = x := by simp [g5]
  have t2 := t.puts [(13, .sc (.int .i64 0)), (14, .sc (.bool false))] (by simp)
  generalize Go.Ab.puts tm2 [(13, .sc (.int .i64 0)), (14, .sc (.bool false))] = tm3 at *
  simp only [F8.t10, k14, aIf_b, Bool.false_eq_true, false_implies, true_and, true_implies]
  unfold K8
  refine TC_then Try.mixed hr (pl := F8.pl) F8_c3 (by kernel_rfl) ?_
  rw [F8.k7_a]
  simp only [F8.t7, t2.e2, t2.e3, t2.e4]
  show TC _ _ _ _ _ _ _ _ ⟨puts tm3 [(17, .fn (.func 13) [] [.ptr rc 0, .ptr ac 0, .ptr ec 0])], [⟨.func 13, [.ptr rc 0, .ptr ac 0, .ptr ec 0], []⟩]⟩ h3
  have j5 : puts tm3 [(17, .fn (.func 13) [] [.ptr rc 0, .ptr ac 0, .ptr ec 0])] 5 = x := by simp [k5]
  have t3 := t2.puts [(17, .fn (.func 13) [] [.ptr rc 0, .ptr ac 0, .ptr ec 0])] (by simp)
  generalize Go.Ab.puts tm3 [(17, .fn (.func 13) [] [.ptr rc 0, .ptr ac 0, .ptr ec 0])] = tm4 at *
  refine TC_then Try.mixed hr (pl := F8.pl) F8_c4 (by kernel_rfl) ?_
  rw [F8.k6_a]
  simp only [F8.t6, t3.e0, j5, strArg_s, true_and, pLen_s]
  have hxc : avCells x = some [x] ∧ oneA x = true := by
    rcases hx with ⟨rfl, _⟩ | ⟨id, rfl, _⟩ <;> exact ⟨rfl, rfl⟩
  refine ⟨[x, .sc (.int .i64 0), .sc (.int .i64 s.size), nilS], ?_, ?_⟩
  · simp [aFill, hxc.1]
  refine ⟨[x, .sc (.int .i64 0), .sc (.int .i64 s.size), nilS], rfl, by simp only [List.all_cons, hxc.2, List.all_nil]; rfl, ?_⟩
  have r5 := AH.alloc_new h3 (mkO [x, .sc (.int .i64 0), .sc (.int .i64 s.size), nilS] 4 51)
  have f5 := (Fr.refl (h := h3) (S := fun _ => False)).alloc (mkO [x, .sc (.int .i64 0), .sc (.int .i64 s.size), nilS] 4 51)
  have c5 := c3.fr f5 (fun h => h) (fun h => h) (fun h => h)
  have ff5 := f3.trans (f5.mono fun _ h => h.elim)
  have n4 : h.next ≤ h3.next := f3.next
  have t5 : ∀ u v2 : AV, T8 ⟨puts tm4 [(18, x), (19, .sc (.string s)), (20, .sc (.int .i64 s.size)), (21, u), (22, v2), (6, .ptr h3.next 0)], [⟨.func 13, [.ptr rc 0, .ptr ac 0, .ptr ec 0], []⟩]⟩ rc ac ec h3.next x := fun u v2 =>
    have tt := t3.puts [(18, x), (19, .sc (.string s)), (20, .sc (.int .i64 s.size)), (21, u), (22, v2), (6, .ptr h3.next 0)] (by simp)
    ⟨rfl, tt.e2, tt.e3, tt.e4, by simp [j5], by simp⟩
  rcases hx with ⟨rfl, rfl⟩ | ⟨id, rfl, ho⟩
  · exact F8_loop0 (M := M) hr (t5 _ _) c5 n1 n2 n3 r5 ff5 hR
  · exact F8_loop (M := M) (L := L) (en := s.size) (tk := id) hr hL (t5 _ _) c5 n1 n2 n3 n4 ⟨r5, f5.obj ho (fun h => h), .nil⟩ ff5 hR
end
theorem parse_ok {s : ByteArray} {h : AH} {M : Nat → Prop} {R : AE → AH → Prop} (hR : ParseR s h R) : ACalls Try.prog 8 [.sc (.string s)] h M R := by
  intro E w cargs hr ha
  refine calls_of_wp_defers (c := F8.code) Try.func8 rfl ?_
  have main : TC Try.prog 36 (fun id => M id ∨ h.next ≤ id) E h w F8.code (bodyPostD Try.prog Try.f8 (RcOf E h M w R)) (s0 [.sc (.string s)]) h := by
    refine TC_then Try.mixed hr (pl := F8.pl) F8_c0 (by kernel_rfl) ?_
    rw [F8.k13_a]
    simp only [F8.t13, eAlloc_d]
    refine ⟨rfl, rfl, rfl, ?_⟩
    simp only [AH.alloc_next]
    have c0 : RC (((h.alloc (mkO ([.slice none 0 0].map AV.sc) 1 23)).alloc (mkO ([.int .i64 0].map AV.sc) 1 3)).alloc (mkO ([.int .i64 0].map AV.sc) 1 26)) h.next (h.next + 1) (h.next + 2) nilS (.sc (.int .i64 0)) (.sc (.int .i64 0)) :=
      ⟨by simp [AH.alloc_obj, AH.alloc_next]; omega, by simp [AH.alloc_obj, AH.alloc_next], by simp [AH.alloc_obj, AH.alloc_next]⟩
    have f0 := (((Fr.refl (h := h) (S := fun _ => False)).alloc (mkO ([.slice none 0 0].map AV.sc) 1 23)).alloc (mkO ([.int .i64 0].map AV.sc) 1 3)).alloc (mkO ([.int .i64 0].map AV.sc) 1 26)
    generalize ((h.alloc (mkO ([.slice none 0 0].map AV.sc) 1 23)).alloc (mkO ([.int .i64 0].map AV.sc) 1 3)).alloc (mkO ([.int .i64 0].map AV.sc) 1 26) = h1 at *
    have t0 : S8 (puts (s0 [.sc (.string s)]).tm [(2, .ptr h.next 0), (3, .ptr (h.next + 1) 0), (4, .ptr (h.next + 2) 0)]) s h.next (h.next + 1) (h.next + 2) := ⟨by simp, by simp, by simp, by simp⟩
    show TC _ _ _ _ _ _ _ _ ⟨puts (s0 [.sc (.string s)]).tm [(2, .ptr h.next 0), (3, .ptr (h.next + 1) 0), (4, .ptr (h.next + 2) 0)], []⟩ h1
    generalize puts (s0 [.sc (.string s)]).tm [(2, .ptr h.next 0), (3, .ptr (h.next + 1) 0), (4, .ptr (h.next + 2) 0)] = tm at *
    have n1 : h.next ≤ h.next := Nat.le_refl _
    have n2 : h.next ≤ h.next + 1 := by omega
    have n3 : h.next ≤ h.next + 2 := by omega
    refine TC_then Try.mixed hr (pl := F8.pl) F8_c1 (by kernel_rfl) ?_
    rw [F8.k12_a]
    simp only [F8.t12, t0.e0, t0.e3, t0.e4]
    refine ⟨fun _ => False, fun _ h => h.elim, scan_ok ?_⟩
    unfold ParseR parseP at hR
    unfold ScanR
    by_cases hb : 65536 < s.size
    · rw [if_pos hb] at hR ⊢
      intro h2 m1 m2
      exact F8_up hr t0 n1 n2 n3 f0 c0 ⟨m1, fun i hi _ => m2 i hi⟩ (fun tm2 h3 t2 _ c3 f3 _ => F8_errs hr (by decide) hR t2 n1 n2 n3 c3 f3)
    rw [if_neg hb] at hR ⊢
    cases hsc : scanS s 0 [] with
    | error p =>
      rw [hsc] at hR
      intro h2 m1 m2
      exact F8_up hr t0 n1 n2 n3 f0 c0 ⟨m1, fun i hi _ => m2 i hi⟩ (fun tm2 h3 t2 _ c3 f3 _ => F8_errs hr (show (90 : Int) ≠ 0 by decide) hR t2 n1 n2 n3 c3 f3)
    | ok L =>
      rw [hsc] at hR
      simp only at hR
      have hL := scan_LOK (by omega) hsc
      intro x h2 hx ix m1 m2
      refine F8_up hr t0 n1 n2 n3 f0 c0 ⟨m1, fun i hi _ => m2 i hi⟩ (fun tm2 h3 t2 g5 c3 f3 keep => F8_fine hr hL hR t2 g5 n1 n2 n3 c3 f3 ?_)
      rcases hx with hx | ⟨id, hx, ho⟩
      · exact .inl hx
      · exact .inr ⟨id, hx, keep id _ ho (by show (38 : Nat) ≠ 3; decide) (by show (38 : Nat) ≠ 26; decide)⟩
  exact main E w _ (Step.refl hr) (s0_ok ha (n := 36) (by simp))
end Go.Proofs.Ythkkgbmjjpcfaaa

namespace Go.Proofs.Ythkkgbmjjpcfaaa
open Go.Ab
/-! the scanner by fuel, for evaluation -/
def runF (p : Int → Bool) (s : ByteArray) : Nat → Nat → Nat
  | 0, i => i
  | n + 1, i => if i < s.size then (if p (byteAt s i) then runF p s n (i + 1) else i) else i
theorem runF_eq (p : Int → Bool) (s : ByteArray) : ∀ (n i : Nat), s.size - i ≤ n → runF p s n i = runS p s i
  | 0, i, h => by rw [runF, runS, dif_neg (by omega)]
  | n + 1, i, h => by
    rw [runF, runS]
    by_cases hi : i < s.size
    · have hb : byteAt s i = s[i].toNat := by simp [byteAt, hi]
      rw [if_pos hi, dif_pos hi, hb, runF_eq p s n (i + 1) (by omega)]
    · rw [if_neg hi, dif_neg hi]
def lexF (s : ByteArray) (i : Nat) (c : Int) : LStep :=
  if isBlank c then .skip (i + 1)
  else if c == 35 then .skip (runF (fun c => c != 10) s s.size i)
  else if isLetter c then .tok ⟨1, s.extract i (runF isNameB s s.size i), i⟩ (runF isNameB s s.size i)
  else if isDigit c then (if decide (runF isDigit s s.size i < s.size) && isLetter (byteAt s (runF isDigit s s.size i)) then .err (runF isDigit s s.size i) else .tok ⟨2, s.extract i (runF isDigit s s.size i), i⟩ (runF isDigit s s.size i))
  else if isSignB c then .tok ⟨3, s.extract i (i + 1), i⟩ (i + 1)
  else .err i
theorem lexF_eq (s : ByteArray) (i : Nat) (c : Int) : lexF s i c = lexAt s i c := by
  unfold lexF lexAt
  simp only [runF_eq _ s s.size i (by omega)]
def scanF (s : ByteArray) : Nat → Nat → List Tok → Except Nat (List Tok)
  | 0, _, acc => .ok acc
  | n + 1, i, acc => if i < s.size then
      match lexF s i (byteAt s i) with
      | .skip j => if i < j then scanF s n j acc else .error 0
      | .tok t j => if i < j then scanF s n j (acc ++ [t]) else .error 0
      | .err j => .error j
    else .ok acc
theorem scanF_eq (s : ByteArray) : ∀ (n i : Nat) (acc : List Tok), s.size - i ≤ n → scanF s n i acc = scanS s i acc
  | 0, i, acc, h => by rw [scanF, scanS, dif_neg (by omega)]
  | n + 1, i, acc, h => by
    rw [scanF, scanS]
    by_cases hi : i < s.size
    · rw [if_pos hi, dif_pos hi, lexF_eq]
      cases lexAt s i (byteAt s i) with
      | skip j =>
        simp only
        by_cases hj : i < j
        · rw [if_pos hj, if_pos hj, scanF_eq s n j acc (by omega)]
        · rw [if_neg hj, if_neg hj]
      | tok t j =>
        simp only
        by_cases hj : i < j
        · rw [if_pos hj, if_pos hj, scanF_eq s n j _ (by omega)]
        · rw [if_neg hj, if_neg hj]
      | err j => rfl
    · rw [if_neg hi, dif_neg hi]
def parseF (s : ByteArray) : Res (List Row) :=
  if 65536 < s.size then .error (0, 1)
  else match scanF s s.size 0 [] with
  | .error p => .error (p, 90)
  | .ok L => topP L s.size (L.length + 1) 0 []
theorem parseF_eq (s : ByteArray) : parseF s = parseP s := by
  unfold parseF parseP
  rw [scanF_eq s s.size 0 [] (by omega)]
  try rfl
theorem awake1 : parseP ⟨#[113, 117, 98, 105, 116, 115, 32, 113, 32, 50, 59, 32, 104, 32, 113, 91, 48, 93, 59]⟩ = .ok [⟨sQubits, ⟨#[113]⟩, [], 2, 0, 0⟩, ⟨sUse, ⟨#[104]⟩, [⟨⟨#[113]⟩, 0⟩], 0, 0, 12⟩] := by
  rw [← parseF_eq]
  kernel_rfl
theorem awake2 : parseP ⟨#[104, 32, 113, 91, 48, 93]⟩ = .error (6, 101) := by
  rw [← parseF_eq]
  kernel_rfl
end Go.Proofs.Ythkkgbmjjpcfaaa

namespace Go.Proofs.Ythkkgbmjjpcfaaa
open Go.Ab
theorem awake_ok {h : AH} {M : Nat → Prop} {R : AE → AH → Prop} (hR : ∀ h', Fr h h' (fun _ => False) → R (.ret (.sc (.bool true))) h') : ACalls Try.prog 6 [] h M R := by
  apply F6.calls
  simp only [F6.k21, F6.t21, F6.k20, F6.t20]
  refine ⟨fun _ => False, fun _ h => h.elim, parse_ok ?_⟩
  unfold ParseR
  rw [awake1]
  intro x h1 hx ix f1
  simp only [pExt_tup, List.getElem?_cons_zero, List.getElem?_cons_succ, cellK_some]
  simp only [F6.k19, F6.t19]
  refine ⟨fun _ => False, fun _ h => h.elim, parse_ok ?_⟩
  unfold ParseR
  rw [awake2]
  intro h2 f2
  have hx2 : RowsAt h2 x _ := hx.fr f2 (fun _ _ h => h) (fun _ _ _ _ h => h)
  have := hR h2 (f1.trans (f2.mono fun _ h => h.elim))
  obtain ⟨l, l1, l2, l3⟩ := hx2
  match l, l2 with
  | [(r0, a0), (r1, a1)], l2 =>
    simp only [List.map_cons, List.map_nil, List.cons.injEq, and_true] at l2
    obtain ⟨rfl, rfl⟩ := l2
    rcases l1 with ⟨_, l1⟩ | ⟨id, rfl, ho⟩
    · cases l1
    have h3 := l3 _ (List.mem_cons_of_mem _ (List.mem_singleton.2 rfl))
    have hl1 := (h3.len (K := fun _ => True)).1
    have hl2 := fun K => (h3.len (K := K)).2
    simp only at hl1 hl2
    simp [ho, encRA, hl1, hl2]
    exact this
end Go.Proofs.Ythkkgbmjjpcfaaa

namespace Go.Proofs.Ythkkgbmjjpcfaaa
open Go.Ab
/-! where tokens, rows and faults stand -/
theorem lexAt_at {s : ByteArray} {i : Nat} {c : Int} {t : Tok} {j : Nat} (h : lexAt s i c = .tok t j) : t.at_ = i := by
  unfold lexAt at h
  split at h
  · cases h
  split at h
  · cases h
  split at h
  · cases h; rfl
  split at h
  · split at h
    · cases h
    · cases h; rfl
  split at h
  · cases h; rfl
  · cases h
theorem lexAt_err {s : ByteArray} {i j : Nat} (hi : i < s.size) (h : lexAt s i (byteAt s i) = .err j) : j ≤ s.size := by
  unfold lexAt at h
  split at h
  · cases h
  split at h
  · cases h
  split at h
  · cases h
  split at h
  · split at h
    · cases h; exact (runS_le isDigit s _ i rfl (by omega)).2
    · cases h
  split at h
  · cases h
  · cases h; omega
/-- Tokens stand one behind the other, below n. -/
def AtUp (l : List Tok) (n : Nat) : Prop := (∀ t ∈ l, 0 ≤ t.at_ ∧ t.at_ < n) ∧ l.Pairwise (fun a b => a.at_ < b.at_)
theorem scanS_up {s : ByteArray} : ∀ (n i : Nat) (acc : List Tok), s.size - i = n → AtUp acc i → i ≤ s.size → (∀ l, scanS s i acc = .ok l → AtUp l s.size) ∧ (∀ p, scanS s i acc = .error p → p ≤ s.size) := by
  intro n
  induction n using Nat.strongRecOn with
  | _ n ih =>
    intro i acc hn hu hi
    have wide : ∀ j, i < j → AtUp acc j := fun j hj => ⟨fun t ht => by have := hu.1 t ht; omega, hu.2⟩
    rw [scanS]
    split
    · rename_i hlt
      split
      · split
        · rename_i j _ hj
          by_cases hjs : j ≤ s.size
          · exact ih (s.size - j) (by omega) j acc rfl (wide j hj) hjs
          · rw [scanS, dif_neg (by omega)]
            exact ⟨fun l h => by cases h; exact wide s.size hlt, fun p h => by cases h⟩
        · exact ⟨fun l h => (by cases h), fun p h => by cases h; omega⟩
      · rename_i t j hl
        have hat := lexAt_at hl
        have hu' : ∀ m, i < m → AtUp (acc ++ [t]) m := fun m hm => by
          refine ⟨fun x hx => ?_, ?_⟩
          · rcases List.mem_append.1 hx with hx | hx
            · have := hu.1 x hx; omega
            · simp only [List.mem_singleton] at hx; subst hx; omega
          · rw [List.pairwise_append]
            refine ⟨hu.2, List.pairwise_singleton _ _, fun a ha b hb => ?_⟩
            simp only [List.mem_singleton] at hb
            subst hb
            have := hu.1 a ha; omega
        split
        · rename_i hj
          by_cases hjs : j ≤ s.size
          · exact ih (s.size - j) (by omega) j _ rfl (hu' j hj) hjs
          · rw [scanS, dif_neg (by omega)]
            exact ⟨fun l h => by cases h; exact hu' s.size hlt, fun p h => by cases h⟩
        · exact ⟨fun l h => (by cases h), fun p h => by cases h; omega⟩
      · rename_i j hl
        exact ⟨fun l h => (by cases h), fun p h => by cases h; exact lexAt_err hlt hl⟩
    · exact ⟨fun l h => by cases h; exact ⟨fun t ht => by have := hu.1 t ht; omega, hu.2⟩, fun p h => by cases h⟩
section
variable {L : List Tok} {en : Int}
/-- A fault that is one, with a place in the text. -/
def ErrG (en : Int) (e : Int × Int) : Prop := e.2 ≠ 0 ∧ 0 ≤ e.1 ∧ e.1 ≤ en
structure Good (L : List Tok) (en : Int) : Prop where
  pos : 0 ≤ en
  at_ : ∀ t ∈ L, 0 ≤ t.at_ ∧ t.at_ ≤ en
variable (G : Good L en)
include G
theorem nextP_err {p : Nat} {w : Bool} {e : Int × Int} (h : nextP L en p w = .error e) : ErrG en e := by
  have := G.pos
  unfold nextP at h
  cases hg : L[p]? with
  | none => rw [hg] at h; cases h; exact ⟨by show (101 : Int) ≠ 0; decide, G.pos, Int.le_refl _⟩
  | some t =>
    rw [hg] at h
    have := G.at_ t (List.mem_of_getElem? hg)
    cases w
    · cases h; exact ⟨by show (100 : Int) ≠ 0; decide, this.1, this.2⟩
    · cases h
theorem nameP_err {p : Nat} {e : Int × Int} (h : nameP L en p = .error e) : ErrG en e := by
  unfold nameP at h
  cases hn : nextP L en p (plainP L p) with
  | error e' => rw [hn] at h; cases h; exact nextP_err G hn
  | ok t => rw [hn] at h; cases h
theorem numberP_err {p : Nat} {e : Int × Int} (h : numberP L en p = .error e) : ErrG en e := by
  unfold numberP at h
  cases hn : nextP L en p (isNumP L p) with
  | error e' => rw [hn] at h; cases h; exact nextP_err G hn
  | ok t =>
    rw [hn] at h
    simp only at h
    split at h
    · cases h
    · cases h
      have := G.at_ t (List.mem_of_getElem? (nextP_ok hn).2.1)
      exact ⟨by show (1 : Int) ≠ 0; decide, this.1, this.2⟩
theorem argP_err {p : Nat} {e : Int × Int} (h : argP L en p = .error e) : ErrG en e := by
  unfold argP at h
  cases hn : nameP L en p with
  | error e' => rw [hn] at h; cases h; exact nameP_err G hn
  | ok nm =>
    rw [hn] at h
    simp only at h
    split at h
    · cases hu : numberP L en (p + 2) with
      | error e' => rw [hu] at h; cases h; exact numberP_err G hu
      | ok n =>
        rw [hu] at h
        cases hs : signP L en (p + 3) sIxC with
        | error e' => rw [hs] at h; cases h; exact nextP_err G hs
        | ok t => rw [hs] at h; cases h
    · cases h
theorem fuel_err : ErrG en (0, -1) := ⟨by decide, Int.le_refl _, G.pos⟩
theorem namesP_err : ∀ (n p : Nat) (acc : List Arg) {e : Int × Int}, namesP L en n p acc = .error e → ErrG en e
  | 0, _, _, e, h => by simp only [namesP] at h; cases h; exact fuel_err G
  | n + 1, p, acc, e, h => by
    simp only [namesP] at h
    split at h
    · cases hn : nameP L en p with
      | error e' => rw [hn] at h; cases h; exact nameP_err G hn
      | ok nm => rw [hn] at h; exact namesP_err n _ _ h
    · cases h
theorem argsP_err : ∀ (n p : Nat) (acc : List Arg) {e : Int × Int}, argsP L en n p acc = .error e → ErrG en e
  | 0, _, _, e, h => by simp only [argsP] at h; cases h; exact fuel_err G
  | n + 1, p, acc, e, h => by
    simp only [argsP] at h
    split at h
    · cases hn : argP L en p with
      | error e' => rw [hn] at h; cases h; exact argP_err G hn
      | ok x => obtain ⟨a, p'⟩ := x; rw [hn] at h; exact argsP_err n _ _ h
    · cases h
theorem lineP_err {p : Nat} {row : Row} {e : Int × Int} (h : lineP L en p row = .error e) : ErrG en e := by
  unfold lineP at h
  cases hn : signP L en p sSemi with
  | error e' => rw [hn] at h; cases h; exact nextP_err G hn
  | ok t => rw [hn] at h; cases h
end
/-- What a statement head says. -/
def headOf (r : Row) : ByteArray := if r.kind = sUse then r.name else r.kind
/-- Rows that stand at tokens from p on, one behind the other. -/
inductive RowsG (L : List Tok) : Nat → Nat → List Row → Prop
  | nil {p p' : Nat} : p ≤ p' → RowsG L p p' []
  | cons {p q p' k : Nat} {t : Tok} {r : Row} {l : List Row} : p ≤ k → L[k]? = some t → r.place = t.at_ → headOf r = t.text → 0 ≤ r.rows → r.rows ≤ l.length → k < q → RowsG L q p' l → RowsG L p p' (r :: l)
theorem RowsG.app {L : List Tok} {p q p' : Nat} {a b : List Row} (h : RowsG L p q a) (k : RowsG L q p' b) : RowsG L p p' (a ++ b) := by
  induction h with
  | nil h1 =>
    cases k with
    | nil h2 => exact .nil (by omega)
    | cons a1 a2 a3 a4 a5 a6 a7 a8 => exact .cons (by omega) a2 a3 a4 a5 a6 a7 a8
  | cons a1 a2 a3 a4 a5 a6 a7 a8 ih =>
    rw [List.cons_append]
    exact .cons a1 a2 a3 a4 a5 (Int.le_trans a6 (Int.ofNat_le.2 (by rw [List.length_append]; omega))) a7 (ih k)
theorem RowsG.len {L : List Tok} {p p' : Nat} {l : List Row} (h : RowsG L p p' l) : l = [] ∨ p + l.length ≤ L.length := by
  induction h with
  | nil _ => exact .inl rfl
  | cons a1 a2 a3 a4 a5 a6 a7 a8 ih =>
    have := (List.getElem?_eq_some_iff.1 a2).1
    rcases ih with ih | ih
    · subst ih; exact .inr (by simp only [List.length_cons, List.length_nil]; omega)
    · exact .inr (by simp only [List.length_cons]; omega)
section
variable {L : List Tok} {en : Int}
/-- A step answers rows that stand where it read, or a fault with its place. -/
structure StepG (L : List Tok) (en : Int) (step : Nat → Res (Nat × List Row)) : Prop where
  ok : ∀ p p' new, step p = .ok (p', new) → RowsG L p p' new
  err : ∀ p e, step p = .error e → ErrG en e
theorem loopP_G (G : Good L en) {step : Nat → Res (Nat × List Row)} (hs : StepG L en step) : ∀ (n p q : Nat) (acc : List Row), RowsG L q p acc → (∀ p' l, loopP L step n p acc = .ok (p', l) → RowsG L q p' l) ∧ (∀ e, loopP L step n p acc = .error e → ErrG en e)
  | 0, p, q, acc, _ => ⟨fun _ _ h => (by simp only [loopP] at h; cases h), fun e h => by simp only [loopP] at h; cases h; exact fuel_err G⟩
  | n + 1, p, q, acc, ha => by
    simp only [loopP]
    split
    · exact ⟨fun p' l h => by cases h; exact ha, fun e h => by cases h⟩
    · cases hn : step p with
      | error e' => exact ⟨fun _ _ h => (by cases h), fun e h => by cases h; exact hs.err _ _ hn⟩
      | ok x =>
        obtain ⟨p1, new⟩ := x
        exact loopP_G G hs n p1 q (acc ++ new) (ha.app (hs.ok _ _ _ hn))
theorem bdP_G (G : Good L en) {k : Nat} {step : Nat → Res (Nat × List Row)} (hs : StepG L en step) {p : Nat} : (∀ p' l, bdP L en k step p = .ok (p', l) → RowsG L (p + 1) p' l) ∧ (∀ e, bdP L en k step p = .error e → ErrG en e) := by
  unfold bdP
  cases hn : signP L en p sOpen with
  | error e' => exact ⟨fun _ _ h => (by cases h), fun e h => by cases h; exact nextP_err G hn⟩
  | ok t =>
    cases k with
    | zero =>
      refine ⟨fun _ _ h => (by cases h), fun e h => ?_⟩
      cases h
      have := G.at_ t (List.mem_of_getElem? (nextP_ok hn).2.1)
      exact ⟨by show (102 : Int) ≠ 0; decide, this.1, this.2⟩
    | succ k =>
      simp only
      have := loopP_G G hs (L.length + 1) (p + 1) (p + 1) [] (.nil (Nat.le_refl _))
      cases hl : loopP L step (L.length + 1) (p + 1) [] with
      | error e' => exact ⟨fun _ _ h => (by cases h), fun e h => by cases h; exact this.2 _ hl⟩
      | ok x =>
        obtain ⟨p1, rows⟩ := x
        refine ⟨fun p' l h => ?_, fun e h => by cases h⟩
        cases h
        have := (this.1 _ _ hl).app (.nil (Nat.le_succ _))
        simpa using this
theorem heldP_G (G : Good L en) {k : Nat} {step : Nat → Res (Nat × List Row)} (hs : StepG L en step) {p0 p : Nat} {t : Tok} {row : Row} (hp : p0 < p) (ht : L[p0]? = some t) (h1 : row.place = t.at_) (h2 : headOf row = t.text) :
    (∀ p' l, heldP L en k step p row = .ok (p', l) → RowsG L p0 p' l) ∧ (∀ e, heldP L en k step p row = .error e → ErrG en e) := by
  unfold heldP
  have := bdP_G G (k := k) hs (p := p)
  cases hn : bdP L en k step p with
  | error e' => exact ⟨fun _ _ h => (by cases h), fun e h => by cases h; exact this.2 _ hn⟩
  | ok x =>
    obtain ⟨p1, rows⟩ := x
    refine ⟨fun p' l h => ?_, fun e h => by cases h⟩
    cases h
    exact .cons (Nat.le_refl _) ht h1 h2 (Int.natCast_nonneg _) (Int.le_refl _) (by omega) (this.1 _ _ hn)
theorem lineP_G (G : Good L en) {p0 p : Nat} {t : Tok} {row : Row} (hp : p0 < p) (ht : L[p0]? = some t) (h1 : row.place = t.at_) (h2 : headOf row = t.text) (h3 : row.rows = 0) :
    (∀ p' l, lineP L en p row = .ok (p', l) → RowsG L p0 p' l) ∧ (∀ e, lineP L en p row = .error e → ErrG en e) := by
  refine ⟨fun p' l h => ?_, fun e h => lineP_err G h⟩
  obtain ⟨a1, _, a3⟩ := lineP_ok h
  subst a3
  exact .cons (Nat.le_refl _) ht h1 h2 (by omega) (by simp [h3]) (q := p') (by omega) (.nil (Nat.le_refl _))
theorem head_own {t nm : ByteArray} {l : List Arg} {n r pl : Int} (h : t ≠ sUse) : headOf ⟨t, nm, l, n, r, pl⟩ = t := by unfold headOf; rw [if_neg h]
theorem stmtB_G (G : Good L en) {k : Nat} {step : Nat → Res (Nat × List Row)} (hs : StepG L en step) {p : Nat} {t : Tok} (ht : L[p]? = some t) :
    (∀ p' l, stmtB L en k step p t = .ok (p', l) → RowsG L p p' l) ∧ (∀ e, stmtB L en k step p t = .error e → ErrG en e) := by
  have hp : p < L.length := (List.getElem?_eq_some_iff.1 ht).1
  have er : ∀ {e' : Int × Int}, ErrG en e' → (∀ p' l, (Except.error e' : Res (Nat × List Row)) = .ok (p', l) → RowsG L p p' l) ∧ (∀ e, (Except.error e' : Res (Nat × List Row)) = .error e → ErrG en e) := fun h => ⟨fun _ _ h => (by cases h), fun e h' => by cases h'; exact h⟩
  unfold stmtB
  split
  · rename_i h0
    have hu : t.text ≠ sUse := by rcases h0 with h0 | h0 <;> (rw [h0]; decide)
    cases h1 : nameP L en (p + 1) with
    | error e => exact er (nameP_err G h1)
    | ok nm =>
      simp only
      cases h2 : numberP L en (p + 2) with
      | error e => exact er (numberP_err G h2)
      | ok n => exact lineP_G G (by omega) ht rfl (head_own hu) rfl
  split
  · rename_i h0
    have hu : t.text ≠ sUse := by rw [h0]; decide
    cases h1 : nameP L en (p + 1) with
    | error e => exact er (nameP_err G h1)
    | ok nm =>
      simp only
      have := (nameP_ok h1).1
      cases h2 : namesP L en (L.length + 1) (p + 2) [] with
      | error e => exact er (namesP_err G _ _ _ h2)
      | ok x =>
        obtain ⟨l2, p2⟩ := x
        have a := namesP_ok _ _ _ (by omega) h2
        exact heldP_G G hs (by omega) ht rfl (head_own hu)
  split
  · rename_i h0
    have hu : t.text ≠ sUse := by rw [h0]; decide
    cases h1 : numberP L en (p + 1) with
    | error e => exact er (numberP_err G h1)
    | ok n => exact heldP_G G hs (by omega) ht rfl (head_own hu)
  split
  · rename_i h0
    have hu : t.text ≠ sUse := by rw [h0]; decide
    cases h1 : nameP L en (p + 1) with
    | error e => exact er (nameP_err G h1)
    | ok nm =>
      simp only
      cases h2 : numberP L en (p + 2) with
      | error e => exact er (numberP_err G h2)
      | ok n => exact heldP_G G hs (by omega) ht rfl (head_own hu)
  split
  · rename_i h0
    have hu : t.text ≠ sUse := by rw [h0]; decide
    cases h1 : argP L en (p + 1) with
    | error e => exact er (argP_err G h1)
    | ok x =>
      obtain ⟨a, p1⟩ := x
      simp only
      have := argP_ok h1
      cases h2 : argP L en p1 with
      | error e => exact er (argP_err G h2)
      | ok y => obtain ⟨b, p2⟩ := y; have := argP_ok h2; exact lineP_G G (by omega) ht rfl (head_own hu) rfl
  split
  · rename_i h0
    have hu : t.text ≠ sUse := by rw [h0]; decide
    cases h1 : argP L en (p + 1) with
    | error e => exact er (argP_err G h1)
    | ok x =>
      obtain ⟨a, p1⟩ := x
      have := argP_ok h1
      exact lineP_G G (by omega) ht rfl (head_own hu) rfl
  · cases h1 : argsP L en (L.length + 1) (p + 1) [] with
    | error e => exact er (argsP_err G _ _ _ h1)
    | ok x =>
      obtain ⟨l2, p2⟩ := x
      have := argsP_ok _ _ _ (by omega) h1
      exact lineP_G G (by omega) ht rfl (by unfold headOf; rw [if_pos rfl]) rfl
theorem stmtP_G (G : Good L en) : ∀ k, StepG L en (stmtP L en k) := by
  have key : ∀ k, StepG L en (stepP L en k) → StepG L en (stmtP L en k) := by
    intro k hk
    refine ⟨fun p p' new h => ?_, fun p e h => ?_⟩
    · rw [stmtP_eq] at h
      cases h1 : nextP L en p (isNameP L p) with
      | error e => rw [h1] at h; cases h
      | ok t => rw [h1] at h; exact (stmtB_G G hk (nextP_ok h1).2.1).1 _ _ h
    · rw [stmtP_eq] at h
      cases h1 : nextP L en p (isNameP L p) with
      | error e' => rw [h1] at h; cases h; exact nextP_err G h1
      | ok t => rw [h1] at h; exact (stmtB_G G hk (nextP_ok h1).2.1).2 _ h
  intro k
  induction k with
  | zero => exact key 0 ⟨fun _ _ _ h => by simp [stepP] at h, fun p e h => by simp only [stepP] at h; cases h; exact fuel_err G⟩
  | succ k ih => exact key (k + 1) ih
theorem topP_G (G : Good L en) : ∀ (n p : Nat) (acc : List Row), RowsG L 0 p acc → (∀ l, topP L en n p acc = .ok l → ∃ p', RowsG L 0 p' l) ∧ (∀ e, topP L en n p acc = .error e → ErrG en e)
  | 0, p, acc, _ => ⟨fun _ h => by simp [topP] at h, fun e h => by simp only [topP] at h; cases h; exact fuel_err G⟩
  | n + 1, p, acc, ha => by
    simp only [topP]
    split
    · cases hn : stmtP L en 32 p with
      | error e' => exact ⟨fun _ h => (by cases h), fun e h => by cases h; exact (stmtP_G G 32).err _ _ hn⟩
      | ok x =>
        obtain ⟨p1, new⟩ := x
        exact topP_G G n p1 (acc ++ new) (ha.app ((stmtP_G G 32).ok _ _ _ hn))
    · exact ⟨fun l h => by cases h; exact ⟨p, ha⟩, fun e h => by cases h⟩
end
theorem parseP_err {s : ByteArray} {e : Int × Int} (h : parseP s = .error e) : ErrG s.size e := by
  unfold parseP at h
  split at h
  · cases h; exact ⟨by show (1 : Int) ≠ 0; decide, Int.le_refl _, Int.natCast_nonneg _⟩
  · have hu := scanS_up (s := s) _ 0 [] rfl ⟨by simp, List.Pairwise.nil⟩ (by omega)
    cases hs : scanS s 0 [] with
    | error p => rw [hs] at h; cases h; have := hu.2 p hs; exact ⟨by show (90 : Int) ≠ 0; decide, Int.natCast_nonneg _, by show (p : Int) ≤ s.size; omega⟩
    | ok L =>
      rw [hs] at h
      have := hu.1 L hs
      exact (topP_G ⟨Int.natCast_nonneg _, fun t ht => by have := this.1 t ht; omega⟩ _ 0 [] (.nil (Nat.le_refl _))).2 _ h
theorem parseP_ok {s : ByteArray} {rows : List Row} (h : parseP s = .ok rows) : ¬ 65536 < s.size ∧ ∃ L p, scanS s 0 [] = .ok L ∧ AtUp L s.size ∧ LOK L ∧ RowsG L 0 p rows := by
  unfold parseP at h
  split at h
  · cases h
  · rename_i hb
    have hu := scanS_up (s := s) _ 0 [] rfl ⟨by simp, List.Pairwise.nil⟩ (by omega)
    cases hs : scanS s 0 [] with
    | error p => rw [hs] at h; cases h
    | ok L =>
      rw [hs] at h
      have := hu.1 L hs
      obtain ⟨p, hp⟩ := (topP_G (L := L) (en := s.size) ⟨Int.natCast_nonneg _, fun t ht => by have := this.1 t ht; omega⟩ _ 0 [] (.nil (Nat.le_refl _))).1 _ h
      exact ⟨hb, L, p, rfl, this, scan_LOK (by omega) hs, hp⟩
end Go.Proofs.Ythkkgbmjjpcfaaa

/- ParseCuts answers true for every text and number. No condition. -/
import Derived.Test.YthkkgbmjjpcfaaaRows
import Derived.ProofKit
import Derived.Below
import Derived.ChangeSame
import Derived.ChangeMaps5
import Derived.Test.YthkkgbmjjpcfaaaWb
namespace Go.Proofs.Ythkkgbmjjpcfaaa
open Go.Ab
/-! rows hold no more arguments than there are tokens -/
def AG (L : List Tok) (rows : List Row) : Prop := ∀ r ∈ rows, r.args.length ≤ L.length
section
variable {L : List Tok} {en : Int}
def StepA (L : List Tok) (step : Nat → Res (Nat × List Row)) : Prop := ∀ p p' new, step p = .ok (p', new) → AG L new
theorem AG.one {row : Row} (h : row.args.length ≤ L.length) : AG L [row] := fun r hr => by simp only [List.mem_singleton] at hr; subst hr; exact h
theorem AG.app {a b : List Row} (ha : AG L a) (hb : AG L b) : AG L (a ++ b) := fun r hr => (List.mem_append.1 hr).elim (ha r) (hb r)
theorem lineP_AG {p p' : Nat} {row : Row} {l : List Row} (hr : row.args.length ≤ L.length) (h : lineP L en p row = .ok (p', l)) : AG L l := by
  obtain ⟨_, _, rfl⟩ := lineP_ok h
  exact .one hr
theorem loopP_AG {step : Nat → Res (Nat × List Row)} (hs : StepA L step) : ∀ (n p : Nat) (acc : List Row) {l : List Row} {p' : Nat}, AG L acc → loopP L step n p acc = .ok (p', l) → AG L l
  | 0, _, _, _, _, _, h => by simp [loopP] at h
  | n + 1, p, acc, l, p', ha, h => by
    simp only [loopP] at h
    split at h
    · cases h; exact ha
    · cases hn : step p with
      | error e => rw [hn] at h; cases h
      | ok x =>
        obtain ⟨p1, new⟩ := x
        rw [hn] at h
        exact loopP_AG hs n p1 _ (ha.app (hs _ _ _ hn)) h
theorem bdP_AG {k : Nat} {step : Nat → Res (Nat × List Row)} (hs : StepA L step) {p p' : Nat} {l : List Row} (h : bdP L en k step p = .ok (p', l)) : AG L l := by
  unfold bdP at h
  cases hn : signP L en p sOpen with
  | error e => rw [hn] at h; cases h
  | ok t =>
    rw [hn] at h
    cases k with
    | zero => cases h
    | succ k =>
      simp only at h
      cases hl : loopP L step (L.length + 1) (p + 1) [] with
      | error e => rw [hl] at h; cases h
      | ok x =>
        obtain ⟨p1, rows⟩ := x
        rw [hl] at h
        cases h
        exact loopP_AG hs _ _ _ (fun _ hr => by cases hr) hl
theorem heldP_AG {k : Nat} {step : Nat → Res (Nat × List Row)} (hs : StepA L step) {p p' : Nat} {row : Row} {l : List Row} (hr : row.args.length ≤ L.length) (h : heldP L en k step p row = .ok (p', l)) : AG L l := by
  unfold heldP at h
  cases hn : bdP L en k step p with
  | error e => rw [hn] at h; cases h
  | ok x =>
    obtain ⟨p1, rows⟩ := x
    rw [hn] at h; cases h
    intro r hm
    rcases List.mem_cons.1 hm with hm | hm
    · subst hm; exact hr
    · exact bdP_AG hs hn r hm
theorem stmtB_AG {k : Nat} {step : Nat → Res (Nat × List Row)} (hs : StepA L step) {p p' : Nat} {t : Tok} {l : List Row} (hp : p < L.length) (h : stmtB L en k step p t = .ok (p', l)) : AG L l := by
  unfold stmtB at h
  split at h
  · cases h1 : nameP L en (p + 1) with
    | error e => rw [h1] at h; cases h
    | ok nm =>
      rw [h1] at h; simp only at h
      cases h2 : numberP L en (p + 2) with
      | error e => rw [h2] at h; cases h
      | ok n => rw [h2] at h; exact lineP_AG (by simp) h
  split at h
  · cases h1 : nameP L en (p + 1) with
    | error e => rw [h1] at h; cases h
    | ok nm =>
      rw [h1] at h; simp only at h
      have := (nameP_ok h1).1
      cases h2 : namesP L en (L.length + 1) (p + 2) [] with
      | error e => rw [h2] at h; cases h
      | ok x => obtain ⟨l2, p2⟩ := x; rw [h2] at h; have a := namesP_ok _ _ _ (by omega) h2; simp at a; exact heldP_AG hs (by simp only; omega) h
  split at h
  · cases h1 : numberP L en (p + 1) with
    | error e => rw [h1] at h; cases h
    | ok n => rw [h1] at h; exact heldP_AG hs (by simp) h
  split at h
  · cases h1 : nameP L en (p + 1) with
    | error e => rw [h1] at h; cases h
    | ok nm =>
      rw [h1] at h; simp only at h
      cases h2 : numberP L en (p + 2) with
      | error e => rw [h2] at h; cases h
      | ok n => rw [h2] at h; exact heldP_AG hs (by simp) h
  split at h
  · cases h1 : argP L en (p + 1) with
    | error e => rw [h1] at h; cases h
    | ok x =>
      obtain ⟨a, p1⟩ := x
      rw [h1] at h; simp only at h
      have := argP_ok h1
      cases h2 : argP L en p1 with
      | error e => rw [h2] at h; cases h
      | ok y => obtain ⟨b, p2⟩ := y; rw [h2] at h; have := argP_ok h2; exact lineP_AG (by simp; omega) h
  split at h
  · cases h1 : argP L en (p + 1) with
    | error e => rw [h1] at h; cases h
    | ok x =>
      obtain ⟨a, p1⟩ := x
      rw [h1] at h; simp only at h
      have := argP_ok h1
      exact lineP_AG (by simp; omega) h
  · cases h1 : argsP L en (L.length + 1) (p + 1) [] with
    | error e => rw [h1] at h; cases h
    | ok x =>
      obtain ⟨l2, p2⟩ := x
      rw [h1] at h; simp only at h
      have := argsP_ok _ _ _ (by omega) h1
      simp at this
      exact lineP_AG (by simp only; omega) h
theorem stmtP_AG : ∀ (k : Nat), StepA L (stmtP L en k) := by
  have key : ∀ k, StepA L (stepP L en k) → StepA L (stmtP L en k) := by
    intro k hk p p' new h
    rw [stmtP_eq] at h
    cases h1 : nextP L en p (isNameP L p) with
    | error e => rw [h1] at h; cases h
    | ok t => rw [h1] at h; exact stmtB_AG hk (nextP_ok h1).1 h
  intro k
  induction k with
  | zero => exact key 0 (fun _ _ _ h => by simp [stepP] at h)
  | succ k ih => exact key (k + 1) ih
theorem topP_AG : ∀ (n p : Nat) (acc : List Row) {l : List Row}, p ≤ L.length → acc.length ≤ p → AG L acc → topP L en n p acc = .ok l → AG L l ∧ l.length ≤ L.length
  | 0, _, _, _, _, _, _, h => by simp [topP] at h
  | n + 1, p, acc, l, hp, hl, ha, h => by
    simp only [topP] at h
    split at h
    · cases hn : stmtP L en 32 p with
      | error e => rw [hn] at h; cases h
      | ok x =>
        obtain ⟨p1, new⟩ := x
        rw [hn] at h
        obtain ⟨b1, b2, b3⟩ := stmtP_ok 32 p p1 new hn
        exact topP_AG n p1 _ b2 (by simp; omega) (ha.app (stmtP_AG 32 _ _ _ hn)) h
    · cases h; exact ⟨ha, by omega⟩
/-- What is read is not great. -/
theorem parseP_size {s : ByteArray} {l : List Row} (h : parseP s = .ok l) : l.length ≤ 65536 ∧ ∀ r ∈ l, r.args.length ≤ 65536 := by
  unfold parseP at h
  split at h
  · cases h
  · rename_i hs
    split at h
    · cases h
    · rename_i L hsc
      have hL := (scan_LOK (by omega) hsc).len
      obtain ⟨a, b⟩ := topP_AG _ _ _ (Nat.zero_le _) (by simp) (fun _ hr => by cases hr) h
      exact ⟨by omega, fun r hr => by have := a r hr; omega⟩
end
end Go.Proofs.Ythkkgbmjjpcfaaa

namespace Go.Proofs.Ythkkgbmjjpcfaaa
open Go.Ab
/-! the comparison of rows -/
def argEq (a b : Arg) : Bool := decide (a.name = b.name) && (a.index == b.index)
def eqArgs : List Arg → List Arg → Bool
  | a :: A, b :: B => argEq a b && eqArgs A B
  | _, _ => true
def headEq (pl : Bool) (a b : Row) : Bool := decide (a.kind = b.kind) && (decide (a.name = b.name) && ((a.num == b.num) && ((a.rows == b.rows) && ((!pl || a.place == b.place) && (a.args.length == b.args.length)))))
def rowEq (pl : Bool) (a b : Row) : Bool := headEq pl a b && eqArgs a.args b.args
def eqRows (pl : Bool) : List Row → List Row → Bool
  | a :: A, b :: B => rowEq pl a b && eqRows pl A B
  | _, _ => true
def sameL (pl : Bool) (A B : List Row) : Bool := (A.length == B.length) && eqRows pl A B
theorem argEq_self (a : Arg) : argEq a a = true := by simp [argEq]
theorem eqArgs_self : ∀ A : List Arg, eqArgs A A = true
  | [] => rfl
  | a :: A => by simp [eqArgs, argEq_self, eqArgs_self A]
theorem rowEq_self (pl : Bool) (a : Row) : rowEq pl a a = true := by simp [rowEq, headEq, eqArgs_self]
theorem eqRows_self (pl : Bool) : ∀ A : List Row, eqRows pl A A = true
  | [] => rfl
  | a :: A => by simp [eqRows, rowEq_self, eqRows_self pl A]
theorem sameL_self (pl : Bool) (A : List Row) : sameL pl A A = true := by simp [sameL, eqRows_self]
theorem flat53 : flatEq Try.prog 53 = some [true, false] := by kernel_rfl
theorem pBin_arg {c : Bool} {a b : Arg} {K : AV → Prop} : pBin Try.prog .neq 53 c (.agg a.enc) (.agg b.enc) K = K (.sc (.bool (!argEq a b))) := by
  have h : aggCmp Try.prog 53 a.enc b.enc = some (argEq a b) := by
    unfold aggCmp
    rw [flat53]
    simp [aggEq, Arg.enc, argEq]
  show ((aggCmp Try.prog 53 a.enc b.enc).isSome = true ∧ K (.b (!(aggCmp Try.prog 53 a.enc b.enc).getD false))) = _
  rw [h]
  simp
theorem F9_args {W : Nat → Prop} {Q : Post} {QP : PPost} {tm : Nat → AV} {h : AH} {v8 v9 : Nat} {r s : Row} {a b : AV} (hW : ∀ id, h.next ≤ id → W id) (e8 : tm 8 = .ptr v8 0) (e9 : tm 9 = .ptr v9 0)
    (h8 : h.obj v8 = some (mkO (encRA (r, a)) 6 36)) (h9 : h.obj v9 = some (mkO (encRA (s, b)) 6 36)) (ha : SlL Arg.enc 2 53 h a r.args) (hb : SlL Arg.enc 2 53 h b s.args)
    (hlen : r.args.length = s.args.length) (hbig : r.args.length ≤ 1000000000)
    (hF : eqArgs r.args s.args = false → ∀ tm' h', Fr h h' (fun _ => False) → tm' 6 = .sc (.bool false) → Q .ret ⟨tm', []⟩ h')
    (hT : eqArgs r.args s.args = true → ∀ tm' h', Fr h h' (fun _ => False) → (∀ j, j = 0 ∨ j = 1 ∨ j = 2 ∨ j = 17 ∨ j = 18 ∨ j = 19 → tm' j = tm j) → F9.k2 W Q QP ⟨tm', []⟩ h') :
    F9.k11 W Q QP ⟨tm, []⟩ h := by
  simp only [F9.k11, F9.t11, e8, pFld_ptr, lLd_f, h8, ldk_mk, Nat.zero_add, encRA, List.getElem?_cons_succ, List.getElem?_cons_zero, cellK_some, (ha.len (K := fun _ => True)).1, (fun K => (ha.len (K := K)).2), true_and]
  unfold F9.k10
  refine aLoop_of (ι := Nat) (fun j s' h' => s'.ds = [] ∧ Fr h h' (fun _ => False) ∧ j ≤ r.args.length ∧ s'.tm 9 = .ptr v9 0 ∧ s'.tm 74 = a ∧ s'.tm 75 = .sc (.int .i64 r.args.length) ∧ s'.tm 76 = .sc (.int .i64 j) ∧ (∀ i, i = 0 ∨ i = 1 ∨ i = 2 ∨ i = 17 ∨ i = 18 ∨ i = 19 → s'.tm i = tm i) ∧
    eqArgs (r.args.drop j) (s.args.drop j) = eqArgs r.args s.args) (fun j => r.args.length - j) 0 ?_ ?_
  · refine ⟨rfl, Fr.refl, by omega, by simp [e9], by simp, by simp, by simp, fun i hi => ?_, rfl⟩
    rcases hi with rfl | rfl | rfl | rfl | rfl | rfl <;> simp
  rintro j ⟨tm', ds⟩ h' ⟨rfl, hf, hj, e9, e74, e75, e76, hsame, heq⟩
  simp only at e9 e74 e75 e76 hsame
  rw [F9.l2]
  have ha' : SlL Arg.enc 2 53 h' a r.args := args_keep ha hf (fun _ _ _ _ h => h)
  have hb' : SlL Arg.enc 2 53 h' b s.args := args_keep hb hf (fun _ _ _ _ h => h)
  have h9' := hf.obj h9 (fun h => h)
  by_cases hlt : j < r.args.length
  · have hw : IntKind.i64.wrap ((j : Int) + 1) = ((j + 1 : Nat) : Int) := by rw [wrap_in (by omega) (by omega)]; simp
    have hlt2 : j < s.args.length := by omega
    have g1 : r.args[j]? = some r.args[j] := List.getElem?_eq_getElem hlt
    have g2 : s.args[j]? = some s.args[j] := List.getElem?_eq_getElem hlt2
    rw [List.drop_eq_getElem_cons hlt, List.drop_eq_getElem_cons hlt2] at heq
    simp only [eqArgs] at heq
    generalize r.args[j] = ra at *
    generalize s.args[j] = sa at *
    rcases ha' with ⟨_, hn⟩ | ⟨ia, rfl, oa⟩
    · rw [hn] at hlt; simp at hlt
    rcases hb' with ⟨_, hn⟩ | ⟨ib, rfl, ob⟩
    · rw [hn] at hlt2; simp at hlt2
    have d1 := flat_drop Arg.enc_len _ _ _ g1
    have d2 := flat_drop Arg.enc_len _ _ _ g2
    have hl1 : j * 2 + 2 ≤ (r.args.flatMap Arg.enc).length := by rw [flat_len Arg.enc_len]; omega
    have hl2 : j * 2 + 2 ≤ (s.args.flatMap Arg.enc).length := by rw [flat_len Arg.enc_len]; omega
    have hli : (j : Int) < r.args.length := by omega
    have hli2 : (j : Int) < s.args.length := by omega
    simp only [F9.k9, F9.t9, e75, e76, pBin_lss]
    rw [decide_eq_true hli]
    generalize htm : puts tm' _ = tm1
    have q9 : tm1 9 = .ptr v9 0 := by rw [← htm]; simp [e9]
    have q74 : tm1 74 = .sl ia 0 r.args.length := by rw [← htm]; simp [e74]
    have q75 : tm1 75 = .sc (.int .i64 r.args.length) := by rw [← htm]; simp [e75]
    have q76 : tm1 76 = .sc (.int .i64 j) := by rw [← htm]; simp [e76]
    have q77 : tm1 77 = .sc (.bool true) := by rw [← htm]; simp
    have qs : ∀ i, i = 0 ∨ i = 1 ∨ i = 2 ∨ i = 17 ∨ i = 18 ∨ i = 19 → tm1 i = tm i := fun i hi => by
      rw [← htm, ← hsame i hi]
      rcases hi with rfl | rfl | rfl | rfl | rfl | rfl <;> simp
    clear htm
    simp only [F9.k8, F9.t8, q77, aIf_b, true_implies, Bool.true_eq_false, false_implies, and_true]
    simp only [F9.k7, F9.t7, q74, q76, pIxA_sl, lLdn_f, oa, ldnk_mk, Nat.zero_add, Int.toNat_natCast]
    refine ⟨⟨by omega, hli⟩, hl1, ?_⟩
    rw [d1]
    simp only [eAlloc_d]
    refine ⟨rfl, ?_⟩
    have hv := AH.alloc_new h' (mkO ([.string ⟨#[]⟩, .int .i64 0].map AV.sc) 2 53)
    simp only [eStore_f, hv, avC_agg, stk_mk]
    refine ⟨⟨hW _ hf.next, rfl, rfl, by simp [Arg.enc]⟩, ?_⟩
    have g : Fr h' ((h'.alloc (mkO ([.string ⟨#[]⟩, .int .i64 0].map AV.sc) 2 53)).put h'.next 0 ra.enc) (fun _ => False) := (Fr.refl.alloc _).put (.inr (Nat.le_refl _))
    have ov : ((h'.alloc (mkO ([.string ⟨#[]⟩, .int .i64 0].map AV.sc) 2 53)).put h'.next 0 ra.enc).obj h'.next = some (oArg ra) := by rw [put_row hv]; rfl
    have h9'' := g.obj h9' (fun h => h)
    have ob' := g.obj ob (fun h => h)
    have hf' : Fr h ((h'.alloc (mkO ([.string ⟨#[]⟩, .int .i64 0].map AV.sc) 2 53)).put h'.next 0 ra.enc) (fun _ => False) := hf.trans (g.mono fun _ h => h.elim)
    generalize (h'.alloc (mkO ([.string ⟨#[]⟩, .int .i64 0].map AV.sc) 2 53)).put h'.next 0 ra.enc = h2 at *
    generalize h'.next = vn at *
    generalize htm : puts tm1 _ = tm2
    have p9 : tm2 9 = .ptr v9 0 := by rw [← htm]; simp [q9]
    have p10 : tm2 10 = .sc (.int .i64 j) := by rw [← htm]; simp
    have p11 : tm2 11 = .ptr vn 0 := by rw [← htm]; simp
    have p74 : tm2 74 = .sl ia 0 r.args.length := by rw [← htm]; simp [q74]
    have p75 : tm2 75 = .sc (.int .i64 r.args.length) := by rw [← htm]; simp [q75]
    have p76 : tm2 76 = .sc (.int .i64 j) := by rw [← htm]; simp [q76]
    have ps : ∀ i, i = 0 ∨ i = 1 ∨ i = 2 ∨ i = 17 ∨ i = 18 ∨ i = 19 → tm2 i = tm i := fun i hi => by
      rw [← htm, ← qs i hi]
      rcases hi with rfl | rfl | rfl | rfl | rfl | rfl <;> simp
    clear htm
    simp only [F9.k6, F9.t6, p9, p10, p11, pFld_ptr, lLd_f, lLdn_f, ov, h9'', ob', ldk_mk, ldnk_mk, Nat.zero_add, encRA, List.getElem?_cons_succ, List.getElem?_cons_zero, cellK_some, pIxA_sl, Int.toNat_natCast]
    refine ⟨by simp, ⟨by omega, hli2⟩, hl2, ?_⟩
    rw [d2]
    show pBin Try.prog .neq 53 false (.agg ra.enc) (.agg sa.enc) _
    rw [pBin_arg]
    cases hae : argEq ra sa with
    | false =>
      rw [hae] at heq
      simp only [Bool.false_and] at heq
      simp only [Bool.not_false]
      generalize htm : puts tm2 _ = tm3
      have z : tm3 87 = .sc (.bool true) := by rw [← htm]; simp
      clear htm
      simp only [F9.k5, F9.t5, z, aIf_b, true_implies, Bool.true_eq_false, false_implies, and_true]
      simp only [F9.k4, F9.t4]
      exact hF heq.symm _ _ hf' (by simp)
    | true =>
      rw [hae] at heq
      simp only [Bool.true_and] at heq
      simp only [Bool.not_true]
      generalize htm : puts tm2 _ = tm3
      have z : tm3 87 = .sc (.bool false) := by rw [← htm]; simp
      have z9 : tm3 9 = .ptr v9 0 := by rw [← htm]; simp [p9]
      have z74 : tm3 74 = .sl ia 0 r.args.length := by rw [← htm]; simp [p74]
      have z75 : tm3 75 = .sc (.int .i64 r.args.length) := by rw [← htm]; simp [p75]
      have z76 : tm3 76 = .sc (.int .i64 j) := by rw [← htm]; simp [p76]
      have zs : ∀ i, i = 0 ∨ i = 1 ∨ i = 2 ∨ i = 17 ∨ i = 18 ∨ i = 19 → tm3 i = tm i := fun i hi => by
        rw [← htm, ← ps i hi]
        rcases hi with rfl | rfl | rfl | rfl | rfl | rfl <;> simp
      clear htm
      simp only [F9.k5, F9.t5, z, aIf_b, Bool.false_eq_true, false_implies, true_and, true_implies]
      simp only [F9.k3, F9.t3, z76, pBin_add, hw]
      refine ⟨j + 1, by omega, rfl, hf', by omega, by simp [z9], by simp [z74], by simp [z75], by simp, fun i hi => ?_, heq⟩
      rw [← zs i hi]
      rcases hi with rfl | rfl | rfl | rfl | rfl | rfl <;> simp
  · have hd : r.args.drop j = [] := List.drop_eq_nil_of_le (by omega)
    rw [hd] at heq
    have hnl : ¬ (j : Int) < r.args.length := by omega
    simp only [F9.k9, F9.t9, e75, e76, pBin_lss]
    rw [decide_eq_false hnl]
    generalize htm : puts tm' _ = tm1
    have q77 : tm1 77 = .sc (.bool false) := by rw [← htm]; simp
    have qs : ∀ i, i = 0 ∨ i = 1 ∨ i = 2 ∨ i = 17 ∨ i = 18 ∨ i = 19 → tm1 i = tm i := fun i hi => by
      rw [← htm, ← hsame i hi]
      rcases hi with rfl | rfl | rfl | rfl | rfl | rfl <;> simp
    clear htm
    simp only [F9.k8, F9.t8, q77, aIf_b, Bool.false_eq_true, false_implies, true_and, true_implies]
    simp only [thenQ, blockQ, if_true]
    exact hT heq.symm _ _ hf qs
end Go.Proofs.Ythkkgbmjjpcfaaa

namespace Go.Proofs.Ythkkgbmjjpcfaaa
open Go.Ab
/-! a text with a piece cut out, read -/
theorem runS_b (p : Int → Bool) (s : ByteArray) (i : Nat) : runS p s i = if i < s.size ∧ p (byteAt s i) = true then runS p s (i + 1) else i := by
  rw [runS]
  by_cases h : i < s.size
  · have hb : byteAt s i = s[i].toNat := by simp [byteAt, h]
    rw [dif_pos h, hb]
    by_cases hp : p s[i].toNat = true
    · rw [if_pos hp, if_pos ⟨h, hp⟩]
    · rw [if_neg hp, if_neg (fun hh => hp hh.2)]
  · rw [dif_neg h, if_neg (fun hh => h hh.1)]
section
variable {s s' : ByteArray} {P : Nat}
structure Pre (s s' : ByteArray) (P : Nat) : Prop where
  le : P ≤ s.size
  lt : P < s'.size
  eq : ∀ j, j < P → byteAt s' j = byteAt s j
  ex : ∀ i j, j ≤ P → s'.extract i j = s.extract i j
  bl : byteAt s' P = 32
  no : byteAt s P ≠ 10
theorem run_lt (hp : Pre s s' P) (p : Int → Bool) : ∀ (n i : Nat), P - i = n → i < P → runS p s i < P → runS p s' i = runS p s i := by
  have := hp.le; have := hp.lt
  intro n
  induction n with
  | zero => intro i h1 h2; omega
  | succ n ih =>
    intro i h1 h2 h3
    rw [runS_b p s] at h3 ⊢
    rw [runS_b p s', hp.eq i h2]
    by_cases hb : p (byteAt s i) = true
    · rw [if_pos ⟨by omega, hb⟩] at h3 ⊢
      rw [if_pos ⟨by omega, hb⟩]
      by_cases hlt : i + 1 < P
      · exact ih (i + 1) (by omega) hlt h3
      · have : i + 1 = P := by omega
        rw [this] at h3
        have := (runS_le p s _ P rfl (by omega)).1
        omega
    · rw [if_neg (fun hh => hb hh.2), if_neg (fun hh => hb hh.2)]
theorem run_le (hp : Pre s s' P) (p : Int → Bool) (h32 : p 32 = false) : ∀ (n i : Nat), P - i = n → i ≤ P → runS p s i ≤ P → runS p s' i = runS p s i := by
  have := hp.le; have := hp.lt
  intro n
  induction n with
  | zero =>
    intro i h1 h2 h3
    have : i = P := by omega
    subst this
    rw [runS_b p s', hp.bl, h32, if_neg (by simp)]
    have := (runS_le p s _ i rfl (by omega)).1
    omega
  | succ n ih =>
    intro i h1 h2 h3
    have hlt : i < P := by omega
    rw [runS_b p s] at h3 ⊢
    rw [runS_b p s', hp.eq i hlt]
    by_cases hb : p (byteAt s i) = true
    · rw [if_pos ⟨by omega, hb⟩] at h3 ⊢
      rw [if_pos ⟨by omega, hb⟩]
      exact ih (i + 1) (by omega) (by omega) h3
    · rw [if_neg (fun hh => hb hh.2), if_neg (fun hh => hb hh.2)]
theorem run_end (p : Int → Bool) (s : ByteArray) : ∀ (n i : Nat), s.size - i = n → i ≤ s.size → runS p s i < s.size → p (byteAt s (runS p s i)) = false := by
  intro n
  induction n with
  | zero => intro i h1 h2 h3; have := (runS_le p s _ i rfl h2).1; omega
  | succ n ih =>
    intro i h1 h2 h3
    rw [runS_b p s] at h3 ⊢
    by_cases hb : i < s.size ∧ p (byteAt s i) = true
    · rw [if_pos hb] at h3 ⊢
      exact ih (i + 1) (by omega) (by omega) h3
    · rw [if_neg hb] at h3 ⊢
      have : ¬ p (byteAt s i) = true := fun hh => hb ⟨h3, hh⟩
      simpa using this
theorem lexAt_pre (hp : Pre s s' P) (hPs : P < s.size) {i j : Nat} (hi : i < P) :
    (lexAt s i (byteAt s i) = .skip j → j ≤ P → lexAt s' i (byteAt s' i) = .skip j) ∧ (∀ t, lexAt s i (byteAt s i) = .tok t j → j ≤ P → lexAt s' i (byteAt s' i) = .tok t j) := by
  have h1 := hp.le; have h2 := hp.lt
  rw [hp.eq i hi]
  generalize hc : byteAt s i = c
  unfold lexAt
  by_cases b1 : isBlank c = true
  · rw [if_pos b1, if_pos b1]
    exact ⟨fun h _ => h, fun t h _ => by cases h⟩
  rw [if_neg b1, if_neg b1]
  by_cases b2 : (c == 35) = true
  · rw [if_pos b2, if_pos b2]
    refine ⟨fun h hj => ?_, fun t h _ => by cases h⟩
    cases h
    have hlt : runS (fun c => c != 10) s i < P := by
      rcases Nat.lt_or_ge (runS (fun c => c != 10) s i) P with h5 | h5
      · exact h5
      · have he : runS (fun c => c != 10) s i = P := by omega
        have := run_end (fun c => c != 10) s _ i rfl (by omega) (by omega)
        rw [he] at this
        have hn := hp.no
        simp at this
        exact absurd this hn
    rw [run_lt hp _ _ i rfl hi hlt]
  rw [if_neg b2, if_neg b2]
  by_cases b3 : isLetter c = true
  · rw [if_pos b3, if_pos b3]
    refine ⟨fun h _ => (by cases h), fun t h hj => ?_⟩
    cases h
    rw [run_le hp isNameB (by decide) _ i rfl (by omega) hj, hp.ex _ _ hj]
  rw [if_neg b3, if_neg b3]
  by_cases b4 : isDigit c = true
  · rw [if_pos b4, if_pos b4]
    refine ⟨fun h _ => (by split at h <;> cases h), fun t h hj => ?_⟩
    split at h
    · cases h
    · rename_i hn
      cases h
      rw [run_le hp isDigit (by decide) _ i rfl (by omega) hj, if_neg, hp.ex _ _ hj]
      intro hh
      apply hn
      simp only [Bool.and_eq_true, decide_eq_true_eq] at hh ⊢
      by_cases hr : runS isDigit s i < P
      · rw [hp.eq _ hr] at hh
        exact ⟨by omega, hh.2⟩
      · have he : runS isDigit s i = P := by omega
        rw [he, hp.bl] at hh
        exact absurd hh.2 (by decide)
  rw [if_neg b4, if_neg b4]
  by_cases b5 : isSignB c = true
  · rw [if_pos b5, if_pos b5]
    refine ⟨fun h _ => (by cases h), fun t h hj => ?_⟩
    cases h
    rw [hp.ex _ _ hj]
  · rw [if_neg b5, if_neg b5]
    exact ⟨fun h _ => (by cases h), fun t h _ => (by cases h)⟩
end
/-- Steps of the scanner from a place to a place. -/
inductive Reach (s : ByteArray) : Nat → List Tok → Nat → List Tok → Prop
  | refl (i : Nat) (acc : List Tok) : Reach s i acc i acc
  | skip {i j k : Nat} {acc acc' : List Tok} : i < s.size → lexAt s i (byteAt s i) = .skip j → i < j → Reach s j acc k acc' → Reach s i acc k acc'
  | tok {i j k : Nat} {t : Tok} {acc acc' : List Tok} : i < s.size → lexAt s i (byteAt s i) = .tok t j → i < j → Reach s j (acc ++ [t]) k acc' → Reach s i acc k acc'
theorem Reach.scan {s : ByteArray} {i k : Nat} {acc acc' : List Tok} (h : Reach s i acc k acc') : scanS s i acc = scanS s k acc' := by
  induction h with
  | refl i acc => rfl
  | skip h1 h2 h3 _ ih => rw [scanS, dif_pos h1]; simp only [h2, if_pos h3]; exact ih
  | tok h1 h2 h3 _ ih => rw [scanS, dif_pos h1]; simp only [h2, if_pos h3]; exact ih
theorem Reach.le {s : ByteArray} {i k : Nat} {acc acc' : List Tok} (h : Reach s i acc k acc') : i ≤ k := by
  induction h with
  | refl i acc => exact Nat.le_refl _
  | skip _ _ _ _ ih => omega
  | tok _ _ _ _ ih => omega
theorem Reach.pre {s s' : ByteArray} {P : Nat} (hp : Pre s s' P) (hPs : P < s.size) {i k : Nat} {acc acc' : List Tok} (h : Reach s i acc k acc') (hk : k = P) : Reach s' i acc k acc' := by
  have h2 := hp.lt
  induction h with
  | refl i acc => exact .refl _ _
  | skip a b c d ih =>
    have := d.le
    exact .skip (by omega) ((lexAt_pre hp hPs (by omega)).1 b (by omega)) c (ih hk)
  | tok a b c d ih =>
    have := d.le
    exact .tok (by omega) ((lexAt_pre hp hPs (by omega)).2 _ b (by omega)) c (ih hk)
/-- Each token is reached. -/
theorem scan_reach {s : ByteArray} : ∀ (n i : Nat) (acc L : List Tok), s.size - i = n → i ≤ s.size → scanS s i acc = .ok L → ∃ T, L = acc ++ T ∧ ∀ m (hm : m < T.length), ∃ q j, (T[m]).at_ = (q : Nat) ∧ q < s.size ∧ Reach s i acc q (acc ++ T.take m) ∧ lexAt s q (byteAt s q) = .tok T[m] j := by
  intro n
  induction n using Nat.strongRecOn with
  | _ n ih =>
    intro i acc L hn hi h
    rw [scanS] at h
    split at h
    · rename_i hlt
      split at h
      · rename_i j hj
        split at h
        · rename_i hij
          by_cases hjs : j ≤ s.size
          · obtain ⟨T, rfl, hT⟩ := ih (s.size - j) (by omega) j acc L rfl hjs h
            refine ⟨T, rfl, fun m hm => ?_⟩
            obtain ⟨q, j', a, b, c, d⟩ := hT m hm
            exact ⟨q, j', a, b, .skip hlt hj hij c, d⟩
          · rw [scanS, dif_neg (by omega)] at h
            cases h
            exact ⟨[], by simp, fun m hm => by simp at hm⟩
        · cases h
      · rename_i t j hj
        split at h
        · rename_i hij
          have first : ∀ T' : List Tok, ∃ q j', (t).at_ = (q : Nat) ∧ q < s.size ∧ Reach s i acc q (acc ++ (t :: T').take 0) ∧ lexAt s q (byteAt s q) = .tok t j' := fun T' => ⟨i, j, lexAt_at hj, hlt, by simpa using Reach.refl i acc, hj⟩
          by_cases hjs : j ≤ s.size
          · obtain ⟨T, rfl, hT⟩ := ih (s.size - j) (by omega) j (acc ++ [t]) L rfl hjs h
            refine ⟨t :: T, by simp, fun m hm => ?_⟩
            cases m with
            | zero => exact first T
            | succ m =>
              obtain ⟨q, j', a, b, c, d⟩ := hT m (by simpa using hm)
              exact ⟨q, j', by simpa using a, b, .tok hlt hj hij (by simpa using c), by simpa using d⟩
          · rw [scanS, dif_neg (by omega)] at h
            cases h
            refine ⟨[t], rfl, fun m hm => ?_⟩
            have : m = 0 := by simpa using hm
            subst this
            exact first []
        · cases h
      · cases h
    · cases h
      exact ⟨[], by simp, fun m hm => by simp at hm⟩
section
variable {s s' : ByteArray} {a b : Nat}
/-- s' from a on is s from b on. -/
structure Suf (s s' : ByteArray) (a b : Nat) : Prop where
  le : b ≤ s.size
  sz : s'.size = a + (s.size - b)
  eq : ∀ k, byteAt s' (a + k) = byteAt s (b + k)
  ex : ∀ i j, s'.extract (a + i) (a + j) = s.extract (b + i) (b + j)
theorem run_suf (hs : Suf s s' a b) (p : Int → Bool) : ∀ (n k : Nat), s.size - (b + k) = n → runS p s' (a + k) + b = runS p s (b + k) + a := by
  have h1 := hs.le; have h2 := hs.sz
  intro n
  induction n with
  | zero =>
    intro k h3
    rw [runS_b p s', runS_b p s, if_neg (fun hh => by omega), if_neg (fun hh => by omega)]
    omega
  | succ n ih =>
    intro k h3
    rw [runS_b p s', runS_b p s, hs.eq k]
    by_cases hp : p (byteAt s (b + k)) = true
    · rw [if_pos ⟨by omega, hp⟩, if_pos ⟨by omega, hp⟩]
      exact ih (k + 1) (by omega)
    · rw [if_neg (fun hh => hp hh.2), if_neg (fun hh => hp hh.2)]
      omega
/-- A token moved. -/
def mv (a b : Nat) (t : Tok) : Tok := ⟨t.kind, t.text, t.at_ + a - b⟩
theorem run_suf' (hs : Suf s s' a b) (p : Int → Bool) {k : Nat} (hk : b + k ≤ s.size) : ∃ r, runS p s (b + k) = b + r ∧ runS p s' (a + k) = a + r := by
  have h1 := run_suf hs p _ k rfl
  have h2 := (runS_le p s _ (b + k) rfl hk).1
  exact ⟨runS p s (b + k) - b, by omega, by omega⟩
theorem lexAt_suf (hs : Suf s s' a b) {k : Nat} (hk : b + k < s.size) :
    (∀ j, lexAt s (b + k) (byteAt s (b + k)) = .skip j → ∃ r, j = b + r ∧ lexAt s' (a + k) (byteAt s' (a + k)) = .skip (a + r)) ∧
    (∀ t j, lexAt s (b + k) (byteAt s (b + k)) = .tok t j → ∃ r, j = b + r ∧ lexAt s' (a + k) (byteAt s' (a + k)) = .tok (mv a b t) (a + r)) := by
  have h1 := hs.le; have h2 := hs.sz
  rw [hs.eq k]
  generalize hc : byteAt s (b + k) = c
  have hat : ((a + k : Nat) : Int) = ((b + k : Nat) : Int) + a - b := by omega
  unfold lexAt
  by_cases b1 : isBlank c = true
  · rw [if_pos b1, if_pos b1]
    exact ⟨fun j h => by cases h; exact ⟨k + 1, by omega, rfl⟩, fun t j h => (by cases h)⟩
  rw [if_neg b1, if_neg b1]
  by_cases b2 : (c == 35) = true
  · rw [if_pos b2, if_pos b2]
    obtain ⟨r, e1, e2⟩ := run_suf' hs (fun c => c != 10) (k := k) (by omega)
    exact ⟨fun j h => by cases h; exact ⟨r, e1, by rw [e2]⟩, fun t j h => (by cases h)⟩
  rw [if_neg b2, if_neg b2]
  by_cases b3 : isLetter c = true
  · rw [if_pos b3, if_pos b3]
    obtain ⟨r, e1, e2⟩ := run_suf' hs isNameB (k := k) (by omega)
    refine ⟨fun j h => (by cases h), fun t j h => ?_⟩
    cases h
    refine ⟨r, e1, ?_⟩
    rw [e1, e2, hs.ex k r, hat]
    rfl
  rw [if_neg b3, if_neg b3]
  by_cases b4 : isDigit c = true
  · rw [if_pos b4, if_pos b4]
    obtain ⟨r, e1, e2⟩ := run_suf' hs isDigit (k := k) (by omega)
    have hcond : (decide (runS isDigit s' (a + k) < s'.size) && isLetter (byteAt s' (runS isDigit s' (a + k)))) = (decide (runS isDigit s (b + k) < s.size) && isLetter (byteAt s (runS isDigit s (b + k)))) := by
      rw [e1, e2, hs.eq r]
      congr 1
      by_cases hr : b + r < s.size
      · rw [decide_eq_true hr, decide_eq_true (by omega)]
      · rw [decide_eq_false hr, decide_eq_false (by omega)]
    rw [hcond]
    refine ⟨fun j h => (by split at h <;> cases h), fun t j h => ?_⟩
    split at h
    · cases h
    · rename_i hn
      cases h
      refine ⟨r, e1, ?_⟩
      rw [if_neg hn, e1, e2, hs.ex k r, hat]
      rfl
  rw [if_neg b4, if_neg b4]
  by_cases b5 : isSignB c = true
  · rw [if_pos b5, if_pos b5]
    refine ⟨fun j h => (by cases h), fun t j h => ?_⟩
    cases h
    refine ⟨k + 1, by omega, ?_⟩
    have := hs.ex k (k + 1)
    rw [show a + (k + 1) = a + k + 1 by omega, show b + (k + 1) = b + k + 1 by omega] at this
    rw [this, hat]
    rfl
  · rw [if_neg b5, if_neg b5]
    exact ⟨fun j h => (by cases h), fun t j h => (by cases h)⟩
theorem scan_suf (hs : Suf s s' a b) : ∀ (n k : Nat) (acc acc' T : List Tok), s.size - (b + k) = n → b + k ≤ s.size → scanS s (b + k) acc = .ok (acc ++ T) → scanS s' (a + k) acc' = .ok (acc' ++ T.map (mv a b)) := by
  have h1 := hs.le; have h2 := hs.sz
  intro n
  induction n using Nat.strongRecOn with
  | _ n ih =>
    intro k acc acc' T hn hk h
    rw [scanS] at h ⊢
    by_cases hlt : b + k < s.size
    · rw [dif_pos hlt] at h
      rw [dif_pos (by omega)]
      have hl := lexAt_suf hs hlt
      cases hx : lexAt s (b + k) (byteAt s (b + k)) with
      | skip j =>
        obtain ⟨r, rfl, e⟩ := hl.1 j hx
        rw [e]
        simp only [hx] at h ⊢
        by_cases hr : b + k < b + r
        · rw [if_pos hr] at h
          rw [if_pos (by omega)]
          by_cases hrs : b + r ≤ s.size
          · exact ih (s.size - (b + r)) (by omega) r acc acc' T rfl hrs h
          · rw [scanS, dif_neg (by omega)] at h
            rw [scanS, dif_neg (by omega)]
            simp only [Except.ok.injEq, List.self_eq_append_right] at h
            subst h; simp
        · rw [if_neg hr] at h; cases h
      | tok t j =>
        obtain ⟨r, rfl, e⟩ := hl.2 t j hx
        rw [e]
        simp only [hx] at h ⊢
        by_cases hr : b + k < b + r
        · rw [if_pos hr] at h
          rw [if_pos (by omega)]
          by_cases hrs : b + r ≤ s.size
          · obtain ⟨T', hT', _⟩ := scan_reach _ (b + r) (acc ++ [t]) _ rfl hrs h
            have hTT : T = t :: T' := by
              rw [List.append_assoc] at hT'
              exact List.append_cancel_left hT'
            subst hTT
            rw [hT'] at h
            have := ih (s.size - (b + r)) (by omega) r (acc ++ [t]) (acc' ++ [mv a b t]) T' rfl hrs h
            simpa using this
          · rw [scanS, dif_neg (by omega)] at h
            rw [scanS, dif_neg (by omega)]
            simp only [Except.ok.injEq, List.append_cancel_left_eq] at h
            subst h; simp
        · rw [if_neg hr] at h; cases h
      | err j => simp only [hx] at h; cases h
    · rw [dif_neg hlt] at h
      rw [dif_neg (by omega)]
      simp only [Except.ok.injEq, List.self_eq_append_right] at h
      subst h; simp
end
end Go.Proofs.Ythkkgbmjjpcfaaa

namespace Go.Proofs.Ythkkgbmjjpcfaaa
open Go.Ab
theorem byteAt_l (s : ByteArray) (j : Nat) : byteAt s j = match s.data.toList[j]? with | some c => (c.toNat : Int) | none => 0 := by
  unfold byteAt
  have : s[j]? = s.data.toList[j]? := by
    by_cases h : j < s.size
    · have h' : j < s.data.toList.length := by simpa using h
      rw [List.getElem?_eq_getElem h', getElem?_pos s j h]; rfl
    · have h' : ¬ j < s.data.toList.length := by simpa using h
      rw [List.getElem?_eq_none (by omega), getElem?_neg s j h]
  rw [this]
  cases s.data.toList[j]? <;> rfl
theorem extract_l (s : ByteArray) (i j : Nat) : (s.extract i j).data.toList = (s.data.toList.drop i).take (j - i) := by
  rw [ByteArray.data_extract, Array.toList_extract, List.extract_eq_take_drop]
theorem ba_ext {a b : ByteArray} (h : a.data.toList = b.data.toList) : a = b := by
  cases a; cases b
  congr 1
  exact Array.ext' h
theorem ext_of {s s' : ByteArray} {i j a b : Nat} (h : ∀ m, m < j - i → s'.data.toList[a + m]? = s.data.toList[b + m]?) (hi : ∃ u v, a = u + i ∧ b = v + i) {j' j2 : Nat} (h1 : j' - a = j - i) (h2 : j2 - b = j - i) : s'.extract a j' = s.extract b j2 := by
  apply ba_ext
  rw [extract_l, extract_l, h1, h2]
  apply List.ext_getElem?
  intro m
  rw [List.getElem?_take, List.getElem?_take, List.getElem?_drop, List.getElem?_drop]
  by_cases hm : m < j - i
  · rw [if_pos hm, if_pos hm, h m hm]
  · rw [if_neg hm, if_neg hm]
/-- The text without a piece. -/
def cutS (s : ByteArray) (P e : Nat) : ByteArray := s.extract 0 P ++ ⟨#[32]⟩ ++ s.extract e s.size
theorem cut_l (s : ByteArray) (P e : Nat) : (cutS s P e).data.toList = s.data.toList.take P ++ 32 :: s.data.toList.drop e := by
  unfold cutS
  rw [ByteArray.data_append, ByteArray.data_append, Array.toList_append, Array.toList_append, extract_l, extract_l]
  have : s.data.toList.length = s.size := by simp
  simp only [List.drop_zero, Nat.sub_zero, List.append_assoc, List.singleton_append]
  rw [List.take_of_length_le (l := List.drop e s.data.toList) (by rw [List.length_drop, this]; omega)]
section
variable {s : ByteArray} {P e : Nat}
theorem cut_lt (hP : P ≤ s.size) {j : Nat} (h : j < P) : (cutS s P e).data.toList[j]? = s.data.toList[j]? := by
  have hl : s.data.toList.length = s.size := by simp
  rw [cut_l, List.getElem?_append_left (by rw [List.length_take, hl]; omega), List.getElem?_take, if_pos h]
theorem cut_at (hP : P ≤ s.size) : (cutS s P e).data.toList[P]? = some 32 := by
  have hl : s.data.toList.length = s.size := by simp
  have ht : (s.data.toList.take P).length = P := by rw [List.length_take, hl]; omega
  rw [cut_l, List.getElem?_append_right (by omega), ht, Nat.sub_self]; rfl
theorem cut_gt (hP : P ≤ s.size) (k : Nat) : (cutS s P e).data.toList[P + 1 + k]? = s.data.toList[e + k]? := by
  have hl : s.data.toList.length = s.size := by simp
  have ht : (s.data.toList.take P).length = P := by rw [List.length_take, hl]; omega
  rw [cut_l, List.getElem?_append_right (by omega), ht, show P + 1 + k - P = k + 1 by omega, List.getElem?_cons_succ, List.getElem?_drop]
theorem cut_size (hP : P ≤ s.size) (he : e ≤ s.size) : (cutS s P e).size = P + 1 + (s.size - e) := by
  have hl : s.data.toList.length = s.size := by simp
  have : (cutS s P e).size = (cutS s P e).data.toList.length := by simp
  rw [this, cut_l, List.length_append, List.length_take, List.length_cons, List.length_drop, hl]
  omega
theorem cut_pre (hP : P < s.size) (he : e ≤ s.size) (hno : byteAt s P ≠ 10) : Pre s (cutS s P e) P := by
  refine ⟨by omega, by rw [cut_size (by omega) he]; omega, fun j hj => ?_, fun i j hj => ?_, ?_, hno⟩
  · rw [byteAt_l, byteAt_l, cut_lt (by omega) hj]
  · exact ext_of (i := i) (j := j) (fun m hm => cut_lt (by omega) (by omega)) ⟨0, 0, by omega, by omega⟩ rfl rfl
  · rw [byteAt_l, cut_at (by omega)]; rfl
theorem cut_suf (hP : P ≤ s.size) (he : e ≤ s.size) : Suf s (cutS s P e) (P + 1) e := by
  refine ⟨he, cut_size hP he, fun k => ?_, fun i j => ?_⟩
  · rw [byteAt_l, byteAt_l, cut_gt hP]
  · refine ext_of (i := i) (j := j) (fun m _ => ?_) ⟨P + 1, e, rfl, rfl⟩ (by omega) (by omega)
    rw [Nat.add_assoc, cut_gt hP, Nat.add_assoc]
/-- What is read of the text without a piece that begins and ends at tokens. -/
theorem scan_cut {T1 T2 T3 : List Tok} {t : Tok} (h : scanS s 0 [] = .ok (T1 ++ (t :: T2) ++ T3)) (hP : t.at_ = (P : Nat)) (he : (T3 = [] ∧ e = s.size) ∨ ∃ t3 T, T3 = t3 :: T ∧ t3.at_ = (e : Nat)) :
    scanS (cutS s P e) 0 [] = .ok (T1 ++ T3.map (mv (P + 1) e)) := by
  obtain ⟨T, hT, hr⟩ := scan_reach _ 0 [] _ rfl (by omega) h
  simp only [List.nil_append] at hT
  subst hT
  obtain ⟨q, j, a1, a2, a3, a4⟩ := hr T1.length (by simp)
  have e1 : (T1 ++ (t :: T2) ++ T3)[T1.length] = t := by
    rw [List.getElem_append_left (by simp), List.getElem_append_right (by omega)]; simp
  rw [e1] at a1 a4
  have hq : q = P := by rw [hP] at a1; omega
  subst hq
  have e2 : (T1 ++ (t :: T2) ++ T3).take T1.length = T1 := by rw [List.append_assoc, List.take_left]
  rw [e2, List.nil_append] at a3
  have hno : byteAt s q ≠ 10 := by
    intro hh
    rw [hh] at a4
    unfold lexAt at a4
    rw [if_pos (by decide)] at a4
    cases a4
  have key : e ≤ s.size ∧ ∃ acc, scanS s e acc = .ok (acc ++ T3) := by
    rcases he with ⟨rfl, rfl⟩ | ⟨t3, T, rfl, he⟩
    · exact ⟨Nat.le_refl _, [], by rw [scanS, dif_neg (by omega)]; rfl⟩
    · obtain ⟨q', j', b1, b2, b3, b4⟩ := hr (T1 ++ (t :: T2)).length (by simp)
      have e3 : (T1 ++ (t :: T2) ++ (t3 :: T))[(T1 ++ (t :: T2)).length] = t3 := by
        rw [List.getElem_append_right (by omega)]; simp
      rw [e3, he] at b1
      have : q' = e := by omega
      subst this
      rw [List.nil_append, List.take_left] at b3
      exact ⟨by omega, _, by rw [← b3.scan]; exact h⟩
  obtain ⟨hes, acc, hsc⟩ := key
  have hp := cut_pre (e := e) a2 hes hno
  rw [(a3.pre hp a2 rfl).scan, scanS, dif_pos hp.lt, hp.bl]
  have : lexAt (cutS s q e) q 32 = .skip (q + 1) := by unfold lexAt; rw [if_pos (by decide)]
  simp only [this]
  rw [if_pos (by omega)]
  exact scan_suf (cut_suf (by omega) hes) _ 0 acc T1 T3 rfl (by omega) hsc
end
end Go.Proofs.Ythkkgbmjjpcfaaa

namespace Go.Proofs.Ythkkgbmjjpcfaaa
open Go.Ab
/-! the grammar: what the parser reads, by rules -/
abbrev KTk := Int × ByteArray
def kt (t : Tok) : KTk := (t.kind, t.text)
def er (r : Row) : Row := { r with place := 0 }
def isPl (x : KTk) : Prop := x.1 = 1 ∧ ownB x.2 = false
def isNm (x : KTk) (v : Int) : Prop := x.1 = 2 ∧ valGo x.2.data.toList 0 = some v
abbrev kSg (s : ByteArray) : KTk := (3, s)
/-- The tokens of an argument. -/
inductive ArgT : List KTk → Arg → Prop
  | plain {x : KTk} : isPl x → ArgT [x] ⟨x.2, -1⟩
  | ix {x y : KTk} {v : Int} : isPl x → isNm y v → ArgT [x, kSg sIxO, y, kSg sIxC] ⟨x.2, v⟩
inductive ArgsT : List KTk → List Arg → Prop
  | nil : ArgsT [] []
  | cons {a b : List KTk} {x : Arg} {l : List Arg} : ArgT a x → ArgsT b l → ArgsT (a ++ b) (x :: l)
/-- The tokens of a statement's head; the row it gives; has it a body? -/
inductive Hd : List KTk → Row → Bool → Prop
  | regs {x y z : KTk} {v : Int} : x.1 = 1 → (x.2 = sQubits ∨ x.2 = sBits) → isPl y → isNm z v → Hd [x, y, z] ⟨x.2, y.2, [], v, 0, 0⟩ false
  | gate {x y : KTk} {l : List KTk} : x.1 = 1 → x.2 = sGate → isPl y → (∀ z ∈ l, isPl z) → Hd (x :: y :: l) ⟨x.2, y.2, l.map (fun z => ⟨z.2, -1⟩), 0, 0, 0⟩ true
  | rep {x z : KTk} {v : Int} : x.1 = 1 → x.2 = sRepeat → isNm z v → Hd [x, z] ⟨x.2, sEmpty, [], v, 0, 0⟩ true
  | cond {x y z : KTk} {v : Int} : x.1 = 1 → x.2 = sIf → isPl y → isNm z v → Hd [x, y, z] ⟨x.2, y.2, [], v, 0, 0⟩ true
  | meas {x : KTk} {a b : List KTk} {s t : Arg} : x.1 = 1 → x.2 = sMeasure → ArgT a s → ArgT b t → Hd (x :: (a ++ b)) ⟨x.2, sEmpty, [s, t], 0, 0, 0⟩ false
  | reset {x : KTk} {a : List KTk} {s : Arg} : x.1 = 1 → x.2 = sReset → ArgT a s → Hd (x :: a) ⟨x.2, sEmpty, [s], 0, 0, 0⟩ false
  | use {x : KTk} {a : List KTk} {l : List Arg} : isPl x → ArgsT a l → Hd (x :: a) ⟨sUse, x.2, l, 0, 0, 0⟩ false
abbrev RO := Row × Nat
def sh (n : Nat) (x : RO) : RO := (x.1, x.2 + n)
/-- Statements one behind the other: tokens; rows, each with where its tokens begin. -/
inductive Sq : Nat → List KTk → List RO → Prop
  | nil {k : Nat} : Sq k [] []
  | leaf {k : Nat} {h b : List KTk} {row : Row} {rb : List RO} : Hd h row false → Sq k b rb → Sq k (h ++ kSg sSemi :: b) ((row, 0) :: rb.map (sh (h.length + 1)))
  | held {k : Nat} {h b c : List KTk} {row : Row} {rb rc : List RO} : Hd h row true → Sq k b rb → Sq (k + 1) c rc →
      Sq (k + 1) (h ++ kSg sOpen :: (b ++ kSg sShut :: c)) (({ row with rows := rb.length }, 0) :: (rb.map (sh (h.length + 1)) ++ rc.map (sh (h.length + 1 + b.length + 1))))
/-- One statement. -/
def One (k : Nat) (h : List KTk) (rs : List RO) : Prop := ∀ {b : List KTk} {rb : List RO}, Sq k b rb → Sq k (h ++ b) (rs ++ rb.map (sh h.length))
section
variable {L : List Tok} {en : Int}
/-- From p to q stand these tokens. -/
def Seg (L : List Tok) (p q : Nat) (h : List KTk) : Prop := (L.map kt).drop p = h ++ (L.map kt).drop q ∧ q = p + h.length
theorem Seg.nil {p : Nat} : Seg L p p [] := ⟨rfl, rfl⟩
theorem Seg.app {p q r : Nat} {a b : List KTk} (h1 : Seg L p q a) (h2 : Seg L q r b) : Seg L p r (a ++ b) := ⟨by rw [h1.1, h2.1, List.append_assoc], by rw [h2.2, h1.2, List.length_append]; omega⟩
theorem Seg.one {p : Nat} {t : Tok} (h : L[p]? = some t) : Seg L p (p + 1) [kt t] := by
  refine ⟨?_, rfl⟩
  obtain ⟨hl, rfl⟩ := List.getElem?_eq_some_iff.1 h
  rw [List.drop_eq_getElem_cons (by simpa using hl)]
  simp
theorem nameP_seg {p : Nat} {s : ByteArray} (h : nameP L en p = .ok s) : ∃ x, Seg L p (p + 1) [x] ∧ isPl x ∧ x.2 = s := by
  obtain ⟨_, t, h1, h2, h3⟩ := nameP_ok h
  refine ⟨kt t, .one h1, ?_, h2⟩
  unfold plainP at h3
  rw [h1] at h3
  simpa [isPl, kt] using h3
theorem numberP_seg {p : Nat} {n : Int} (h : numberP L en p = .ok n) : ∃ x, Seg L p (p + 1) [x] ∧ isNm x n := by
  unfold numberP at h
  cases hn : nextP L en p (isNumP L p) with
  | error e => rw [hn] at h; cases h
  | ok t =>
    obtain ⟨_, h1, h3⟩ := nextP_ok hn
    rw [hn] at h
    simp only at h
    refine ⟨kt t, .one h1, ?_⟩
    unfold isNumP at h3
    rw [h1] at h3
    split at h
    · rename_i v hv
      cases h
      exact ⟨by simpa [kt] using h3, hv⟩
    · cases h
theorem signP_seg {p : Nat} {s : ByteArray} {t : Tok} (h : signP L en p s = .ok t) : Seg L p (p + 1) [kSg s] := by
  obtain ⟨_, h1, h3⟩ := nextP_ok h
  have := Seg.one h1
  unfold isSignP at h3
  rw [h1] at h3
  simp at h3
  have hk : kt t = kSg s := by unfold kt; rw [h3.1, h3.2]
  rwa [hk] at this
theorem isSign_seg {p : Nat} {s : ByteArray} (h : isSignP L p s = true) : Seg L p (p + 1) [kSg s] := by
  unfold isSignP at h
  cases hg : L[p]? with
  | none => rw [hg] at h; cases h
  | some t =>
    have := Seg.one hg
    rw [hg] at h
    simp at h
    have hk : kt t = kSg s := by unfold kt; rw [h.1, h.2]
    rwa [hk] at this
theorem argP_seg {p q : Nat} {a : Arg} (h : argP L en p = .ok (a, q)) : ∃ x, Seg L p q x ∧ ArgT x a := by
  unfold argP at h
  cases hn : nameP L en p with
  | error e => rw [hn] at h; cases h
  | ok nm =>
    obtain ⟨x, s1, pl, rfl⟩ := nameP_seg hn
    rw [hn] at h
    simp only at h
    split at h
    · rename_i hs
      have s2 := isSign_seg hs
      cases hu : numberP L en (p + 2) with
      | error e => rw [hu] at h; cases h
      | ok n =>
        obtain ⟨y, s3, nm3⟩ := numberP_seg hu
        rw [hu] at h
        cases hc : signP L en (p + 3) sIxC with
        | error e => rw [hc] at h; cases h
        | ok t =>
          rw [hc] at h; cases h
          have s4 := signP_seg hc
          exact ⟨_, ((s1.app s2).app s3).app s4, .ix pl nm3⟩
    · cases h
      exact ⟨_, s1, .plain pl⟩
theorem namesP_seg : ∀ (n p : Nat) (acc : List Arg) {l : List Arg} {q : Nat}, namesP L en n p acc = .ok (l, q) → ∃ xs : List KTk, Seg L p q xs ∧ (∀ z ∈ xs, isPl z) ∧ l = acc ++ xs.map (fun z => ⟨z.2, -1⟩)
  | 0, _, _, _, _, h => by simp [namesP] at h
  | n + 1, p, acc, l, q, h => by
    simp only [namesP] at h
    split at h
    · cases hn : nameP L en p with
      | error e => rw [hn] at h; cases h
      | ok nm =>
        obtain ⟨x, s1, pl, rfl⟩ := nameP_seg hn
        rw [hn] at h
        obtain ⟨xs, s2, h2, h3⟩ := namesP_seg n (p + 1) _ h
        refine ⟨_, s1.app s2, fun z hz => ?_, by rw [h3]; simp⟩
        rcases List.mem_append.1 hz with hz | hz
        · simp only [List.mem_singleton] at hz; subst hz; exact pl
        · exact h2 z hz
    · cases h; exact ⟨[], .nil, by simp, by simp⟩
theorem argsP_seg : ∀ (n p : Nat) (acc : List Arg) {l : List Arg} {q : Nat}, argsP L en n p acc = .ok (l, q) → ∃ (xs : List KTk) (l' : List Arg), Seg L p q xs ∧ ArgsT xs l' ∧ l = acc ++ l'
  | 0, _, _, _, _, h => by simp [argsP] at h
  | n + 1, p, acc, l, q, h => by
    simp only [argsP] at h
    split at h
    · cases hn : argP L en p with
      | error e => rw [hn] at h; cases h
      | ok x =>
        obtain ⟨a, p1⟩ := x
        obtain ⟨x, s1, at1⟩ := argP_seg hn
        rw [hn] at h
        obtain ⟨xs, l', s2, h2, h3⟩ := argsP_seg n p1 _ h
        exact ⟨_, _, s1.app s2, .cons at1 h2, by rw [h3]; simp⟩
    · cases h; exact ⟨[], [], .nil, .nil, by simp⟩
def atOf (L : List Tok) (j : Nat) : Int := match L[j]? with | some t => t.at_ | none => -1
/-- Rows, and what the rules tell of them. -/
def RR (L : List Tok) (p : Nat) (rows : List Row) (rs : List RO) : Prop := rows.map (fun r => (er r, r.place)) = rs.map (fun x => (x.1, atOf L (p + x.2)))
theorem RR.nil {p : Nat} : RR L p [] [] := rfl
theorem RR.app {p q : Nat} {a b : List Row} {ra rb : List RO} {n : Nat} (h1 : RR L p a ra) (h2 : RR L q b rb) (hq : q = p + n) : RR L p (a ++ b) (ra ++ rb.map (sh n)) := by
  subst hq
  unfold RR at *
  rw [List.map_append, List.map_append, h1, h2, List.map_map]
  congr 1
  apply List.map_congr_left
  intro x _
  simp only [Function.comp, sh]
  rw [show p + n + x.2 = p + (x.2 + n) by omega]
theorem RR.len {p : Nat} {a : List Row} {ra : List RO} (h : RR L p a ra) : a.length = ra.length := by
  have := congrArg List.length h
  simpa using this
def StepS (L : List Tok) (k : Nat) (step : Nat → Res (Nat × List Row)) : Prop := ∀ p q new, step p = .ok (q, new) → ∃ h rs, Seg L p q h ∧ One k h rs ∧ RR L p new rs
theorem loopP_seg {k : Nat} {step : Nat → Res (Nat × List Row)} (hs : StepS L k step) : ∀ (n p : Nat) (acc : List Row) {l : List Row} {q : Nat}, loopP L step n p acc = .ok (q, l) → ∃ b rb new, Seg L p q b ∧ Sq k b rb ∧ RR L p new rb ∧ l = acc ++ new ∧ isSignP L q sShut = true
  | 0, _, _, _, _, h => by simp [loopP] at h
  | n + 1, p, acc, l, q, h => by
    simp only [loopP] at h
    split at h
    · rename_i hg
      cases h
      exact ⟨[], [], [], .nil, .nil, .nil, by simp, hg⟩
    · cases hn : step p with
      | error e => rw [hn] at h; cases h
      | ok x =>
        obtain ⟨p1, new⟩ := x
        obtain ⟨hd, rs, s1, o1, r1⟩ := hs _ _ _ hn
        rw [hn] at h
        obtain ⟨b, rb, new2, s2, q2, r2, h2, h3⟩ := loopP_seg hs n p1 _ h
        exact ⟨_, _, new ++ new2, s1.app s2, o1 q2, r1.app r2 s1.2, by rw [h2]; simp, h3⟩
theorem lineP_seg {k p q p0 : Nat} {row : Row} {l : List Row} {h : List KTk} (hh : Hd h (er row) false) (hs : Seg L p0 p h) (hat : row.place = atOf L p0) (hl : lineP L en p row = .ok (q, l)) : ∃ h' rs, Seg L p0 q h' ∧ One k h' rs ∧ RR L p0 l rs := by
  unfold lineP at hl
  cases hn : signP L en p sSemi with
  | error e => rw [hn] at hl; cases hl
  | ok t =>
    rw [hn] at hl; cases hl
    refine ⟨h ++ [kSg sSemi], [(er row, 0)], hs.app (signP_seg hn), fun {b rb} hb => ?_, ?_⟩
    · have := Sq.leaf hh hb
      simpa using this
    · simp [RR, hat, er]
theorem heldP_seg {k p q p0 : Nat} {row : Row} {l : List Row} {h : List KTk} (hh : Hd h (er row) true) (hs : Seg L p0 p h) (hat : row.place = atOf L p0) (hst : ∀ k', k = k' + 1 → StepS L k' (stepP L en k)) (hl : heldP L en k (stepP L en k) p row = .ok (q, l)) : ∃ h' rs, Seg L p0 q h' ∧ One k h' rs ∧ RR L p0 l rs := by
  unfold heldP at hl
  cases hn : bdP L en k (stepP L en k) p with
  | error e => rw [hn] at hl; cases hl
  | ok x =>
    obtain ⟨p1, rows⟩ := x
    rw [hn] at hl; cases hl
    unfold bdP at hn
    cases ho : signP L en p sOpen with
    | error e => rw [ho] at hn; cases hn
    | ok t =>
      rw [ho] at hn
      cases k with
      | zero => cases hn
      | succ k =>
        simp only at hn
        cases hlp : loopP L (stepP L en (k + 1)) (L.length + 1) (p + 1) [] with
        | error e => rw [hlp] at hn; cases hn
        | ok x =>
          obtain ⟨p2, rows2⟩ := x
          rw [hlp] at hn
          cases hn
          obtain ⟨b, rb, new, s2, q2, r2, h2, h3⟩ := loopP_seg (hst k rfl) _ _ _ hlp
          simp only [List.nil_append] at h2
          subst h2
          have sg := (hs.app (signP_seg ho)).app (s2.app (isSign_seg h3))
          refine ⟨h ++ kSg sOpen :: (b ++ [kSg sShut]), ({ er row with rows := rb.length }, 0) :: rb.map (sh (h.length + 1)), by simpa using sg, fun {c rc} hc => ?_, ?_⟩
          · have := Sq.held hh q2 hc
            simpa [List.append_assoc, Nat.add_assoc, Nat.add_comm, Nat.add_left_comm] using this
          · have hl2 := r2.len
            have ha : RR L p0 [{ row with rows := (rows.length : Int) }] [({ er row with rows := (rb.length : Int) }, 0)] := by simp [RR, hat, er, hl2]
            have := ha.app r2 (n := h.length + 1) (by rw [hs.2]; omega)
            simpa using this
theorem stmtB_seg {k p q : Nat} {t : Tok} {l : List Row} (hst : ∀ k', k = k' + 1 → StepS L k' (stepP L en k)) (hg : L[p]? = some t) (hk : t.kind = 1) (h : stmtB L en k (stepP L en k) p t = .ok (q, l)) : ∃ h' rs, Seg L p q h' ∧ One k h' rs ∧ RR L p l rs := by
  have s0 := Seg.one hg
  have hat : t.at_ = atOf L p := by unfold atOf; rw [hg]
  have hk1 : (kt t).1 = 1 := hk
  unfold stmtB at h
  split at h
  · rename_i hc
    cases h1 : nameP L en (p + 1) with
    | error e => rw [h1] at h; cases h
    | ok nm =>
      obtain ⟨y, s1, pl, rfl⟩ := nameP_seg h1
      rw [h1] at h; simp only at h
      cases h2 : numberP L en (p + 2) with
      | error e => rw [h2] at h; cases h
      | ok n =>
        obtain ⟨z, s2, nm2⟩ := numberP_seg h2
        rw [h2] at h
        exact lineP_seg (Hd.regs (x := kt t) hk1 hc pl nm2) ((s0.app s1).app s2) hat h
  split at h
  · rename_i hc
    cases h1 : nameP L en (p + 1) with
    | error e => rw [h1] at h; cases h
    | ok nm =>
      obtain ⟨y, s1, pl, rfl⟩ := nameP_seg h1
      rw [h1] at h; simp only at h
      cases h2 : namesP L en (L.length + 1) (p + 2) [] with
      | error e => rw [h2] at h; cases h
      | ok x =>
        obtain ⟨l2, p2⟩ := x
        obtain ⟨xs, s2, hp2, h3⟩ := namesP_seg _ _ _ h2
        rw [h2] at h
        simp only [List.nil_append] at h3
        subst h3
        exact heldP_seg (Hd.gate (x := kt t) hk1 hc pl hp2) ((s0.app s1).app s2) hat hst h
  split at h
  · rename_i hc
    cases h1 : numberP L en (p + 1) with
    | error e => rw [h1] at h; cases h
    | ok n =>
      obtain ⟨z, s2, nm2⟩ := numberP_seg h1
      rw [h1] at h
      exact heldP_seg (Hd.rep (x := kt t) hk1 hc nm2) (s0.app s2) hat hst h
  split at h
  · rename_i hc
    cases h1 : nameP L en (p + 1) with
    | error e => rw [h1] at h; cases h
    | ok nm =>
      obtain ⟨y, s1, pl, rfl⟩ := nameP_seg h1
      rw [h1] at h; simp only at h
      cases h2 : numberP L en (p + 2) with
      | error e => rw [h2] at h; cases h
      | ok n =>
        obtain ⟨z, s2, nm2⟩ := numberP_seg h2
        rw [h2] at h
        exact heldP_seg (Hd.cond (x := kt t) hk1 hc pl nm2) ((s0.app s1).app s2) hat hst h
  split at h
  · rename_i hc
    cases h1 : argP L en (p + 1) with
    | error e => rw [h1] at h; cases h
    | ok x =>
      obtain ⟨a, p1⟩ := x
      obtain ⟨xa, s1, a1⟩ := argP_seg h1
      rw [h1] at h; simp only at h
      cases h2 : argP L en p1 with
      | error e => rw [h2] at h; cases h
      | ok y =>
        obtain ⟨b, p2⟩ := y
        obtain ⟨xb, s2, a2⟩ := argP_seg h2
        rw [h2] at h
        exact lineP_seg (Hd.meas (x := kt t) hk1 hc a1 a2) (by simpa using s0.app (s1.app s2)) hat h
  split at h
  · rename_i hc
    cases h1 : argP L en (p + 1) with
    | error e => rw [h1] at h; cases h
    | ok x =>
      obtain ⟨a, p1⟩ := x
      obtain ⟨xa, s1, a1⟩ := argP_seg h1
      rw [h1] at h; simp only at h
      exact lineP_seg (Hd.reset (x := kt t) hk1 hc a1) (s0.app s1) hat h
  · rename_i c1 c2 c3 c4 c5 c6
    have hpl : isPl (kt t) := by
      refine ⟨hk1, ?_⟩
      simp only [not_or] at c1
      simp [ownB, kt, c1.1, c1.2, c2, c3, c4, c5, c6]
    cases h1 : argsP L en (L.length + 1) (p + 1) [] with
    | error e => rw [h1] at h; cases h
    | ok x =>
      obtain ⟨l2, p2⟩ := x
      obtain ⟨xs, l', s1, a1, h3⟩ := argsP_seg _ _ _ h1
      rw [h1] at h; simp only at h
      simp only [List.nil_append] at h3
      subst h3
      exact lineP_seg (Hd.use hpl a1) (s0.app s1) hat h
theorem stmtP_seg : ∀ (k : Nat), StepS L k (stmtP L en k) := by
  have key : ∀ k, (∀ k', k = k' + 1 → StepS L k' (stepP L en k)) → StepS L k (stmtP L en k) := by
    intro k hk p q new h
    rw [stmtP_eq] at h
    cases h1 : nextP L en p (isNameP L p) with
    | error e => rw [h1] at h; cases h
    | ok t =>
      rw [h1] at h
      obtain ⟨_, h2, h3⟩ := nextP_ok h1
      unfold isNameP at h3
      rw [h2] at h3
      exact stmtB_seg hk h2 (by simpa using h3) h
  intro k
  induction k with
  | zero => exact key 0 (fun k' he => by omega)
  | succ k ih => exact key (k + 1) (fun k' he => by cases he; exact ih)
theorem topP_seg : ∀ (n p : Nat) (acc : List Row) {l : List Row}, p ≤ L.length → topP L en n p acc = .ok l → ∃ b rb new, Seg L p L.length b ∧ Sq 32 b rb ∧ RR L p new rb ∧ l = acc ++ new
  | 0, _, _, _, _, h => by simp [topP] at h
  | n + 1, p, acc, l, hp, h => by
    simp only [topP] at h
    split at h
    · cases hn : stmtP L en 32 p with
      | error e => rw [hn] at h; cases h
      | ok x =>
        obtain ⟨p1, new⟩ := x
        obtain ⟨hd, rs, s1, o1, r1⟩ := stmtP_seg 32 _ _ _ hn
        rw [hn] at h
        obtain ⟨b1, b2, b3⟩ := stmtP_ok 32 p p1 new hn
        obtain ⟨b, rb, new2, s2, q2, r2, h2⟩ := topP_seg n p1 _ b2 h
        exact ⟨_, _, new ++ new2, s1.app s2, o1 q2, r1.app r2 s1.2, by rw [h2]; simp⟩
    · cases h
      have : p = L.length := by omega
      subst this
      exact ⟨[], [], [], .nil, .nil, .nil, by simp⟩
end
end Go.Proofs.Ythkkgbmjjpcfaaa

namespace Go.Proofs.Ythkkgbmjjpcfaaa
open Go.Ab
/-! the grammar: the parser reads all that the rules allow -/
section
variable {L : List Tok} {en : Int}
theorem drop_c {p : Nat} {a : KTk} {l : List KTk} (h : (L.map kt).drop p = a :: l) : ∃ t, L[p]? = some t ∧ kt t = a ∧ (L.map kt).drop (p + 1) = l := by
  have h0 : (L.map kt)[p]? = some a := by
    have := congrArg (fun x => x[0]?) h
    simpa using this
  rw [List.getElem?_map] at h0
  cases hg : L[p]? with
  | none => rw [hg] at h0; cases h0
  | some t =>
    rw [hg] at h0
    refine ⟨t, rfl, by simpa using h0, ?_⟩
    have := congrArg (List.drop 1) h
    simpa [List.drop_drop] using this
theorem plain_c {p : Nat} {x : KTk} {l : List KTk} (h : (L.map kt).drop p = x :: l) (hx : isPl x) : plainP L p = true ∧ nameP L en p = .ok x.2 ∧ (L.map kt).drop (p + 1) = l ∧ isNameP L p = true := by
  obtain ⟨t, h1, rfl, h3⟩ := drop_c h
  have hk : t.kind = 1 := hx.1
  have ho : ownB t.text = false := hx.2
  have hp : plainP L p = true := by simp [plainP, h1, hk, ho]
  exact ⟨hp, by simp [nameP, nextP, h1, hp, Except.map, kt], h3, by simp [isNameP, h1, hk]⟩
theorem number_c {p : Nat} {x : KTk} {v : Int} {l : List KTk} (h : (L.map kt).drop p = x :: l) (hx : isNm x v) : numberP L en p = .ok v ∧ (L.map kt).drop (p + 1) = l := by
  obtain ⟨t, h1, rfl, h3⟩ := drop_c h
  have hk : t.kind = 2 := hx.1
  have hv : valGo t.text.data.toList 0 = some v := hx.2
  have hp : isNumP L p = true := by simp [isNumP, h1, hk]
  exact ⟨by simp [numberP, nextP, h1, hp, hv], h3⟩
theorem sign_c {p : Nat} {s : ByteArray} {l : List KTk} (h : (L.map kt).drop p = kSg s :: l) : isSignP L p s = true ∧ (∃ t, signP L en p s = .ok t) ∧ (L.map kt).drop (p + 1) = l := by
  obtain ⟨t, h1, h2, h3⟩ := drop_c h
  simp only [kt, kSg, Prod.mk.injEq] at h2
  have hp : isSignP L p s = true := by simp [isSignP, h1, h2.1, h2.2]
  exact ⟨hp, ⟨t, by simp [signP, nextP, h1, hp]⟩, h3⟩
theorem nosign_c {p : Nat} {s : ByteArray} {x : KTk} {l : List KTk} (h : (L.map kt).drop p = x :: l) (hx : x ≠ kSg s) : isSignP L p s = false := by
  obtain ⟨t, h1, rfl, h3⟩ := drop_c h
  unfold isSignP
  rw [h1]
  simp only
  by_cases hk : t.kind = 3
  · by_cases ht : t.text = s
    · exact absurd (by unfold kt; rw [hk, ht]) hx
    · simp [ht]
  · simp [hk]
theorem noplain_c {p : Nat} {x : KTk} {l : List KTk} (h : (L.map kt).drop p = x :: l) (hx : x.1 ≠ 1) : plainP L p = false := by
  obtain ⟨t, h1, rfl, h3⟩ := drop_c h
  unfold plainP
  rw [h1]
  have : t.kind ≠ 1 := hx
  simp [this]
theorem pl_ne {x : KTk} {s : ByteArray} (h : isPl x) : x ≠ kSg s := by
  intro hh
  subst hh
  exact absurd h.1 (by show ¬ ((3 : Int) = 1); decide)
theorem arg_c {p : Nat} {a : List KTk} {x : Arg} {y : KTk} {l : List KTk} (ha : ArgT a x) (h : (L.map kt).drop p = a ++ y :: l) (hy : y ≠ kSg sIxO) : argP L en p = .ok (x, p + a.length) ∧ (L.map kt).drop (p + a.length) = y :: l := by
  cases ha with
  | plain hx =>
    obtain ⟨_, h1, h2, _⟩ := plain_c (en := en) h hx
    have h3 := nosign_c h2 hy
    exact ⟨by simp [argP, h1, h3], h2⟩
  | ix hx hn =>
    obtain ⟨_, h1, h2, _⟩ := plain_c (en := en) h hx
    obtain ⟨g1, _, g3⟩ := sign_c (en := en) h2
    obtain ⟨n1, n2⟩ := number_c (en := en) g3 hn
    obtain ⟨_, ⟨t, s2⟩, s3⟩ := sign_c (en := en) n2
    exact ⟨by simp [argP, h1, g1, n1, s2], s3⟩
theorem names_c {y : KTk} {l : List KTk} (hy : y.1 ≠ 1) : ∀ (xs : List KTk) (n p : Nat) (acc : List Arg), (∀ z ∈ xs, isPl z) → (L.map kt).drop p = xs ++ y :: l → xs.length < n →
    namesP L en n p acc = .ok (acc ++ xs.map (fun z => ⟨z.2, -1⟩), p + xs.length) ∧ (L.map kt).drop (p + xs.length) = y :: l
  | [], n, p, acc, _, h, hn => by
    cases n with
    | zero => simp at hn
    | succ n =>
      have := noplain_c h hy
      exact ⟨by simp [namesP, this], h⟩
  | x :: xs, n, p, acc, hx, h, hn => by
    cases n with
    | zero => simp at hn
    | succ n =>
      obtain ⟨p1, p2, p3, _⟩ := plain_c (en := en) h (hx x (by simp))
      obtain ⟨a1, a2⟩ := names_c hy xs n (p + 1) (acc ++ [⟨x.2, -1⟩]) (fun z hz => hx z (by simp [hz])) p3 (by simpa using hn)
      refine ⟨?_, by rw [List.length_cons, show p + (xs.length + 1) = p + 1 + xs.length by omega]; exact a2⟩
      simp only [namesP, p1, if_true, p2]
      rw [a1]
      simp; omega
theorem ArgT.head {a : List KTk} {x : Arg} (h : ArgT a x) : ∃ z l, a = z :: l ∧ isPl z := by
  cases h with
  | plain h => exact ⟨_, _, rfl, h⟩
  | ix h _ => exact ⟨_, _, rfl, h⟩
theorem args_c {y : KTk} {l : List KTk} (hy : y.1 ≠ 1) (hy2 : y ≠ kSg sIxO) {xs : List KTk} {l' : List Arg} (hx : ArgsT xs l') : ∀ (n p : Nat) (acc : List Arg), (L.map kt).drop p = xs ++ y :: l → xs.length < n →
    argsP L en n p acc = .ok (acc ++ l', p + xs.length) ∧ (L.map kt).drop (p + xs.length) = y :: l := by
  induction hx with
  | nil =>
    intro n p acc h hn
    cases n with
    | zero => simp at hn
    | succ n =>
      have := noplain_c h hy
      exact ⟨by simp [argsP, this], h⟩
  | @cons a b x l2 ha hb ih =>
    intro n p acc h hn
    cases n with
    | zero => simp at hn
    | succ n =>
      obtain ⟨z, l3, rfl, hz⟩ := ha.head
      rw [List.append_assoc] at h
      obtain ⟨p1, _, _, _⟩ := plain_c (en := en) (by simpa using h) hz
      have hnext : ∃ w l4, b ++ y :: l = w :: l4 ∧ w ≠ kSg sIxO := by
        cases hb with
        | nil => exact ⟨y, l, rfl, hy2⟩
        | cons ha2 _ =>
          obtain ⟨w, l5, rfl, hw⟩ := ha2.head
          exact ⟨w, _, rfl, pl_ne hw⟩
      obtain ⟨w, l4, e4, hw⟩ := hnext
      rw [e4] at h
      obtain ⟨g1, g2⟩ := arg_c (en := en) ha h hw
      rw [← e4] at g2
      obtain ⟨a1, a2⟩ := ih n _ (acc ++ [x]) g2 (by simp at hn; omega)
      refine ⟨?_, by rw [List.length_append, ← Nat.add_assoc]; exact a2⟩
      simp only [argsP, p1, if_true, g1]
      rw [a1]
      simp; omega
/-- A head is read. -/
theorem head_c {p k : Nat} {h : List KTk} {row : Row} {held : Bool} {l : List KTk} (hh : Hd h row held) (hd : (L.map kt).drop p = h ++ (if held then kSg sOpen else kSg sSemi) :: l) : ∃ row', er row' = row ∧
    (stmtP L en k p = if held then heldP L en k (stepP L en k) (p + h.length) row' else lineP L en (p + h.length) row') ∧ (L.map kt).drop (p + h.length) = (if held then kSg sOpen else kSg sSemi) :: l := by
  have first : ∀ (x : KTk) (l' : List KTk), (L.map kt).drop p = x :: l' → x.1 = 1 → ∃ t, kt t = x ∧ stmtP L en k p = stmtB L en k (stepP L en k) p t ∧ (L.map kt).drop (p + 1) = l' := by
    intro x l' h1 h2
    obtain ⟨t, g1, g2, g3⟩ := drop_c h1
    refine ⟨t, g2, ?_, g3⟩
    have hk : t.kind = 1 := by rw [← g2] at h2; exact h2
    have : isNameP L p = true := by simp [isNameP, g1, hk]
    rw [stmtP_eq]
    simp [nextP, g1, this]
  have hfit : ∀ (m : Nat) (w : List KTk) (y : KTk) (l' : List KTk), (L.map kt).drop m = w ++ y :: l' → w.length < L.length + 1 := by
    intro m w y l' h1
    have := congrArg List.length h1
    simp at this
    omega
  cases hh with
  | @regs x y z v hx hc hy hz =>
    obtain ⟨t, rfl, e, d1⟩ := first _ _ hd hx
    obtain ⟨_, n1, d2, _⟩ := plain_c (en := en) d1 hy
    obtain ⟨m1, d3⟩ := number_c (en := en) d2 hz
    refine ⟨⟨t.text, y.2, [], v, 0, t.at_⟩, rfl, ?_, d3⟩
    rw [e]; unfold stmtB
    have hc' : t.text = sQubits ∨ t.text = sBits := hc
    have m1' : numberP L en (p + 2) = .ok v := m1
    rw [if_pos hc', n1]; simp only [m1']; rfl
  | @gate x y l' hx hc hy hl =>
    obtain ⟨t, rfl, e, d1⟩ := first _ _ hd hx
    obtain ⟨_, n1, d2, _⟩ := plain_c (en := en) d1 hy
    obtain ⟨a1, a2⟩ := names_c (en := en) (by decide) l' (L.length + 1) (p + 2) [] hl d2 (hfit _ _ _ _ d2)
    have hc' : t.text = sGate := hc
    refine ⟨⟨t.text, y.2, l'.map (fun z => ⟨z.2, -1⟩), 0, 0, t.at_⟩, rfl, ?_, by simpa [Nat.add_assoc, Nat.add_comm, Nat.add_left_comm] using a2⟩
    rw [e]; unfold stmtB
    rw [if_neg (by rw [hc']; decide), if_pos hc', n1]
    simp only [a1, List.nil_append, if_true, List.length_cons]
    rw [show p + (l'.length + 1 + 1) = p + 2 + l'.length by omega]
  | @rep x z v hx hc hz =>
    obtain ⟨t, rfl, e, d1⟩ := first _ _ hd hx
    obtain ⟨m1, d3⟩ := number_c (en := en) d1 hz
    have hc' : t.text = sRepeat := hc
    refine ⟨⟨t.text, sEmpty, [], v, 0, t.at_⟩, rfl, ?_, d3⟩
    rw [e]; unfold stmtB
    rw [if_neg (by rw [hc']; decide), if_neg (by rw [hc']; decide), if_pos hc', m1]; rfl
  | @cond x y z v hx hc hy hz =>
    obtain ⟨t, rfl, e, d1⟩ := first _ _ hd hx
    obtain ⟨_, n1, d2, _⟩ := plain_c (en := en) d1 hy
    obtain ⟨m1, d3⟩ := number_c (en := en) d2 hz
    have hc' : t.text = sIf := hc
    refine ⟨⟨t.text, y.2, [], v, 0, t.at_⟩, rfl, ?_, d3⟩
    rw [e]; unfold stmtB
    rw [if_neg (by rw [hc']; decide), if_neg (by rw [hc']; decide), if_neg (by rw [hc']; decide), if_pos hc', n1]
    have m1' : numberP L en (p + 2) = .ok v := m1
    simp only [m1']; rfl
  | @meas x a b s t2 hx hc ha hb =>
    obtain ⟨t, rfl, e, d1⟩ := first _ _ hd hx
    obtain ⟨w, l5, rfl, hw⟩ := hb.head
    obtain ⟨a1, d2⟩ := arg_c (en := en) ha (by simpa using d1) (pl_ne hw)
    obtain ⟨a2, d3⟩ := arg_c (en := en) hb (by simpa using d2) (by decide)
    have hc' : t.text = sMeasure := hc
    refine ⟨⟨t.text, sEmpty, [s, t2], 0, 0, t.at_⟩, rfl, ?_, by simpa [Nat.add_assoc, Nat.add_comm, Nat.add_left_comm] using d3⟩
    rw [e]; unfold stmtB
    rw [if_neg (by rw [hc']; decide), if_neg (by rw [hc']; decide), if_neg (by rw [hc']; decide), if_neg (by rw [hc']; decide), if_pos hc', a1]; simp only [a2]
    simp only [Bool.false_eq_true, if_false, List.length_cons, List.length_append]
    rw [show p + (a.length + (l5.length + 1) + 1) = p + 1 + a.length + (l5.length + 1) by omega]
  | @reset x a s hx hc ha =>
    obtain ⟨t, rfl, e, d1⟩ := first _ _ hd hx
    obtain ⟨a1, d2⟩ := arg_c (en := en) ha d1 (by decide)
    have hc' : t.text = sReset := hc
    refine ⟨⟨t.text, sEmpty, [s], 0, 0, t.at_⟩, rfl, ?_, by simpa [Nat.add_assoc, Nat.add_comm, Nat.add_left_comm] using d2⟩
    rw [e]; unfold stmtB
    rw [if_neg (by rw [hc']; decide), if_neg (by rw [hc']; decide), if_neg (by rw [hc']; decide), if_neg (by rw [hc']; decide), if_neg (by rw [hc']; decide), if_pos hc', a1]
    simp only [Bool.false_eq_true, if_false, List.length_cons]
    rw [show p + (a.length + 1) = p + 1 + a.length by omega]
  | @use x a l' hx ha =>
    obtain ⟨t, rfl, e, d1⟩ := first _ _ hd hx.1
    obtain ⟨a1, d2⟩ := args_c (en := en) (by decide) (by decide) ha (L.length + 1) (p + 1) [] d1 (hfit _ _ _ _ d1)
    have ho : ownB t.text = false := hx.2
    simp only [ownB, Bool.or_eq_false_iff, decide_eq_false_iff_not] at ho
    obtain ⟨⟨⟨⟨⟨⟨o1, o2⟩, o3⟩, o4⟩, o5⟩, o6⟩, o7⟩ := ho
    refine ⟨⟨sUse, t.text, l', 0, 0, t.at_⟩, rfl, ?_, by simpa [Nat.add_assoc, Nat.add_comm, Nat.add_left_comm] using d2⟩
    rw [e]; unfold stmtB
    rw [if_neg (fun h => h.elim o1 o2), if_neg o3, if_neg o4, if_neg o5, if_neg o6, if_neg o7]
    simp only [a1, List.nil_append, Bool.false_eq_true, if_false, List.length_cons]
    rw [show p + (a.length + 1) = p + 1 + a.length by omega]
end
end Go.Proofs.Ythkkgbmjjpcfaaa

namespace Go.Proofs.Ythkkgbmjjpcfaaa
open Go.Ab
/-! a sequence is read; a statement is cut out -/
section
variable {L : List Tok} {en : Int}
theorem Hd.cons {h : List KTk} {row : Row} {b : Bool} (hh : Hd h row b) : ∃ x l, h = x :: l ∧ x.1 = 1 := by
  cases hh with
  | regs h _ _ _ => exact ⟨_, _, rfl, h⟩
  | gate h _ _ _ => exact ⟨_, _, rfl, h⟩
  | rep h _ _ => exact ⟨_, _, rfl, h⟩
  | cond h _ _ _ => exact ⟨_, _, rfl, h⟩
  | meas h _ _ _ => exact ⟨_, _, rfl, h⟩
  | reset h _ _ => exact ⟨_, _, rfl, h⟩
  | use h _ => exact ⟨_, _, rfl, h.1⟩
theorem Hd.rows0 {h : List KTk} {row : Row} {b : Bool} (hh : Hd h row b) : row.rows = 0 ∧ row.place = 0 := by
  cases hh <;> exact ⟨rfl, rfl⟩
theorem lead_c {p : Nat} {h : List KTk} {row : Row} {b : Bool} {l : List KTk} (hh : Hd h row b) (hd : (L.map kt).drop p = h ++ l) : isSignP L p sShut = false ∧ p < L.length := by
  obtain ⟨x, l', rfl, hx⟩ := hh.cons
  refine ⟨nosign_c hd (fun e => by rw [e] at hx; exact absurd hx (by show ¬ ((3 : Int) = 1); decide)), ?_⟩
  obtain ⟨t, h1, _, _⟩ := drop_c hd
  exact (List.getElem?_eq_some_iff.1 h1).1
theorem drop_len {p : Nat} {b l : List KTk} (h : (L.map kt).drop p = b ++ l) : (L.map kt).drop (p + b.length) = l := by
  rw [← List.drop_drop, h, List.drop_left]
/-- What is read of a sequence: in a body. -/
def ReadB (L : List Tok) (en : Int) (k : Nat) (b : List KTk) (rb : List RO) : Prop := ∀ (p : Nat) (l : List KTk) (n : Nat) (acc : List Row), (L.map kt).drop p = b ++ kSg sShut :: l → b.length < n →
  ∃ new, loopP L (stmtP L en k) n p acc = .ok (p + b.length, acc ++ new) ∧ new.map er = rb.map (·.1)
def ReadT (L : List Tok) (en : Int) (k : Nat) (b : List KTk) (rb : List RO) : Prop := k = 32 → ∀ (p n : Nat) (acc : List Row), (L.map kt).drop p = b → b.length < n →
  ∃ new, topP L en n p acc = .ok (acc ++ new) ∧ new.map er = rb.map (·.1)
theorem map_sh (rb : List RO) (n : Nat) : (rb.map (sh n)).map (·.1) = rb.map (·.1) := by
  rw [List.map_map]; rfl
theorem leaf_c {k p : Nat} {h b : List KTk} {row : Row} (hh : Hd h row false) (hd : (L.map kt).drop p = h ++ kSg sSemi :: b) : ∃ row', er row' = row ∧ stmtP L en k p = .ok (p + h.length + 1, [row']) := by
  obtain ⟨row', e1, e2, e3⟩ := head_c (en := en) (k := k) hh (by simpa using hd)
  simp only [Bool.false_eq_true, if_false] at e2 e3
  obtain ⟨_, ⟨t, s2⟩, _⟩ := sign_c (en := en) e3
  refine ⟨row', e1, ?_⟩
  rw [e2]; unfold lineP; rw [s2]
theorem held_c {k p : Nat} {h b c : List KTk} {row : Row} {rb : List RO} (hh : Hd h row true) (hb : ReadB L en k b rb) (hd : (L.map kt).drop p = h ++ kSg sOpen :: (b ++ kSg sShut :: c)) :
    ∃ row' new, er row' = { row with rows := rb.length } ∧ new.map er = rb.map (·.1) ∧ stmtP L en (k + 1) p = .ok (p + h.length + 1 + b.length + 1, row' :: new) := by
  obtain ⟨row', e1, e2, e3⟩ := head_c (en := en) (k := k + 1) hh (by simpa using hd)
  simp only [if_true] at e2 e3
  obtain ⟨_, ⟨t, s2⟩, s3⟩ := sign_c (en := en) e3
  have hfit : b.length < L.length + 1 := by
    have := congrArg List.length s3
    simp at this
    omega
  obtain ⟨new, g1, g2⟩ := hb _ _ (L.length + 1) [] s3 hfit
  have hl : new.length = rb.length := by have := congrArg List.length g2; simpa using this
  refine ⟨{ row' with rows := new.length }, new, ?_, g2, ?_⟩
  · rw [← e1, hl]; rfl
  · rw [e2]; unfold heldP bdP
    rw [s2]
    have : stepP L en (k + 1) = stmtP L en k := rfl
    simp only [this, g1, List.nil_append]
theorem sq_read {k : Nat} {b : List KTk} {rb : List RO} (hs : Sq k b rb) : ReadB L en k b rb ∧ ReadT L en k b rb := by
  induction hs with
  | nil =>
    refine ⟨fun p l n acc h hn => ?_, fun _ p n acc h hn => ?_⟩
    · cases n with
      | zero => simp at hn
      | succ n =>
        obtain ⟨g, _, _⟩ := sign_c (en := en) (by simpa using h)
        exact ⟨[], by simp [loopP, g], rfl⟩
    · cases n with
      | zero => simp at hn
      | succ n =>
        have : ¬ p < L.length := by
          have := congrArg List.length h
          simp at this
          omega
        exact ⟨[], by simp [topP, this], rfl⟩
  | @leaf k h b row rb hh _ ih =>
    refine ⟨fun p l n acc hd hn => ?_, fun hk p n acc hd hn => ?_⟩
    · cases n with
      | zero => simp at hn
      | succ n =>
        rw [List.append_assoc] at hd
        obtain ⟨g1, _⟩ := lead_c hh hd
        obtain ⟨row', e1, e2⟩ := leaf_c (en := en) (k := k) hh hd
        have hd2 : (L.map kt).drop (p + h.length + 1) = b ++ kSg sShut :: l := by
          have := drop_len (b := h ++ [kSg sSemi]) (l := b ++ kSg sShut :: l) (by simpa using hd)
          simpa [Nat.add_assoc] using this
        obtain ⟨new, e3, e4⟩ := ih.1 _ _ n (acc ++ [row']) hd2 (by simp at hn; omega)
        refine ⟨row' :: new, ?_, by simp [e1, e4, sh]⟩
        simp only [loopP, g1, Bool.false_eq_true, if_false, e2]
        rw [e3]
        simp; omega
    · cases n with
      | zero => simp at hn
      | succ n =>
        obtain ⟨_, g1⟩ := lead_c hh hd
        obtain ⟨row', e1, e2⟩ := leaf_c (en := en) (k := k) hh hd
        have hd2 : (L.map kt).drop (p + h.length + 1) = b := by
          have := drop_len (b := h ++ [kSg sSemi]) (l := b) (by simpa using hd)
          simpa [Nat.add_assoc] using this
        obtain ⟨new, e3, e4⟩ := ih.2 hk _ n (acc ++ [row']) hd2 (by simp at hn; omega)
        subst hk
        refine ⟨row' :: new, ?_, by simp [e1, e4, sh]⟩
        simp only [topP, g1, if_true, e2]
        rw [e3]
        simp
  | @held k h b c row rb rc hh _ _ ihb ihc =>
    refine ⟨fun p l n acc hd hn => ?_, fun hk p n acc hd hn => ?_⟩
    · cases n with
      | zero => simp at hn
      | succ n =>
        have hd' : (L.map kt).drop p = h ++ kSg sOpen :: (b ++ kSg sShut :: (c ++ kSg sShut :: l)) := by simpa using hd
        obtain ⟨g1, _⟩ := lead_c hh hd'
        obtain ⟨row', nb, e1, e1', e2⟩ := held_c (en := en) hh ihb.1 hd'
        have hd2 : (L.map kt).drop (p + h.length + 1 + b.length + 1) = c ++ kSg sShut :: l := by
          have := drop_len (b := h ++ kSg sOpen :: (b ++ [kSg sShut])) (l := c ++ kSg sShut :: l) (by simpa using hd)
          simpa [Nat.add_assoc, Nat.add_comm, Nat.add_left_comm] using this
        obtain ⟨new, e3, e4⟩ := ihc.1 _ _ n (acc ++ row' :: nb) hd2 (by simp at hn; omega)
        refine ⟨row' :: nb ++ new, ?_, by simp [e1, e1', e4, sh]; rfl⟩
        simp only [loopP, g1, Bool.false_eq_true, if_false, e2]
        rw [e3]
        simp; omega
    · cases n with
      | zero => simp at hn
      | succ n =>
        obtain ⟨_, g1⟩ := lead_c hh hd
        obtain ⟨row', nb, e1, e1', e2⟩ := held_c (en := en) hh ihb.1 hd
        have hd2 : (L.map kt).drop (p + h.length + 1 + b.length + 1) = c := by
          have := drop_len (b := h ++ kSg sOpen :: (b ++ [kSg sShut])) (l := c) (by simpa using hd)
          simpa [Nat.add_assoc, Nat.add_comm, Nat.add_left_comm] using this
        obtain ⟨new, e3, e4⟩ := ihc.2 hk _ n (acc ++ row' :: nb) hd2 (by simp at hn; omega)
        rw [hk] at e2
        refine ⟨row' :: nb ++ new, ?_, by simp [e1, e1', e4, sh]; rfl⟩
        simp only [topP, g1, if_true, e2]
        rw [e3]
        simp
end
end Go.Proofs.Ythkkgbmjjpcfaaa

namespace Go.Proofs.Ythkkgbmjjpcfaaa
open Go.Ab
/-! a statement is cut out -/
def adj (i next j : Nat) (r : Row) : Row := if (i : Int) ≤ j + r.rows then { r with rows := r.rows - ((next : Int) - i) } else r
def adjL (i next : Nat) : Nat → List Row → List Row
  | _, [] => []
  | j, r :: l => adj i next j r :: adjL i next (j + 1) l
def cutR (i next : Nat) (l : List Row) : List Row := adjL i next 0 (l.take i) ++ l.drop next
theorem adjL_app (i next : Nat) : ∀ (a b : List Row) (j : Nat), adjL i next j (a ++ b) = adjL i next j a ++ adjL i next (j + a.length) b
  | [], b, j => rfl
  | x :: a, b, j => by
    simp only [List.cons_append, adjL, adjL_app i next a b (j + 1), List.length_cons]
    rw [show j + 1 + a.length = j + (a.length + 1) by omega]
theorem adjL_len (i next : Nat) : ∀ (l : List Row) (j : Nat), (adjL i next j l).length = l.length
  | [], _ => rfl
  | _ :: l, j => by simp [adjL, adjL_len i next l]
theorem adj_shift (i next j m : Nat) (r : Row) : adj (i + m) (next + m) (j + m) r = adj i next j r := by
  unfold adj
  have h1 : ((next + m : Nat) : Int) - ((i + m : Nat) : Int) = (next : Int) - i := by omega
  by_cases h : (i : Int) ≤ j + r.rows
  · rw [if_pos h, if_pos (by omega), h1]
  · rw [if_neg h, if_neg (by omega)]
theorem adjL_shift (i next m : Nat) : ∀ (l : List Row) (j : Nat), adjL (i + m) (next + m) (j + m) l = adjL i next j l
  | [], _ => rfl
  | r :: l, j => by
    simp only [adjL, adj_shift]
    rw [show j + m + 1 = j + 1 + m by omega, adjL_shift i next m l (j + 1)]
theorem adjL_id (i next : Nat) : ∀ (l : List Row) (j : Nat), (∀ (n : Nat) (r : Row), l[n]? = some r → (j : Int) + n + r.rows < i) → adjL i next j l = l
  | [], _, _ => rfl
  | r :: l, j, h => by
    have h0 := h 0 r rfl
    simp only [adjL]
    rw [adjL_id i next l (j + 1) (fun n r hn => by have := h (n + 1) r (by simpa using hn); omega)]
    unfold adj
    rw [if_neg (by omega)]
theorem cutR_app {l1 l2 : List Row} {i next : Nat} (h : ∀ (j : Nat) r, l1[j]? = some r → (j : Int) + r.rows < l1.length) : cutR (l1.length + i) (l1.length + next) (l1 ++ l2) = l1 ++ cutR i next l2 := by
  unfold cutR
  rw [List.take_length_add_append, List.drop_length_add_append, adjL_app, Nat.zero_add, adjL_id (l1.length + i) _ l1 0 (fun n r hn => by have := h n r hn; omega)]
  have := adjL_shift i next l1.length (l2.take i) 0
  rw [Nat.zero_add, Nat.add_comm i, Nat.add_comm next] at this
  rw [this, List.append_assoc]
theorem cutR_left {l1 l2 : List Row} {i next : Nat} (h1 : i ≤ next) (h2 : next ≤ l1.length) : cutR i next (l1 ++ l2) = cutR i next l1 ++ l2 := by
  unfold cutR
  rw [List.take_append_of_le_length (by omega), List.drop_append_of_le_length h2, List.append_assoc]
theorem cutR_cons {x : Row} {l : List Row} {i next : Nat} : cutR (i + 1) (next + 1) (x :: l) = adj (i + 1) (next + 1) 0 x :: cutR i next l := by
  unfold cutR
  simp only [List.take_succ_cons, List.drop_succ_cons, adjL, List.cons_append]
  have := adjL_shift i next 1 (l.take i) 0
  rw [this]
theorem cutR_len {l : List Row} {i next : Nat} (h1 : i ≤ next) (h2 : next ≤ l.length) : (cutR i next l).length = i + (l.length - next) := by
  unfold cutR
  rw [List.length_append, adjL_len, List.length_take, List.length_drop]
  omega
def LastB (l : List Row) (i next : Nat) : Prop := ∃ j, j < i ∧ ∃ r, l[j]? = some r ∧ (i : Int) ≤ j + r.rows ∧ (j : Int) + r.rows = (next : Int) - 1
theorem sq_head {k : Nat} {b : List KTk} {rb : List RO} (h : Sq k b rb) : (rb = [] → b = []) ∧ (∀ y l, rb = y :: l → y.2 = 0 ∧ b ≠ []) := by
  cases h with
  | nil => exact ⟨fun _ => rfl, fun y l h => by cases h⟩
  | leaf => exact ⟨fun h => (by cases h), fun y l h => (by cases h; exact ⟨rfl, by simp⟩)⟩
  | held => exact ⟨fun h => (by cases h), fun y l h => (by cases h; exact ⟨rfl, by simp⟩)⟩
theorem sq_in {k : Nat} {b : List KTk} {rb : List RO} (h : Sq k b rb) : ∀ (j : Nat) x, rb[j]? = some x → 0 ≤ x.1.rows ∧ (j : Int) + x.1.rows < rb.length := by
  induction h with
  | nil => intro j x h; simp at h
  | leaf hh _ ih =>
    intro j x h
    cases j with
    | zero =>
      simp at h
      subst h
      have := hh.rows0.1
      simp [this]
    | succ j =>
      simp only [List.getElem?_cons_succ, List.getElem?_map, Option.map_eq_some_iff] at h
      obtain ⟨y, h1, rfl⟩ := h
      have := ih j y h1
      simp only [sh, List.length_cons, List.length_map]
      omega
  | @held k h b c row rb rc hh _ _ ihb ihc =>
    intro j x h
    cases j with
    | zero =>
      simp at h
      subst h
      simp; omega
    | succ j =>
      simp only [List.getElem?_cons_succ] at h
      by_cases hj : j < rb.length
      · rw [List.getElem?_append_left (by simpa using hj)] at h
        simp only [List.getElem?_map, Option.map_eq_some_iff] at h
        obtain ⟨y, h1, rfl⟩ := h
        have := ihb j y h1
        simp only [sh, List.length_cons, List.length_map, List.length_append]
        omega
      · rw [List.getElem?_append_right (by simp; omega)] at h
        simp only [List.getElem?_map, Option.map_eq_some_iff, List.length_map] at h
        obtain ⟨y, h1, rfl⟩ := h
        have := ihc (j - rb.length) y h1
        simp only [sh, List.length_cons, List.length_map, List.length_append]
        omega
/-- What a cut leaves. -/
def CutOK (k : Nat) (b : List KTk) (rb : List RO) (i next o : Nat) : Prop :=
  ∃ A B C, b = A ++ B ++ C ∧ A.length = o ∧ B ≠ [] ∧ ((next = rb.length ∧ C = []) ∨ (C ≠ [] ∧ ∃ x, rb[next]? = some x ∧ x.2 = o + B.length)) ∧ ∃ rc, Sq k (A ++ C) rc ∧ rc.map (·.1) = cutR i next (rb.map (·.1))
theorem cut_sq {k : Nat} {b : List KTk} {rb : List RO} (h : Sq k b rb) : ∀ (i : Nat) y, rb[i]? = some y → LastB (rb.map (·.1)) i (i + 1 + y.1.rows.toNat) ∨ CutOK k b rb i (i + 1 + y.1.rows.toNat) y.2 := by
  induction h with
  | nil => intro i y h; simp at h
  | @leaf k h b row rb hh hb ih =>
    have hr0 := hh.rows0.1
    intro i y hy
    cases i with
    | zero =>
      simp at hy
      subst hy
      right
      obtain ⟨g1, g2⟩ := sq_head hb
      refine ⟨[], h ++ [kSg sSemi], b, by simp, rfl, by simp, ?_, rb, by simpa using hb, ?_⟩
      · simp only [hr0]
        cases rb with
        | nil => left; exact ⟨rfl, g1 rfl⟩
        | cons z l =>
          right
          obtain ⟨z0, zb⟩ := g2 z l rfl
          exact ⟨zb, sh (h.length + 1) z, rfl, by simp [sh, z0]⟩
      · simp [cutR, hr0, adjL, sh]
    | succ i =>
      simp only [List.getElem?_cons_succ, List.getElem?_map, Option.map_eq_some_iff] at hy
      obtain ⟨z, hz, rfl⟩ := hy
      have hnx : i + 1 + 1 + (sh (h.length + 1) z).1.rows.toNat = (i + 1 + z.1.rows.toNat) + 1 := by simp only [sh]; omega
      rw [hnx]
      rcases ih i z hz with ⟨j, hj, r, h1, h2, h3⟩ | ⟨A, B, C, h1, h2, h3, h4, rc, h5, h6⟩
      · left
        exact ⟨j + 1, by omega, r, by simpa [sh] using h1, by omega, by omega⟩
      · right
        refine ⟨h ++ kSg sSemi :: A, B, C, by rw [h1]; simp, by simp [sh, h2]; omega, h3, ?_, (row, 0) :: rc.map (sh (h.length + 1)), by simpa using Sq.leaf hh h5, ?_⟩
        · rcases h4 with ⟨h4, h7⟩ | ⟨h7, x, h8, h9⟩
          · left; exact ⟨by simp [h4], h7⟩
          · right
            exact ⟨h7, sh (h.length + 1) x, by simp [h8], by simp [sh, h9]; omega⟩
        · have e1 : ((row, 0) :: rc.map (sh (h.length + 1))).map (·.1) = row :: rc.map (·.1) := by simp [sh]
          have e2 : ((row, 0) :: rb.map (sh (h.length + 1))).map (·.1) = row :: rb.map (·.1) := by simp [sh]
          rw [e1, e2, cutR_cons, h6]
          unfold adj
          rw [if_neg (by rw [hr0]; omega)]
  | @held k h b c row rb rc hh hb hc ihb ihc =>
    intro i y hy
    have e2 : ∀ (rw' : Row) (r1 r2 : List RO) (m m2 : Nat), ((rw', 0) :: (r1.map (sh m) ++ r2.map (sh m2))).map (·.1) = rw' :: (r1.map (·.1) ++ r2.map (·.1)) := fun rw' r1 r2 m m2 => by
      simp [sh]; rfl
    cases i with
    | zero =>
      simp at hy
      subst hy
      right
      obtain ⟨g1, g2⟩ := sq_head hc
      have hnx : 0 + 1 + (({ row with rows := (rb.length : Int) }, 0) : RO).1.rows.toNat = rb.length + 1 := by simp; omega
      rw [hnx]
      refine ⟨[], h ++ kSg sOpen :: (b ++ [kSg sShut]), c, by simp, rfl, by simp, ?_, rc, by simpa using hc, ?_⟩
      · cases rc with
        | nil => left; exact ⟨by simp, g1 rfl⟩
        | cons z l =>
          right
          obtain ⟨z0, zb⟩ := g2 z l rfl
          refine ⟨zb, sh (h.length + 1 + b.length + 1) z, ?_, by simp [sh, z0]; omega⟩
          rw [List.getElem?_cons_succ, List.getElem?_append_right (by simp)]
          simp
      · rw [e2]
        simp [cutR, adjL]
    | succ i =>
      simp only [List.getElem?_cons_succ] at hy
      by_cases hi : i < rb.length
      · rw [List.getElem?_append_left (by simpa using hi)] at hy
        simp only [List.getElem?_map, Option.map_eq_some_iff] at hy
        obtain ⟨z, hz, rfl⟩ := hy
        have hin := sq_in hb i z hz
        have hnx : i + 1 + 1 + (sh (h.length + 1) z).1.rows.toNat = (i + 1 + z.1.rows.toNat) + 1 := by simp only [sh]; omega
        rw [hnx, e2]
        rcases ihb i z hz with ⟨j, hj, r, h1, h2, h3⟩ | ⟨A, B, C, h1, h2, h3, h4, rc1, h5, h6⟩
        · left
          refine ⟨j + 1, by omega, r, ?_, by omega, by omega⟩
          rw [List.getElem?_cons_succ, List.getElem?_append_left (by simp; omega)]
          exact h1
        · rcases h4 with ⟨h4, h7⟩ | ⟨h7, x, h8, h9⟩
          · left
            refine ⟨0, by omega, { row with rows := (rb.length : Int) }, rfl, by simp only; omega, by simp only; omega⟩
          · right
            have hxl : i + 1 + z.1.rows.toNat < rb.length := (List.getElem?_eq_some_iff.1 h8).1
            have hsq := Sq.held hh h5 hc
            refine ⟨h ++ kSg sOpen :: A, B, C ++ kSg sShut :: c, by rw [h1]; simp, by simp [sh, h2]; omega, h3, .inr ⟨by simp, sh (h.length + 1) x, ?_, by simp [sh, h9]; omega⟩, _, by simpa using hsq, ?_⟩
            · rw [List.getElem?_cons_succ, List.getElem?_append_left (by simpa using hxl)]
              simp [h8]
            · rw [e2, e2, cutR_cons, cutR_left (by omega) (by simp; omega), h6]
              have hl : rc1.length = i + (rb.length - (i + 1 + z.1.rows.toNat)) := by
                have := congrArg List.length h6
                rw [cutR_len (by omega) (by simp; omega)] at this
                simpa using this
              unfold adj
              rw [if_pos (by simp only; omega)]
              simp only [List.cons.injEq, and_true]
              congr 1
              omega
      · rw [List.getElem?_append_right (by simp; omega)] at hy
        simp only [List.getElem?_map, Option.map_eq_some_iff, List.length_map] at hy
        obtain ⟨z, hz, rfl⟩ := hy
        have hin := sq_in hc _ z hz
        obtain ⟨i2, rfl⟩ : ∃ i2, i = rb.length + i2 := ⟨i - rb.length, by omega⟩
        rw [Nat.add_sub_cancel_left] at hz hin
        have hl1 : (({ row with rows := (rb.length : Int) } : Row) :: rb.map (·.1)).length = rb.length + 1 := by simp
        have hnx : rb.length + i2 + 1 + 1 + (sh (h.length + 1 + b.length + 1) z).1.rows.toNat = (rb.length + 1) + (i2 + 1 + z.1.rows.toNat) := by simp only [sh]; omega
        rw [hnx, e2, ← List.cons_append, show rb.length + i2 + 1 = (rb.length + 1) + i2 by omega]
        rcases ihc i2 z hz with ⟨j, hj, r, h1, h2, h3⟩ | ⟨A, B, C, h1, h2, h3, h4, rc1, h5, h6⟩
        · left
          refine ⟨rb.length + 1 + j, by omega, r, ?_, by omega, by omega⟩
          rw [List.getElem?_append_right (by rw [hl1]; omega), hl1, Nat.add_sub_cancel_left]
          exact h1
        · right
          have hsq := Sq.held hh hb h5
          refine ⟨h ++ kSg sOpen :: (b ++ kSg sShut :: A), B, C, by rw [h1]; simp, by simp [sh, h2]; omega, h3, ?_, _, by simpa using hsq, ?_⟩
          · rcases h4 with ⟨h4, h7⟩ | ⟨h7, x, h8, h9⟩
            · left; exact ⟨by simp [h4]; omega, h7⟩
            · right
              refine ⟨h7, sh (h.length + 1 + b.length + 1) x, ?_, by simp [sh, h9]; omega⟩
              rw [show rb.length + 1 + (i2 + 1 + z.1.rows.toNat) = (rb.length + (i2 + 1 + z.1.rows.toNat)) + 1 by omega, List.getElem?_cons_succ, List.getElem?_append_right (by simp)]
              simp [h8]
          · rw [e2, e2, ← List.cons_append, ← List.cons_append]
            have := cutR_app (l1 := ({ row with rows := (rb.length : Int) } : Row) :: rb.map (·.1)) (l2 := rc.map (·.1)) (i := i2) (next := i2 + 1 + z.1.rows.toNat) (fun j r hj => by
              cases j with
              | zero => simp at hj; subst hj; simp; omega
              | succ j =>
                simp only [List.getElem?_cons_succ, List.getElem?_map, Option.map_eq_some_iff] at hj
                obtain ⟨w, hw, rfl⟩ := hj
                have := sq_in hb j w hw
                simp; omega)
            rw [hl1] at this
            rw [this, h6]
end Go.Proofs.Ythkkgbmjjpcfaaa

namespace Go.Proofs.Ythkkgbmjjpcfaaa
open Go.Ab
/-! the law of cuts -/
theorem er_adj (i next j : Nat) (r : Row) : er (adj i next j r) = adj i next j (er r) := by
  unfold adj
  by_cases h : (i : Int) ≤ j + r.rows
  · rw [if_pos h, if_pos (show (i : Int) ≤ j + (er r).rows from h)]; rfl
  · rw [if_neg h, if_neg (show ¬ (i : Int) ≤ j + (er r).rows from h)]
theorem er_adjL (i next : Nat) : ∀ (l : List Row) (j : Nat), (adjL i next j l).map er = adjL i next j (l.map er)
  | [], _ => rfl
  | r :: l, j => by simp [adjL, er_adj, er_adjL i next l]
theorem er_cutR (i next : Nat) (l : List Row) : (cutR i next l).map er = cutR i next (l.map er) := by
  unfold cutR
  rw [List.map_append, er_adjL, List.map_take, List.map_drop]
theorem mv_kt (a b : Nat) (l : List Tok) : (l.map (mv a b)).map kt = l.map kt := by
  rw [List.map_map]; rfl
theorem rowEq_er {a b : Row} (h : er a = er b) : rowEq false a b = true := by
  have h1 : a.kind = b.kind := (by have := congrArg Row.kind h; exact this)
  have h2 : a.name = b.name := (by have := congrArg Row.name h; exact this)
  have h3 : a.args = b.args := (by have := congrArg Row.args h; exact this)
  have h4 : a.num = b.num := (by have := congrArg Row.num h; exact this)
  have h5 : a.rows = b.rows := (by have := congrArg Row.rows h; exact this)
  simp [rowEq, headEq, h1, h2, h3, h4, h5, eqArgs_self]
theorem eqRows_er : ∀ (A B : List Row), A.map er = B.map er → eqRows false A B = true
  | [], _, _ => by unfold eqRows; rfl
  | a :: A, [], h => by simp at h
  | a :: A, b :: B, h => by
    simp only [List.map_cons, List.cons.injEq] at h
    simp [eqRows, rowEq_er h.1, eqRows_er A B h.2]
theorem sameL_er {A B : List Row} (h : A.map er = B.map er) : sameL false A B = true := by
  have hl : A.length = B.length := by have := congrArg List.length h; simpa using this
  simp [sameL, hl, eqRows_er A B h]
/-- Where the piece ends. -/
def endOf (s : ByteArray) (rows : List Row) (next : Nat) : Int := match rows[next]? with | some x => x.place | none => s.size
theorem cuts_law {s : ByteArray} {rows : List Row} {i : Nat} {r : Row} (h : parseP s = .ok rows) (hi : rows[i]? = some r) :
    LastB rows i (i + 1 + r.rows.toNat) ∨ ∃ P e got, r.place = (P : Nat) ∧ endOf s rows (i + 1 + r.rows.toNat) = (e : Nat) ∧ P < e ∧ e ≤ s.size ∧ parseP (cutS s P e) = .ok got ∧ sameL false got (cutR i (i + 1 + r.rows.toNat) rows) = true := by
  unfold parseP at h
  split at h
  · cases h
  rename_i hs
  split at h
  · cases h
  rename_i L hsc
  obtain ⟨b, rb, new, sg, sq, rr, h2⟩ := topP_seg _ _ _ (Nat.zero_le _) h
  rw [List.nil_append] at h2
  subst h2
  have hb : L.map kt = b := by
    have := sg.1
    rw [List.drop_zero, List.drop_of_length_le (by simp), List.append_nil] at this
    exact this
  have hup := (scanS_up _ 0 [] rfl ⟨by simp, by simp⟩ (Nat.zero_le _)).1 L hsc
  have hrow : ∀ (j : Nat) (x : Row), rows[j]? = some x → ∃ y, rb[j]? = some y ∧ y.1 = er x ∧ x.place = atOf L y.2 := by
    intro j x hx
    have := congrArg (fun l => l[j]?) rr
    simp only [List.getElem?_map, hx, Option.map_some] at this
    cases hy : rb[j]? with
    | none => rw [hy] at this; cases this
    | some y =>
      rw [hy] at this
      simp only [Option.map_some, Option.some.injEq, Prod.mk.injEq, Nat.zero_add] at this
      exact ⟨y, rfl, this.1.symm, this.2⟩
  have hmap : rb.map (·.1) = rows.map er := by
    have := congrArg (List.map (·.1)) rr
    simp only [List.map_map] at this
    exact this.symm
  have hlen : rb.length = rows.length := (RR.len rr).symm
  obtain ⟨y, hy, hy1, hy2⟩ := hrow i r hi
  have hyr : y.1.rows = r.rows := by rw [hy1]; rfl
  rcases cut_sq sq i y hy with ⟨j, hj, x, a1, a2, a3⟩ | ⟨A, B, C, e1, e2, e3, e4, rc, e5, e6⟩
  · left
    rw [hmap, List.getElem?_map, Option.map_eq_some_iff] at a1
    obtain ⟨x', a4, rfl⟩ := a1
    rw [hyr] at a3
    exact ⟨j, hj, x', a4, a2, a3⟩
  · right
    rw [hyr] at e4 e6
    rw [e1] at hb
    obtain ⟨L12, L3, hL, m12, m3⟩ := List.map_eq_append_iff.1 hb
    obtain ⟨L1, L2, rfl, m1, m2⟩ := List.map_eq_append_iff.1 m12
    subst hL
    cases L2 with
    | nil => exact absurd m2.symm (by simpa using e3)
    | cons t T2 =>
      have hL1 : L1.length = y.2 := by rw [← e2, ← m1]; simp
      have hat : r.place = t.at_ := by
        rw [hy2, ← hL1]
        unfold atOf
        rw [List.append_assoc, List.getElem?_append_right (by omega)]
        simp
      have htm : t ∈ L1 ++ t :: T2 ++ L3 := by simp
      have ht := hup.1 t htm
      obtain ⟨P, hP⟩ : ∃ P : Nat, t.at_ = P := ⟨t.at_.toNat, by omega⟩
      have key : ∃ e : Nat, endOf s rows (i + 1 + r.rows.toNat) = (e : Nat) ∧ P < e ∧ e ≤ s.size ∧ ((L3 = [] ∧ e = s.size) ∨ ∃ t3 T, L3 = t3 :: T ∧ t3.at_ = (e : Nat)) := by
        rcases e4 with ⟨e4, e7⟩ | ⟨e7, x, e8, e9⟩
        · refine ⟨s.size, ?_, by omega, Nat.le_refl _, .inl ⟨?_, rfl⟩⟩
          · unfold endOf
            rw [e4, hlen, List.getElem?_eq_none (Nat.le_refl _)]
          · rw [e7] at m3; simpa using m3
        · cases L3 with
          | nil => exact absurd m3.symm (by simpa using e7)
          | cons t3 T =>
            have hnl : i + 1 + r.rows.toNat < rows.length := by rw [← hlen]; exact (List.getElem?_eq_some_iff.1 e8).1
            have hg : rows[i + 1 + r.rows.toNat]? = some rows[i + 1 + r.rows.toNat] := List.getElem?_eq_getElem hnl
            obtain ⟨x', g1, g2, g3⟩ := hrow _ _ hg
            rw [e8] at g1
            cases g1
            have hBl : (t :: T2).length = B.length := by rw [← m2]; simp
            have g4 : rows[i + 1 + r.rows.toNat].place = t3.at_ := by
              rw [g3, e9, ← hL1, ← hBl]
              unfold atOf
              rw [List.getElem?_append_right (by simp)]
              simp
            have h3m := hup.1 t3 (by simp)
            have hlt : t.at_ < t3.at_ := by
              have := hup.2
              rw [List.pairwise_append] at this
              exact this.2.2 t (by simp) t3 (by simp)
            refine ⟨t3.at_.toNat, ?_, by omega, by omega, .inr ⟨t3, T, rfl, by omega⟩⟩
            unfold endOf
            rw [hg]
            simp only
            rw [g4]; omega
      obtain ⟨e, k1, k2, k3, k4⟩ := key
      have hsc' := scan_cut hsc hP k4
      have hz := cut_size (P := P) (by omega) k3
      have hkt : (L1 ++ L3.map (mv (P + 1) e)).map kt = A ++ C := by rw [List.map_append, mv_kt, m1, m3]
      obtain ⟨got, g1, g2⟩ := (sq_read (L := L1 ++ L3.map (mv (P + 1) e)) (en := (cutS s P e).size) e5).2 rfl 0 ((L1 ++ L3.map (mv (P + 1) e)).length + 1) [] (by rw [List.drop_zero, hkt]) (by
        have := congrArg List.length hkt
        rw [List.length_map] at this
        omega)
      refine ⟨P, e, got, by rw [hat, hP], k1, k2, k3, ?_, ?_⟩
      · unfold parseP
        rw [if_neg (by omega), hsc']
        simp only [List.nil_append] at g1
        exact g1
      · apply sameL_er
        rw [g2, e6, hmap, er_cutR]
end Go.Proofs.Ythkkgbmjjpcfaaa

namespace Go.Proofs.Ythkkgbmjjpcfaaa
open Go.Ab
/-- What the temporaries of the comparison hold. -/
structure TS (tm : Nat → AV) (pl : Bool) (x y : AV) (n i : Nat) : Prop where
  e1 : tm 1 = y
  e2 : tm 2 = .sc (.bool pl)
  e17 : tm 17 = x
  e18 : tm 18 = .sc (.int .i64 n)
  e19 : tm 19 = .sc (.int .i64 i)
theorem TS.puts {tm : Nat → AV} {pl : Bool} {x y : AV} {n i : Nat} (t : TS tm pl x y n i) : ∀ (l : List (Nat × AV)), (∀ z ∈ l, 19 < z.1 ∨ z.1 = 7 ∨ z.1 = 8 ∨ z.1 = 9) → TS (puts tm l) pl x y n i
  | [], _ => t
  | z :: l, h => by
    have hz := h z (by simp)
    exact TS.puts (tm := Go.Ab.upd tm z.1 z.2) ⟨by rw [upd_ne (by omega)]; exact t.e1, by rw [upd_ne (by omega)]; exact t.e2, by rw [upd_ne (by omega)]; exact t.e17, by rw [upd_ne (by omega)]; exact t.e18, by rw [upd_ne (by omega)]; exact t.e19⟩ l (fun y hy => h y (by simp [hy]))
structure TH (tm : Nat → AV) (pl : Bool) (x y : AV) (n i v8 v9 : Nat) : Prop where
  t : TS tm pl x y n i
  e8 : tm 8 = .ptr v8 0
  e9 : tm 9 = .ptr v9 0
theorem puts_lt {tm : Nat → AV} {k : Nat} : ∀ (l : List (Nat × AV)), (∀ z ∈ l, k < z.1) → puts tm l k = tm k
  | [], _ => rfl
  | z :: l, h => by
    have hz := h z (by simp)
    simp only [puts]
    rw [puts_lt l (fun y hy => h y (by simp [hy])), upd_ne (by omega)]
theorem TH.puts {tm : Nat → AV} {pl : Bool} {x y : AV} {n i v8 v9 : Nat} (t : TH tm pl x y n i v8 v9) (l : List (Nat × AV)) (h : ∀ z ∈ l, 19 < z.1) : TH (puts tm l) pl x y n i v8 v9 :=
  ⟨t.t.puts l fun z hz => .inl (h z hz), by rw [puts_lt l (fun z hz => by have := h z hz; omega)]; exact t.e8, by rw [puts_lt l (fun z hz => by have := h z hz; omega)]; exact t.e9⟩
section
variable {W : Nat → Prop} {Q : Post} {QP : PPost} {tm : Nat → AV} {h : AH} (H : ∀ tm', F9.k12 W Q QP ⟨tm', []⟩ h)
include H
theorem dead64 (e : tm 64 = .sc (.bool true)) : F9.k15 W Q QP ⟨tm, []⟩ h := by
  simp only [F9.k15, F9.t15, e, aIg_b, Bool.true_eq_false, false_implies, true_and, Bool.not_false, true_implies]
  generalize htm : puts tm _ = tm1
  have e1 : tm1 64 = .sc (.bool true) := by rw [← htm]; simp [e]
  clear htm
  simp only [F9.k14, F9.t14, e1, pPick_b, if_true]
  generalize htm : puts tm1 _ = tm2
  have e2 : tm2 72 = .sc (.bool true) := by rw [← htm]; simp
  clear htm
  simp only [F9.k13, F9.t13, e2, aIf_b, true_implies, Bool.true_eq_false, false_implies, and_true]
  exact H _
theorem dead54 (e : tm 54 = .sc (.bool true)) : F9.k19 W Q QP ⟨tm, []⟩ h := by
  simp only [F9.k19, F9.t19, e, aIg_b, Bool.true_eq_false, false_implies, true_and, Bool.not_false, true_implies]
  generalize htm : puts tm _ = tm1
  have e1 : tm1 54 = .sc (.bool true) := by rw [← htm]; simp [e]
  have e1' : tm1 56 = noA := by rw [← htm]; simp
  clear htm
  simp only [F9.k18, F9.t18, e1', aIg_u]
  generalize htm : puts tm1 _ = tm2
  have e2 : tm2 54 = .sc (.bool true) := by rw [← htm]; simp [e1]
  clear htm
  simp only [F9.k17, F9.t17, e2, aIg_b, Bool.true_eq_false, false_implies, true_and, Bool.not_false, true_implies]
  generalize htm : puts tm2 _ = tm3
  have e3 : tm3 54 = .sc (.bool true) := by rw [← htm]; simp [e2]
  clear htm
  simp only [F9.k16, F9.t16, e3, pPick_b, if_true]
  exact dead64 H (by simp)
theorem dead47 (e : tm 47 = .sc (.bool true)) : F9.k21 W Q QP ⟨tm, []⟩ h := by
  simp only [F9.k21, F9.t21, e, aIg_b, Bool.true_eq_false, false_implies, true_and, Bool.not_false, true_implies]
  generalize htm : puts tm _ = tm1
  have e1 : tm1 47 = .sc (.bool true) := by rw [← htm]; simp [e]
  clear htm
  simp only [F9.k20, F9.t20, e1, pPick_b, if_true]
  exact dead54 H (by simp)
theorem dead40 (e : tm 40 = .sc (.bool true)) : F9.k23 W Q QP ⟨tm, []⟩ h := by
  simp only [F9.k23, F9.t23, e, aIg_b, Bool.true_eq_false, false_implies, true_and, Bool.not_false, true_implies]
  generalize htm : puts tm _ = tm1
  have e1 : tm1 40 = .sc (.bool true) := by rw [← htm]; simp [e]
  clear htm
  simp only [F9.k22, F9.t22, e1, pPick_b, if_true]
  exact dead47 H (by simp)
theorem dead33 (e : tm 33 = .sc (.bool true)) : F9.k25 W Q QP ⟨tm, []⟩ h := by
  simp only [F9.k25, F9.t25, e, aIg_b, Bool.true_eq_false, false_implies, true_and, Bool.not_false, true_implies]
  generalize htm : puts tm _ = tm1
  have e1 : tm1 33 = .sc (.bool true) := by rw [← htm]; simp [e]
  clear htm
  simp only [F9.k24, F9.t24, e1, pPick_b, if_true]
  exact dead40 H (by simp)
end
section
variable {W : Nat → Prop} {Q : Post} {QP : PPost} {tm : Nat → AV} {h : AH} {v8 v9 n i : Nat} {r s : Row} {a b x y : AV} {pl : Bool}
theorem st15 (t' : TH tm pl x y n i v8 v9) (h8 : h.obj v8 = some (mkO (encRA (r, a)) 6 36)) (h9 : h.obj v9 = some (mkO (encRA (s, b)) 6 36)) (ha : SlL Arg.enc 2 53 h a r.args) (hb : SlL Arg.enc 2 53 h b s.args) (e64 : tm 64 = .sc (.bool false))
    (hn : r.args.length ≠ s.args.length → ∀ tm', F9.k12 W Q QP ⟨tm', []⟩ h) (hk : r.args.length = s.args.length → ∀ tm', TH tm' pl x y n i v8 v9 → F9.k11 W Q QP ⟨tm', []⟩ h) : F9.k15 W Q QP ⟨tm, []⟩ h := by
  have la := (ha.len (K := fun _ => True)).1
  have la2 := fun K => (ha.len (K := K)).2
  have lb := (hb.len (K := fun _ => True)).1
  have lb2 := fun K => (hb.len (K := K)).2
  simp only [F9.k15, F9.t15, e64, aIg_b, true_implies, Bool.not_false, Bool.false_eq_true, false_implies, and_true, t'.e8, t'.e9, pFld_ptr, lLd_f, h8, h9, ldk_mk, Nat.zero_add, encRA, List.getElem?_cons_succ, List.getElem?_cons_zero, cellK_some, la, la2, lb, lb2, true_and, pBin_neq]
  generalize hc : ((r.args.length : Int) != (s.args.length : Int)) = c
  generalize htm : puts tm _ = tm1
  have t1 : TH tm1 pl x y n i v8 v9 := by rw [← htm]; exact t'.puts _ (by simp)
  have e1 : tm1 64 = .sc (.bool false) := by rw [← htm]; simp [e64]
  have e1' : tm1 71 = .sc (.bool c) := by rw [← htm]; simp
  clear htm
  simp only [F9.k14, F9.t14, e1, pPick_b, Bool.false_eq_true, if_false, e1']
  generalize htm : puts tm1 _ = tm2
  have t2 : TH tm2 pl x y n i v8 v9 := by rw [← htm]; exact t1.puts _ (by simp)
  have e2 : tm2 72 = .sc (.bool c) := by rw [← htm]; simp
  clear htm
  simp only [F9.k13, F9.t13, e2, aIf_b]
  refine ⟨fun hct => ?_, fun hcf => ?_⟩
  · subst hct
    have : ¬ (r.args.length : Int) = s.args.length := by simpa using hc
    exact hn (by omega) _
  · subst hcf
    have : (r.args.length : Int) = s.args.length := by simpa using hc
    exact hk (by omega) _ t2
variable (h8 : h.obj v8 = some (mkO (encRA (r, a)) 6 36)) (h9 : h.obj v9 = some (mkO (encRA (s, b)) 6 36))
include h8 h9
theorem st25 (t' : TH tm pl x y n i v8 v9) (e : tm 33 = .sc (.bool false)) (hn : r.name ≠ s.name → ∀ tm', F9.k12 W Q QP ⟨tm', []⟩ h)
    (hk : r.name = s.name → ∀ tm', TH tm' pl x y n i v8 v9 → tm' 40 = .sc (.bool false) → F9.k23 W Q QP ⟨tm', []⟩ h) : F9.k25 W Q QP ⟨tm, []⟩ h := by
  simp only [F9.k25, F9.t25, e, aIg_b, true_implies, Bool.not_false, Bool.false_eq_true, false_implies, and_true, t'.e8, t'.e9, pFld_ptr, lLd_f, h8, h9, ldk_mk, Nat.zero_add, encRA, List.getElem?_cons_succ, List.getElem?_cons_zero, cellK_some, pBin_sneq]
  generalize hc : (!decide (r.name = s.name)) = c
  generalize htm : puts tm _ = tm2
  have t2 : TH tm2 pl x y n i v8 v9 := by rw [← htm]; exact t'.puts _ (by simp)
  have e2 : tm2 33 = .sc (.bool false) := by rw [← htm]; simp [e]
  have e2' : tm2 38 = .sc (.bool c) := by rw [← htm]; simp
  clear htm
  simp only [F9.k24, F9.t24, e2, pPick_b, Bool.false_eq_true, if_false, e2']
  generalize htm : puts tm2 _ = tm3
  have t3 : TH tm3 pl x y n i v8 v9 := by rw [← htm]; exact t2.puts _ (by simp)
  have e3 : tm3 40 = .sc (.bool c) := by rw [← htm]; simp
  clear htm
  cases c with
  | true => exact dead40 (hn (by simpa using hc)) e3
  | false => exact hk (by simpa using hc) tm3 t3 e3
theorem st23 (t' : TH tm pl x y n i v8 v9) (e : tm 40 = .sc (.bool false)) (hn : r.num ≠ s.num → ∀ tm', F9.k12 W Q QP ⟨tm', []⟩ h)
    (hk : r.num = s.num → ∀ tm', TH tm' pl x y n i v8 v9 → tm' 47 = .sc (.bool false) → F9.k21 W Q QP ⟨tm', []⟩ h) : F9.k23 W Q QP ⟨tm, []⟩ h := by
  simp only [F9.k23, F9.t23, e, aIg_b, true_implies, Bool.not_false, Bool.false_eq_true, false_implies, and_true, t'.e8, t'.e9, pFld_ptr, lLd_f, h8, h9, ldk_mk, Nat.zero_add, encRA, List.getElem?_cons_succ, List.getElem?_cons_zero, cellK_some, pBin_neq]
  generalize hc : (r.num != s.num) = c
  generalize htm : puts tm _ = tm2
  have t2 : TH tm2 pl x y n i v8 v9 := by rw [← htm]; exact t'.puts _ (by simp)
  have e2 : tm2 40 = .sc (.bool false) := by rw [← htm]; simp [e]
  have e2' : tm2 45 = .sc (.bool c) := by rw [← htm]; simp
  clear htm
  simp only [F9.k22, F9.t22, e2, pPick_b, Bool.false_eq_true, if_false, e2']
  generalize htm : puts tm2 _ = tm3
  have t3 : TH tm3 pl x y n i v8 v9 := by rw [← htm]; exact t2.puts _ (by simp)
  have e3 : tm3 47 = .sc (.bool c) := by rw [← htm]; simp
  clear htm
  cases c with
  | true => exact dead47 (hn (by simpa using hc)) e3
  | false => exact hk (by simpa using hc) tm3 t3 e3
theorem st21 (t' : TH tm pl x y n i v8 v9) (e : tm 47 = .sc (.bool false)) (hn : r.rows ≠ s.rows → ∀ tm', F9.k12 W Q QP ⟨tm', []⟩ h)
    (hk : r.rows = s.rows → ∀ tm', TH tm' pl x y n i v8 v9 → tm' 54 = .sc (.bool false) → F9.k19 W Q QP ⟨tm', []⟩ h) : F9.k21 W Q QP ⟨tm, []⟩ h := by
  simp only [F9.k21, F9.t21, e, aIg_b, true_implies, Bool.not_false, Bool.false_eq_true, false_implies, and_true, t'.e8, t'.e9, pFld_ptr, lLd_f, h8, h9, ldk_mk, Nat.zero_add, encRA, List.getElem?_cons_succ, List.getElem?_cons_zero, cellK_some, pBin_neq]
  generalize hc : (r.rows != s.rows) = c
  generalize htm : puts tm _ = tm2
  have t2 : TH tm2 pl x y n i v8 v9 := by rw [← htm]; exact t'.puts _ (by simp)
  have e2 : tm2 47 = .sc (.bool false) := by rw [← htm]; simp [e]
  have e2' : tm2 52 = .sc (.bool c) := by rw [← htm]; simp
  clear htm
  simp only [F9.k20, F9.t20, e2, pPick_b, Bool.false_eq_true, if_false, e2']
  generalize htm : puts tm2 _ = tm3
  have t3 : TH tm3 pl x y n i v8 v9 := by rw [← htm]; exact t2.puts _ (by simp)
  have e3 : tm3 54 = .sc (.bool c) := by rw [← htm]; simp
  clear htm
  cases c with
  | true => exact dead54 (hn (by simpa using hc)) e3
  | false => exact hk (by simpa using hc) tm3 t3 e3
theorem st26 (t' : TH tm pl x y n i v8 v9) (hn : r.kind ≠ s.kind → ∀ tm', F9.k12 W Q QP ⟨tm', []⟩ h)
    (hk : r.kind = s.kind → ∀ tm', TH tm' pl x y n i v8 v9 → tm' 33 = .sc (.bool false) → F9.k25 W Q QP ⟨tm', []⟩ h) : F9.k26 W Q QP ⟨tm, []⟩ h := by
  simp only [F9.k26, F9.t26, t'.e8, t'.e9, pFld_ptr, lLd_f, h8, h9, ldk_mk, Nat.zero_add, encRA, List.getElem?_cons_succ, List.getElem?_cons_zero, cellK_some, pBin_sneq]
  generalize hc : (!decide (r.kind = s.kind)) = c
  generalize htm : puts tm _ = tm1
  have t1 : TH tm1 pl x y n i v8 v9 := by rw [← htm]; exact t'.puts _ (by simp)
  have e1 : tm1 33 = .sc (.bool c) := by rw [← htm]; simp
  clear htm
  cases c with
  | true => exact dead33 (hn (by simpa using hc)) e1
  | false => exact hk (by simpa using hc) tm1 t1 e1
theorem st19 (t' : TH tm pl x y n i v8 v9) (e : tm 54 = .sc (.bool false)) (hn : pl = true → r.place ≠ s.place → ∀ tm', F9.k12 W Q QP ⟨tm', []⟩ h)
    (hk : (pl = true → r.place = s.place) → ∀ tm', TH tm' pl x y n i v8 v9 → tm' 64 = .sc (.bool false) → F9.k15 W Q QP ⟨tm', []⟩ h) : F9.k19 W Q QP ⟨tm, []⟩ h := by
  simp only [F9.k19, F9.t19, e, aIg_b, true_implies, Bool.not_false, Bool.false_eq_true, false_implies, and_true, t'.t.e2]
  generalize htm : puts tm _ = tm8
  have t8 : TH tm8 pl x y n i v8 v9 := by rw [← htm]; exact t'.puts _ (by simp)
  have e8' : tm8 54 = .sc (.bool false) := by rw [← htm]; simp [e]
  have e8'' : tm8 56 = .sc (.bool pl) := by rw [← htm]; simp
  clear htm
  have last : ∀ tm9 c, TH tm9 pl x y n i v8 v9 → tm9 54 = .sc (.bool false) → tm9 56 = .sc (.bool pl) → (pl = true → tm9 61 = .sc (.bool c)) → (pl = true → c = (r.place != s.place)) → F9.k17 W Q QP ⟨tm9, []⟩ h := by
    intro tm9 c t9 e9a e9b e9c hc
    simp only [F9.k17, F9.t17, e9a, aIg_b, true_implies, Bool.not_false, Bool.false_eq_true, false_implies, and_true, e9b, pPick_b]
    generalize hd : (if pl = true then tm9 61 else AV.sc (.bool false)) = dv
    have hd' : dv = .sc (.bool (pl && (r.place != s.place))) := by
      rw [← hd]
      cases pl with
      | false => rfl
      | true => rw [if_pos rfl, e9c rfl, hc rfl]; rfl
    subst hd'
    clear hd
    generalize htm : puts tm9 _ = tm10
    have t10 : TH tm10 pl x y n i v8 v9 := by rw [← htm]; exact t9.puts _ (by simp)
    have e10a : tm10 54 = .sc (.bool false) := by rw [← htm]; simp [e9a]
    have e10b : tm10 62 = .sc (.bool (pl && (r.place != s.place))) := by rw [← htm]; simp
    clear htm
    simp only [F9.k16, F9.t16, e10a, pPick_b, Bool.false_eq_true, if_false, e10b]
    generalize hb : (pl && (r.place != s.place)) = bb
    generalize htm : puts tm10 _ = tm11
    have t11 : TH tm11 pl x y n i v8 v9 := by rw [← htm]; exact t10.puts _ (by simp)
    have e11 : tm11 64 = .sc (.bool bb) := by rw [← htm]; simp
    clear htm
    cases bb with
    | true =>
      rw [Bool.and_eq_true] at hb
      exact dead64 (hn hb.1 (by simpa using hb.2)) e11
    | false => exact hk (fun hp => by subst hp; simpa using hb) tm11 t11 e11
  cases pl with
  | false =>
    simp only [F9.k18, F9.t18, e8'', aIg_b, true_implies, Bool.not_true, Bool.false_eq_true, false_implies, and_true, true_and]
    generalize htm : puts tm8 _ = tm9
    have t9 : TH tm9 false x y n i v8 v9 := by rw [← htm]; exact t8.puts _ (by simp)
    have e9a : tm9 54 = .sc (.bool false) := by rw [← htm]; simp [e8']
    have e9b : tm9 56 = .sc (.bool false) := by rw [← htm]; simp [e8'']
    clear htm
    exact last tm9 false t9 e9a e9b (fun h => by cases h) (fun h => by cases h)
  | true =>
    simp only [F9.k18, F9.t18, e8'', aIg_b, true_implies, Bool.not_true, Bool.true_eq_false, false_implies, and_true, t8.e8, t8.e9, pFld_ptr, lLd_f, h8, h9, ldk_mk, Nat.zero_add, encRA, List.getElem?_cons_succ, List.getElem?_cons_zero, cellK_some, pBin_neq]
    generalize hc : (r.place != s.place) = c
    generalize htm : puts tm8 _ = tm9
    have t9 : TH tm9 true x y n i v8 v9 := by rw [← htm]; exact t8.puts _ (by simp)
    have e9a : tm9 54 = .sc (.bool false) := by rw [← htm]; simp [e8']
    have e9b : tm9 56 = .sc (.bool true) := by rw [← htm]; simp [e8'']
    have e9c : tm9 61 = .sc (.bool c) := by rw [← htm]; simp
    clear htm
    exact last tm9 c t9 e9a e9b (fun _ => e9c) (fun _ => hc.symm)
end
/-- Two rows' heads. -/
theorem F9_head {W : Nat → Prop} {Q : Post} {QP : PPost} {tm : Nat → AV} {h : AH} {v8 v9 n i : Nat} {r s : Row} {a b x y : AV} {pl : Bool} (t : TS tm pl x y n i) (e8 : tm 8 = .ptr v8 0) (e9 : tm 9 = .ptr v9 0)
    (h8 : h.obj v8 = some (mkO (encRA (r, a)) 6 36)) (h9 : h.obj v9 = some (mkO (encRA (s, b)) 6 36)) (ha : SlL Arg.enc 2 53 h a r.args) (hb : SlL Arg.enc 2 53 h b s.args)
    (hF : headEq pl r s = false → ∀ tm', tm' 6 = .sc (.bool false) → Q .ret ⟨tm', []⟩ h)
    (hT : headEq pl r s = true → ∀ tm', TS tm' pl x y n i → tm' 8 = .ptr v8 0 → tm' 9 = .ptr v9 0 → F9.k11 W Q QP ⟨tm', []⟩ h) :
    F9.k26 W Q QP ⟨tm, []⟩ h := by
  have bad : headEq pl r s = false → ∀ tm', F9.k12 W Q QP ⟨tm', []⟩ h := fun hh tm' => by
    simp only [F9.k12, F9.t12]
    exact hF hh _ (by simp)
  refine st26 h8 h9 ⟨t, e8, e9⟩ (fun c => bad (by simp [headEq, c])) fun c1 tm1 t1 g1 => ?_
  refine st25 h8 h9 t1 g1 (fun c => bad (by simp [headEq, c])) fun c2 tm2 t2 g2 => ?_
  refine st23 h8 h9 t2 g2 (fun c => bad (by simp [headEq, c])) fun c3 tm3 t3 g3 => ?_
  refine st21 h8 h9 t3 g3 (fun c => bad (by simp [headEq, c])) fun c4 tm4 t4 g4 => ?_
  refine st19 h8 h9 t4 g4 (fun c c' => bad (by simp [headEq, c, c'])) fun c5 tm5 t5 g5 => ?_
  refine st15 t5 h8 h9 ha hb g5 (fun c => bad (by simp [headEq, c])) fun c6 tm6 t6 => ?_
  refine hT ?_ tm6 t6.t t6.e8 t6.e9
  simp only [headEq, c1, c2, c3, c4, c6, decide_true, beq_self_eq_true, Bool.and_true, Bool.true_and]
  cases pl with
  | false => rfl
  | true => simp [c5 rfl]
theorem same_ok {x y : AV} {A B : List Row} {pl : Bool} {h : AH} {M : Nat → Prop} {R : AE → AH → Prop} (hA : RowsAt h x A) (hB : RowsAt h y B) (nA : A.length ≤ 1000000000) (gA : ∀ r ∈ A, r.args.length ≤ 1000000000)
    (hR : ∀ h', Fr h h' (fun _ => False) → R (.ret (.sc (.bool (sameL pl A B)))) h') : ACalls Try.prog 9 [x, y, .sc (.bool pl)] h M R := by
  apply F9.calls
  have lA := hA.len
  have lB := hB.len
  simp only [F9.k36, F9.t36, F9.k35, F9.t35]
  by_cases hlen : A.length = B.length
  rotate_left
  · have hne : ((A.length : Int) != B.length) = true := by simp; omega
    have hs : sameL pl A B = false := by simp [sameL, hlen]
    rw [hs] at hR
    have := hR h Fr.refl
    simp [-F9.k32, lA.1, lA.2, lB.1, lB.2, hne]
    exact this
  have hs : sameL pl A B = eqRows pl A B := by simp [sameL, hlen]
  rw [hs] at hR
  simp [-F9.k31, lA.1, lA.2, lB.1, lB.2, hlen]
  generalize htm : upd _ _ _ = tm
  have t0 : TS tm pl x y A.length 0 := ⟨by rw [← htm]; simp, by rw [← htm]; simp, by rw [← htm]; simp, by rw [← htm]; simp [hlen], by rw [← htm]; simp⟩
  clear htm
  obtain ⟨l, l1, l2, l3⟩ := hA
  obtain ⟨m, m1, m2, m3⟩ := hB
  have ll : l.length = A.length := by rw [← l2]; simp
  have ml : m.length = B.length := by rw [← m2]; simp
  unfold F9.k31
  refine aLoop_of (ι := Nat) (fun i s' h' => s'.ds = [] ∧ Fr h h' (fun _ => False) ∧ i ≤ A.length ∧ TS s'.tm pl x y A.length i ∧ eqRows pl (A.drop i) (B.drop i) = eqRows pl A B) (fun i => A.length - i) 0 ?_ ?_
  · exact ⟨rfl, Fr.refl, by omega, t0, rfl⟩
  rintro i ⟨tm', ds⟩ h' ⟨rfl, hf, hi, t, heq⟩
  simp only at t
  rw [F9.l1]
  simp only [F9.k30, F9.t30, t.e18, t.e19, pBin_lss]
  by_cases hlt : i < A.length
  · have hli : (i : Int) < A.length := by omega
    rw [decide_eq_true hli]
    have t1 := t.puts [(20, .sc (.bool true))] (by simp)
    have e20 : puts tm' [(20, .sc (.bool true))] 20 = .sc (.bool true) := by simp
    generalize puts tm' [(20, .sc (.bool true))] = tm1 at *
    simp only [F9.k29, F9.t29, e20, aIf_b, true_implies, Bool.true_eq_false, false_implies, and_true]
    have hlt2 : i < B.length := by omega
    have hll : i < l.length := by omega
    have hml : i < m.length := by omega
    have ga : A[i] = l[i].1 := by subst l2; simp
    have gb : B[i] = m[i].1 := by subst m2; simp
    rw [List.drop_eq_getElem_cons hlt, List.drop_eq_getElem_cons hlt2, ga, gb] at heq
    have hbig : l[i].1.args.length ≤ 1000000000 := by rw [← ga]; exact gA _ (List.getElem_mem hlt)
    have sa := args_keep (l3 _ (List.getElem_mem hll)) hf (fun _ _ _ _ h => h)
    have sb := args_keep (m3 _ (List.getElem_mem hml)) hf (fun _ _ _ _ h => h)
    have g1 : l[i]? = some l[i] := List.getElem?_eq_getElem hll
    have g2 : m[i]? = some m[i] := List.getElem?_eq_getElem hml
    rcases l1 with ⟨_, hn⟩ | ⟨ia, rfl, oa⟩
    · rw [hn] at hll; simp at hll
    rcases m1 with ⟨_, hn⟩ | ⟨ib, rfl, ob⟩
    · rw [hn] at hml; simp at hml
    have d1 := flat_drop encRA_len _ _ _ g1
    have d2 := flat_drop encRA_len _ _ _ g2
    have hl1 : i * 6 + 6 ≤ (l.flatMap encRA).length := by rw [flat_len encRA_len]; omega
    have hl2 : i * 6 + 6 ≤ (m.flatMap encRA).length := by rw [flat_len encRA_len]; omega
    generalize l[i] = ra at *
    generalize m[i] = sb' at *
    obtain ⟨r, av⟩ := ra
    obtain ⟨s, bv⟩ := sb'
    simp only at heq hbig sa sb
    have oa' := hf.obj oa (fun h => h)
    have ob' := hf.obj ob (fun h => h)
    have hone : ∀ (z : Row × AV), SlL Arg.enc 2 53 h' z.2 z.1.args → (encRA z).all oneA = true := by
      rintro ⟨z1, z2⟩ hz
      rcases hz with ⟨h4, _⟩ | ⟨id, h4, _⟩ <;> (simp only at h4; subst h4; rfl)
    simp only [F9.k28, F9.t28, t1.e17, t1.e19, pIxA_sl, lLdn_f, oa', ldnk_mk, Nat.zero_add, Int.toNat_natCast]
    refine ⟨⟨by omega, by omega⟩, hl1, ?_⟩
    rw [d1]
    simp only [eAlloc_d]
    refine ⟨rfl, ?_⟩
    have hv := AH.alloc_new h' (mkO ([.string ⟨#[]⟩, .string ⟨#[]⟩, .slice none 0 0, .int .i64 0, .int .i64 0, .int .i64 0].map AV.sc) 6 36)
    simp only [eStore_f, hv, avC_agg, stk_mk]
    refine ⟨⟨.inr hf.next, hone (r, av) sa, rfl, by simp [encRA]⟩, ?_⟩
    have g : Fr h' ((h'.alloc (mkO ([.string ⟨#[]⟩, .string ⟨#[]⟩, .slice none 0 0, .int .i64 0, .int .i64 0, .int .i64 0].map AV.sc) 6 36)).put h'.next 0 (encRA (r, av))) (fun _ => False) := (Fr.refl.alloc _).put (.inr (Nat.le_refl _))
    have ov : ((h'.alloc (mkO ([.string ⟨#[]⟩, .string ⟨#[]⟩, .slice none 0 0, .int .i64 0, .int .i64 0, .int .i64 0].map AV.sc) 6 36)).put h'.next 0 (encRA (r, av))).obj h'.next = some (mkO (encRA (r, av)) 6 36) := by rw [put_row hv]; rfl
    have hf2 := hf.trans (g.mono fun _ h => h.elim)
    have ob2 := g.obj ob' (fun h => h)
    have sa2 := args_keep sa g (fun _ _ _ _ h => h)
    have sb2 := args_keep sb g (fun _ _ _ _ h => h)
    generalize (h'.alloc (mkO ([.string ⟨#[]⟩, .string ⟨#[]⟩, .slice none 0 0, .int .i64 0, .int .i64 0, .int .i64 0].map AV.sc) 6 36)).put h'.next 0 (encRA (r, av)) = h2 at *
    generalize h'.next = v8 at *
    generalize htm : puts tm1 _ = tm2
    have t2 : TS tm2 pl (.sl ia 0 l.length) (.sl ib 0 m.length) A.length i := by rw [← htm]; exact t1.puts _ (by simp)
    have e8 : tm2 8 = .ptr v8 0 := by rw [← htm]; simp
    have e7 : tm2 7 = .sc (.int .i64 i) := by rw [← htm]; simp
    clear htm
    simp only [F9.k27, F9.t27, t2.e1, e7, pIxA_sl, lLdn_f, ob2, ldnk_mk, Nat.zero_add, Int.toNat_natCast]
    refine ⟨⟨by omega, by omega⟩, hl2, ?_⟩
    rw [d2]
    simp only [eAlloc_d]
    refine ⟨rfl, ?_⟩
    have hv := AH.alloc_new h2 (mkO ([.string ⟨#[]⟩, .string ⟨#[]⟩, .slice none 0 0, .int .i64 0, .int .i64 0, .int .i64 0].map AV.sc) 6 36)
    simp only [eStore_f, hv, avC_agg, stk_mk]
    refine ⟨⟨.inr hf2.next, hone (s, bv) sb, rfl, by simp [encRA]⟩, ?_⟩
    have g3 : Fr h2 ((h2.alloc (mkO ([.string ⟨#[]⟩, .string ⟨#[]⟩, .slice none 0 0, .int .i64 0, .int .i64 0, .int .i64 0].map AV.sc) 6 36)).put h2.next 0 (encRA (s, bv))) (fun _ => False) := (Fr.refl.alloc _).put (.inr (Nat.le_refl _))
    have ov9 : ((h2.alloc (mkO ([.string ⟨#[]⟩, .string ⟨#[]⟩, .slice none 0 0, .int .i64 0, .int .i64 0, .int .i64 0].map AV.sc) 6 36)).put h2.next 0 (encRA (s, bv))).obj h2.next = some (mkO (encRA (s, bv)) 6 36) := by rw [put_row hv]; rfl
    have hf3 := hf2.trans (g3.mono fun _ h => h.elim)
    have ov8 := g3.obj ov (fun h => h)
    have sa3 := args_keep sa2 g3 (fun _ _ _ _ h => h)
    have sb3 := args_keep sb2 g3 (fun _ _ _ _ h => h)
    generalize (h2.alloc (mkO ([.string ⟨#[]⟩, .string ⟨#[]⟩, .slice none 0 0, .int .i64 0, .int .i64 0, .int .i64 0].map AV.sc) 6 36)).put h2.next 0 (encRA (s, bv)) = h3 at *
    generalize h2.next = v9 at *
    generalize htm : puts tm2 _ = tm3
    have t3 : TS tm3 pl (.sl ia 0 l.length) (.sl ib 0 m.length) A.length i := by rw [← htm]; exact t2.puts _ (by simp)
    have e8 : tm3 8 = .ptr v8 0 := by rw [← htm]; simp [e8]
    have e9 : tm3 9 = .ptr v9 0 := by rw [← htm]; simp
    clear htm
    refine F9_head t3 e8 e9 ov8 ov9 sa3 sb3 ?_ ?_
    · intro hh tm4 e6
      have : eqRows pl A B = false := by rw [← heq]; simp [eqRows, rowEq, hh]
      rw [this] at hR
      have := hR h3 hf3
      simp [e6]
      exact this
    intro hh tm4 t4 e8 e9
    have hal : r.args.length = s.args.length := by
      simp only [headEq, Bool.and_eq_true, beq_iff_eq] at hh
      exact hh.2.2.2.2.2
    refine F9_args (fun id hid => .inr (Nat.le_trans hf3.next hid)) e8 e9 ov8 ov9 sa3 sb3 hal hbig ?_ ?_
    · intro hh2 tm5 h5 f5 e6
      have : eqRows pl A B = false := by rw [← heq]; simp [eqRows, rowEq, hh2]
      rw [this] at hR
      have := hR h5 (hf3.trans (f5.mono fun _ h => h.elim))
      simp [e6]
      exact this
    · intro hh2 tm5 h5 f5 hsame
      have hw : IntKind.i64.wrap ((i : Int) + 1) = ((i + 1 : Nat) : Int) := by rw [wrap_in (by omega) (by omega)]; simp
      have e19 : tm5 19 = .sc (.int .i64 i) := by rw [hsame 19 (by simp)]; exact t4.e19
      simp only [F9.k2, F9.t2, e19, pBin_add, hw]
      refine ⟨i + 1, by omega, rfl, hf3.trans (f5.mono fun _ h => h.elim), by omega, ⟨?_, ?_, ?_, ?_, ?_⟩, ?_⟩
      · simp [hsame 1 (by simp), t4.e1]
      · simp [hsame 2 (by simp), t4.e2]
      · simp [hsame 17 (by simp), t4.e17]
      · simp [hsame 18 (by simp), t4.e18]
      · simp
      · rw [← heq]; simp [eqRows, rowEq, hh, hh2]
  · have hd : A.drop i = [] := List.drop_eq_nil_of_le (by omega)
    rw [hd] at heq
    have hr : eqRows pl A B = true := by rw [← heq]; simp [eqRows]
    rw [hr] at hR
    have := hR h' hf
    have hnl : ¬ (i : Int) < A.length := by omega
    rw [decide_eq_false hnl]
    have e20 : puts tm' [(20, .sc (.bool false))] 20 = .sc (.bool false) := by simp
    generalize puts tm' [(20, .sc (.bool false))] = tm1 at *
    simp only [F9.k29, F9.t29, e20, aIf_b, Bool.false_eq_true, false_implies, true_and, true_implies]
    simp only [thenQ, blockQ, if_true, F9.k1, F9.t1]
    simp
    exact this
end Go.Proofs.Ythkkgbmjjpcfaaa

namespace Go.Proofs.Ythkkgbmjjpcfaaa
open Go.Ab
/-! the walk of ParseCuts: the rows are looked at -/
structure CkR (s : ByteArray) (rows : List Row) (j : Nat) (r : Row) : Prop where
  r0 : 0 ≤ r.rows
  r1 : (j : Int) + r.rows < rows.length
  p0 : 0 ≤ r.place
  p1 : r.place < s.size
  up : ∀ r', 0 < j → rows[j - 1]? = some r' → r'.place < r.place
/-- What the temporaries hold. -/
structure T5 (tm : Nat → AV) (s : ByteArray) (w : Int) (x : AV) : Prop where
  e0 : tm 0 = .sc (.string s)
  e1 : tm 1 = .sc (.int .i64 w)
  e5 : tm 5 = x
theorem T5.puts {tm : Nat → AV} {s : ByteArray} {w : Int} {x : AV} (t : T5 tm s w x) : ∀ (l : List (Nat × AV)), (∀ z ∈ l, 5 < z.1) → T5 (puts tm l) s w x
  | [], _ => t
  | z :: l, h => by
    have hz := h z (by simp)
    exact T5.puts (tm := Go.Ab.upd tm z.1 z.2) ⟨by rw [upd_ne (by omega)]; exact t.e0, by rw [upd_ne (by omega)]; exact t.e1, by rw [upd_ne (by omega)]; exact t.e5⟩ l (fun y hy => h y (by simp [hy]))
section
variable {W : Nat → Prop} {Q : Post} {QP : PPost} {tm : Nat → AV} {h : AH} {s : ByteArray} {w : Int} {v id j : Nat} {l : List (Row × AV)} {r : Row} {a : AV}
/-- One row's tests, none of which finds fault. -/
theorem F5_row (t : T5 tm s w (.sl id 0 l.length)) (e8 : tm 8 = .sc (.int .i64 j)) (e9 : tm 9 = .ptr v 0) (e37 : tm 37 = .sc (.int .i64 j)) (e36 : tm 36 = .sc (.int .i64 l.length)) (e35 : tm 35 = .sl id 0 l.length)
    (ho : h.obj id = some (mkO (l.flatMap encRA) 6 36)) (hv : h.obj v = some (mkO (encRA (r, a)) 6 36)) (hj : j < l.length) (hl : l.length ≤ 65536) (hc : CkR s (l.map (·.1)) j r)
    (hQ : ∀ tm', T5 tm' s w (.sl id 0 l.length) → tm' 37 = .sc (.int .i64 (j + 1 : Nat)) → tm' 36 = .sc (.int .i64 l.length) → tm' 35 = .sl id 0 l.length → Q .normal ⟨tm', []⟩ h) :
    F5.k53 W Q QP ⟨tm, []⟩ h := by
  obtain ⟨r0, r1, p0, p1, up⟩ := hc
  rw [List.length_map] at r1
  simp only [F5.k53, F5.t53, e9, pFld_ptr, lLd_f, hv, ldk_mk, Nat.zero_add, encRA, List.getElem?_cons_succ, List.getElem?_cons_zero, cellK_some, pBin_lss]
  rw [decide_eq_false (by omega : ¬ r.rows < 0)]
  generalize htm : puts tm _ = tm1
  have t1 : T5 tm1 s w (.sl id 0 l.length) := by rw [← htm]; exact t.puts _ (by simp)
  have a8 : tm1 8 = .sc (.int .i64 j) := by rw [← htm]; simp [e8]
  have a9 : tm1 9 = .ptr v 0 := by rw [← htm]; simp [e9]
  have a37 : tm1 37 = .sc (.int .i64 j) := by rw [← htm]; simp [e37]
  have a36 : tm1 36 = .sc (.int .i64 l.length) := by rw [← htm]; simp [e36]
  have a35 : tm1 35 = .sl id 0 l.length := by rw [← htm]; simp [e35]
  have a45 : tm1 45 = .sc (.bool false) := by rw [← htm]; simp
  clear htm
  have w1 : IntKind.i64.wrap ((l.length : Int) - j) = (l.length : Int) - j := wrap_in (by omega) (by omega)
  have w2 : IntKind.i64.wrap ((l.length : Int) - j - 1) = (l.length : Int) - j - 1 := wrap_in (by omega) (by omega)
  simp only [F5.k52, F5.t52, a45, aIg_b, true_implies, Bool.not_false, Bool.false_eq_true, false_implies, and_true, a9, a8, t1.e5, strArg_sl, pLen_sl, true_and, pFld_ptr, lLd_f, hv, ldk_mk, Nat.zero_add, encRA, List.getElem?_cons_succ, List.getElem?_cons_zero, cellK_some, pBin_sub, w1, w2, pBin_gtr]
  rw [decide_eq_false (by omega : ¬ r.rows > (l.length : Int) - j - 1)]
  generalize htm : puts tm1 _ = tm2
  have t2 : T5 tm2 s w (.sl id 0 l.length) := by rw [← htm]; exact t1.puts _ (by simp)
  have b8 : tm2 8 = .sc (.int .i64 j) := by rw [← htm]; simp [a8]
  have b9 : tm2 9 = .ptr v 0 := by rw [← htm]; simp [a9]
  have b37 : tm2 37 = .sc (.int .i64 j) := by rw [← htm]; simp [a37]
  have b36 : tm2 36 = .sc (.int .i64 l.length) := by rw [← htm]; simp [a36]
  have b35 : tm2 35 = .sl id 0 l.length := by rw [← htm]; simp [a35]
  have b45 : tm2 45 = .sc (.bool false) := by rw [← htm]; simp [a45]
  have b53 : tm2 53 = .sc (.bool false) := by rw [← htm]; simp
  clear htm
  simp only [F5.k51, F5.t51, b45, b53, pPick_b, Bool.false_eq_true, if_false]
  generalize htm : puts tm2 _ = tm3
  have t3 : T5 tm3 s w (.sl id 0 l.length) := by rw [← htm]; exact t2.puts _ (by simp)
  have c8 : tm3 8 = .sc (.int .i64 j) := by rw [← htm]; simp [b8]
  have c9 : tm3 9 = .ptr v 0 := by rw [← htm]; simp [b9]
  have c37 : tm3 37 = .sc (.int .i64 j) := by rw [← htm]; simp [b37]
  have c36 : tm3 36 = .sc (.int .i64 l.length) := by rw [← htm]; simp [b36]
  have c35 : tm3 35 = .sl id 0 l.length := by rw [← htm]; simp [b35]
  have c55 : tm3 55 = .sc (.bool false) := by rw [← htm]; simp
  clear htm
  simp only [F5.k50, F5.t50, c55, aIg_b, true_implies, Bool.not_false, Bool.false_eq_true, false_implies, and_true, c9, pFld_ptr, lLd_f, hv, ldk_mk, Nat.zero_add, encRA, List.getElem?_cons_succ, List.getElem?_cons_zero, cellK_some, pBin_lss]
  rw [decide_eq_false (by omega : ¬ r.place < 0)]
  generalize htm : puts tm3 _ = tm4
  have t4 : T5 tm4 s w (.sl id 0 l.length) := by rw [← htm]; exact t3.puts _ (by simp)
  have d8 : tm4 8 = .sc (.int .i64 j) := by rw [← htm]; simp [c8]
  have d9 : tm4 9 = .ptr v 0 := by rw [← htm]; simp [c9]
  have d37 : tm4 37 = .sc (.int .i64 j) := by rw [← htm]; simp [c37]
  have d36 : tm4 36 = .sc (.int .i64 l.length) := by rw [← htm]; simp [c36]
  have d35 : tm4 35 = .sl id 0 l.length := by rw [← htm]; simp [c35]
  have d55 : tm4 55 = .sc (.bool false) := by rw [← htm]; simp [c55]
  have d58 : tm4 58 = .sc (.bool false) := by rw [← htm]; simp
  clear htm
  simp only [F5.k49, F5.t49, d55, d58, pPick_b, Bool.false_eq_true, if_false]
  generalize htm : puts tm4 _ = tm5
  have t5 : T5 tm5 s w (.sl id 0 l.length) := by rw [← htm]; exact t4.puts _ (by simp)
  have f8 : tm5 8 = .sc (.int .i64 j) := by rw [← htm]; simp [d8]
  have f9 : tm5 9 = .ptr v 0 := by rw [← htm]; simp [d9]
  have f37 : tm5 37 = .sc (.int .i64 j) := by rw [← htm]; simp [d37]
  have f36 : tm5 36 = .sc (.int .i64 l.length) := by rw [← htm]; simp [d36]
  have f35 : tm5 35 = .sl id 0 l.length := by rw [← htm]; simp [d35]
  have f60 : tm5 60 = .sc (.bool false) := by rw [← htm]; simp
  clear htm
  simp only [F5.k48, F5.t48, f60, aIg_b, true_implies, Bool.not_false, Bool.false_eq_true, false_implies, and_true, f9, t5.e0, strArg_s, pLen_s, true_and, pFld_ptr, lLd_f, hv, ldk_mk, Nat.zero_add, encRA, List.getElem?_cons_succ, List.getElem?_cons_zero, cellK_some, pBin_geq]
  rw [decide_eq_false (by omega : ¬ r.place ≥ (s.size : Int))]
  generalize htm : puts tm5 _ = tm6
  have t6 : T5 tm6 s w (.sl id 0 l.length) := by rw [← htm]; exact t5.puts _ (by simp)
  have g8 : tm6 8 = .sc (.int .i64 j) := by rw [← htm]; simp [f8]
  have g9 : tm6 9 = .ptr v 0 := by rw [← htm]; simp [f9]
  have g37 : tm6 37 = .sc (.int .i64 j) := by rw [← htm]; simp [f37]
  have g36 : tm6 36 = .sc (.int .i64 l.length) := by rw [← htm]; simp [f36]
  have g35 : tm6 35 = .sl id 0 l.length := by rw [← htm]; simp [f35]
  have g60 : tm6 60 = .sc (.bool false) := by rw [← htm]; simp [f60]
  have g65 : tm6 65 = .sc (.bool false) := by rw [← htm]; simp
  clear htm
  simp only [F5.k47, F5.t47, g60, g65, pPick_b, Bool.false_eq_true, if_false]
  generalize htm : puts tm6 _ = tm7
  have t7 : T5 tm7 s w (.sl id 0 l.length) := by rw [← htm]; exact t6.puts _ (by simp)
  have i8 : tm7 8 = .sc (.int .i64 j) := by rw [← htm]; simp [g8]
  have i9 : tm7 9 = .ptr v 0 := by rw [← htm]; simp [g9]
  have i37 : tm7 37 = .sc (.int .i64 j) := by rw [← htm]; simp [g37]
  have i36 : tm7 36 = .sc (.int .i64 l.length) := by rw [← htm]; simp [g36]
  have i35 : tm7 35 = .sl id 0 l.length := by rw [← htm]; simp [g35]
  have i67 : tm7 67 = .sc (.bool false) := by rw [← htm]; simp
  clear htm
  simp only [F5.k46, F5.t46, i67, aIg_b, true_implies, Bool.not_false, Bool.false_eq_true, false_implies, and_true, i8, pBin_gtr]
  generalize hpos : decide ((j : Int) > 0) = pos
  generalize htm : puts tm7 _ = tm8
  have t8 : T5 tm8 s w (.sl id 0 l.length) := by rw [← htm]; exact t7.puts _ (by simp)
  have k8 : tm8 8 = .sc (.int .i64 j) := by rw [← htm]; simp [i8]
  have k9 : tm8 9 = .ptr v 0 := by rw [← htm]; simp [i9]
  have k37 : tm8 37 = .sc (.int .i64 j) := by rw [← htm]; simp [i37]
  have k36 : tm8 36 = .sc (.int .i64 l.length) := by rw [← htm]; simp [i36]
  have k35 : tm8 35 = .sl id 0 l.length := by rw [← htm]; simp [i35]
  have k67 : tm8 67 = .sc (.bool false) := by rw [← htm]; simp [i67]
  have k70 : tm8 70 = .sc (.bool pos) := by rw [← htm]; simp
  clear htm
  -- the end, from k44 on
  have last : ∀ (tm9 : Nat → AV), T5 tm9 s w (.sl id 0 l.length) → tm9 37 = .sc (.int .i64 j) → tm9 36 = .sc (.int .i64 l.length) → tm9 35 = .sl id 0 l.length → tm9 67 = .sc (.bool false) → tm9 70 = .sc (.bool pos) → (pos = true → tm9 79 = .sc (.bool false)) → F5.k44 W Q QP ⟨tm9, []⟩ h := by
    intro tm9 t9 m37 m36 m35 m67 m70 m79
    have hsel : (if pos = true then tm9 79 else AV.sc (.bool false)) = .sc (.bool false) := by
      cases pos with
      | false => rfl
      | true => rw [if_pos rfl, m79 rfl]
    simp only [F5.k44, F5.t44, m67, aIg_b, true_implies, Bool.not_false, Bool.false_eq_true, false_implies, and_true, m70, pPick_b, hsel]
    generalize htm : puts tm9 _ = tm10
    have t10 : T5 tm10 s w (.sl id 0 l.length) := by rw [← htm]; exact t9.puts _ (by simp)
    have n37 : tm10 37 = .sc (.int .i64 j) := by rw [← htm]; simp [m37]
    have n36 : tm10 36 = .sc (.int .i64 l.length) := by rw [← htm]; simp [m36]
    have n35 : tm10 35 = .sl id 0 l.length := by rw [← htm]; simp [m35]
    have n67 : tm10 67 = .sc (.bool false) := by rw [← htm]; simp [m67]
    have n80 : tm10 80 = .sc (.bool false) := by rw [← htm]; simp
    clear htm
    simp only [F5.k43, F5.t43, n67, n80, pPick_b, Bool.false_eq_true, if_false]
    generalize htm : puts tm10 _ = tm11
    have t11 : T5 tm11 s w (.sl id 0 l.length) := by rw [← htm]; exact t10.puts _ (by simp)
    have o37 : tm11 37 = .sc (.int .i64 j) := by rw [← htm]; simp [n37]
    have o36 : tm11 36 = .sc (.int .i64 l.length) := by rw [← htm]; simp [n36]
    have o35 : tm11 35 = .sl id 0 l.length := by rw [← htm]; simp [n35]
    have o81 : tm11 81 = .sc (.bool false) := by rw [← htm]; simp
    clear htm
    have hw : IntKind.i64.wrap ((j : Int) + 1) = ((j + 1 : Nat) : Int) := by rw [wrap_in (by omega) (by omega)]; simp
    simp only [F5.k42, F5.t42, o81, aIf_b, Bool.false_eq_true, false_implies, true_and, true_implies]
    simp only [F5.k40, F5.t40, o37, pBin_add, hw]
    refine hQ _ (t11.puts _ (by simp)) (by simp) (by simp [o36]) (by simp [o35])
  cases pos with
  | false =>
    simp only [F5.k45, F5.t45, k70, aIg_b, Bool.false_eq_true, false_implies, true_and, Bool.not_true, true_implies]
    exact last _ (t8.puts _ (by simp)) (by simp [k37]) (by simp [k36]) (by simp [k35]) (by simp [k67]) (by simp [k70]) (fun h => by cases h)
  | true =>
    have hj0 : 0 < j := by simp at hpos; omega
    have hw : IntKind.i64.wrap ((j : Int) - 1) = ((j - 1 : Nat) : Int) := by rw [wrap_in (by omega) (by omega)]; omega
    have hjl : j - 1 < l.length := by omega
    have hg : l[j - 1]? = some l[j - 1] := List.getElem?_eq_getElem hjl
    have hup := up l[j - 1].1 hj0 (by rw [List.getElem?_map, hg]; rfl)
    have fa : (l.flatMap encRA)[(j - 1) * 6 + 5]? = some (.sc (.int .i64 l[j - 1].1.place)) := by rw [flat_get encRA_len l (j - 1) 5 (by decide), hg]; rfl
    have hjl' : ((j - 1 : Nat) : Int) < l.length := by omega
    simp only [F5.k45, F5.t45, k70, aIg_b, true_implies, Bool.not_true, Bool.true_eq_false, false_implies, and_true, k9, k8, t8.e5, pFld_ptr, lLd_f, hv, ho, ldk_mk, Nat.zero_add, encRA, List.getElem?_cons_succ, List.getElem?_cons_zero, cellK_some, pBin_sub, hw, pIxA_sl, Int.toNat_natCast, fa, pBin_leq]
    refine ⟨⟨by omega, hjl'⟩, ?_⟩
    have : decide (r.place ≤ l[j - 1].1.place) = false := decide_eq_false (by omega)
    simp only [this]
    exact last _ (t8.puts _ (by simp)) (by simp [k37]) (by simp [k36]) (by simp [k35]) (by simp [k67]) (by simp [k70]) (fun _ => by simp)
end
end Go.Proofs.Ythkkgbmjjpcfaaa

namespace Go.Proofs.Ythkkgbmjjpcfaaa
open Go.Ab
section
variable {W : Nat → Prop} {Q : Post} {QP : PPost} {tm : Nat → AV} {h : AH} {s : ByteArray} {w : Int} {id : Nat} {l : List (Row × AV)}
/-- All rows are looked at. -/
theorem F5_rows (hW : ∀ id, h.next ≤ id → W id) (t : T5 tm s w (.sl id 0 l.length)) (ho : h.obj id = some (mkO (l.flatMap encRA) 6 36)) (hl : l.length ≤ 65536)
    (hc : ∀ j r, (l.map (·.1))[j]? = some r → CkR s (l.map (·.1)) j r) (hone : ∀ y ∈ l, (encRA y).all oneA = true)
    (hQ : ∀ tm' h', T5 tm' s w (.sl id 0 l.length) → Fr h h' (fun _ => False) → F5.k39 W Q QP ⟨tm', []⟩ h') :
    F5.k58 W Q QP ⟨tm, []⟩ h := by
  simp only [F5.k58, F5.t58, t.e5, strArg_sl, pLen_sl, true_and]
  generalize htm : puts tm _ = tm1
  have t1 : T5 tm1 s w (.sl id 0 l.length) := by rw [← htm]; exact t.puts _ (by simp)
  have e35 : tm1 35 = .sl id 0 l.length := by rw [← htm]; simp
  have e36 : tm1 36 = .sc (.int .i64 l.length) := by rw [← htm]; simp
  have e37 : tm1 37 = .sc (.int .i64 (0 : Nat)) := by rw [← htm]; simp
  clear htm
  unfold F5.k57
  refine aLoop_of (ι := Nat) (fun j s' h' => s'.ds = [] ∧ Fr h h' (fun _ => False) ∧ j ≤ l.length ∧ T5 s'.tm s w (.sl id 0 l.length) ∧ s'.tm 37 = .sc (.int .i64 j) ∧ s'.tm 36 = .sc (.int .i64 l.length) ∧ s'.tm 35 = .sl id 0 l.length) (fun j => l.length - j) 0 ⟨rfl, Fr.refl, by omega, t1, e37, e36, e35⟩ ?_
  rintro j ⟨tm', ds⟩ h' ⟨rfl, hf, hj, t', e37, e36, e35⟩
  simp only at t' e37 e36 e35
  rw [F5.l3]
  have ho' := hf.obj ho (fun h => h)
  by_cases hlt : j < l.length
  · have hli : (j : Int) < l.length := by omega
    have g1 : l[j]? = some l[j] := List.getElem?_eq_getElem hlt
    have d1 := flat_drop encRA_len _ _ _ g1
    have hl1 : j * 6 + 6 ≤ (l.flatMap encRA).length := by rw [flat_len encRA_len]; omega
    have hck := hc j l[j].1 (by rw [List.getElem?_map, g1]; rfl)
    have hon := hone l[j] (List.getElem_mem hlt)
    generalize l[j] = y at *
    obtain ⟨r, a⟩ := y
    simp only [F5.k56, F5.t56, e36, e37, pBin_lss]
    rw [decide_eq_true hli]
    generalize htm : puts tm' _ = tm2
    have t2 : T5 tm2 s w (.sl id 0 l.length) := by rw [← htm]; exact t'.puts _ (by simp)
    have a35 : tm2 35 = .sl id 0 l.length := by rw [← htm]; simp [e35]
    have a36 : tm2 36 = .sc (.int .i64 l.length) := by rw [← htm]; simp [e36]
    have a37 : tm2 37 = .sc (.int .i64 j) := by rw [← htm]; simp [e37]
    have a38 : tm2 38 = .sc (.bool true) := by rw [← htm]; simp
    clear htm
    simp only [F5.k55, F5.t55, a38, aIf_b, true_implies, Bool.true_eq_false, false_implies, and_true]
    simp only [F5.k54, F5.t54, a35, a37, pIxA_sl, lLdn_f, ho', ldnk_mk, Nat.zero_add, Int.toNat_natCast]
    refine ⟨⟨by omega, hli⟩, hl1, ?_⟩
    rw [d1]
    simp only [eAlloc_d]
    refine ⟨rfl, ?_⟩
    have hv := AH.alloc_new h' (mkO ([.string ⟨#[]⟩, .string ⟨#[]⟩, .slice none 0 0, .int .i64 0, .int .i64 0, .int .i64 0].map AV.sc) 6 36)
    simp only [eStore_f, hv, avC_agg, stk_mk]
    refine ⟨⟨hW _ hf.next, hon, rfl, by simp [encRA]⟩, ?_⟩
    have g : Fr h' ((h'.alloc (mkO ([.string ⟨#[]⟩, .string ⟨#[]⟩, .slice none 0 0, .int .i64 0, .int .i64 0, .int .i64 0].map AV.sc) 6 36)).put h'.next 0 (encRA (r, a))) (fun _ => False) := (Fr.refl.alloc _).put (.inr (Nat.le_refl _))
    have ov : ((h'.alloc (mkO ([.string ⟨#[]⟩, .string ⟨#[]⟩, .slice none 0 0, .int .i64 0, .int .i64 0, .int .i64 0].map AV.sc) 6 36)).put h'.next 0 (encRA (r, a))).obj h'.next = some (mkO (encRA (r, a)) 6 36) := by rw [put_row hv]; rfl
    have hf2 := hf.trans (g.mono fun _ h => h.elim)
    have ho2 := g.obj ho' (fun h => h)
    generalize (h'.alloc (mkO ([.string ⟨#[]⟩, .string ⟨#[]⟩, .slice none 0 0, .int .i64 0, .int .i64 0, .int .i64 0].map AV.sc) 6 36)).put h'.next 0 (encRA (r, a)) = h2 at *
    generalize h'.next = v at *
    generalize htm : puts tm2 _ = tm3
    have t3 : T5 tm3 s w (.sl id 0 l.length) := by rw [← htm]; exact t2.puts _ (by simp)
    have b8 : tm3 8 = .sc (.int .i64 j) := by rw [← htm]; simp
    have b9 : tm3 9 = .ptr v 0 := by rw [← htm]; simp
    have b35 : tm3 35 = .sl id 0 l.length := by rw [← htm]; simp [a35]
    have b36 : tm3 36 = .sc (.int .i64 l.length) := by rw [← htm]; simp [a36]
    have b37 : tm3 37 = .sc (.int .i64 j) := by rw [← htm]; simp [a37]
    clear htm
    refine F5_row t3 b8 b9 b37 b36 b35 ho2 ov hlt hl hck ?_
    intro tm4 t4 c37 c36 c35
    exact ⟨j + 1, by omega, rfl, hf2, by omega, t4, c37, c36, c35⟩
  · have hnl : ¬ (j : Int) < l.length := by omega
    simp only [F5.k56, F5.t56, e36, e37, pBin_lss]
    rw [decide_eq_false hnl]
    generalize htm : puts tm' _ = tm2
    have t2 : T5 tm2 s w (.sl id 0 l.length) := by rw [← htm]; exact t'.puts _ (by simp)
    have a38 : tm2 38 = .sc (.bool false) := by rw [← htm]; simp
    clear htm
    simp only [F5.k55, F5.t55, a38, aIf_b, Bool.false_eq_true, false_implies, true_and, true_implies]
    simp only [thenQ, blockQ, if_true]
    exact hQ _ _ t2 hf
end
end Go.Proofs.Ythkkgbmjjpcfaaa

namespace Go.Proofs.Ythkkgbmjjpcfaaa
open Go.Ab
theorem pBin_rem {P : Program} {t : TypeId} {c : Bool} {k : IntKind} {a b : Int} {K : AV → Prop} : pBin P .rem t c (.sc (.int k a)) (.sc (.int k b)) K = (b ≠ 0 ∧ K (.sc (.int k (a.tmod b)))) := by simp [pBin]
/-- What the temporaries hold behind the choice. -/
structure T6 (tm : Nat → AV) (s : ByteArray) (w : Int) (x : AV) (i next : Nat) (e : Int) : Prop where
  t : T5 tm s w x
  e10 : tm 10 = .sc (.int .i64 i)
  e11 : tm 11 = .sc (.int .i64 next)
  e12 : tm 12 = .sc (.int .i64 e)
theorem T6.puts {tm : Nat → AV} {s : ByteArray} {w e : Int} {x : AV} {i next : Nat} (t : T6 tm s w x i next e) (l : List (Nat × AV)) (h : ∀ z ∈ l, 12 < z.1) : T6 (puts tm l) s w x i next e :=
  ⟨t.t.puts l fun z hz => by have := h z hz; omega, by rw [puts_lt l fun z hz => by have := h z hz; omega]; exact t.e10, by rw [puts_lt l fun z hz => by have := h z hz; omega]; exact t.e11, by rw [puts_lt l fun z hz => by have := h z hz; omega]; exact t.e12⟩
section
variable {W : Nat → Prop} {Q : Post} {QP : PPost} {tm : Nat → AV} {h : AH} {s : ByteArray} {w : Int} {id : Nat} {l : List (Row × AV)}
theorem F5_pick (t : T5 tm s w (.sl id 0 l.length)) (ho : h.obj id = some (mkO (l.flatMap encRA) 6 36)) (hl : l.length ≤ 65536) (hl0 : 0 < l.length) (hs : s.size ≤ 65536) (hw : -9223372036854775808 ≤ w ∧ w ≤ 9223372036854775807)
    (hc : ∀ j r, (l.map (·.1))[j]? = some r → CkR s (l.map (·.1)) j r)
    (hQ : ∀ tm' i r, i < l.length → (l.map (·.1))[i]? = some r → T6 tm' s w (.sl id 0 l.length) i (i + 1 + r.rows.toNat) (endOf s (l.map (·.1)) (i + 1 + r.rows.toNat)) → F5.k31 W Q QP ⟨tm', []⟩ h) :
    F5.k39 W Q QP ⟨tm, []⟩ h := by
  -- the index, whatever it came from
  have go : ∀ (tm1 : Nat → AV) (v : Int), T5 tm1 s w (.sl id 0 l.length) → tm1 10 = .sc (.int .i64 v) → 0 ≤ v → F5.k36 W Q QP ⟨tm1, []⟩ h := by
    intro tm1 v t1 e10 hv
    obtain ⟨i, hi⟩ : ∃ i : Nat, v.tmod l.length = i := ⟨(v.tmod l.length).toNat, by have := Int.tmod_nonneg (a := v) (b := l.length) hv; omega⟩
    have hil : i < l.length := by
      have := Int.tmod_lt_of_pos v (show (0 : Int) < l.length by omega)
      omega
    simp only [F5.k36, F5.t36, t1.e5, e10, strArg_sl, pLen_sl, true_and, pBin_rem, hi]
    refine ⟨by omega, ?_⟩
    generalize htm : puts tm1 _ = tm2
    have t2 : T5 tm2 s w (.sl id 0 l.length) := by rw [← htm]; exact t1.puts _ (by simp)
    have a10 : tm2 10 = .sc (.int .i64 i) := by rw [← htm]; simp
    clear htm
    have g1 : l[i]? = some l[i] := List.getElem?_eq_getElem hil
    have gr : (l.map (·.1))[i]? = some l[i].1 := by rw [List.getElem?_map, g1]; rfl
    have hck := hc i _ gr
    have hr0 := hck.r0
    have hr1 := hck.r1
    rw [List.length_map] at hr1
    have fa : (l.flatMap encRA)[i * 6 + 4]? = some (.sc (.int .i64 l[i].1.rows)) := by rw [flat_get encRA_len l i 4 (by decide), g1]; rfl
    generalize hr : l[i].1 = r at *
    have w1 : IntKind.i64.wrap ((i : Int) + 1) = (i : Int) + 1 := wrap_in (by omega) (by omega)
    have w2 : IntKind.i64.wrap ((i : Int) + 1 + r.rows) = ((i + 1 + r.rows.toNat : Nat) : Int) := by rw [wrap_in (by omega) (by omega)]; omega
    have hii : (i : Int) < l.length := by omega
    simp only [F5.k35, F5.t35, t2.e5, a10, pBin_add, w1, pIxA_sl, pFld_ptr, lLd_f, ho, ldk_mk, Nat.zero_add, Int.toNat_natCast, fa, cellK_some, w2]
    refine ⟨⟨by omega, hii⟩, ?_⟩
    generalize hnx : i + 1 + r.rows.toNat = next at *
    generalize htm : puts tm2 _ = tm3
    have t3 : T5 tm3 s w (.sl id 0 l.length) := by rw [← htm]; exact t2.puts _ (by simp)
    have b10 : tm3 10 = .sc (.int .i64 i) := by rw [← htm]; simp [a10]
    have b11 : tm3 11 = .sc (.int .i64 next) := by rw [← htm]; simp
    clear htm
    simp only [F5.k34, F5.t34, t3.e0, strArg_s, pLen_s, true_and]
    generalize htm : puts tm3 _ = tm4
    have t4 : T5 tm4 s w (.sl id 0 l.length) := by rw [← htm]; exact t3.puts _ (by simp)
    have c10 : tm4 10 = .sc (.int .i64 i) := by rw [← htm]; simp [b10]
    have c11 : tm4 11 = .sc (.int .i64 next) := by rw [← htm]; simp [b11]
    have c12 : tm4 12 = .sc (.int .i64 s.size) := by rw [← htm]; simp
    clear htm
    simp only [F5.k33, F5.t33, t4.e5, c11, strArg_sl, pLen_sl, true_and, pBin_lss]
    by_cases hnl : next < l.length
    · have hnl' : (next : Int) < l.length := by omega
      rw [decide_eq_true hnl']
      generalize htm : puts tm4 _ = tm5
      have t5 : T5 tm5 s w (.sl id 0 l.length) := by rw [← htm]; exact t4.puts _ (by simp)
      have d10 : tm5 10 = .sc (.int .i64 i) := by rw [← htm]; simp [c10]
      have d11 : tm5 11 = .sc (.int .i64 next) := by rw [← htm]; simp [c11]
      have d106 : tm5 106 = .sc (.bool true) := by rw [← htm]; simp
      clear htm
      have g2 : l[next]? = some l[next] := List.getElem?_eq_getElem hnl
      have fb : (l.flatMap encRA)[next * 6 + 5]? = some (.sc (.int .i64 l[next].1.place)) := by rw [flat_get encRA_len l next 5 (by decide), g2]; rfl
      have he : endOf s (l.map (·.1)) next = l[next].1.place := by unfold endOf; rw [List.getElem?_map, g2]; rfl
      simp only [F5.k32, F5.t32, d106, aIf_b, true_implies, Bool.true_eq_false, false_implies, and_true, t5.e5, d11, pIxA_sl, pFld_ptr, lLd_f, ho, ldk_mk, Nat.zero_add, Int.toNat_natCast, fb, cellK_some]
      refine ⟨⟨by omega, hnl'⟩, ?_⟩
      refine hQ _ i r hil gr ⟨t5.puts _ (by simp), by simp [d10], by rw [hnx]; simp [d11], by rw [hnx, he]; simp⟩
    · have hnl' : ¬ (next : Int) < l.length := by omega
      rw [decide_eq_false hnl']
      generalize htm : puts tm4 _ = tm5
      have t5 : T5 tm5 s w (.sl id 0 l.length) := by rw [← htm]; exact t4.puts _ (by simp)
      have d10 : tm5 10 = .sc (.int .i64 i) := by rw [← htm]; simp [c10]
      have d11 : tm5 11 = .sc (.int .i64 next) := by rw [← htm]; simp [c11]
      have d12 : tm5 12 = .sc (.int .i64 s.size) := by rw [← htm]; simp [c12]
      have d106 : tm5 106 = .sc (.bool false) := by rw [← htm]; simp
      clear htm
      have he : endOf s (l.map (·.1)) next = s.size := by unfold endOf; rw [List.getElem?_eq_none (by simp; omega)]
      simp only [F5.k32, F5.t32, d106, aIf_b, Bool.false_eq_true, false_implies, true_and, true_implies]
      refine hQ _ i r hil gr ⟨t5, d10, by rw [hnx]; exact d11, by rw [hnx, he]; exact d12⟩
  simp only [F5.k39, F5.t39, t.e1]
  generalize htm : puts tm _ = tm1
  have t1 : T5 tm1 s w (.sl id 0 l.length) := by rw [← htm]; exact t.puts _ (by simp)
  have a10 : tm1 10 = .sc (.int .i64 w) := by rw [← htm]; simp
  clear htm
  simp only [F5.k38, F5.t38, a10, pBin_lss]
  by_cases hneg : w < 0
  · rw [decide_eq_true hneg]
    generalize htm : puts tm1 _ = tm2
    have t2 : T5 tm2 s w (.sl id 0 l.length) := by rw [← htm]; exact t1.puts _ (by simp)
    have b10 : tm2 10 = .sc (.int .i64 w) := by rw [← htm]; simp [a10]
    have b85 : tm2 85 = .sc (.bool true) := by rw [← htm]; simp
    clear htm
    have w1 : IntKind.i64.wrap (w + 1) = w + 1 := wrap_in (by omega) (by omega)
    have w2 : IntKind.i64.wrap (0 - (w + 1)) = 0 - (w + 1) := wrap_in (by omega) (by omega)
    simp only [F5.k37, F5.t37, b85, aIf_b, true_implies, Bool.true_eq_false, false_implies, and_true, b10, pBin_add, w1, pUn_neg, w2]
    exact go _ (0 - (w + 1)) (t2.puts _ (by simp)) (by simp) (by omega)
  · rw [decide_eq_false hneg]
    generalize htm : puts tm1 _ = tm2
    have t2 : T5 tm2 s w (.sl id 0 l.length) := by rw [← htm]; exact t1.puts _ (by simp)
    have b10 : tm2 10 = .sc (.int .i64 w) := by rw [← htm]; simp [a10]
    have b85 : tm2 85 = .sc (.bool false) := by rw [← htm]; simp
    clear htm
    simp only [F5.k37, F5.t37, b85, aIf_b, Bool.false_eq_true, false_implies, true_and, true_implies]
    exact go _ w t2 b10 (by omega)
end
end Go.Proofs.Ythkkgbmjjpcfaaa

namespace Go.Proofs.Ythkkgbmjjpcfaaa
open Go.Ab
section
variable {W : Nat → Prop} {Q : Post} {QP : PPost} {tm : Nat → AV} {h : AH} {s : ByteArray} {w e : Int} {id i next : Nat} {l : List (Row × AV)}
theorem F5_last (t : T6 tm s w (.sl id 0 l.length) i next e) (ho : h.obj id = some (mkO (l.flatMap encRA) 6 36)) (hl : l.length ≤ 65536) (hil : i < l.length) (hin : i < next) (hnl : next ≤ l.length)
    (hc : ∀ j r, (l.map (·.1))[j]? = some r → CkR s (l.map (·.1)) j r)
    (hY : ∀ tm', tm' 4 = .sc (.bool true) → Q .ret ⟨tm', []⟩ h)
    (hN : ¬ LastB (l.map (·.1)) i next → ∀ tm', T6 tm' s w (.sl id 0 l.length) i next e → F5.k21 W Q QP ⟨tm', []⟩ h) :
    F5.k31 W Q QP ⟨tm, []⟩ h := by
  simp only [F5.k31, F5.t31]
  generalize htm : puts tm _ = tm1
  have t1 : T6 tm1 s w (.sl id 0 l.length) i next e := by rw [← htm]; exact t.puts _ (by simp)
  have e13 : tm1 13 = .sc (.int .i64 (0 : Nat)) := by rw [← htm]; simp
  clear htm
  unfold F5.k30
  refine aLoop_of (ι := Nat) (fun j s' h' => s'.ds = [] ∧ h' = h ∧ j ≤ i ∧ T6 s'.tm s w (.sl id 0 l.length) i next e ∧ s'.tm 13 = .sc (.int .i64 j) ∧
    (∀ j' r, j' < j → (l.map (·.1))[j']? = some r → ¬ ((i : Int) ≤ j' + r.rows ∧ (j' : Int) + r.rows = (next : Int) - 1))) (fun j => i - j) 0 ⟨rfl, rfl, by omega, t1, e13, fun _ _ h => by omega⟩ ?_
  rintro j ⟨tm', ds⟩ h' ⟨rfl, rfl, hj, t', e13, hno⟩
  simp only at t' e13
  rw [F5.l2]
  simp only [F5.k29, F5.t29, e13, t'.e10, pBin_lss]
  by_cases hlt : j < i
  · have hli : (j : Int) < i := by omega
    rw [decide_eq_true hli]
    generalize htm : puts tm' _ = tm2
    have t2 : T6 tm2 s w (.sl id 0 l.length) i next e := by rw [← htm]; exact t'.puts _ (by simp)
    have a13 : tm2 13 = .sc (.int .i64 j) := by rw [← htm]; simp [e13]
    have a114 : tm2 114 = .sc (.bool true) := by rw [← htm]; simp
    clear htm
    simp only [F5.k28, F5.t28, a114, aIf_b, true_implies, Bool.true_eq_false, false_implies, and_true]
    have hjl : j < l.length := by omega
    have hjl' : (j : Int) < l.length := by omega
    have g1 : l[j]? = some l[j] := List.getElem?_eq_getElem hjl
    have gr : (l.map (·.1))[j]? = some l[j].1 := by rw [List.getElem?_map, g1]; rfl
    have hck := hc j _ gr
    have hr0 := hck.r0
    have hr1 := hck.r1
    rw [List.length_map] at hr1
    have fa : (l.flatMap encRA)[j * 6 + 4]? = some (.sc (.int .i64 l[j].1.rows)) := by rw [flat_get encRA_len l j 4 (by decide), g1]; rfl
    generalize l[j].1 = r at *
    have w2 : IntKind.i64.wrap ((j : Int) + r.rows) = (j : Int) + r.rows := wrap_in (by omega) (by omega)
    have w3 : IntKind.i64.wrap ((next : Int) - 1) = (next : Int) - 1 := wrap_in (by omega) (by omega)
    have w4 : IntKind.i64.wrap ((j : Int) + 1) = ((j + 1 : Nat) : Int) := by rw [wrap_in (by omega) (by omega)]; simp
    simp only [F5.k27, F5.t27, t2.t.e5, a13, t2.e10, pIxA_sl, pFld_ptr, lLd_f, ho, ldk_mk, Nat.zero_add, Int.toNat_natCast, fa, cellK_some, pBin_add, w2, pBin_geq]
    refine ⟨⟨by omega, hjl'⟩, ?_⟩
    generalize hc1 : decide ((j : Int) + r.rows ≥ (i : Int)) = c1
    generalize htm : puts tm2 _ = tm3
    have t3 : T6 tm3 s w (.sl id 0 l.length) i next e := by rw [← htm]; exact t2.puts _ (by simp)
    have b13 : tm3 13 = .sc (.int .i64 j) := by rw [← htm]; simp [a13]
    have b126 : tm3 126 = .sc (.bool c1) := by rw [← htm]; simp
    clear htm
    cases c1 with
    | false =>
      have hn1 : ¬ (j : Int) + r.rows ≥ i := of_decide_eq_false hc1
      simp only [F5.k26, F5.t26, b126, aIg_b, Bool.false_eq_true, false_implies, true_and, Bool.not_true, true_implies]
      generalize htm : puts tm3 _ = tm4
      have t4 : T6 tm4 s w (.sl id 0 l.length) i next e := by rw [← htm]; exact t3.puts _ (by simp)
      have c13 : tm4 13 = .sc (.int .i64 j) := by rw [← htm]; simp [b13]
      have c126 : tm4 126 = .sc (.bool false) := by rw [← htm]; simp [b126]
      clear htm
      simp only [F5.k25, F5.t25, c126, pPick_b, Bool.false_eq_true, if_false]
      generalize htm : puts tm4 _ = tm5
      have t5 : T6 tm5 s w (.sl id 0 l.length) i next e := by rw [← htm]; exact t4.puts _ (by simp)
      have d13 : tm5 13 = .sc (.int .i64 j) := by rw [← htm]; simp [c13]
      have d137 : tm5 137 = .sc (.bool false) := by rw [← htm]; simp
      clear htm
      simp only [F5.k24, F5.t24, d137, aIf_b, Bool.false_eq_true, false_implies, true_and, true_implies]
      simp only [F5.k22, F5.t22, d13, pBin_add, w4]
      have t6 : T6 (Go.Ab.puts tm5 [(115, .sc (.int .i64 j)), (116, .sc (.int .i64 ((j + 1 : Nat) : Int))), (13, .sc (.int .i64 ((j + 1 : Nat) : Int)))]) s w (.sl id 0 l.length) i next e := t5.puts _ (by simp)
      refine ⟨j + 1, by omega, rfl, rfl, by omega, t6, by simp, fun j' r' hj' hr' hh => ?_⟩
      by_cases hjj : j' = j
      · subst hjj; rw [gr] at hr'; cases hr'; omega
      · exact hno j' r' (by omega) hr' hh
    | true =>
      have hn1 : (j : Int) + r.rows ≥ i := of_decide_eq_true hc1
      simp only [F5.k26, F5.t26, b126, aIg_b, true_implies, Bool.not_true, Bool.true_eq_false, false_implies, and_true, t3.t.e5, b13, t3.e11, pIxA_sl, pFld_ptr, lLd_f, ho, ldk_mk, Nat.zero_add, Int.toNat_natCast, fa, cellK_some, pBin_add, pBin_sub, w2, w3, pBin_eql]
      refine ⟨⟨by omega, hjl'⟩, ?_⟩
      generalize hc2 : ((j : Int) + r.rows == (next : Int) - 1) = c2
      generalize htm : puts tm3 _ = tm4
      have t4 : T6 tm4 s w (.sl id 0 l.length) i next e := by rw [← htm]; exact t3.puts _ (by simp)
      have c13 : tm4 13 = .sc (.int .i64 j) := by rw [← htm]; simp [b13]
      have c126 : tm4 126 = .sc (.bool true) := by rw [← htm]; simp [b126]
      have c136 : tm4 136 = .sc (.bool c2) := by rw [← htm]; simp
      clear htm
      simp only [F5.k25, F5.t25, c126, pPick_b, if_true, c136]
      generalize htm : puts tm4 _ = tm5
      have t5 : T6 tm5 s w (.sl id 0 l.length) i next e := by rw [← htm]; exact t4.puts _ (by simp)
      have d13 : tm5 13 = .sc (.int .i64 j) := by rw [← htm]; simp [c13]
      have d137 : tm5 137 = .sc (.bool c2) := by rw [← htm]; simp
      clear htm
      cases c2 with
      | true =>
        simp only [F5.k24, F5.t24, d137, aIf_b, true_implies, Bool.true_eq_false, false_implies, and_true]
        simp only [F5.k23, F5.t23]
        exact hY _ (by simp)
      | false =>
        have hn2 : ¬ (j : Int) + r.rows = (next : Int) - 1 := by simpa using hc2
        simp only [F5.k24, F5.t24, d137, aIf_b, Bool.false_eq_true, false_implies, true_and, true_implies]
        simp only [F5.k22, F5.t22, d13, pBin_add, w4]
        have t6 : T6 (Go.Ab.puts tm5 [(115, .sc (.int .i64 j)), (116, .sc (.int .i64 ((j + 1 : Nat) : Int))), (13, .sc (.int .i64 ((j + 1 : Nat) : Int)))]) s w (.sl id 0 l.length) i next e := t5.puts _ (by simp)
        refine ⟨j + 1, by omega, rfl, rfl, by omega, t6, by simp, fun j' r' hj' hr' hh => ?_⟩
        by_cases hjj : j' = j
        · subst hjj; rw [gr] at hr'; cases hr'; exact hn2 hh.2
        · exact hno j' r' (by omega) hr' hh
  · have hnl2 : ¬ (j : Int) < i := by omega
    rw [decide_eq_false hnl2]
    generalize htm : puts tm' _ = tm2
    have t2 : T6 tm2 s w (.sl id 0 l.length) i next e := by rw [← htm]; exact t'.puts _ (by simp)
    have a114 : tm2 114 = .sc (.bool false) := by rw [← htm]; simp
    clear htm
    simp only [F5.k28, F5.t28, a114, aIf_b, Bool.false_eq_true, false_implies, true_and, true_implies]
    simp only [thenQ, blockQ, if_true]
    refine hN ?_ tm2 t2
    rintro ⟨j', h1, r, h2, h3, h4⟩
    exact hno j' r (by omega) h2 ⟨h3, h4⟩
end
end Go.Proofs.Ythkkgbmjjpcfaaa

namespace Go.Proofs.Ythkkgbmjjpcfaaa
open Go.Ab
theorem RowsG.ck {L : List Tok} {n : Nat} (hup : AtUp L n) {p p' : Nat} {l : List Row} (h : RowsG L p p' l) : ∀ (j : Nat) r, l[j]? = some r → (∃ k t, p ≤ k ∧ L[k]? = some t ∧ r.place = t.at_) ∧ 0 ≤ r.rows ∧ (j : Int) + r.rows < l.length ∧ (∀ r', 0 < j → l[j - 1]? = some r' → r'.place < r.place) := by
  induction h with
  | nil => intro j r h; simp at h
  | @cons p q p' k t r0 l a1 a2 a3 a4 a5 a6 a7 a8 ih =>
    intro j r hj
    cases j with
    | zero =>
      simp at hj
      subst hj
      exact ⟨⟨k, t, a1, a2, a3⟩, a5, by simp; omega, fun r' h => by omega⟩
    | succ j =>
      simp only [List.getElem?_cons_succ] at hj
      obtain ⟨⟨k', t', b1, b2, b3⟩, c1, c2, c3⟩ := ih j r hj
      refine ⟨⟨k', t', by omega, b2, b3⟩, c1, by simp; omega, fun r' _ hr' => ?_⟩
      cases j with
      | zero =>
        simp at hr'
        subst hr'
        obtain ⟨l1, e1⟩ := List.getElem?_eq_some_iff.1 a2
        obtain ⟨l2, e2⟩ := List.getElem?_eq_some_iff.1 b2
        have := List.pairwise_iff_getElem.1 hup.2 k k' l1 l2 (by omega)
        rw [e1, e2] at this
        omega
      | succ j => exact c3 r' (by omega) (by simpa using hr')
theorem parseP_ck {s : ByteArray} {rows : List Row} (h : parseP s = .ok rows) : ∀ (j : Nat) r, rows[j]? = some r → CkR s rows j r := by
  obtain ⟨hb, L, pe, hsc, hup, hL, hG⟩ := parseP_ok h
  intro j r hj
  obtain ⟨⟨k, t, _, b2, b3⟩, c1, c2, c3⟩ := hG.ck hup j r hj
  have := hup.1 t (List.mem_of_getElem? b2)
  exact ⟨c1, c2, by omega, by omega, c3⟩
/-- What is wanted, of the first j rows. -/
def partR (i next j : Nat) (rows : List Row) : List Row := adjL i next 0 (rows.take (min j i)) ++ (rows.take j).drop next
theorem partR_end {i next : Nat} {rows : List Row} (hi : i ≤ rows.length) : partR i next rows.length rows = cutR i next rows := by
  unfold partR cutR
  rw [Nat.min_eq_right hi, List.take_length]
theorem partR_lt {i next j : Nat} {rows : List Row} {r : Row} (hr : rows[j]? = some r) (hji : j < i) (hin : i < next) : partR i next (j + 1) rows = partR i next j rows ++ [adj i next j r] := by
  obtain ⟨hl, he⟩ := List.getElem?_eq_some_iff.1 hr
  unfold partR
  rw [Nat.min_eq_left (by omega), Nat.min_eq_left (by omega), List.drop_of_length_le (by rw [List.length_take]; omega), List.drop_of_length_le (by rw [List.length_take]; omega)]
  rw [List.take_add_one, hr, Option.toList_some, adjL_app, List.length_take]
  simp only [adjL, List.append_nil]
  rw [show 0 + min j rows.length = j by omega]
theorem partR_mid {i next j : Nat} {rows : List Row} (h1 : i ≤ j) (h2 : j < next) : partR i next (j + 1) rows = partR i next j rows := by
  unfold partR
  rw [Nat.min_eq_right (by omega), Nat.min_eq_right (by omega), List.drop_of_length_le (by rw [List.length_take]; omega), List.drop_of_length_le (by rw [List.length_take]; omega)]
theorem partR_ge {i next j : Nat} {rows : List Row} {r : Row} (hr : rows[j]? = some r) (h1 : i ≤ j) (h2 : next ≤ j) : partR i next (j + 1) rows = partR i next j rows ++ [r] := by
  obtain ⟨hl, he⟩ := List.getElem?_eq_some_iff.1 hr
  unfold partR
  rw [Nat.min_eq_right (by omega), Nat.min_eq_right (by omega), List.take_add_one, hr, Option.toList_some, List.drop_append_of_le_length (by rw [List.length_take]; omega), List.append_assoc]
theorem partR_len {i next j : Nat} {rows : List Row} : (partR i next j rows).length ≤ rows.length + rows.length := by
  unfold partR
  rw [List.length_append, adjL_len, List.length_take, List.length_drop, List.length_take]
  omega
end Go.Proofs.Ythkkgbmjjpcfaaa

namespace Go.Proofs.Ythkkgbmjjpcfaaa
open Go.Ab
/-- The rows wanted so far: their list in memory of its own. -/
structure WA (h0 h : AH) (x : AV) (rows : List Row) : Prop where
  at_ : RowsAt h x rows
  own : InS (h0.next ≤ ·) x
theorem WA.fr {h0 h h' : AH} {x : AV} {rows : List Row} (w : WA h0 h x rows) (hf : Fr h h' (fun _ => False)) : WA h0 h' x rows := ⟨w.at_.fr hf (fun _ _ h => h) (fun _ _ _ _ h => h), w.own⟩
section
variable {W : Nat → Prop} {Q : Post} {QP : PPost} {tm : Nat → AV} {h0 h : AH} {s : ByteArray} {w e : Int} {id i next j v : Nat} {l : List (Row × AV)} {r : Row} {a y wv : AV} {part : List Row}
/-- What the temporaries hold in the last loop. -/
structure T7 (tm : Nat → AV) (x y wv : AV) (i next n j : Nat) : Prop where
  e10 : tm 10 = .sc (.int .i64 i)
  e11 : tm 11 = .sc (.int .i64 next)
  e14 : tm 14 = y
  e17 : tm 17 = wv
  e157 : tm 157 = x
  e158 : tm 158 = .sc (.int .i64 n)
  e159 : tm 159 = .sc (.int .i64 j)
theorem T7.puts {tm : Nat → AV} {x y wv : AV} {i next n j : Nat} (t : T7 tm x y wv i next n j) (l : List (Nat × AV)) (h : ∀ z ∈ l, 159 < z.1 ∨ z.1 = 18 ∨ z.1 = 19) : T7 (puts tm l) x y wv i next n j := by
  have ne : ∀ k, (k = 10 ∨ k = 11 ∨ k = 14 ∨ k = 17 ∨ k = 157 ∨ k = 158 ∨ k = 159) → Go.Ab.puts tm l k = tm k := by
    intro k hk
    clear t
    induction l generalizing tm with
    | nil => rfl
    | cons z l ih =>
      have hz := h z (by simp)
      simp only [Go.Ab.puts]
      rw [ih (fun y hy => h y (by simp [hy])), upd_ne (by omega)]
  exact ⟨by rw [ne 10 (by simp)]; exact t.e10, by rw [ne 11 (by simp)]; exact t.e11, by rw [ne 14 (by simp)]; exact t.e14, by rw [ne 17 (by simp)]; exact t.e17, by rw [ne 157 (by simp)]; exact t.e157, by rw [ne 158 (by simp)]; exact t.e158, by rw [ne 159 (by simp)]; exact t.e159⟩
/-- The row is appended. -/
theorem F5_push (hW : ∀ id, h0.next ≤ id → W id) (hf : Fr h0 h (fun _ => False)) (t : T7 tm (.sl id 0 l.length) y wv i next l.length j) (e19 : tm 19 = .ptr v 0) (hj : j < l.length) (hl : l.length ≤ 65536) (hp : part.length ≤ 200000)
    (hv : h.obj v = some (mkO (encRA (r, a)) 6 36)) (ha : SlL Arg.enc 2 53 h a r.args) (wa : WA h0 h wv part)
    (hQ : ∀ tm' wv' h', T7 tm' (.sl id 0 l.length) y wv' i next l.length (j + 1) → Fr h0 h' (fun _ => False) → WA h0 h' wv' (part ++ [r]) → Q .normal ⟨tm', []⟩ h') :
    F5.k3 W Q QP ⟨tm, []⟩ h := by
  obtain ⟨m, m1, m2, m3⟩ := wa.at_
  have hml : m.length = part.length := by rw [← m2]; simp
  have hone : (encRA (r, a)).all oneA = true := by
    rcases ha with ⟨h4, _⟩ | ⟨id, h4, _⟩ <;> (subst h4; rfl)
  simp only [F5.k3, F5.t3, e19, t.e17, lLdn_f, hv, ldnk_mk]
  refine ⟨by simp [encRA], ?_⟩
  rw [show List.take 6 (List.drop 0 (encRA (r, a))) = encRA (r, a) from rfl]
  refine app1t (f := encRA) (t := (r, a)) encRA_len (by decide) rfl (by decide) hone m1 (fun id off n he => hW _ (wa.own id off n he)) (by omega) ?_
  intro z h3 hz iz k3 n3
  have f3 : Fr h h3 (fun i => ∃ off n, wv = .sl i off n) := ⟨n3, fun i hi hs => k3 i hi fun off n he => hs ⟨off, n, he⟩⟩
  have notA : ∀ i o, h.obj i = some o → o.ty = 53 → ¬ ∃ off n, wv = .sl i off n := by
    rintro i o ho hty ⟨off, n, he⟩
    rcases m1 with ⟨h4, _⟩ | ⟨id', h4, ho'⟩
    · rw [h4] at he; cases he
    · rw [h4] at he; cases he
      rw [ho] at ho'; cases ho'
      exact absurd hty (show (36 : Nat) ≠ 53 by decide)
  have hf3 : Fr h0 h3 (fun _ => False) := hf.trans (f3.mono fun i ⟨off, n, he⟩ => .inr (wa.own i off n he))
  have hw : IntKind.i64.wrap ((j : Int) + 1) = ((j + 1 : Nat) : Int) := by rw [wrap_in (by omega) (by omega)]; simp
  generalize htm : puts tm _ = tm2
  have q159 : tm2 159 = .sc (.int .i64 j) := by rw [← htm]; simp [t.e159]
  have q17 : tm2 17 = z := by rw [← htm]; simp
  have q10 : tm2 10 = .sc (.int .i64 i) := by rw [← htm]; simp [t.e10]
  have q11 : tm2 11 = .sc (.int .i64 next) := by rw [← htm]; simp [t.e11]
  have q14 : tm2 14 = y := by rw [← htm]; simp [t.e14]
  have q157 : tm2 157 = .sl id 0 l.length := by rw [← htm]; simp [t.e157]
  have q158 : tm2 158 = .sc (.int .i64 l.length) := by rw [← htm]; simp [t.e158]
  clear htm
  simp only [F5.k2, F5.t2, q159, pBin_add, hw]
  refine hQ _ z h3 ⟨by simp [q10], by simp [q11], by simp [q14], by simp [q17], by simp [q157], by simp [q158], by simp⟩ hf3 ⟨⟨m ++ [(r, a)], hz, by simp [m2], ?_⟩, fun id off n he => Nat.le_trans hf.next (iz id off n he)⟩
  intro x hx
  rcases List.mem_append.1 hx with hx | hx
  · exact args_keep (m3 x hx) f3 notA
  · simp only [List.mem_singleton] at hx
    subst hx
    exact args_keep ha f3 notA
end
end Go.Proofs.Ythkkgbmjjpcfaaa

namespace Go.Proofs.Ythkkgbmjjpcfaaa
open Go.Ab
section
variable {W : Nat → Prop} {Q : Post} {QP : PPost} {tm : Nat → AV} {h0 h : AH} {s : ByteArray} {id i next j v : Nat} {l : List (Row × AV)} {r : Row} {a y wv : AV} {part : List Row}
/-- What becomes of a row. -/
theorem F5_one (hW : ∀ id, h0.next ≤ id → W id) (hf : Fr h0 h (fun _ => False)) (t : T7 tm (.sl id 0 l.length) y wv i next l.length j) (e18 : tm 18 = .sc (.int .i64 j)) (e19 : tm 19 = .ptr v 0) (hv0 : h0.next ≤ v) (hj : j < l.length) (hl : l.length ≤ 65536) (hp : part.length ≤ 200000)
    (hin : i < next) (hnl : next ≤ l.length) (hr0 : 0 ≤ r.rows) (hr1 : (j : Int) + r.rows < l.length) (hvw : ∀ i off n, wv = .sl i off n → i ≠ v)
    (hv : h.obj v = some (mkO (encRA (r, a)) 6 36)) (ha : SlL Arg.enc 2 53 h a r.args) (wa : WA h0 h wv part)
    (hS : i ≤ j → j < next → ∀ tm', T7 tm' (.sl id 0 l.length) y wv i next l.length (j + 1) → Q .normal ⟨tm', []⟩ h)
    (hQ : ¬ (i ≤ j ∧ j < next) → ∀ tm' wv' h', T7 tm' (.sl id 0 l.length) y wv' i next l.length (j + 1) → Fr h0 h' (fun _ => False) → WA h0 h' wv' (part ++ [if j < i then adj i next j r else r]) → Q .normal ⟨tm', []⟩ h') :
    F5.k11 W Q QP ⟨tm, []⟩ h := by
  have hw : IntKind.i64.wrap ((j : Int) + 1) = ((j + 1 : Nat) : Int) := by rw [wrap_in (by omega) (by omega)]; simp
  simp only [F5.k11, F5.t11, e18, t.e10, pBin_geq]
  by_cases hij : i ≤ j
  · rw [decide_eq_true (show (j : Int) ≥ i by omega)]
    generalize htm : puts tm _ = tm1
    have t1 : T7 tm1 (.sl id 0 l.length) y wv i next l.length j := by rw [← htm]; exact t.puts _ (by simp)
    have a18 : tm1 18 = .sc (.int .i64 j) := by rw [← htm]; simp [e18]
    have a19 : tm1 19 = .ptr v 0 := by rw [← htm]; simp [e19]
    have a167 : tm1 167 = .sc (.bool true) := by rw [← htm]; simp
    clear htm
    simp only [F5.k10, F5.t10, a167, aIg_b, true_implies, Bool.not_true, Bool.true_eq_false, false_implies, and_true, a18, t1.e11, pBin_lss]
    generalize hc : decide ((j : Int) < next) = c
    generalize htm : puts tm1 _ = tm2
    have t2 : T7 tm2 (.sl id 0 l.length) y wv i next l.length j := by rw [← htm]; exact t1.puts _ (by simp)
    have b18 : tm2 18 = .sc (.int .i64 j) := by rw [← htm]; simp [a18]
    have b19 : tm2 19 = .ptr v 0 := by rw [← htm]; simp [a19]
    have b167 : tm2 167 = .sc (.bool true) := by rw [← htm]; simp [a167]
    have b170 : tm2 170 = .sc (.bool c) := by rw [← htm]; simp
    clear htm
    simp only [F5.k9, F5.t9, b167, pPick_b, if_true, b170]
    generalize htm : puts tm2 _ = tm3
    have t3 : T7 tm3 (.sl id 0 l.length) y wv i next l.length j := by rw [← htm]; exact t2.puts _ (by simp)
    have c18 : tm3 18 = .sc (.int .i64 j) := by rw [← htm]; simp [b18]
    have c19 : tm3 19 = .ptr v 0 := by rw [← htm]; simp [b19]
    have c171 : tm3 171 = .sc (.bool c) := by rw [← htm]; simp
    clear htm
    cases c with
    | true =>
      have hjn : (j : Int) < next := of_decide_eq_true hc
      simp only [F5.k8, F5.t8, c171, aIf_b, true_implies, Bool.true_eq_false, false_implies, and_true]
      simp only [F5.k2, F5.t2, t3.e159, pBin_add, hw]
      refine hS hij (by omega) _ ⟨by simp [t3.e10], by simp [t3.e11], by simp [t3.e14], by simp [t3.e17], by simp [t3.e157], by simp [t3.e158], by simp⟩
    | false =>
      have hjn : ¬ (j : Int) < next := of_decide_eq_false hc
      simp only [F5.k8, F5.t8, c171, aIf_b, Bool.false_eq_true, false_implies, true_and, true_implies]
      simp only [F5.k7, F5.t7, c18, t3.e10, pBin_lss]
      rw [decide_eq_false (show ¬ (j : Int) < i by omega)]
      generalize htm : puts tm3 _ = tm4
      have t4 : T7 tm4 (.sl id 0 l.length) y wv i next l.length j := by rw [← htm]; exact t3.puts _ (by simp)
      have d19 : tm4 19 = .ptr v 0 := by rw [← htm]; simp [c19]
      have d175 : tm4 175 = .sc (.bool false) := by rw [← htm]; simp
      clear htm
      simp only [F5.k6, F5.t6, d175, aIg_b, Bool.false_eq_true, false_implies, true_and, Bool.not_true, true_implies]
      generalize htm : puts tm4 _ = tm5
      have t5 : T7 tm5 (.sl id 0 l.length) y wv i next l.length j := by rw [← htm]; exact t4.puts _ (by simp)
      have f19 : tm5 19 = .ptr v 0 := by rw [← htm]; simp [d19]
      have f175 : tm5 175 = .sc (.bool false) := by rw [← htm]; simp [d175]
      clear htm
      simp only [F5.k5, F5.t5, f175, pPick_b, Bool.false_eq_true, if_false]
      generalize htm : puts tm5 _ = tm6
      have t6 : T7 tm6 (.sl id 0 l.length) y wv i next l.length j := by rw [← htm]; exact t5.puts _ (by simp)
      have g19 : tm6 19 = .ptr v 0 := by rw [← htm]; simp [f19]
      have g182 : tm6 182 = .sc (.bool false) := by rw [← htm]; simp
      clear htm
      simp only [F5.k4, F5.t4, g182, aIf_b, Bool.false_eq_true, false_implies, true_and, true_implies]
      refine F5_push hW hf t6 g19 hj hl hp hv ha wa ?_
      intro tm7 wv' h' t7 f7 wa7
      exact hQ (by omega) tm7 wv' h' t7 f7 (by rw [if_neg (by omega)]; exact wa7)
  · rw [decide_eq_false (show ¬ (j : Int) ≥ i by omega)]
    generalize htm : puts tm _ = tm1
    have t1 : T7 tm1 (.sl id 0 l.length) y wv i next l.length j := by rw [← htm]; exact t.puts _ (by simp)
    have a18 : tm1 18 = .sc (.int .i64 j) := by rw [← htm]; simp [e18]
    have a19 : tm1 19 = .ptr v 0 := by rw [← htm]; simp [e19]
    have a167 : tm1 167 = .sc (.bool false) := by rw [← htm]; simp
    clear htm
    simp only [F5.k10, F5.t10, a167, aIg_b, Bool.false_eq_true, false_implies, true_and, Bool.not_true, true_implies]
    generalize htm : puts tm1 _ = tm2
    have t2 : T7 tm2 (.sl id 0 l.length) y wv i next l.length j := by rw [← htm]; exact t1.puts _ (by simp)
    have b18 : tm2 18 = .sc (.int .i64 j) := by rw [← htm]; simp [a18]
    have b19 : tm2 19 = .ptr v 0 := by rw [← htm]; simp [a19]
    have b167 : tm2 167 = .sc (.bool false) := by rw [← htm]; simp [a167]
    clear htm
    simp only [F5.k9, F5.t9, b167, pPick_b, Bool.false_eq_true, if_false]
    generalize htm : puts tm2 _ = tm3
    have t3 : T7 tm3 (.sl id 0 l.length) y wv i next l.length j := by rw [← htm]; exact t2.puts _ (by simp)
    have c18 : tm3 18 = .sc (.int .i64 j) := by rw [← htm]; simp [b18]
    have c19 : tm3 19 = .ptr v 0 := by rw [← htm]; simp [b19]
    have c171 : tm3 171 = .sc (.bool false) := by rw [← htm]; simp
    clear htm
    simp only [F5.k8, F5.t8, c171, aIf_b, Bool.false_eq_true, false_implies, true_and, true_implies]
    simp only [F5.k7, F5.t7, c18, t3.e10, pBin_lss]
    rw [decide_eq_true (show (j : Int) < i by omega)]
    generalize htm : puts tm3 _ = tm4
    have t4 : T7 tm4 (.sl id 0 l.length) y wv i next l.length j := by rw [← htm]; exact t3.puts _ (by simp)
    have d18 : tm4 18 = .sc (.int .i64 j) := by rw [← htm]; simp [c18]
    have d19 : tm4 19 = .ptr v 0 := by rw [← htm]; simp [c19]
    have d175 : tm4 175 = .sc (.bool true) := by rw [← htm]; simp
    clear htm
    have w2 : IntKind.i64.wrap ((j : Int) + r.rows) = (j : Int) + r.rows := wrap_in (by omega) (by omega)
    have w3 : IntKind.i64.wrap ((next : Int) - i) = (next : Int) - i := wrap_in (by omega) (by omega)
    have w4 : IntKind.i64.wrap (r.rows - ((next : Int) - i)) = r.rows - ((next : Int) - i) := wrap_in (by omega) (by omega)
    simp only [F5.k6, F5.t6, d175, aIg_b, true_implies, Bool.not_true, Bool.true_eq_false, false_implies, and_true, d18, d19, t4.e10, pFld_ptr, lLd_f, hv, ldk_mk, Nat.zero_add, encRA, List.getElem?_cons_succ, List.getElem?_cons_zero, cellK_some, pBin_add, w2, pBin_geq]
    generalize hc : decide ((j : Int) + r.rows ≥ (i : Int)) = c
    generalize htm : puts tm4 _ = tm5
    have t5 : T7 tm5 (.sl id 0 l.length) y wv i next l.length j := by rw [← htm]; exact t4.puts _ (by simp)
    have f19 : tm5 19 = .ptr v 0 := by rw [← htm]; simp [d19]
    have f175 : tm5 175 = .sc (.bool true) := by rw [← htm]; simp [d175]
    have f181 : tm5 181 = .sc (.bool c) := by rw [← htm]; simp
    clear htm
    simp only [F5.k5, F5.t5, f175, pPick_b, if_true, f181]
    generalize htm : puts tm5 _ = tm6
    have t6 : T7 tm6 (.sl id 0 l.length) y wv i next l.length j := by rw [← htm]; exact t5.puts _ (by simp)
    have g19 : tm6 19 = .ptr v 0 := by rw [← htm]; simp [f19]
    have g182 : tm6 182 = .sc (.bool c) := by rw [← htm]; simp
    clear htm
    cases c with
    | false =>
      have hn : ¬ (j : Int) + r.rows ≥ i := of_decide_eq_false hc
      have hadj : adj i next j r = r := by unfold adj; rw [if_neg (by omega)]
      simp only [F5.k4, F5.t4, g182, aIf_b, Bool.false_eq_true, false_implies, true_and, true_implies]
      refine F5_push hW hf t6 g19 hj hl hp hv ha wa ?_
      intro tm7 wv' h' t7 f7 wa7
      exact hQ (by omega) tm7 wv' h' t7 f7 (by rw [if_pos (by omega), hadj]; exact wa7)
    | true =>
      have hn : (j : Int) + r.rows ≥ i := of_decide_eq_true hc
      have hadj : adj i next j r = { r with rows := r.rows - ((next : Int) - i) } := by unfold adj; rw [if_pos (by omega)]
      simp only [F5.k4, F5.t4, g182, aIf_b, true_implies, Bool.true_eq_false, false_implies, and_true, g19, t6.e10, t6.e11, pFld_ptr, lLd_f, hv, ldk_mk, Nat.zero_add, encRA, List.getElem?_cons_succ, List.getElem?_cons_zero, cellK_some, pBin_sub, w3, w4, eStore_f, avC_int, stk_mk]
      refine ⟨⟨hW _ hv0, rfl, rfl, by simp⟩, ?_⟩
      have fp : Fr h (h.put v 4 [.sc (.int .i64 (r.rows - ((next : Int) - i)))]) (· = v) := Fr.refl.put (.inl rfl)
      have hv' : (h.put v 4 [.sc (.int .i64 (r.rows - ((next : Int) - i)))]).obj v = some (mkO (encRA ({ r with rows := r.rows - ((next : Int) - i) }, a)) 6 36) := by rw [put_row hv]; rfl
      have hty : ∀ id o, h.obj id = some o → o.ty = 53 → ¬ id = v := fun id o ho ht => obj_ne ho hv (by rw [ht]; show (53 : Nat) ≠ 36; decide)
      have ha' := args_keep ha fp hty
      have wa' : WA h0 (h.put v 4 [.sc (.int .i64 (r.rows - ((next : Int) - i)))]) wv part := ⟨wa.at_.fr fp (fun id he => hvw id 0 _ he) hty, wa.own⟩
      have hf' : Fr h0 (h.put v 4 [.sc (.int .i64 (r.rows - ((next : Int) - i)))]) (fun _ => False) := hf.trans (fp.mono fun id (hid : id = v) => .inr (hid ▸ hv0))
      refine F5_push (r := { r with rows := r.rows - ((next : Int) - i) }) hW hf' (t6.puts _ (by simp)) (by simp [g19]) hj hl hp hv' ha' wa' ?_
      intro tm7 wv' h' t7 f7 wa7
      exact hQ (by omega) tm7 wv' h' t7 f7 (by rw [if_pos (by omega), hadj]; exact wa7)
end
end Go.Proofs.Ythkkgbmjjpcfaaa

namespace Go.Proofs.Ythkkgbmjjpcfaaa
open Go.Ab
theorem F5_want {M : Nat → Prop} {R : AE → AH → Prop} {tm : Nat → AV} {hs h0 : AH} {s : ByteArray} {w e : Int} {id i next : Nat} {l : List (Row × AV)} {y : AV} {got : List Row} (hm : hs.next ≤ h0.next)
    (t : T6 tm s w (.sl id 0 l.length) i next e) (e14 : tm 14 = y) (hy : RowsAt h0 y got) (ho : h0.obj id = some (mkO (l.flatMap encRA) 6 36)) (l3 : ∀ z ∈ l, SlL Arg.enc 2 53 h0 z.2 z.1.args) (hl : l.length ≤ 65536)
    (hil : i < l.length) (hin : i < next) (hnl : next ≤ l.length) (hc : ∀ j r, (l.map (·.1))[j]? = some r → CkR s (l.map (·.1)) j r) (hgl : got.length ≤ 65536) (hga : ∀ r ∈ got, r.args.length ≤ 65536)
    (hsame : sameL false got (cutR i next (l.map (·.1))) = true) (hR : ∀ h', R (.ret (.sc (.bool true))) h') :
    F5.k17 (fun id => M id ∨ hs.next ≤ id) (Ab.bodyQ Try.prog [.tmp 4] R) (Ab.bodyP R) ⟨tm, []⟩ h0 := by
  have hW : ∀ id, h0.next ≤ id → M id ∨ hs.next ≤ id := fun id hid => .inr (Nat.le_trans hm hid)
  simp only [F5.k17, F5.t17]
  generalize htm : puts tm _ = tm1
  have a5 : tm1 5 = .sl id 0 l.length := by rw [← htm]; simp [t.t.e5]
  have a10 : tm1 10 = .sc (.int .i64 i) := by rw [← htm]; simp [t.e10]
  have a11 : tm1 11 = .sc (.int .i64 next) := by rw [← htm]; simp [t.e11]
  have a14 : tm1 14 = y := by rw [← htm]; simp [e14]
  have a17 : tm1 17 = nilS := by rw [← htm]; simp
  clear htm
  simp only [F5.k16, F5.t16, a5, strArg_sl, pLen_sl, true_and]
  generalize htm : puts tm1 _ = tm2
  have t2 : T7 tm2 (.sl id 0 l.length) y nilS i next l.length 0 := ⟨by rw [← htm]; simp [a10], by rw [← htm]; simp [a11], by rw [← htm]; simp [a14], by rw [← htm]; simp [a17], by rw [← htm]; simp, by rw [← htm]; simp, by rw [← htm]; simp⟩
  clear htm
  unfold F5.k15
  refine aLoop_of (ι := Nat) (fun j s' h' => s'.ds = [] ∧ Fr h0 h' (fun _ => False) ∧ j ≤ l.length ∧ ∃ wv, T7 s'.tm (.sl id 0 l.length) y wv i next l.length j ∧ WA h0 h' wv (partR i next j (l.map (·.1)))) (fun j => l.length - j) 0 ⟨rfl, Fr.refl, by omega, nilS, t2, ⟨by simpa [partR, adjL] using RowsAt.nil, fun _ _ _ he => by cases he⟩⟩ ?_
  rintro j ⟨tm', ds⟩ h' ⟨rfl, hf, hj, wv, t', wa⟩
  simp only at t'
  rw [F5.l1]
  have ho' := hf.obj ho (fun h => h)
  simp only [F5.k14, F5.t14, t'.e158, t'.e159, pBin_lss]
  by_cases hlt : j < l.length
  · have hli : (j : Int) < l.length := by omega
    have g1 : l[j]? = some l[j] := List.getElem?_eq_getElem hlt
    have gr : (l.map (·.1))[j]? = some l[j].1 := by rw [List.getElem?_map, g1]; rfl
    have d1 := flat_drop encRA_len _ _ _ g1
    have hl1 : j * 6 + 6 ≤ (l.flatMap encRA).length := by rw [flat_len encRA_len]; omega
    have hck := hc j _ gr
    have hr1 := hck.r1
    rw [List.length_map] at hr1
    have ha := args_keep (l3 _ (List.getElem_mem hlt)) hf (fun _ _ _ _ h => h)
    generalize l[j] = z at *
    obtain ⟨r, a⟩ := z
    have hone : (encRA (r, a)).all oneA = true := by
      rcases ha with ⟨h4, _⟩ | ⟨id, h4, _⟩ <;> (simp only at h4; subst h4; rfl)
    rw [decide_eq_true hli]
    generalize htm : puts tm' _ = tm3
    have t3 : T7 tm3 (.sl id 0 l.length) y wv i next l.length j := by rw [← htm]; exact t'.puts _ (by simp)
    have b160 : tm3 160 = .sc (.bool true) := by rw [← htm]; simp
    clear htm
    simp only [F5.k13, F5.t13, b160, aIf_b, true_implies, Bool.true_eq_false, false_implies, and_true]
    simp only [F5.k12, F5.t12, t3.e157, t3.e159, pIxA_sl, lLdn_f, ho', ldnk_mk, Nat.zero_add, Int.toNat_natCast]
    refine ⟨⟨by omega, hli⟩, hl1, ?_⟩
    rw [d1]
    simp only [eAlloc_d]
    refine ⟨rfl, ?_⟩
    have hv := AH.alloc_new h' (mkO ([.string ⟨#[]⟩, .string ⟨#[]⟩, .slice none 0 0, .int .i64 0, .int .i64 0, .int .i64 0].map AV.sc) 6 36)
    simp only [eStore_f, hv, avC_agg, stk_mk]
    refine ⟨⟨hW _ hf.next, hone, rfl, by simp [encRA]⟩, ?_⟩
    have g : Fr h' ((h'.alloc (mkO ([.string ⟨#[]⟩, .string ⟨#[]⟩, .slice none 0 0, .int .i64 0, .int .i64 0, .int .i64 0].map AV.sc) 6 36)).put h'.next 0 (encRA (r, a))) (fun _ => False) := (Fr.refl.alloc _).put (.inr (Nat.le_refl _))
    have ov : ((h'.alloc (mkO ([.string ⟨#[]⟩, .string ⟨#[]⟩, .slice none 0 0, .int .i64 0, .int .i64 0, .int .i64 0].map AV.sc) 6 36)).put h'.next 0 (encRA (r, a))).obj h'.next = some (mkO (encRA (r, a)) 6 36) := by rw [put_row hv]; rfl
    have hf2 := hf.trans (g.mono fun _ h => h.elim)
    have ha2 := args_keep ha g (fun _ _ _ _ h => h)
    have wa2 := wa.fr g
    have hvw : ∀ i' off n, wv = .sl i' off n → i' ≠ h'.next := fun i' off n he => by
      obtain ⟨_, _, o, ho2, _⟩ := wa.at_.id he
      have := h'.lt _ _ ho2
      omega
    have hv0 := hf.next
    generalize (h'.alloc (mkO ([.string ⟨#[]⟩, .string ⟨#[]⟩, .slice none 0 0, .int .i64 0, .int .i64 0, .int .i64 0].map AV.sc) 6 36)).put h'.next 0 (encRA (r, a)) = h2 at *
    generalize h'.next = v at *
    generalize htm : puts tm3 _ = tm4
    have t4 : T7 tm4 (.sl id 0 l.length) y wv i next l.length j := by rw [← htm]; exact t3.puts _ (by simp)
    have c18 : tm4 18 = .sc (.int .i64 j) := by rw [← htm]; simp
    have c19 : tm4 19 = .ptr v 0 := by rw [← htm]; simp
    clear htm
    have hpl : (partR i next j (l.map (·.1))).length ≤ 200000 := by
      have := partR_len (i := i) (next := next) (j := j) (rows := l.map (·.1))
      rw [List.length_map] at this
      omega
    refine F5_one hW hf2 t4 c18 c19 hv0 hlt hl hpl hin hnl hck.r0 hr1 hvw ov ha2 wa2 ?_ ?_
    · intro h1 h2' tm5 t5
      exact ⟨j + 1, by omega, rfl, hf2, by omega, wv, t5, by rw [partR_mid h1 h2']; exact wa2⟩
    · intro hn tm5 wv' h5 t5 f5 wa5
      refine ⟨j + 1, by omega, rfl, f5, by omega, wv', t5, ?_⟩
      by_cases hji : j < i
      · rw [if_pos hji] at wa5
        rw [partR_lt gr hji hin]; exact wa5
      · rw [if_neg hji] at wa5
        rw [partR_ge gr (by omega) (by omega)]; exact wa5
  · have hnl2 : ¬ (j : Int) < l.length := by omega
    have hjl : j = l.length := by omega
    rw [decide_eq_false hnl2]
    generalize htm : puts tm' _ = tm3
    have t3 : T7 tm3 (.sl id 0 l.length) y wv i next l.length j := by rw [← htm]; exact t'.puts _ (by simp)
    have b160 : tm3 160 = .sc (.bool false) := by rw [← htm]; simp
    clear htm
    simp only [F5.k13, F5.t13, b160, aIf_b, Bool.false_eq_true, false_implies, true_and, true_implies]
    simp only [thenQ, blockQ, if_true]
    simp only [F5.k1, F5.t1, t3.e14, t3.e17]
    have hend : partR i next j (l.map (·.1)) = cutR i next (l.map (·.1)) := by
      have := partR_end (i := i) (next := next) (rows := l.map (·.1)) (by rw [List.length_map]; omega)
      rw [List.length_map] at this
      rw [hjl]; exact this
    have hy' := hy.fr hf (fun _ _ h => h) (fun _ _ _ _ h => h)
    refine ⟨fun _ => False, fun _ h => h.elim, same_ok (B := cutR i next (l.map (·.1))) hy' (by rw [← hend]; exact wa.at_) (by omega) (fun r hr => by have := hga r hr; omega) ?_⟩
    intro h6 f6
    rw [hsame]
    simp
    exact hR _
end Go.Proofs.Ythkkgbmjjpcfaaa

namespace Go.Proofs.Ythkkgbmjjpcfaaa
open Go.Ab
theorem cuts_ok {s : ByteArray} {w : Int} (hw : -9223372036854775808 ≤ w ∧ w ≤ 9223372036854775807) {h : AH} {M : Nat → Prop} {R : AE → AH → Prop} (hR : ∀ h', R (.ret (.sc (.bool true))) h') : ACalls Try.prog 5 [.sc (.string s), .sc (.int .i64 w)] h M R := by
  apply F5.calls
  simp only [F5.k68, F5.t68, F5.k67, F5.t67]
  refine ⟨fun _ => False, fun _ h => h.elim, awake_ok ?_⟩
  intro h1 f1
  simp [-F5.k64]
  simp only [F5.k64, F5.t64]
  simp [-F5.k63]
  refine ⟨fun _ => False, fun _ h => h.elim, parse_ok ?_⟩
  unfold ParseR
  cases hp : parseP s with
  | error e =>
    intro h2 f2
    obtain ⟨e1, _, _⟩ := parseP_err hp
    have e1' : (e.2 != 0) = true := by simpa using e1
    simp [-F5.k58, e1']
    exact hR _
  | ok rows =>
    intro x h2 hx ix f2
    obtain ⟨hb, _⟩ := parseP_ok hp
    obtain ⟨n1, n2⟩ := parseP_size hp
    have hxl := hx.len
    by_cases hr0 : rows.length = 0
    · have : ((rows.length : Int) == 0) = true := by rw [hr0]; rfl
      simp [-F5.k58, hxl.1, hxl.2, this, hr0]
      exact hR _
    have hr0' : ((rows.length : Int) == 0) = false := beq_eq_false_iff_ne.2 (by omega)
    obtain ⟨l, l1, l2, l3⟩ := hx
    have hll : l.length = rows.length := by rw [← l2]; simp
    rcases l1 with ⟨_, l1⟩ | ⟨id, rfl, ho⟩
    · subst l1; simp at hll; omega
    have hll0 : ¬ (l.length : Int) = 0 := by omega
    have hll0' : ((l.length : Int) == 0) = false := beq_eq_false_iff_ne.2 (by omega)
    simp [-F5.k58, hll0']
    have ck : ∀ j r, (l.map (·.1))[j]? = some r → CkR s (l.map (·.1)) j r := by
      rw [l2]; exact parseP_ck hp
    have hone : ∀ y ∈ l, (encRA y).all oneA = true := by
      rintro ⟨z1, z2⟩ hz
      rcases l3 _ hz with ⟨h4, _⟩ | ⟨id, h4, _⟩ <;> (simp only at h4; subst h4; rfl)
    have f12 := f1.trans (f2.mono fun _ h => h.elim)
    refine F5_rows (s := s) (w := w) (fun id hid => .inr (Nat.le_trans f12.next hid)) ⟨by simp, by simp, by simp⟩ ho (by omega) ck hone ?_
    intro tm3 h3 t3 f3
    have ho3 := f3.obj ho (fun h => h)
    refine F5_pick t3 ho3 (by omega) (by omega) (by omega) hw ck ?_
    intro tm4 i r hil hri t4
    have hck := ck i r hri
    have hc0 := hck.r0
    have hc1 := hck.r1
    rw [List.length_map] at hc1
    generalize hnx : i + 1 + r.rows.toNat = next at *
    have hlaw := cuts_law hp (by rw [← l2]; exact hri)
    rw [hnx] at hlaw
    rw [l2] at t4 hri
    refine F5_last t4 ho3 (by omega) hil (by omega) (by omega) ck ?_ ?_
    · intro tm5 e5
      simp [e5]
      exact hR _
    intro hnot tm5 t5
    rw [l2] at hnot
    rcases hlaw with hlaw | ⟨P, e, got, p1, p2, p3, p4, p5, p6⟩
    · exact absurd hlaw hnot
    have g1 : l[i]? = some l[i] := List.getElem?_eq_getElem hil
    have hri2 : l[i].1 = r := by
      have := hri
      rw [← l2, List.getElem?_map, g1] at this
      simpa using this
    have fa : (l.flatMap encRA)[i * 6 + 5]? = some (.sc (.int .i64 P)) := by rw [flat_get encRA_len l i 5 (by decide), g1]; show some (AV.sc (.int .i64 l[i].1.place)) = _; rw [hri2, p1]
    have hil' : (i : Int) < l.length := by omega
    rw [p2] at t5
    simp only [F5.k21, F5.t21, t5.t.e0, t5.t.e5, t5.e10, t5.e12, pIxA_sl, pFld_ptr, lLd_f, ho3, ldk_mk, Nat.zero_add, Int.toNat_natCast, fa, cellK_some]
    refine ⟨⟨by omega, hil'⟩, 0, P, rfl, rfl, ⟨by omega, by omega, by omega⟩, ?_⟩
    have z1 : (⟨#[32]⟩ : ByteArray).size = 1 := rfl
    refine ⟨by rw [ByteArray.size_extract, z1]; omega, e, s.size, rfl, rfl, ⟨by omega, by omega, by omega⟩, ?_⟩
    refine ⟨by rw [ByteArray.size_append, ByteArray.size_extract, ByteArray.size_extract, z1]; omega, ?_⟩
    refine ⟨fun _ => False, fun _ h => h.elim, parse_ok (s := cutS s P e) ?_⟩
    unfold ParseR
    rw [p5]
    intro y h5 hy iy f5
    obtain ⟨m1, m2⟩ := parseP_size p5
    simp only [pExt_tup, List.getElem?_cons_zero, List.getElem?_cons_succ, cellK_some]
    generalize htm : puts tm5 _ = tm6
    have t6 : T6 tm6 s w (.sl id 0 l.length) i next e := by rw [← htm]; exact t5.puts _ (by simp)
    have a14 : tm6 14 = y := by rw [← htm]; simp
    have a16 : tm6 16 = .sc (.int .i64 0) := by rw [← htm]; simp
    clear htm
    simp only [F5.k20, F5.t20, a16, pBin_neq]
    generalize htm : puts tm6 _ = tm7
    have t7 : T6 tm7 s w (.sl id 0 l.length) i next e := by rw [← htm]; exact t6.puts _ (by simp)
    have b14 : tm7 14 = y := by rw [← htm]; simp [a14]
    have b156 : tm7 156 = .sc (.bool false) := by rw [← htm]; simp
    clear htm
    simp only [F5.k19, F5.t19, b156, aIf_b, Bool.false_eq_true, false_implies, true_and, true_implies]
    have f35 := f3.trans (f5.mono fun _ h => h.elim)
    refine F5_want (h0 := h5) (Nat.le_trans f12.next f35.next) t7 b14 hy (f5.obj ho3 (fun h => h)) (fun z hz => args_keep (l3 z hz) f35 (fun _ _ _ _ h => h)) (by omega) hil (by omega) (by omega) ck m1 m2 (by rw [l2]; exact p6) hR
end Go.Proofs.Ythkkgbmjjpcfaaa

namespace Go.Ab
open Go.RowKit
/-- An empty table. -/
def AH.empty : AH := ⟨fun _ => none, 0, fun _ _ h => by cases h⟩
theorem Rel.empty (w : World) : Rel (fun _ => none) AH.empty w := ⟨fun _ _ h => (by cases h), fun _ _ _ _ _ _ h => (by cases h), fun _ _ => rfl⟩
theorem Step.below {E E' : Env} {h h' : AH} {w w' : World} (s : Step E h (fun _ => False) w E' h' w') : Below w.heap.size w w' := ⟨s.os, s.tape, s.output, s.size, fun b hb => s.frame b hb fun _ _ hm => hm.elim⟩
/-- A law whose call answers true, whatever it is given. -/
theorem law_calls {P : Program} {f : FuncId} {args : List AV} {cargs : List Value} (hc : ACalls P f args AH.empty (fun _ => False) (fun ae _ => ae = .ret (.sc (.bool true)))) (ha : VRs (fun _ => none) args cargs) (w : World) :
    Calls P f cargs.toArray w fun e w' => e = .returned (.bool true) ∧ Below w.heap.size w w' := by
  refine (hc _ w cargs (Rel.empty w) ha).mono ?_
  rintro e w' ⟨E', h', ae, hs, he, rfl⟩
  refine ⟨?_, hs.below⟩
  cases e <;> first | exact he.elim | skip
  cases he
  rfl
end Go.Ab
namespace Go.Proofs.Ythkkgbmjjpcfaaa
open Go.ChangeShapes Go.WideShapes Go.ChangeAt Go.RowKit Go.ChangeMaps
section
variable {H : Type} {enc : TypeId × Value → H} {P : Program}
theorem post_of_below {f : Func} {s : ChangeSpec} {apart fresh handsOn again : Bool} {W W' : World} {args : Array Value} {v : Value} {ds gs : List (DataW H)} {before pa pv : List MemPlace}
    (hW : DataW.Whole enc P f.params.toList s.vars apart W args.toList ds gs before)
    (hres : ∀ (b : Nat) (sp : Nat → Bool) (hd : Bool), DataW.TrodAll enc P W' b sp hd f.resultTypes.toList (v.resultList f.resultTypes.size) (s.fn H (ds ++ gs)).results [])
    (hargs : ∀ sp : Nat → Bool, (∀ p ∈ before, sp p.block = true) → DataW.TrodAll enc P W' 0 sp true f.params.toList args.toList (s.fn H (ds ++ gs)).args pa)
    (hvars : ∀ sp : Nat → Bool, (∀ p ∈ before, sp p.block = true) → DataW.TrodVars enc P W' sp s.vars (s.fn H (ds ++ gs)).vars pv)
    (hps : before = pa ++ pv) (hb : Below W.heap.size W W')
    (hok : ∀ (j : Nat) (t : TypeId) (r : Value), f.resultTypes[j]? = some t → (v.resultList f.resultTypes.size)[j]? = some r → Value.okWide P W' .any 0 t r) :
    s.post enc P f apart fresh handsOn again W args v W' := by
  have hlt : ∀ p ∈ before, p.block < W.heap.size := fun p hp => hW.lt p hp
  have hold : ∀ p ∈ before, (fun b => decide (b < W.heap.size)) p.block = true := fun p hp => by simpa using hlt p hp
  refine ⟨ds, gs, before, [], pa, pv, hW, hres _ _ _, hargs _ hold, hvars _ hold, World.keptBut_mono (fun p hp => ⟨hp, ?_⟩) (hb.frame (· ∈ before)), fun _ => ?_⟩
  · rw [hps, List.mem_append] at hp
    exact Or.inr hp
  · obtain ⟨_, _, _, _, _, hz, hn⟩ := hW
    refine ⟨hok, _, _, ([] ++ pa) ++ pv, ⟨[] ++ pa, pv, trodAll_append (hargs _ (fun _ _ => rfl)) (hres _ _ _), hvars _ (fun _ _ => rfl), rfl, ?_, ?_⟩, ?_⟩
    · intro b off hp
      have hin : MemPlace.cell b off ∈ before := by rw [hps]; simpa using hp
      rw [hb.frozen (hlt _ hin)]
      exact hz b off hin
    · intro ha
      have := hn ha
      rw [hps] at this
      simpa using this
    · intro p hp _
      rw [hps]
      simpa using hp
end
theorem Try.own : ownKnob Try.prog.godebug = none := by kernel_rfl
theorem Try.laidOut : laidOutB Try.prog = true := by kernel_rfl
end Go.Proofs.Ythkkgbmjjpcfaaa

namespace Go.Proofs.Ythkkgbmjjpcfaaa
open Go.ChangeShapes Go.WideShapes Go.ChangeAt Go.RowKit Go.ChangeMaps
theorem cuts_any (s : ByteArray) (n : Int) (hn : -9223372036854775808 ≤ n ∧ n ≤ 9223372036854775807) (w : World) : Calls Try.prog 5 #[.string s, .int .i64 n] w fun e w' => e = .returned (.bool true) ∧ Below w.heap.size w w' :=
  Go.Ab.law_calls (cuts_ok hn fun _ => rfl) (.cons (.sc _) (.cons (.sc _) .nil)) w
set_option maxRecDepth 100000 in
theorem cuts_lifted (os : Os) (started : os.Started) (H : Type) (enc : TypeId × Value → H) :
    ReturnsInHanded {} Try.checked os 5 .any (Rows.parseCutsSpec.pre6 enc Try.prog Try.f5 Rows.parseCutsRow.domain false) (Rows.parseCutsSpec.post enc Try.prog Try.f5 false true false false) := by
  refine returnsInHanded_of_change (C := Try.checked) Try.own started (by kernel_rfl) Try.func5
    (ChangeSpec.witness6 (enc := enc) (C := Try.checked) false ⟨#[], #[.string ⟨#[]⟩, .int .i64 0], []⟩ 8 (by kernel_rfl) (by kernel_rfl) (by kernel_rfl) (by kernel_rfl)) ?_
  intro W base args ds gs before hval0 hW hcnd _
  have hval : ∀ (j : Nat) t v, Try.f5.params[j]? = some t → args[j]? = some v → Value.okWide Try.prog W .any base t v := hval0
  have hW' := hW
  obtain ⟨p, q, hA0, hV, rfl, hfz, hnd⟩ := hW
  have hA : DataW.TrodAll enc Try.prog W 0 (fun _ => true) true Try.f5.params.toList args.toList ds p := hA0
  rw [Try.params5] at hA hval
  obtain ⟨v0, v1, d0, d1, p0, p1, rfl, rfl, rfl, h0, h1⟩ := trodAll_two hA
  obtain ⟨rfl, rfl⟩ := trodVars_none hV
  obtain ⟨a, rfl, rfl, rfl, wa⟩ := open_string Try.underlying9 (hval 0 9 v0 rfl rfl) h0
  obtain ⟨n, rfl, rfl, rfl, wn⟩ := open_int Try.underlying3 (hval 1 3 v1 rfl rfl) h1
  clear hA0 hval0
  simp only [List.append_nil] at hW'
  have hn : -9223372036854775808 ≤ n ∧ n ≤ 9223372036854775807 := by
    have := wn
    have h1 : IntKind.i64.min = -9223372036854775808 := by decide
    have h2 : IntKind.i64.max = 9223372036854775807 := by decide
    simp [Lit.wf] at this
    omega
  refine (cuts_any a n hn W).mono fun e W' ⟨he, hb⟩ => ?_
  subst he
  exact ⟨_, rfl, post_of_below (pa := []) (pv := []) hW' (fun _ _ _ => trodAll_mk1 (shut_bool Try.underlying4 true)) (fun sp _ => trodAll_mk2 (shut_string Try.underlying9 wa) (shut_int Try.underlying3 wn)) (fun _ _ => rfl) rfl hb (ok_one (by kernel_rfl) rfl (okWide_bool_mk Try.underlying4 true))⟩
theorem cuts_holds : Rows.ParseCutsSaid :=
  OpenClaim.holds_of_wide 5 Try.f5 rfl rfl rfl rfl rfl rfl rfl ⟨rfl, rfl, rfl, rfl, rfl⟩ rfl rfl rfl rfl rfl (by kernel_rfl) Try.func5 (by kernel_rfl)
    (of_decide_eq_true (by kernel_rfl)) (by unfold Func.isWrapper; first | (rw [if_pos (by decide +kernel)]; kernel_rfl) | (rw [if_neg (by decide +kernel)]; exact ⟨rfl, rfl⟩))
    (fun os started H enc _ => cuts_lifted os started H enc)
end Go.Proofs.Ythkkgbmjjpcfaaa

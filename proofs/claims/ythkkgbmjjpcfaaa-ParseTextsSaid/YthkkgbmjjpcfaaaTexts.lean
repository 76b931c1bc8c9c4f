/- ParseTexts answers true for every text: parse.Parse answers as the document does. No condition. -/
import Derived.Test.YthkkgbmjjpcfaaaRows
import Derived.ProofKit
import Derived.Below
import Derived.ChangeSame
import Derived.ChangeMaps5
import Derived.Test.YthkkgbmjjpcfaaaWr
namespace Go.Proofs.Ythkkgbmjjpcfaaa
open Go.Ab
/-! rows hold no more arguments than there are tokens -/
def AG (L : List Tok) (rows : List Row) : Prop := ∀ r ∈ rows, r.args.length ≤ L.length
section
variable {L : List Tok} {en : Int}
def StepA (L : List Tok) (step : Nat → Res (Nat × List Row)) : Prop := ∀ p p' new, step p = .ok (p', new) → AG L new
theorem AG.one {row : Row} (h : row.args.length ≤ L.length) : AG L [row] := fun r hr => by simp only [List.mem_singleton] at hr; subst hr; exact h
theorem AG.app {a b : List Row} (ha : AG L a) (hb : AG L b) : AG L (a ++ b) := fun r hr => (List.mem_append.1 hr).elim (ha r) (hb r)
theorem lineP_AG {p p' : Nat} {row : Row} {l : List Row} (hr : row.args.length ≤ L.length) (h : lineP L en p row = .ok (p', l)) : AG L l := by
  obtain ⟨_, _, rfl⟩ := lineP_ok h
  exact .one hr
theorem loopP_AG {step : Nat → Res (Nat × List Row)} (hs : StepA L step) : ∀ (n p : Nat) (acc : List Row) {l : List Row} {p' : Nat}, AG L acc → loopP L step n p acc = .ok (p', l) → AG L l
  | 0, _, _, _, _, _, h => by simp [loopP] at h
  | n + 1, p, acc, l, p', ha, h => by
    simp only [loopP] at h
    split at h
    · cases h; exact ha
    · cases hn : step p with
      | error e => rw [hn] at h; cases h
      | ok x =>
        obtain ⟨p1, new⟩ := x
        rw [hn] at h
        exact loopP_AG hs n p1 _ (ha.app (hs _ _ _ hn)) h
theorem bdP_AG {k : Nat} {step : Nat → Res (Nat × List Row)} (hs : StepA L step) {p p' : Nat} {l : List Row} (h : bdP L en k step p = .ok (p', l)) : AG L l := by
  unfold bdP at h
  cases hn : signP L en p sOpen with
  | error e => rw [hn] at h; cases h
  | ok t =>
    rw [hn] at h
    cases k with
    | zero => cases h
    | succ k =>
      simp only at h
      cases hl : loopP L step (L.length + 1) (p + 1) [] with
      | error e => rw [hl] at h; cases h
      | ok x =>
        obtain ⟨p1, rows⟩ := x
        rw [hl] at h
        cases h
        exact loopP_AG hs _ _ _ (fun _ hr => by cases hr) hl
theorem heldP_AG {k : Nat} {step : Nat → Res (Nat × List Row)} (hs : StepA L step) {p p' : Nat} {row : Row} {l : List Row} (hr : row.args.length ≤ L.length) (h : heldP L en k step p row = .ok (p', l)) : AG L l := by
  unfold heldP at h
  cases hn : bdP L en k step p with
  | error e => rw [hn] at h; cases h
  | ok x =>
    obtain ⟨p1, rows⟩ := x
    rw [hn] at h; cases h
    intro r hm
    rcases List.mem_cons.1 hm with hm | hm
    · subst hm; exact hr
    · exact bdP_AG hs hn r hm
theorem stmtB_AG {k : Nat} {step : Nat → Res (Nat × List Row)} (hs : StepA L step) {p p' : Nat} {t : Tok} {l : List Row} (hp : p < L.length) (h : stmtB L en k step p t = .ok (p', l)) : AG L l := by
  unfold stmtB at h
  split at h
  · cases h1 : nameP L en (p + 1) with
    | error e => rw [h1] at h; cases h
    | ok nm =>
      rw [h1] at h; simp only at h
      cases h2 : numberP L en (p + 2) with
      | error e => rw [h2] at h; cases h
      | ok n => rw [h2] at h; exact lineP_AG (by simp) h
  split at h
  · cases h1 : nameP L en (p + 1) with
    | error e => rw [h1] at h; cases h
    | ok nm =>
      rw [h1] at h; simp only at h
      have := (nameP_ok h1).1
      cases h2 : namesP L en (L.length + 1) (p + 2) [] with
      | error e => rw [h2] at h; cases h
      | ok x => obtain ⟨l2, p2⟩ := x; rw [h2] at h; have a := namesP_ok _ _ _ (by omega) h2; simp at a; exact heldP_AG hs (by simp only; omega) h
  split at h
  · cases h1 : numberP L en (p + 1) with
    | error e => rw [h1] at h; cases h
    | ok n => rw [h1] at h; exact heldP_AG hs (by simp) h
  split at h
  · cases h1 : nameP L en (p + 1) with
    | error e => rw [h1] at h; cases h
    | ok nm =>
      rw [h1] at h; simp only at h
      cases h2 : numberP L en (p + 2) with
      | error e => rw [h2] at h; cases h
      | ok n => rw [h2] at h; exact heldP_AG hs (by simp) h
  split at h
  · cases h1 : argP L en (p + 1) with
    | error e => rw [h1] at h; cases h
    | ok x =>
      obtain ⟨a, p1⟩ := x
      rw [h1] at h; simp only at h
      have := argP_ok h1
      cases h2 : argP L en p1 with
      | error e => rw [h2] at h; cases h
      | ok y => obtain ⟨b, p2⟩ := y; rw [h2] at h; have := argP_ok h2; exact lineP_AG (by simp; omega) h
  split at h
  · cases h1 : argP L en (p + 1) with
    | error e => rw [h1] at h; cases h
    | ok x =>
      obtain ⟨a, p1⟩ := x
      rw [h1] at h; simp only at h
      have := argP_ok h1
      exact lineP_AG (by simp; omega) h
  · cases h1 : argsP L en (L.length + 1) (p + 1) [] with
    | error e => rw [h1] at h; cases h
    | ok x =>
      obtain ⟨l2, p2⟩ := x
      rw [h1] at h; simp only at h
      have := argsP_ok _ _ _ (by omega) h1
      simp at this
      exact lineP_AG (by simp only; omega) h
theorem stmtP_AG : ∀ (k : Nat), StepA L (stmtP L en k) := by
  have key : ∀ k, StepA L (stepP L en k) → StepA L (stmtP L en k) := by
    intro k hk p p' new h
    rw [stmtP_eq] at h
    cases h1 : nextP L en p (isNameP L p) with
    | error e => rw [h1] at h; cases h
    | ok t => rw [h1] at h; exact stmtB_AG hk (nextP_ok h1).1 h
  intro k
  induction k with
  | zero => exact key 0 (fun _ _ _ h => by simp [stepP] at h)
  | succ k ih => exact key (k + 1) ih
theorem topP_AG : ∀ (n p : Nat) (acc : List Row) {l : List Row}, p ≤ L.length → acc.length ≤ p → AG L acc → topP L en n p acc = .ok l → AG L l ∧ l.length ≤ L.length
  | 0, _, _, _, _, _, _, h => by simp [topP] at h
  | n + 1, p, acc, l, hp, hl, ha, h => by
    simp only [topP] at h
    split at h
    · cases hn : stmtP L en 32 p with
      | error e => rw [hn] at h; cases h
      | ok x =>
        obtain ⟨p1, new⟩ := x
        rw [hn] at h
        obtain ⟨b1, b2, b3⟩ := stmtP_ok 32 p p1 new hn
        exact topP_AG n p1 _ b2 (by simp; omega) (ha.app (stmtP_AG 32 _ _ _ hn)) h
    · cases h; exact ⟨ha, by omega⟩
/-- What is read is not great. -/
theorem parseP_size {s : ByteArray} {l : List Row} (h : parseP s = .ok l) : l.length ≤ 65536 ∧ ∀ r ∈ l, r.args.length ≤ 65536 := by
  unfold parseP at h
  split at h
  · cases h
  · rename_i hs
    split at h
    · cases h
    · rename_i L hsc
      have hL := (scan_LOK (by omega) hsc).len
      obtain ⟨a, b⟩ := topP_AG _ _ _ (Nat.zero_le _) (by simp) (fun _ hr => by cases hr) h
      exact ⟨by omega, fun r hr => by have := a r hr; omega⟩
end
end Go.Proofs.Ythkkgbmjjpcfaaa

namespace Go.Proofs.Ythkkgbmjjpcfaaa
open Go.Ab
/-! the comparison of rows -/
def argEq (a b : Arg) : Bool := decide (a.name = b.name) && (a.index == b.index)
def eqArgs : List Arg → List Arg → Bool
  | a :: A, b :: B => argEq a b && eqArgs A B
  | _, _ => true
def headEq (pl : Bool) (a b : Row) : Bool := decide (a.kind = b.kind) && (decide (a.name = b.name) && ((a.num == b.num) && ((a.rows == b.rows) && ((!pl || a.place == b.place) && (a.args.length == b.args.length)))))
def rowEq (pl : Bool) (a b : Row) : Bool := headEq pl a b && eqArgs a.args b.args
def eqRows (pl : Bool) : List Row → List Row → Bool
  | a :: A, b :: B => rowEq pl a b && eqRows pl A B
  | _, _ => true
def sameL (pl : Bool) (A B : List Row) : Bool := (A.length == B.length) && eqRows pl A B
theorem argEq_self (a : Arg) : argEq a a = true := by simp [argEq]
theorem eqArgs_self : ∀ A : List Arg, eqArgs A A = true
  | [] => rfl
  | a :: A => by simp [eqArgs, argEq_self, eqArgs_self A]
theorem rowEq_self (pl : Bool) (a : Row) : rowEq pl a a = true := by simp [rowEq, headEq, eqArgs_self]
theorem eqRows_self (pl : Bool) : ∀ A : List Row, eqRows pl A A = true
  | [] => rfl
  | a :: A => by simp [eqRows, rowEq_self, eqRows_self pl A]
theorem sameL_self (pl : Bool) (A : List Row) : sameL pl A A = true := by simp [sameL, eqRows_self]
theorem flat53 : flatEq Try.prog 53 = some [true, false] := by kernel_rfl
theorem pBin_arg {c : Bool} {a b : Arg} {K : AV → Prop} : pBin Try.prog .neq 53 c (.agg a.enc) (.agg b.enc) K = K (.sc (.bool (!argEq a b))) := by
  have h : aggCmp Try.prog 53 a.enc b.enc = some (argEq a b) := by
    unfold aggCmp
    rw [flat53]
    simp [aggEq, Arg.enc, argEq]
  show ((aggCmp Try.prog 53 a.enc b.enc).isSome = true ∧ K (.b (!(aggCmp Try.prog 53 a.enc b.enc).getD false))) = _
  rw [h]
  simp
theorem F9_args {W : Nat → Prop} {Q : Post} {QP : PPost} {tm : Nat → AV} {h : AH} {v8 v9 : Nat} {r s : Row} {a b : AV} (hW : ∀ id, h.next ≤ id → W id) (e8 : tm 8 = .ptr v8 0) (e9 : tm 9 = .ptr v9 0)
    (h8 : h.obj v8 = some (mkO (encRA (r, a)) 6 36)) (h9 : h.obj v9 = some (mkO (encRA (s, b)) 6 36)) (ha : SlL Arg.enc 2 53 h a r.args) (hb : SlL Arg.enc 2 53 h b s.args)
    (hlen : r.args.length = s.args.length) (hbig : r.args.length ≤ 1000000000)
    (hF : eqArgs r.args s.args = false → ∀ tm' h', Fr h h' (fun _ => False) → tm' 6 = .sc (.bool false) → Q .ret ⟨tm', []⟩ h')
    (hT : eqArgs r.args s.args = true → ∀ tm' h', Fr h h' (fun _ => False) → (∀ j, j = 0 ∨ j = 1 ∨ j = 2 ∨ j = 17 ∨ j = 18 ∨ j = 19 → tm' j = tm j) → F9.k2 W Q QP ⟨tm', []⟩ h') :
    F9.k11 W Q QP ⟨tm, []⟩ h := by
  simp only [F9.k11, F9.t11, e8, pFld_ptr, lLd_f, h8, ldk_mk, Nat.zero_add, encRA, List.getElem?_cons_succ, List.getElem?_cons_zero, cellK_some, (ha.len (K := fun _ => True)).1, (fun K => (ha.len (K := K)).2), true_and]
  unfold F9.k10
  refine aLoop_of (ι := Nat) (fun j s' h' => s'.ds = [] ∧ Fr h h' (fun _ => False) ∧ j ≤ r.args.length ∧ s'.tm 9 = .ptr v9 0 ∧ s'.tm 74 = a ∧ s'.tm 75 = .sc (.int .i64 r.args.length) ∧ s'.tm 76 = .sc (.int .i64 j) ∧ (∀ i, i = 0 ∨ i = 1 ∨ i = 2 ∨ i = 17 ∨ i = 18 ∨ i = 19 → s'.tm i = tm i) ∧
    eqArgs (r.args.drop j) (s.args.drop j) = eqArgs r.args s.args) (fun j => r.args.length - j) 0 ?_ ?_
  · refine ⟨rfl, Fr.refl, by omega, by simp [e9], by simp, by simp, by simp, fun i hi => ?_, rfl⟩
    rcases hi with rfl | rfl | rfl | rfl | rfl | rfl <;> simp
  rintro j ⟨tm', ds⟩ h' ⟨rfl, hf, hj, e9, e74, e75, e76, hsame, heq⟩
  simp only at e9 e74 e75 e76 hsame
  rw [F9.l2]
  have ha' : SlL Arg.enc 2 53 h' a r.args := args_keep ha hf (fun _ _ _ _ h => h)
  have hb' : SlL Arg.enc 2 53 h' b s.args := args_keep hb hf (fun _ _ _ _ h => h)
  have h9' := hf.obj h9 (fun h => h)
  by_cases hlt : j < r.args.length
  · have hw : IntKind.i64.wrap ((j : Int) + 1) = ((j + 1 : Nat) : Int) := by rw [wrap_in (by omega) (by omega)]; simp
    have hlt2 : j < s.args.length := by omega
    have g1 : r.args[j]? = some r.args[j] := List.getElem?_eq_getElem hlt
    have g2 : s.args[j]? = some s.args[j] := List.getElem?_eq_getElem hlt2
    rw [List.drop_eq_getElem_cons hlt, List.drop_eq_getElem_cons hlt2] at heq
    simp only [eqArgs] at heq
    generalize r.args[j] = ra at *
    generalize s.args[j] = sa at *
    rcases ha' with ⟨_, hn⟩ | ⟨ia, rfl, oa⟩
    · rw [hn] at hlt; simp at hlt
    rcases hb' with ⟨_, hn⟩ | ⟨ib, rfl, ob⟩
    · rw [hn] at hlt2; simp at hlt2
    have d1 := flat_drop Arg.enc_len _ _ _ g1
    have d2 := flat_drop Arg.enc_len _ _ _ g2
    have hl1 : j * 2 + 2 ≤ (r.args.flatMap Arg.enc).length := by rw [flat_len Arg.enc_len]; omega
    have hl2 : j * 2 + 2 ≤ (s.args.flatMap Arg.enc).length := by rw [flat_len Arg.enc_len]; omega
    have hli : (j : Int) < r.args.length := by omega
    have hli2 : (j : Int) < s.args.length := by omega
    simp only [F9.k9, F9.t9, e75, e76, pBin_lss]
    rw [decide_eq_true hli]
    generalize htm : puts tm' _ = tm1
    have q9 : tm1 9 = .ptr v9 0 := by rw [← htm]; simp [e9]
    have q74 : tm1 74 = .sl ia 0 r.args.length := by rw [← htm]; simp [e74]
    have q75 : tm1 75 = .sc (.int .i64 r.args.length) := by rw [← htm]; simp [e75]
    have q76 : tm1 76 = .sc (.int .i64 j) := by rw [← htm]; simp [e76]
    have q77 : tm1 77 = .sc (.bool true) := by rw [← htm]; simp
    have qs : ∀ i, i = 0 ∨ i = 1 ∨ i = 2 ∨ i = 17 ∨ i = 18 ∨ i = 19 → tm1 i = tm i := fun i hi => by
      rw [← htm, ← hsame i hi]
      rcases hi with rfl | rfl | rfl | rfl | rfl | rfl <;> simp
    clear htm
    simp only [F9.k8, F9.t8, q77, aIf_b, true_implies, Bool.true_eq_false, false_implies, and_true]
    simp only [F9.k7, F9.t7, q74, q76, pIxA_sl, lLdn_f, oa, ldnk_mk, Nat.zero_add, Int.toNat_natCast]
    refine ⟨⟨by omega, hli⟩, hl1, ?_⟩
    rw [d1]
    simp only [eAlloc_d]
    refine ⟨rfl, ?_⟩
    have hv := AH.alloc_new h' (mkO ([.string ⟨#[]⟩, .int .i64 0].map AV.sc) 2 53)
    simp only [eStore_f, hv, avC_agg, stk_mk]
    refine ⟨⟨hW _ hf.next, rfl, rfl, by simp [Arg.enc]⟩, ?_⟩
    have g : Fr h' ((h'.alloc (mkO ([.string ⟨#[]⟩, .int .i64 0].map AV.sc) 2 53)).put h'.next 0 ra.enc) (fun _ => False) := (Fr.refl.alloc _).put (.inr (Nat.le_refl _))
    have ov : ((h'.alloc (mkO ([.string ⟨#[]⟩, .int .i64 0].map AV.sc) 2 53)).put h'.next 0 ra.enc).obj h'.next = some (oArg ra) := by rw [put_row hv]; rfl
    have h9'' := g.obj h9' (fun h => h)
    have ob' := g.obj ob (fun h => h)
    have hf' : Fr h ((h'.alloc (mkO ([.string ⟨#[]⟩, .int .i64 0].map AV.sc) 2 53)).put h'.next 0 ra.enc) (fun _ => False) := hf.trans (g.mono fun _ h => h.elim)
    generalize (h'.alloc (mkO ([.string ⟨#[]⟩, .int .i64 0].map AV.sc) 2 53)).put h'.next 0 ra.enc = h2 at *
    generalize h'.next = vn at *
    generalize htm : puts tm1 _ = tm2
    have p9 : tm2 9 = .ptr v9 0 := by rw [← htm]; simp [q9]
    have p10 : tm2 10 = .sc (.int .i64 j) := by rw [← htm]; simp
    have p11 : tm2 11 = .ptr vn 0 := by rw [← htm]; simp
    have p74 : tm2 74 = .sl ia 0 r.args.length := by rw [← htm]; simp [q74]
    have p75 : tm2 75 = .sc (.int .i64 r.args.length) := by rw [← htm]; simp [q75]
    have p76 : tm2 76 = .sc (.int .i64 j) := by rw [← htm]; simp [q76]
    have ps : ∀ i, i = 0 ∨ i = 1 ∨ i = 2 ∨ i = 17 ∨ i = 18 ∨ i = 19 → tm2 i = tm i := fun i hi => by
      rw [← htm, ← qs i hi]
      rcases hi with rfl | rfl | rfl | rfl | rfl | rfl <;> simp
    clear htm
    simp only [F9.k6, F9.t6, p9, p10, p11, pFld_ptr, lLd_f, lLdn_f, ov, h9'', ob', ldk_mk, ldnk_mk, Nat.zero_add, encRA, List.getElem?_cons_succ, List.getElem?_cons_zero, cellK_some, pIxA_sl, Int.toNat_natCast]
    refine ⟨by simp, ⟨by omega, hli2⟩, hl2, ?_⟩
    rw [d2]
    show pBin Try.prog .neq 53 false (.agg ra.enc) (.agg sa.enc) _
    rw [pBin_arg]
    cases hae : argEq ra sa with
    | false =>
      rw [hae] at heq
      simp only [Bool.false_and] at heq
      simp only [Bool.not_false]
      generalize htm : puts tm2 _ = tm3
      have z : tm3 87 = .sc (.bool true) := by rw [← htm]; simp
      clear htm
      simp only [F9.k5, F9.t5, z, aIf_b, true_implies, Bool.true_eq_false, false_implies, and_true]
      simp only [F9.k4, F9.t4]
      exact hF heq.symm _ _ hf' (by simp)
    | true =>
      rw [hae] at heq
      simp only [Bool.true_and] at heq
      simp only [Bool.not_true]
      generalize htm : puts tm2 _ = tm3
      have z : tm3 87 = .sc (.bool false) := by rw [← htm]; simp
      have z9 : tm3 9 = .ptr v9 0 := by rw [← htm]; simp [p9]
      have z74 : tm3 74 = .sl ia 0 r.args.length := by rw [← htm]; simp [p74]
      have z75 : tm3 75 = .sc (.int .i64 r.args.length) := by rw [← htm]; simp [p75]
      have z76 : tm3 76 = .sc (.int .i64 j) := by rw [← htm]; simp [p76]
      have zs : ∀ i, i = 0 ∨ i = 1 ∨ i = 2 ∨ i = 17 ∨ i = 18 ∨ i = 19 → tm3 i = tm i := fun i hi => by
        rw [← htm, ← ps i hi]
        rcases hi with rfl | rfl | rfl | rfl | rfl | rfl <;> simp
      clear htm
      simp only [F9.k5, F9.t5, z, aIf_b, Bool.false_eq_true, false_implies, true_and, true_implies]
      simp only [F9.k3, F9.t3, z76, pBin_add, hw]
      refine ⟨j + 1, by omega, rfl, hf', by omega, by simp [z9], by simp [z74], by simp [z75], by simp, fun i hi => ?_, heq⟩
      rw [← zs i hi]
      rcases hi with rfl | rfl | rfl | rfl | rfl | rfl <;> simp
  · have hd : r.args.drop j = [] := List.drop_eq_nil_of_le (by omega)
    rw [hd] at heq
    have hnl : ¬ (j : Int) < r.args.length := by omega
    simp only [F9.k9, F9.t9, e75, e76, pBin_lss]
    rw [decide_eq_false hnl]
    generalize htm : puts tm' _ = tm1
    have q77 : tm1 77 = .sc (.bool false) := by rw [← htm]; simp
    have qs : ∀ i, i = 0 ∨ i = 1 ∨ i = 2 ∨ i = 17 ∨ i = 18 ∨ i = 19 → tm1 i = tm i := fun i hi => by
      rw [← htm, ← hsame i hi]
      rcases hi with rfl | rfl | rfl | rfl | rfl | rfl <;> simp
    clear htm
    simp only [F9.k8, F9.t8, q77, aIf_b, Bool.false_eq_true, false_implies, true_and, true_implies]
    simp only [thenQ, blockQ, if_true]
    exact hT heq.symm _ _ hf qs
end Go.Proofs.Ythkkgbmjjpcfaaa

namespace Go.Proofs.Ythkkgbmjjpcfaaa
open Go.Ab
/-- What the temporaries of the comparison hold. -/
structure TS (tm : Nat → AV) (pl : Bool) (x y : AV) (n i : Nat) : Prop where
  e1 : tm 1 = y
  e2 : tm 2 = .sc (.bool pl)
  e17 : tm 17 = x
  e18 : tm 18 = .sc (.int .i64 n)
  e19 : tm 19 = .sc (.int .i64 i)
theorem TS.puts {tm : Nat → AV} {pl : Bool} {x y : AV} {n i : Nat} (t : TS tm pl x y n i) : ∀ (l : List (Nat × AV)), (∀ z ∈ l, 19 < z.1 ∨ z.1 = 7 ∨ z.1 = 8 ∨ z.1 = 9) → TS (puts tm l) pl x y n i
  | [], _ => t
  | z :: l, h => by
    have hz := h z (by simp)
    exact TS.puts (tm := Go.Ab.upd tm z.1 z.2) ⟨by rw [upd_ne (by omega)]; exact t.e1, by rw [upd_ne (by omega)]; exact t.e2, by rw [upd_ne (by omega)]; exact t.e17, by rw [upd_ne (by omega)]; exact t.e18, by rw [upd_ne (by omega)]; exact t.e19⟩ l (fun y hy => h y (by simp [hy]))
structure TH (tm : Nat → AV) (pl : Bool) (x y : AV) (n i v8 v9 : Nat) : Prop where
  t : TS tm pl x y n i
  e8 : tm 8 = .ptr v8 0
  e9 : tm 9 = .ptr v9 0
theorem puts_lt {tm : Nat → AV} {k : Nat} : ∀ (l : List (Nat × AV)), (∀ z ∈ l, k < z.1) → puts tm l k = tm k
  | [], _ => rfl
  | z :: l, h => by
    have hz := h z (by simp)
    simp only [puts]
    rw [puts_lt l (fun y hy => h y (by simp [hy])), upd_ne (by omega)]
theorem TH.puts {tm : Nat → AV} {pl : Bool} {x y : AV} {n i v8 v9 : Nat} (t : TH tm pl x y n i v8 v9) (l : List (Nat × AV)) (h : ∀ z ∈ l, 19 < z.1) : TH (puts tm l) pl x y n i v8 v9 :=
  ⟨t.t.puts l fun z hz => .inl (h z hz), by rw [puts_lt l (fun z hz => by have := h z hz; omega)]; exact t.e8, by rw [puts_lt l (fun z hz => by have := h z hz; omega)]; exact t.e9⟩
section
variable {W : Nat → Prop} {Q : Post} {QP : PPost} {tm : Nat → AV} {h : AH} (H : ∀ tm', F9.k12 W Q QP ⟨tm', []⟩ h)
include H
theorem dead64 (e : tm 64 = .sc (.bool true)) : F9.k15 W Q QP ⟨tm, []⟩ h := by
  simp only [F9.k15, F9.t15, e, aIg_b, Bool.true_eq_false, false_implies, true_and, Bool.not_false, true_implies]
  generalize htm : puts tm _ = tm1
  have e1 : tm1 64 = .sc (.bool true) := by rw [← htm]; simp [e]
  clear htm
  simp only [F9.k14, F9.t14, e1, pPick_b, if_true]
  generalize htm : puts tm1 _ = tm2
  have e2 : tm2 72 = .sc (.bool true) := by rw [← htm]; simp
  clear htm
  simp only [F9.k13, F9.t13, e2, aIf_b, true_implies, Bool.true_eq_false, false_implies, and_true]
  exact H _
theorem dead54 (e : tm 54 = .sc (.bool true)) : F9.k19 W Q QP ⟨tm, []⟩ h := by
  simp only [F9.k19, F9.t19, e, aIg_b, Bool.true_eq_false, false_implies, true_and, Bool.not_false, true_implies]
  generalize htm : puts tm _ = tm1
  have e1 : tm1 54 = .sc (.bool true) := by rw [← htm]; simp [e]
  have e1' : tm1 56 = noA := by rw [← htm]; simp
  clear htm
  simp only [F9.k18, F9.t18, e1', aIg_u]
  generalize htm : puts tm1 _ = tm2
  have e2 : tm2 54 = .sc (.bool true) := by rw [← htm]; simp [e1]
  clear htm
  simp only [F9.k17, F9.t17, e2, aIg_b, Bool.true_eq_false, false_implies, true_and, Bool.not_false, true_implies]
  generalize htm : puts tm2 _ = tm3
  have e3 : tm3 54 = .sc (.bool true) := by rw [← htm]; simp [e2]
  clear htm
  simp only [F9.k16, F9.t16, e3, pPick_b, if_true]
  exact dead64 H (by simp)
theorem dead47 (e : tm 47 = .sc (.bool true)) : F9.k21 W Q QP ⟨tm, []⟩ h := by
  simp only [F9.k21, F9.t21, e, aIg_b, Bool.true_eq_false, false_implies, true_and, Bool.not_false, true_implies]
  generalize htm : puts tm _ = tm1
  have e1 : tm1 47 = .sc (.bool true) := by rw [← htm]; simp [e]
  clear htm
  simp only [F9.k20, F9.t20, e1, pPick_b, if_true]
  exact dead54 H (by simp)
theorem dead40 (e : tm 40 = .sc (.bool true)) : F9.k23 W Q QP ⟨tm, []⟩ h := by
  simp only [F9.k23, F9.t23, e, aIg_b, Bool.true_eq_false, false_implies, true_and, Bool.not_false, true_implies]
  generalize htm : puts tm _ = tm1
  have e1 : tm1 40 = .sc (.bool true) := by rw [← htm]; simp [e]
  clear htm
  simp only [F9.k22, F9.t22, e1, pPick_b, if_true]
  exact dead47 H (by simp)
theorem dead33 (e : tm 33 = .sc (.bool true)) : F9.k25 W Q QP ⟨tm, []⟩ h := by
  simp only [F9.k25, F9.t25, e, aIg_b, Bool.true_eq_false, false_implies, true_and, Bool.not_false, true_implies]
  generalize htm : puts tm _ = tm1
  have e1 : tm1 33 = .sc (.bool true) := by rw [← htm]; simp [e]
  clear htm
  simp only [F9.k24, F9.t24, e1, pPick_b, if_true]
  exact dead40 H (by simp)
end
section
variable {W : Nat → Prop} {Q : Post} {QP : PPost} {tm : Nat → AV} {h : AH} {v8 v9 n i : Nat} {r s : Row} {a b x y : AV} {pl : Bool}
theorem st15 (t' : TH tm pl x y n i v8 v9) (h8 : h.obj v8 = some (mkO (encRA (r, a)) 6 36)) (h9 : h.obj v9 = some (mkO (encRA (s, b)) 6 36)) (ha : SlL Arg.enc 2 53 h a r.args) (hb : SlL Arg.enc 2 53 h b s.args) (e64 : tm 64 = .sc (.bool false))
    (hn : r.args.length ≠ s.args.length → ∀ tm', F9.k12 W Q QP ⟨tm', []⟩ h) (hk : r.args.length = s.args.length → ∀ tm', TH tm' pl x y n i v8 v9 → F9.k11 W Q QP ⟨tm', []⟩ h) : F9.k15 W Q QP ⟨tm, []⟩ h := by
  have la := (ha.len (K := fun _ => True)).1
  have la2 := fun K => (ha.len (K := K)).2
  have lb := (hb.len (K := fun _ => True)).1
  have lb2 := fun K => (hb.len (K := K)).2
  simp only [F9.k15, F9.t15, e64, aIg_b, true_implies, Bool.not_false, Bool.false_eq_true, false_implies, and_true, t'.e8, t'.e9, pFld_ptr, lLd_f, h8, h9, ldk_mk, Nat.zero_add, encRA, List.getElem?_cons_succ, List.getElem?_cons_zero, cellK_some, la, la2, lb, lb2, true_and, pBin_neq]
  generalize hc : ((r.args.length : Int) != (s.args.length : Int)) = c
  generalize htm : puts tm _ = tm1
  have t1 : TH tm1 pl x y n i v8 v9 := by rw [← htm]; exact t'.puts _ (by simp)
  have e1 : tm1 64 = .sc (.bool false) := by rw [← htm]; simp [e64]
  have e1' : tm1 71 = .sc (.bool c) := by rw [← htm]; simp
  clear htm
  simp only [F9.k14, F9.t14, e1, pPick_b, Bool.false_eq_true, if_false, e1']
  generalize htm : puts tm1 _ = tm2
  have t2 : TH tm2 pl x y n i v8 v9 := by rw [← htm]; exact t1.puts _ (by simp)
  have e2 : tm2 72 = .sc (.bool c) := by rw [← htm]; simp
  clear htm
  simp only [F9.k13, F9.t13, e2, aIf_b]
  refine ⟨fun hct => ?_, fun hcf => ?_⟩
  · subst hct
    have : ¬ (r.args.length : Int) = s.args.length := by simpa using hc
    exact hn (by omega) _
  · subst hcf
    have : (r.args.length : Int) = s.args.length := by simpa using hc
    exact hk (by omega) _ t2
variable (h8 : h.obj v8 = some (mkO (encRA (r, a)) 6 36)) (h9 : h.obj v9 = some (mkO (encRA (s, b)) 6 36))
include h8 h9
theorem st25 (t' : TH tm pl x y n i v8 v9) (e : tm 33 = .sc (.bool false)) (hn : r.name ≠ s.name → ∀ tm', F9.k12 W Q QP ⟨tm', []⟩ h)
    (hk : r.name = s.name → ∀ tm', TH tm' pl x y n i v8 v9 → tm' 40 = .sc (.bool false) → F9.k23 W Q QP ⟨tm', []⟩ h) : F9.k25 W Q QP ⟨tm, []⟩ h := by
  simp only [F9.k25, F9.t25, e, aIg_b, true_implies, Bool.not_false, Bool.false_eq_true, false_implies, and_true, t'.e8, t'.e9, pFld_ptr, lLd_f, h8, h9, ldk_mk, Nat.zero_add, encRA, List.getElem?_cons_succ, List.getElem?_cons_zero, cellK_some, pBin_sneq]
  generalize hc : (!decide (r.name = s.name)) = c
  generalize htm : puts tm _ = tm2
  have t2 : TH tm2 pl x y n i v8 v9 := by rw [← htm]; exact t'.puts _ (by simp)
  have e2 : tm2 33 = .sc (.bool false) := by rw [← htm]; simp [e]
  have e2' : tm2 38 = .sc (.bool c) := by rw [← htm]; simp
  clear htm
  simp only [F9.k24, F9.t24, e2, pPick_b, Bool.false_eq_true, if_false, e2']
  generalize htm : puts tm2 _ = tm3
  have t3 : TH tm3 pl x y n i v8 v9 := by rw [← htm]; exact t2.puts _ (by simp)
  have e3 : tm3 40 = .sc (.bool c) := by rw [← htm]; simp
  clear htm
  cases c with
  | true => exact dead40 (hn (by simpa using hc)) e3
  | false => exact hk (by simpa using hc) tm3 t3 e3
theorem st23 (t' : TH tm pl x y n i v8 v9) (e : tm 40 = .sc (.bool false)) (hn : r.num ≠ s.num → ∀ tm', F9.k12 W Q QP ⟨tm', []⟩ h)
    (hk : r.num = s.num → ∀ tm', TH tm' pl x y n i v8 v9 → tm' 47 = .sc (.bool false) → F9.k21 W Q QP ⟨tm', []⟩ h) : F9.k23 W Q QP ⟨tm, []⟩ h := by
  simp only [F9.k23, F9.t23, e, aIg_b, true_implies, Bool.not_false, Bool.false_eq_true, false_implies, and_true, t'.e8, t'.e9, pFld_ptr, lLd_f, h8, h9, ldk_mk, Nat.zero_add, encRA, List.getElem?_cons_succ, List.getElem?_cons_zero, cellK_some, pBin_neq]
  generalize hc : (r.num != s.num) = c
  generalize htm : puts tm _ = tm2
  have t2 : TH tm2 pl x y n i v8 v9 := by rw [← htm]; exact t'.puts _ (by simp)
  have e2 : tm2 40 = .sc (.bool false) := by rw [← htm]; simp [e]
  have e2' : tm2 45 = .sc (.bool c) := by rw [← htm]; simp
  clear htm
  simp only [F9.k22, F9.t22, e2, pPick_b, Bool.false_eq_true, if_false, e2']
  generalize htm : puts tm2 _ = tm3
  have t3 : TH tm3 pl x y n i v8 v9 := by rw [← htm]; exact t2.puts _ (by simp)
  have e3 : tm3 47 = .sc (.bool c) := by rw [← htm]; simp
  clear htm
  cases c with
  | true => exact dead47 (hn (by simpa using hc)) e3
  | false => exact hk (by simpa using hc) tm3 t3 e3
theorem st21 (t' : TH tm pl x y n i v8 v9) (e : tm 47 = .sc (.bool false)) (hn : r.rows ≠ s.rows → ∀ tm', F9.k12 W Q QP ⟨tm', []⟩ h)
    (hk : r.rows = s.rows → ∀ tm', TH tm' pl x y n i v8 v9 → tm' 54 = .sc (.bool false) → F9.k19 W Q QP ⟨tm', []⟩ h) : F9.k21 W Q QP ⟨tm, []⟩ h := by
  simp only [F9.k21, F9.t21, e, aIg_b, true_implies, Bool.not_false, Bool.false_eq_true, false_implies, and_true, t'.e8, t'.e9, pFld_ptr, lLd_f, h8, h9, ldk_mk, Nat.zero_add, encRA, List.getElem?_cons_succ, List.getElem?_cons_zero, cellK_some, pBin_neq]
  generalize hc : (r.rows != s.rows) = c
  generalize htm : puts tm _ = tm2
  have t2 : TH tm2 pl x y n i v8 v9 := by rw [← htm]; exact t'.puts _ (by simp)
  have e2 : tm2 47 = .sc (.bool false) := by rw [← htm]; simp [e]
  have e2' : tm2 52 = .sc (.bool c) := by rw [← htm]; simp
  clear htm
  simp only [F9.k20, F9.t20, e2, pPick_b, Bool.false_eq_true, if_false, e2']
  generalize htm : puts tm2 _ = tm3
  have t3 : TH tm3 pl x y n i v8 v9 := by rw [← htm]; exact t2.puts _ (by simp)
  have e3 : tm3 54 = .sc (.bool c) := by rw [← htm]; simp
  clear htm
  cases c with
  | true => exact dead54 (hn (by simpa using hc)) e3
  | false => exact hk (by simpa using hc) tm3 t3 e3
theorem st26 (t' : TH tm pl x y n i v8 v9) (hn : r.kind ≠ s.kind → ∀ tm', F9.k12 W Q QP ⟨tm', []⟩ h)
    (hk : r.kind = s.kind → ∀ tm', TH tm' pl x y n i v8 v9 → tm' 33 = .sc (.bool false) → F9.k25 W Q QP ⟨tm', []⟩ h) : F9.k26 W Q QP ⟨tm, []⟩ h := by
  simp only [F9.k26, F9.t26, t'.e8, t'.e9, pFld_ptr, lLd_f, h8, h9, ldk_mk, Nat.zero_add, encRA, List.getElem?_cons_succ, List.getElem?_cons_zero, cellK_some, pBin_sneq]
  generalize hc : (!decide (r.kind = s.kind)) = c
  generalize htm : puts tm _ = tm1
  have t1 : TH tm1 pl x y n i v8 v9 := by rw [← htm]; exact t'.puts _ (by simp)
  have e1 : tm1 33 = .sc (.bool c) := by rw [← htm]; simp
  clear htm
  cases c with
  | true => exact dead33 (hn (by simpa using hc)) e1
  | false => exact hk (by simpa using hc) tm1 t1 e1
theorem st19 (t' : TH tm pl x y n i v8 v9) (e : tm 54 = .sc (.bool false)) (hn : pl = true → r.place ≠ s.place → ∀ tm', F9.k12 W Q QP ⟨tm', []⟩ h)
    (hk : (pl = true → r.place = s.place) → ∀ tm', TH tm' pl x y n i v8 v9 → tm' 64 = .sc (.bool false) → F9.k15 W Q QP ⟨tm', []⟩ h) : F9.k19 W Q QP ⟨tm, []⟩ h := by
  simp only [F9.k19, F9.t19, e, aIg_b, true_implies, Bool.not_false, Bool.false_eq_true, false_implies, and_true, t'.t.e2]
  generalize htm : puts tm _ = tm8
  have t8 : TH tm8 pl x y n i v8 v9 := by rw [← htm]; exact t'.puts _ (by simp)
  have e8' : tm8 54 = .sc (.bool false) := by rw [← htm]; simp [e]
  have e8'' : tm8 56 = .sc (.bool pl) := by rw [← htm]; simp
  clear htm
  have last : ∀ tm9 c, TH tm9 pl x y n i v8 v9 → tm9 54 = .sc (.bool false) → tm9 56 = .sc (.bool pl) → (pl = true → tm9 61 = .sc (.bool c)) → (pl = true → c = (r.place != s.place)) → F9.k17 W Q QP ⟨tm9, []⟩ h := by
    intro tm9 c t9 e9a e9b e9c hc
    simp only [F9.k17, F9.t17, e9a, aIg_b, true_implies, Bool.not_false, Bool.false_eq_true, false_implies, and_true, e9b, pPick_b]
    generalize hd : (if pl = true then tm9 61 else AV.sc (.bool false)) = dv
    have hd' : dv = .sc (.bool (pl && (r.place != s.place))) := by
      rw [← hd]
      cases pl with
      | false => rfl
      | true => rw [if_pos rfl, e9c rfl, hc rfl]; rfl
    subst hd'
    clear hd
    generalize htm : puts tm9 _ = tm10
    have t10 : TH tm10 pl x y n i v8 v9 := by rw [← htm]; exact t9.puts _ (by simp)
    have e10a : tm10 54 = .sc (.bool false) := by rw [← htm]; simp [e9a]
    have e10b : tm10 62 = .sc (.bool (pl && (r.place != s.place))) := by rw [← htm]; simp
    clear htm
    simp only [F9.k16, F9.t16, e10a, pPick_b, Bool.false_eq_true, if_false, e10b]
    generalize hb : (pl && (r.place != s.place)) = bb
    generalize htm : puts tm10 _ = tm11
    have t11 : TH tm11 pl x y n i v8 v9 := by rw [← htm]; exact t10.puts _ (by simp)
    have e11 : tm11 64 = .sc (.bool bb) := by rw [← htm]; simp
    clear htm
    cases bb with
    | true =>
      rw [Bool.and_eq_true] at hb
      exact dead64 (hn hb.1 (by simpa using hb.2)) e11
    | false => exact hk (fun hp => by subst hp; simpa using hb) tm11 t11 e11
  cases pl with
  | false =>
    simp only [F9.k18, F9.t18, e8'', aIg_b, true_implies, Bool.not_true, Bool.false_eq_true, false_implies, and_true, true_and]
    generalize htm : puts tm8 _ = tm9
    have t9 : TH tm9 false x y n i v8 v9 := by rw [← htm]; exact t8.puts _ (by simp)
    have e9a : tm9 54 = .sc (.bool false) := by rw [← htm]; simp [e8']
    have e9b : tm9 56 = .sc (.bool false) := by rw [← htm]; simp [e8'']
    clear htm
    exact last tm9 false t9 e9a e9b (fun h => by cases h) (fun h => by cases h)
  | true =>
    simp only [F9.k18, F9.t18, e8'', aIg_b, true_implies, Bool.not_true, Bool.true_eq_false, false_implies, and_true, t8.e8, t8.e9, pFld_ptr, lLd_f, h8, h9, ldk_mk, Nat.zero_add, encRA, List.getElem?_cons_succ, List.getElem?_cons_zero, cellK_some, pBin_neq]
    generalize hc : (r.place != s.place) = c
    generalize htm : puts tm8 _ = tm9
    have t9 : TH tm9 true x y n i v8 v9 := by rw [← htm]; exact t8.puts _ (by simp)
    have e9a : tm9 54 = .sc (.bool false) := by rw [← htm]; simp [e8']
    have e9b : tm9 56 = .sc (.bool true) := by rw [← htm]; simp [e8'']
    have e9c : tm9 61 = .sc (.bool c) := by rw [← htm]; simp
    clear htm
    exact last tm9 c t9 e9a e9b (fun _ => e9c) (fun _ => hc.symm)
end
/-- Two rows' heads. -/
theorem F9_head {W : Nat → Prop} {Q : Post} {QP : PPost} {tm : Nat → AV} {h : AH} {v8 v9 n i : Nat} {r s : Row} {a b x y : AV} {pl : Bool} (t : TS tm pl x y n i) (e8 : tm 8 = .ptr v8 0) (e9 : tm 9 = .ptr v9 0)
    (h8 : h.obj v8 = some (mkO (encRA (r, a)) 6 36)) (h9 : h.obj v9 = some (mkO (encRA (s, b)) 6 36)) (ha : SlL Arg.enc 2 53 h a r.args) (hb : SlL Arg.enc 2 53 h b s.args)
    (hF : headEq pl r s = false → ∀ tm', tm' 6 = .sc (.bool false) → Q .ret ⟨tm', []⟩ h)
    (hT : headEq pl r s = true → ∀ tm', TS tm' pl x y n i → tm' 8 = .ptr v8 0 → tm' 9 = .ptr v9 0 → F9.k11 W Q QP ⟨tm', []⟩ h) :
    F9.k26 W Q QP ⟨tm, []⟩ h := by
  have bad : headEq pl r s = false → ∀ tm', F9.k12 W Q QP ⟨tm', []⟩ h := fun hh tm' => by
    simp only [F9.k12, F9.t12]
    exact hF hh _ (by simp)
  refine st26 h8 h9 ⟨t, e8, e9⟩ (fun c => bad (by simp [headEq, c])) fun c1 tm1 t1 g1 => ?_
  refine st25 h8 h9 t1 g1 (fun c => bad (by simp [headEq, c])) fun c2 tm2 t2 g2 => ?_
  refine st23 h8 h9 t2 g2 (fun c => bad (by simp [headEq, c])) fun c3 tm3 t3 g3 => ?_
  refine st21 h8 h9 t3 g3 (fun c => bad (by simp [headEq, c])) fun c4 tm4 t4 g4 => ?_
  refine st19 h8 h9 t4 g4 (fun c c' => bad (by simp [headEq, c, c'])) fun c5 tm5 t5 g5 => ?_
  refine st15 t5 h8 h9 ha hb g5 (fun c => bad (by simp [headEq, c])) fun c6 tm6 t6 => ?_
  refine hT ?_ tm6 t6.t t6.e8 t6.e9
  simp only [headEq, c1, c2, c3, c4, c6, decide_true, beq_self_eq_true, Bool.and_true, Bool.true_and]
  cases pl with
  | false => rfl
  | true => simp [c5 rfl]
theorem same_ok {x y : AV} {A B : List Row} {pl : Bool} {h : AH} {M : Nat → Prop} {R : AE → AH → Prop} (hA : RowsAt h x A) (hB : RowsAt h y B) (nA : A.length ≤ 1000000000) (gA : ∀ r ∈ A, r.args.length ≤ 1000000000)
    (hR : ∀ h', Fr h h' (fun _ => False) → R (.ret (.sc (.bool (sameL pl A B)))) h') : ACalls Try.prog 9 [x, y, .sc (.bool pl)] h M R := by
  apply F9.calls
  have lA := hA.len
  have lB := hB.len
  simp only [F9.k36, F9.t36, F9.k35, F9.t35]
  by_cases hlen : A.length = B.length
  rotate_left
  · have hne : ((A.length : Int) != B.length) = true := by simp; omega
    have hs : sameL pl A B = false := by simp [sameL, hlen]
    rw [hs] at hR
    have := hR h Fr.refl
    simp [-F9.k32, lA.1, lA.2, lB.1, lB.2, hne]
    exact this
  have hs : sameL pl A B = eqRows pl A B := by simp [sameL, hlen]
  rw [hs] at hR
  simp [-F9.k31, lA.1, lA.2, lB.1, lB.2, hlen]
  generalize htm : upd _ _ _ = tm
  have t0 : TS tm pl x y A.length 0 := ⟨by rw [← htm]; simp, by rw [← htm]; simp, by rw [← htm]; simp, by rw [← htm]; simp [hlen], by rw [← htm]; simp⟩
  clear htm
  obtain ⟨l, l1, l2, l3⟩ := hA
  obtain ⟨m, m1, m2, m3⟩ := hB
  have ll : l.length = A.length := by rw [← l2]; simp
  have ml : m.length = B.length := by rw [← m2]; simp
  unfold F9.k31
  refine aLoop_of (ι := Nat) (fun i s' h' => s'.ds = [] ∧ Fr h h' (fun _ => False) ∧ i ≤ A.length ∧ TS s'.tm pl x y A.length i ∧ eqRows pl (A.drop i) (B.drop i) = eqRows pl A B) (fun i => A.length - i) 0 ?_ ?_
  · exact ⟨rfl, Fr.refl, by omega, t0, rfl⟩
  rintro i ⟨tm', ds⟩ h' ⟨rfl, hf, hi, t, heq⟩
  simp only at t
  rw [F9.l1]
  simp only [F9.k30, F9.t30, t.e18, t.e19, pBin_lss]
  by_cases hlt : i < A.length
  · have hli : (i : Int) < A.length := by omega
    rw [decide_eq_true hli]
    have t1 := t.puts [(20, .sc (.bool true))] (by simp)
    have e20 : puts tm' [(20, .sc (.bool true))] 20 = .sc (.bool true) := by simp
    generalize puts tm' [(20, .sc (.bool true))] = tm1 at *
    simp only [F9.k29, F9.t29, e20, aIf_b, true_implies, Bool.true_eq_false, false_implies, and_true]
    have hlt2 : i < B.length := by omega
    have hll : i < l.length := by omega
    have hml : i < m.length := by omega
    have ga : A[i] = l[i].1 := by subst l2; simp
    have gb : B[i] = m[i].1 := by subst m2; simp
    rw [List.drop_eq_getElem_cons hlt, List.drop_eq_getElem_cons hlt2, ga, gb] at heq
    have hbig : l[i].1.args.length ≤ 1000000000 := by rw [← ga]; exact gA _ (List.getElem_mem hlt)
    have sa := args_keep (l3 _ (List.getElem_mem hll)) hf (fun _ _ _ _ h => h)
    have sb := args_keep (m3 _ (List.getElem_mem hml)) hf (fun _ _ _ _ h => h)
    have g1 : l[i]? = some l[i] := List.getElem?_eq_getElem hll
    have g2 : m[i]? = some m[i] := List.getElem?_eq_getElem hml
    rcases l1 with ⟨_, hn⟩ | ⟨ia, rfl, oa⟩
    · rw [hn] at hll; simp at hll
    rcases m1 with ⟨_, hn⟩ | ⟨ib, rfl, ob⟩
    · rw [hn] at hml; simp at hml
    have d1 := flat_drop encRA_len _ _ _ g1
    have d2 := flat_drop encRA_len _ _ _ g2
    have hl1 : i * 6 + 6 ≤ (l.flatMap encRA).length := by rw [flat_len encRA_len]; omega
    have hl2 : i * 6 + 6 ≤ (m.flatMap encRA).length := by rw [flat_len encRA_len]; omega
    generalize l[i] = ra at *
    generalize m[i] = sb' at *
    obtain ⟨r, av⟩ := ra
    obtain ⟨s, bv⟩ := sb'
    simp only at heq hbig sa sb
    have oa' := hf.obj oa (fun h => h)
    have ob' := hf.obj ob (fun h => h)
    have hone : ∀ (z : Row × AV), SlL Arg.enc 2 53 h' z.2 z.1.args → (encRA z).all oneA = true := by
      rintro ⟨z1, z2⟩ hz
      rcases hz with ⟨h4, _⟩ | ⟨id, h4, _⟩ <;> (simp only at h4; subst h4; rfl)
    simp only [F9.k28, F9.t28, t1.e17, t1.e19, pIxA_sl, lLdn_f, oa', ldnk_mk, Nat.zero_add, Int.toNat_natCast]
    refine ⟨⟨by omega, by omega⟩, hl1, ?_⟩
    rw [d1]
    simp only [eAlloc_d]
    refine ⟨rfl, ?_⟩
    have hv := AH.alloc_new h' (mkO ([.string ⟨#[]⟩, .string ⟨#[]⟩, .slice none 0 0, .int .i64 0, .int .i64 0, .int .i64 0].map AV.sc) 6 36)
    simp only [eStore_f, hv, avC_agg, stk_mk]
    refine ⟨⟨.inr hf.next, hone (r, av) sa, rfl, by simp [encRA]⟩, ?_⟩
    have g : Fr h' ((h'.alloc (mkO ([.string ⟨#[]⟩, .string ⟨#[]⟩, .slice none 0 0, .int .i64 0, .int .i64 0, .int .i64 0].map AV.sc) 6 36)).put h'.next 0 (encRA (r, av))) (fun _ => False) := (Fr.refl.alloc _).put (.inr (Nat.le_refl _))
    have ov : ((h'.alloc (mkO ([.string ⟨#[]⟩, .string ⟨#[]⟩, .slice none 0 0, .int .i64 0, .int .i64 0, .int .i64 0].map AV.sc) 6 36)).put h'.next 0 (encRA (r, av))).obj h'.next = some (mkO (encRA (r, av)) 6 36) := by rw [put_row hv]; rfl
    have hf2 := hf.trans (g.mono fun _ h => h.elim)
    have ob2 := g.obj ob' (fun h => h)
    have sa2 := args_keep sa g (fun _ _ _ _ h => h)
    have sb2 := args_keep sb g (fun _ _ _ _ h => h)
    generalize (h'.alloc (mkO ([.string ⟨#[]⟩, .string ⟨#[]⟩, .slice none 0 0, .int .i64 0, .int .i64 0, .int .i64 0].map AV.sc) 6 36)).put h'.next 0 (encRA (r, av)) = h2 at *
    generalize h'.next = v8 at *
    generalize htm : puts tm1 _ = tm2
    have t2 : TS tm2 pl (.sl ia 0 l.length) (.sl ib 0 m.length) A.length i := by rw [← htm]; exact t1.puts _ (by simp)
    have e8 : tm2 8 = .ptr v8 0 := by rw [← htm]; simp
    have e7 : tm2 7 = .sc (.int .i64 i) := by rw [← htm]; simp
    clear htm
    simp only [F9.k27, F9.t27, t2.e1, e7, pIxA_sl, lLdn_f, ob2, ldnk_mk, Nat.zero_add, Int.toNat_natCast]
    refine ⟨⟨by omega, by omega⟩, hl2, ?_⟩
    rw [d2]
    simp only [eAlloc_d]
    refine ⟨rfl, ?_⟩
    have hv := AH.alloc_new h2 (mkO ([.string ⟨#[]⟩, .string ⟨#[]⟩, .slice none 0 0, .int .i64 0, .int .i64 0, .int .i64 0].map AV.sc) 6 36)
    simp only [eStore_f, hv, avC_agg, stk_mk]
    refine ⟨⟨.inr hf2.next, hone (s, bv) sb, rfl, by simp [encRA]⟩, ?_⟩
    have g3 : Fr h2 ((h2.alloc (mkO ([.string ⟨#[]⟩, .string ⟨#[]⟩, .slice none 0 0, .int .i64 0, .int .i64 0, .int .i64 0].map AV.sc) 6 36)).put h2.next 0 (encRA (s, bv))) (fun _ => False) := (Fr.refl.alloc _).put (.inr (Nat.le_refl _))
    have ov9 : ((h2.alloc (mkO ([.string ⟨#[]⟩, .string ⟨#[]⟩, .slice none 0 0, .int .i64 0, .int .i64 0, .int .i64 0].map AV.sc) 6 36)).put h2.next 0 (encRA (s, bv))).obj h2.next = some (mkO (encRA (s, bv)) 6 36) := by rw [put_row hv]; rfl
    have hf3 := hf2.trans (g3.mono fun _ h => h.elim)
    have ov8 := g3.obj ov (fun h => h)
    have sa3 := args_keep sa2 g3 (fun _ _ _ _ h => h)
    have sb3 := args_keep sb2 g3 (fun _ _ _ _ h => h)
    generalize (h2.alloc (mkO ([.string ⟨#[]⟩, .string ⟨#[]⟩, .slice none 0 0, .int .i64 0, .int .i64 0, .int .i64 0].map AV.sc) 6 36)).put h2.next 0 (encRA (s, bv)) = h3 at *
    generalize h2.next = v9 at *
    generalize htm : puts tm2 _ = tm3
    have t3 : TS tm3 pl (.sl ia 0 l.length) (.sl ib 0 m.length) A.length i := by rw [← htm]; exact t2.puts _ (by simp)
    have e8 : tm3 8 = .ptr v8 0 := by rw [← htm]; simp [e8]
    have e9 : tm3 9 = .ptr v9 0 := by rw [← htm]; simp
    clear htm
    refine F9_head t3 e8 e9 ov8 ov9 sa3 sb3 ?_ ?_
    · intro hh tm4 e6
      have : eqRows pl A B = false := by rw [← heq]; simp [eqRows, rowEq, hh]
      rw [this] at hR
      have := hR h3 hf3
      simp [e6]
      exact this
    intro hh tm4 t4 e8 e9
    have hal : r.args.length = s.args.length := by
      simp only [headEq, Bool.and_eq_true, beq_iff_eq] at hh
      exact hh.2.2.2.2.2
    refine F9_args (fun id hid => .inr (Nat.le_trans hf3.next hid)) e8 e9 ov8 ov9 sa3 sb3 hal hbig ?_ ?_
    · intro hh2 tm5 h5 f5 e6
      have : eqRows pl A B = false := by rw [← heq]; simp [eqRows, rowEq, hh2]
      rw [this] at hR
      have := hR h5 (hf3.trans (f5.mono fun _ h => h.elim))
      simp [e6]
      exact this
    · intro hh2 tm5 h5 f5 hsame
      have hw : IntKind.i64.wrap ((i : Int) + 1) = ((i + 1 : Nat) : Int) := by rw [wrap_in (by omega) (by omega)]; simp
      have e19 : tm5 19 = .sc (.int .i64 i) := by rw [hsame 19 (by simp)]; exact t4.e19
      simp only [F9.k2, F9.t2, e19, pBin_add, hw]
      refine ⟨i + 1, by omega, rfl, hf3.trans (f5.mono fun _ h => h.elim), by omega, ⟨?_, ?_, ?_, ?_, ?_⟩, ?_⟩
      · simp [hsame 1 (by simp), t4.e1]
      · simp [hsame 2 (by simp), t4.e2]
      · simp [hsame 17 (by simp), t4.e17]
      · simp [hsame 18 (by simp), t4.e18]
      · simp
      · rw [← heq]; simp [eqRows, rowEq, hh, hh2]
  · have hd : A.drop i = [] := List.drop_eq_nil_of_le (by omega)
    rw [hd] at heq
    have hr : eqRows pl A B = true := by rw [← heq]; simp [eqRows]
    rw [hr] at hR
    have := hR h' hf
    have hnl : ¬ (i : Int) < A.length := by omega
    rw [decide_eq_false hnl]
    have e20 : puts tm' [(20, .sc (.bool false))] 20 = .sc (.bool false) := by simp
    generalize puts tm' [(20, .sc (.bool false))] = tm1 at *
    simp only [F9.k29, F9.t29, e20, aIf_b, Bool.false_eq_true, false_implies, true_and, true_implies]
    simp only [thenQ, blockQ, if_true, F9.k1, F9.t1]
    simp
    exact this
end Go.Proofs.Ythkkgbmjjpcfaaa

namespace Go.Proofs.Ythkkgbmjjpcfaaa
open Go.Ab
theorem texts_ok {s : ByteArray} {h : AH} {M : Nat → Prop} {R : AE → AH → Prop} (hR : ∀ h', R (.ret (.sc (.bool true))) h') : ACalls Try.prog 3 [.sc (.string s)] h M R := by
  apply F3.calls
  simp only [F3.k12, F3.t12, F3.k11, F3.t11]
  refine ⟨fun _ => False, fun _ h => h.elim, awake_ok ?_⟩
  intro h1 f1
  simp [-F3.k8]
  simp only [F3.k8, F3.t8]
  refine ⟨fun _ => False, fun _ h => h.elim, parse_r ?_⟩
  unfold ParseR
  cases hp : parseP s with
  | error e =>
    intro h2 f2
    simp [-F3.k7]
    simp only [F3.k7, F3.t7]
    refine ⟨fun _ => False, fun _ h => h.elim, parse_ok ?_⟩
    unfold ParseR
    rw [hp]
    intro h3 f3
    simp [-F3.k6]
    simp only [F3.k6, F3.t6]
    refine ⟨fun _ => False, fun _ h => h.elim, same_ok (A := []) (B := []) .nil .nil (by simp) (by simp) ?_⟩
    intro h4 f4
    rw [sameL_self]
    simp
    exact hR _
  | ok rows =>
    obtain ⟨n1, n2⟩ := parseP_size hp
    intro x h2 hx ix f2
    simp [-F3.k7]
    simp only [F3.k7, F3.t7]
    refine ⟨fun _ => False, fun _ h => h.elim, parse_ok ?_⟩
    unfold ParseR
    rw [hp]
    intro y h3 hy iy f3
    have hx3 : RowsAt h3 x rows := hx.fr f3 (fun _ _ h => h) (fun _ _ _ _ h => h)
    simp [-F3.k6]
    simp only [F3.k6, F3.t6]
    refine ⟨fun _ => False, fun _ h => h.elim, same_ok hy hx3 (by omega) (fun r hr => by have := n2 r hr; omega) ?_⟩
    intro h4 f4
    rw [sameL_self]
    simp
    exact hR _
end Go.Proofs.Ythkkgbmjjpcfaaa

namespace Go.Ab
open Go.RowKit
/-- An empty table. -/
def AH.empty : AH := ⟨fun _ => none, 0, fun _ _ h => by cases h⟩
theorem Rel.empty (w : World) : Rel (fun _ => none) AH.empty w := ⟨fun _ _ h => (by cases h), fun _ _ _ _ _ _ h => (by cases h), fun _ _ => rfl⟩
theorem Step.below {E E' : Env} {h h' : AH} {w w' : World} (s : Step E h (fun _ => False) w E' h' w') : Below w.heap.size w w' := ⟨s.os, s.tape, s.output, s.size, fun b hb => s.frame b hb fun _ _ hm => hm.elim⟩
/-- A law whose call answers true, whatever it is given. -/
theorem law_calls {P : Program} {f : FuncId} {args : List AV} {cargs : List Value} (hc : ACalls P f args AH.empty (fun _ => False) (fun ae _ => ae = .ret (.sc (.bool true)))) (ha : VRs (fun _ => none) args cargs) (w : World) :
    Calls P f cargs.toArray w fun e w' => e = .returned (.bool true) ∧ Below w.heap.size w w' := by
  refine (hc _ w cargs (Rel.empty w) ha).mono ?_
  rintro e w' ⟨E', h', ae, hs, he, rfl⟩
  refine ⟨?_, hs.below⟩
  cases e <;> first | exact he.elim | skip
  cases he
  rfl
end Go.Ab
namespace Go.Proofs.Ythkkgbmjjpcfaaa
open Go.ChangeShapes Go.WideShapes Go.ChangeAt Go.RowKit Go.ChangeMaps
section
variable {H : Type} {enc : TypeId × Value → H} {P : Program}
theorem post_of_below {f : Func} {s : ChangeSpec} {apart fresh handsOn again : Bool} {W W' : World} {args : Array Value} {v : Value} {ds gs : List (DataW H)} {before pa pv : List MemPlace}
    (hW : DataW.Whole enc P f.params.toList s.vars apart W args.toList ds gs before)
    (hres : ∀ (b : Nat) (sp : Nat → Bool) (hd : Bool), DataW.TrodAll enc P W' b sp hd f.resultTypes.toList (v.resultList f.resultTypes.size) (s.fn H (ds ++ gs)).results [])
    (hargs : ∀ sp : Nat → Bool, (∀ p ∈ before, sp p.block = true) → DataW.TrodAll enc P W' 0 sp true f.params.toList args.toList (s.fn H (ds ++ gs)).args pa)
    (hvars : ∀ sp : Nat → Bool, (∀ p ∈ before, sp p.block = true) → DataW.TrodVars enc P W' sp s.vars (s.fn H (ds ++ gs)).vars pv)
    (hps : before = pa ++ pv) (hb : Below W.heap.size W W')
    (hok : ∀ (j : Nat) (t : TypeId) (r : Value), f.resultTypes[j]? = some t → (v.resultList f.resultTypes.size)[j]? = some r → Value.okWide P W' .any 0 t r) :
    s.post enc P f apart fresh handsOn again W args v W' := by
  have hlt : ∀ p ∈ before, p.block < W.heap.size := fun p hp => hW.lt p hp
  have hold : ∀ p ∈ before, (fun b => decide (b < W.heap.size)) p.block = true := fun p hp => by simpa using hlt p hp
  refine ⟨ds, gs, before, [], pa, pv, hW, hres _ _ _, hargs _ hold, hvars _ hold, World.keptBut_mono (fun p hp => ⟨hp, ?_⟩) (hb.frame (· ∈ before)), fun _ => ?_⟩
  · rw [hps, List.mem_append] at hp
    exact Or.inr hp
  · obtain ⟨_, _, _, _, _, hz, hn⟩ := hW
    refine ⟨hok, _, _, ([] ++ pa) ++ pv, ⟨[] ++ pa, pv, trodAll_append (hargs _ (fun _ _ => rfl)) (hres _ _ _), hvars _ (fun _ _ => rfl), rfl, ?_, ?_⟩, ?_⟩
    · intro b off hp
      have hin : MemPlace.cell b off ∈ before := by rw [hps]; simpa using hp
      rw [hb.frozen (hlt _ hin)]
      exact hz b off hin
    · intro ha
      have := hn ha
      rw [hps] at this
      simpa using this
    · intro p hp _
      rw [hps]
      simpa using hp
end
theorem Try.own : ownKnob Try.prog.godebug = none := by kernel_rfl
theorem Try.laidOut : laidOutB Try.prog = true := by kernel_rfl
end Go.Proofs.Ythkkgbmjjpcfaaa

namespace Go.Proofs.Ythkkgbmjjpcfaaa
open Go.ChangeShapes Go.WideShapes Go.ChangeAt Go.RowKit Go.ChangeMaps
theorem texts_any (s : ByteArray) (w : World) : Calls Try.prog 3 #[.string s] w fun e w' => e = .returned (.bool true) ∧ Below w.heap.size w w' :=
  Go.Ab.law_calls (texts_ok fun _ => rfl) (.cons (.sc _) .nil) w
set_option maxRecDepth 100000 in
theorem texts_lifted (os : Os) (started : os.Started) (H : Type) (enc : TypeId × Value → H) :
    ReturnsInHanded {} Try.checked os 3 .any (Rows.parseTextsSpec.pre6 enc Try.prog Try.f3 Rows.parseTextsRow.domain false) (Rows.parseTextsSpec.post enc Try.prog Try.f3 false true false false) := by
  refine returnsInHanded_of_change (C := Try.checked) Try.own started (by kernel_rfl) Try.func3
    (ChangeSpec.witness6 (enc := enc) (C := Try.checked) false ⟨#[], #[.string ⟨#[]⟩], []⟩ 8 (by kernel_rfl) (by kernel_rfl) (by kernel_rfl) (by kernel_rfl)) ?_
  intro W base args ds gs before hval0 hW hcnd _
  have hval : ∀ (j : Nat) t v, Try.f3.params[j]? = some t → args[j]? = some v → Value.okWide Try.prog W .any base t v := hval0
  have hW' := hW
  obtain ⟨p, q, hA0, hV, rfl, hfz, hnd⟩ := hW
  have hA : DataW.TrodAll enc Try.prog W 0 (fun _ => true) true Try.f3.params.toList args.toList ds p := hA0
  rw [Try.params3] at hA hval
  obtain ⟨v0, d0, rfl, rfl, h0⟩ := trodAll_one hA
  obtain ⟨rfl, rfl⟩ := trodVars_none hV
  obtain ⟨a, rfl, rfl, rfl, wa⟩ := open_string Try.underlying9 (hval 0 9 v0 rfl rfl) h0
  clear hA0 hval0
  simp only [List.append_nil] at hW'
  refine (texts_any a W).mono fun e W' ⟨he, hb⟩ => ?_
  subst he
  exact ⟨_, rfl, post_of_below (pa := []) (pv := []) hW' (fun _ _ _ => trodAll_mk1 (shut_bool Try.underlying4 true)) (fun sp _ => trodAll_mk1 (shut_string Try.underlying9 wa)) (fun _ _ => rfl) rfl hb (ok_one (by kernel_rfl) rfl (okWide_bool_mk Try.underlying4 true))⟩
theorem texts_holds : Rows.ParseTextsSaid :=
  OpenClaim.holds_of_wide 3 Try.f3 rfl rfl rfl rfl rfl rfl rfl ⟨rfl, rfl, rfl, rfl, rfl⟩ rfl rfl rfl rfl rfl (by kernel_rfl) Try.func3 (by kernel_rfl)
    (of_decide_eq_true (by kernel_rfl)) (by unfold Func.isWrapper; first | (rw [if_pos (by decide +kernel)]; kernel_rfl) | (rw [if_neg (by decide +kernel)]; exact ⟨rfl, rfl⟩))
    (fun os started H enc _ => texts_lifted os started H enc)
end Go.Proofs.Ythkkgbmjjpcfaaa

/- ParseBack answers true for every text and every table of rows of the bulk that the statement names. No condition. -/
import Derived.Test.YthkkgbmjjpcfaaaDoorRows
import Derived.Deep.SlicePairs
import Derived.Lib.LaidTab
import Derived.ProofKit
import Derived.Below
import Derived.ChangeSame
import Derived.ChangeMaps5
import Derived.Test.YthkkgbmjjpcfaaaDoorCards
import Derived.Test.YthkkgbmjjpcfaaaDoorTie
import Derived.WalkKit
import Derived.OpenShut
import Derived.WideKeyArgs
import Derived.SevenTiedAt
import Derived.Stop.LaidErr
import Derived.Deep.DeepHandedRow
import Derived.Test.YthkkgbmjjpcfaaaDoorSc
set_option maxRecDepth 100000
namespace Go.Proofs.YthkkgbmjjpcfaaaDoor
open Go.Ab Go.Deep Go.ChangeShapes Go.WideShapes
instance : Inhabited Arg := ⟨⟨⟨#[]⟩, 0⟩⟩
instance : Inhabited Row := ⟨⟨⟨#[]⟩, ⟨#[]⟩, [], 0, 0, 0⟩⟩
theorem bulk_map {H : Type} {R : List Nat} {f : Nat → Nat} {D : Nat → DataW H} (h : ∀ i ∈ R, f i ≤ 8 * Rows.uptoBulk (D i)) : (R.map f).sum ≤ 8 * Rows.uptoBulkAll (R.map D) := by
  induction R with
  | nil => simp
  | cons a R ih =>
    have h1 := h a (by simp)
    have h2 := ih fun i hi => h i (by simp [hi])
    simp only [List.map_cons, List.sum_cons, Rows.uptoBulkAll]
    omega
def AtC (E : Env) (W : World) (b o : Nat) (cs : List AV) : Prop := ∃ arr T fz, W.heap[b]? = some (.cells arr T fz) ∧ CRb E o cs arr
theorem cell_arr {W : World} {b o : Nat} {v : Value} (h : W.cell? ⟨b, o, none⟩ = some v) : ∃ arr T fz, W.heap[b]? = some (.cells arr T fz) ∧ arr[o]? = some v := by
  unfold World.cell? at h
  split at h
  · rename_i c T fz hc
    simp at h
    exact ⟨c, T, fz, hc, h⟩
  · cases h
theorem atC_of {α : Type} {E : Env} {W : World} {b o sz : Nat} {f : α → List AV} {l : List α} (hf : ∀ y, (f y).length = sz) (hs : 0 < sz) (hl : l ≠ [])
    (h : ∀ q y, l[q]? = some y → ∀ j, j < sz → ∃ v c, W.cell? ⟨b, o + (q * sz + j), none⟩ = some v ∧ (f y)[j]? = some c ∧ VR E c v ∧ v.oneCell' = true) : AtC E W b o (l.flatMap f) := by
  have hpos : 0 < l.length := List.length_pos_iff.2 hl
  obtain ⟨v0, _, h0, _⟩ := h 0 l[0] (List.getElem?_eq_getElem hpos) 0 hs
  obtain ⟨arr, T, fz, hb, _⟩ := cell_arr h0
  refine ⟨arr, T, fz, hb, fun i c hi => ?_⟩
  have hil : i < l.length * sz := by rw [← flat_len hf l]; exact (List.getElem?_eq_some_iff.1 hi).1
  have hq : i / sz < l.length := Nat.div_lt_of_lt_mul (by rw [Nat.mul_comm]; exact hil)
  have hj : i % sz < sz := Nat.mod_lt _ hs
  have he : i / sz * sz + i % sz = i := by rw [Nat.mul_comm]; exact Nat.div_add_mod i sz
  obtain ⟨v, c', h1, h2, h3, h4⟩ := h (i / sz) l[i / sz] (List.getElem?_eq_getElem hq) (i % sz) hj
  have hg := flat_get hf l (i / sz) (i % sz) hj
  rw [he, List.getElem?_eq_getElem hq] at hg
  rw [hg] at hi
  simp only [Option.bind_some] at hi
  rw [h2] at hi
  cases hi
  obtain ⟨arr', T', fz', hb', ha⟩ := cell_arr h1
  rw [hb] at hb'; cases hb'
  rw [he] at ha
  exact ⟨v, ha, h3, h4⟩
section
variable {H : Type} {enc : TypeId × Value → H} {W : World}
def ArgsIn (W : World) (v : Value) (l : List Arg) : Prop :=
  (∃ a c, v = .slice a 0 c ∧ l = []) ∨ ∃ b o cap, v = .slice (some ⟨b, o, none⟩) l.length cap ∧ l.length ≤ cap ∧ cap ≤ maxLen ∧ l ≠ [] ∧ ∀ E, AtC E W b o (l.flatMap Arg.enc)
theorem args_open {fuel : Nat} {cs : List Value} {x : DataW H × List MemPlace} (h : DataW.trod enc Tryd.prog W 0 (fun _ => true) true fuel 37 cs = some x) :
    ∃ v l, cs = [v] ∧ ArgsIn W v l ∧ (∃ a len cap, v = .slice a len cap) ∧ argsW l + 1 ≤ 8 * Rows.uptoBulk x.1 := by
  rcases open_slice_pairs Tryd.underlying37 Tryd.underlying41 (by kernel_rfl) rfl rfl (by kernel_rfl) (by kernel_rfl) h with ⟨rfl, rfl⟩ | ⟨a, len, cap, m, n, V0, V1, D0, D1, P0, P1, rfl, hb, hl, hm, hmm, rfl, hx⟩
  · exact ⟨_, [], rfl, .inl ⟨none, 0, rfl, rfl⟩, ⟨_, _, _, rfl⟩, by simp [argsW, Rows.uptoBulk]⟩
  · simp only [if_true] at hmm
    subst hmm
    have each : ∀ i, i < len → ∃ g : Arg, V0 i = .string g.name ∧ V1 i = .int .i64 g.index ∧ g.name.size + 8 ≤ 8 * Rows.uptoBulk (DataW.agg [D0 i, D1 i]) := by
      intro i hi
      obtain ⟨_, _, t0, t1⟩ := hx i (by omega)
      obtain ⟨s, h1, h2, _⟩ := DataW.trod_string Tryd.underlying9 t0
      obtain ⟨z, h3, h4, _⟩ := DataW.trod_int Tryd.underlying3 t1
      simp only [Prod.mk.injEq] at h2 h4
      refine ⟨⟨s, z⟩, by simpa using h1, by simpa using h3, ?_⟩
      rw [h2.1, h4.1]
      simp only [Rows.uptoBulk, Rows.uptoBulkAll]
      have : s.data.toList.length = s.size := rfl
      omega
    obtain ⟨g, hg⟩ := choose_lt (α := Arg) each
    have hsum : argsW ((List.range len).map g) ≤ 8 * Rows.uptoBulkAll ((List.range len).map fun i => DataW.agg [D0 i, D1 i]) := by
      unfold argsW
      rw [List.map_map]
      exact bulk_map fun i hi => (hg i (List.mem_range.1 hi)).2.2
    have hbk : argsW ((List.range len).map g) + 1 ≤ 8 * Rows.uptoBulk (DataW.slice ((List.range len).map fun i => DataW.agg [D0 i, D1 i]) ((List.range (m - len)).map fun j => DataW.agg [D0 (len + j), D1 (len + j)])) := by
      simp only [Rows.uptoBulk]; omega
    refine ⟨_, (List.range len).map g, rfl, ?_, ⟨_, _, _, rfl⟩, hbk⟩
    by_cases h0 : len = 0
    · subst h0
      exact .inl ⟨_, _, rfl, rfl⟩
    · right
      obtain ⟨b, o, spot⟩ := a
      have c0 := (hx 0 (by omega)).1
      have hspot : spot = none := by simpa [Addr.add] using World.cell?_spot c0
      subst hspot
      refine ⟨b, o, m, by rw [List.length_map, List.length_range], by rw [List.length_map, List.length_range]; exact hl, hm, fun e => h0 (by have := congrArg List.length e; simpa using this), fun E => ?_⟩
      refine atC_of (sz := 2) Arg.enc_len (by omega) (fun e => h0 (by have := congrArg List.length e; simpa using this)) fun q y hq j hj => ?_
      rw [List.getElem?_map] at hq
      obtain ⟨q', hq', rfl⟩ := Option.map_eq_some_iff.1 hq
      have hql : q < len := by have := (List.getElem?_eq_some_iff.1 hq').1; simpa using this
      have hqe : q' = q := by rw [List.getElem?_range hql] at hq'; exact (Option.some.inj hq').symm
      subst hqe
      obtain ⟨a0, a1, _, _⟩ := hx q' (by omega)
      rw [add_plain] at a0
      obtain ⟨g1, g2, _⟩ := hg q' hql
      match j, hj with
      | 0, _ => exact ⟨_, _, by rw [Nat.add_zero]; rw [g1] at a0; exact a0, rfl, .sc _, rfl⟩
      | 1, _ => exact ⟨_, _, by rw [add_plain] at a1; rw [g2] at a1; exact a1, rfl, .sc _, rfl⟩
end
end Go.Proofs.YthkkgbmjjpcfaaaDoor
namespace Go.Proofs.YthkkgbmjjpcfaaaDoor
open Go.Ab Go.Deep Go.ChangeShapes Go.WideShapes
section
variable {H : Type} {enc : TypeId × Value → H} {W : World}
def cellsOfRow (y : Row × Value) : List Value := [.string y.1.kind, .string y.1.name, y.2, .int .i64 y.1.num, .int .i64 y.1.rows, .int .i64 y.1.place]
def RowsIn (W : World) (v : Value) (l : List (Row × Value)) : Prop :=
  (∀ y ∈ l, ArgsIn W y.2 y.1.args ∧ ∃ a len cap, y.2 = .slice a len cap) ∧
  ((∃ a c, v = .slice a 0 c ∧ l = []) ∨ ∃ b o cap, v = .slice (some ⟨b, o, none⟩) l.length cap ∧ l.length ≤ cap ∧ cap ≤ maxLen ∧ l ≠ [] ∧ ∀ q y, l[q]? = some y → ∀ j v, (cellsOfRow y)[j]? = some v → W.cell? ⟨b, o + (q * 6 + j), none⟩ = some v)
theorem row_open {fuel : Nat} {cs : List Value} {x : DataW H × List MemPlace} (h : DataW.trod enc Tryd.prog W 0 (fun _ => true) true fuel 39 cs = some x) :
    ∃ y : Row × Value, cs = cellsOfRow y ∧ ArgsIn W y.2 y.1.args ∧ (∃ a len cap, y.2 = .slice a len cap) ∧ rowW y.1 ≤ 8 * Rows.uptoBulk x.1 := by
  obtain ⟨xs, n, _, rfl, hl, hxl, hf⟩ := DataW.trod_struct Tryd.underlying39 h
  rw [show Tryd.prog.cellsOf 39 = 6 by kernel_rfl] at hl
  match cs, hl, xs, hxl with
  | [c0, c1, c2, c3, c4, c5], _, [y0, y1, y2, y3, y4, y5], _ =>
    have t0 := hf 0 _ rfl
    have t1 := hf 1 _ rfl
    have t2 := hf 2 _ rfl
    have t3 := hf 3 _ rfl
    have t4 := hf 4 _ rfl
    have t5 := hf 5 _ rfl
    have k9 : Tryd.prog.cellsOf 9 = 1 := by kernel_rfl
    have k37 : Tryd.prog.cellsOf 37 = 1 := by kernel_rfl
    have k3 : Tryd.prog.cellsOf 3 = 1 := by kernel_rfl
    simp [k9, k37, k3] at t0 t1 t2 t3 t4 t5
    obtain ⟨s0, h0, e0, _⟩ := DataW.trod_string Tryd.underlying9 t0
    obtain ⟨s1, h1, e1, _⟩ := DataW.trod_string Tryd.underlying9 t1
    obtain ⟨v, l, h2, ha, hs, hb⟩ := args_open t2
    obtain ⟨z3, h3, e3, _⟩ := DataW.trod_int Tryd.underlying3 t3
    obtain ⟨z4, h4, e4, _⟩ := DataW.trod_int Tryd.underlying3 t4
    obtain ⟨z5, h5, e5, _⟩ := DataW.trod_int Tryd.underlying3 t5
    simp at h0 h1 h2 h3 h4 h5
    subst h0 h1 h2 h3 h4 h5
    refine ⟨(⟨s0, s1, l, z3, z4, z5⟩, c2), rfl, ha, hs, ?_⟩
    simp only [List.map_cons, List.map_nil, Rows.uptoBulk, Rows.uptoBulkAll]
    rw [e0, e1, e3, e4, e5]
    simp only [Rows.uptoBulk, rowW]
    have q0 : s0.data.toList.length = s0.size := rfl
    have q1 : s1.data.toList.length = s1.size := rfl
    omega
theorem rows_open {fuel : Nat} {cs : List Value} {x : DataW H × List MemPlace} (h : DataW.trod enc Tryd.prog W 0 (fun _ => true) true fuel 22 cs = some x) :
    ∃ v l, cs = [v] ∧ RowsIn W v l ∧ rowsW (l.map (·.1)) ≤ 8 * Rows.uptoBulk x.1 := by
  rcases open_slice Tryd.underlying22 h with ⟨rfl, rfl⟩ | ⟨a, len, cap, m, n, D, Pl, rfl, hb, hl, hm, hmm, rfl, hx⟩
  · exact ⟨_, [], rfl, ⟨by simp, .inl ⟨none, 0, rfl, rfl⟩⟩, by simp [rowsW]⟩
  · simp only [if_true] at hmm
    subst hmm
    rw [show Tryd.prog.cellsOf 39 = 6 by kernel_rfl] at hx
    have each : ∀ i, i < len → ∃ y : Row × Value, (∀ j v, (cellsOfRow y)[j]? = some v → W.cell? ((a.add (i * 6)).add j) = some v) ∧ ArgsIn W y.2 y.1.args ∧ (∃ a len cap, y.2 = .slice a len cap) ∧ rowW y.1 ≤ 8 * Rows.uptoBulk (D i) := by
      intro i hi
      obtain ⟨cs', h1, h2⟩ := hx i (by omega)
      obtain ⟨_, hlen, hcell⟩ := World.cells?_some h1
      obtain ⟨y, rfl, h3, h4, h5⟩ := row_open h2
      refine ⟨y, fun j v hj => ?_, h3, h4, h5⟩
      have : j < 6 := by have := (List.getElem?_eq_some_iff.1 hj).1; simpa [cellsOfRow] using this
      rw [hcell j this, hj]
    obtain ⟨g, hg⟩ := choose_lt (α := Row × Value) each
    have hsum : rowsW (((List.range len).map g).map (·.1)) ≤ 8 * Rows.uptoBulkAll ((List.range len).map D) := by
      unfold rowsW
      rw [List.map_map, List.map_map]
      exact bulk_map fun i hi => (hg i (List.mem_range.1 hi)).2.2.2
    have hbk : rowsW (((List.range len).map g).map (·.1)) ≤ 8 * Rows.uptoBulk (DataW.slice ((List.range len).map D) ((List.range (m - len)).map fun j => D (len + j))) := by
      simp only [Rows.uptoBulk]; omega
    refine ⟨_, (List.range len).map g, rfl, ⟨fun y hy => ?_, ?_⟩, hbk⟩
    · obtain ⟨i, hi, rfl⟩ := List.mem_map.1 hy
      exact ⟨(hg i (List.mem_range.1 hi)).2.1, (hg i (List.mem_range.1 hi)).2.2.1⟩
    by_cases h0 : len = 0
    · subst h0
      exact .inl ⟨_, _, rfl, rfl⟩
    · right
      obtain ⟨b, o, spot⟩ := a
      have c0 := (hg 0 (by omega)).1 0 _ rfl
      have hspot : spot = none := by simpa [Addr.add] using World.cell?_spot c0
      subst hspot
      refine ⟨b, o, m, by rw [List.length_map, List.length_range], by rw [List.length_map, List.length_range]; exact hl, hm, fun e => h0 (by have := congrArg List.length e; simpa using this), fun q y hq j v hj => ?_⟩
      rw [List.getElem?_map] at hq
      obtain ⟨q', hq', rfl⟩ := Option.map_eq_some_iff.1 hq
      have hql : q < len := by have := (List.getElem?_eq_some_iff.1 hq').1; simpa using this
      have hqe : q' = q := by rw [List.getElem?_range hql] at hq'; exact (Option.some.inj hq').symm
      subst hqe
      have := (hg q' hql).1 j v hj
      rw [add_add, add_plain] at this
      exact this
end
end Go.Proofs.YthkkgbmjjpcfaaaDoor
namespace Go.Proofs.YthkkgbmjjpcfaaaDoor
open Go.Ab Go.Deep
def tyAt (W : World) (b : Nat) : TypeId := match W.heap[b]? with | some (.cells _ T _) => T | _ => 0
theorem tyAt_of {W : World} {b : Nat} {arr : Array Value} {T : TypeId} {fz : Nat × Nat} (h : W.heap[b]? = some (.cells arr T fz)) : tyAt W b = T := by unfold tyAt; rw [h]
def blkOf (v : Value) (sz : Nat) : Blk := match v with | .slice (some a) _ cap => ⟨a.block, cap * sz, sz, a.off⟩ | _ => ⟨0, 0, 0, 0⟩
def argAV (i : Nat) (y : Row × Value) : AV := if y.1.args.length = 0 then .sc y.2 else .sl (i + 2) 0 y.1.args.length
def tabL (l : List (Row × Value)) : List (Row × AV) := l.mapIdx fun i y => (y.1, argAV i y)
def tabAV (v : Value) (l : List (Row × Value)) : AV := if l.length = 0 then .sc v else .sl 1 0 l.length
def roRow (W : World) (v : Value) (sz : Nat) (cells : List AV) : AO := { cells := cells, sz := sz, ty := tyAt W (blkOf v sz).b, ro := true, kind := .row }
def inObj (W : World) (v : Value) (l : List (Row × Value)) (ty : TypeId) (fz : Nat × Nat) : Nat → Option AO
  | 0 => some (oTab 1 (pow10O ty fz))
  | 1 => if l.length = 0 then none else some (roRow W v 6 ((tabL l).flatMap encRA))
  | i + 2 => (l[i]?).bind fun y => if y.1.args.length = 0 then none else some (roRow W y.2 2 (y.1.args.flatMap Arg.enc))
def inE (v : Value) (l : List (Row × Value)) : Env
  | 0 => some ⟨1, 0, 0, 0⟩
  | 1 => some (blkOf v 6)
  | i + 2 => (l[i]?).map fun y => blkOf y.2 2
def inAH (W : World) (v : Value) (l : List (Row × Value)) (ty : TypeId) (fz : Nat × Nat) : AH where
  obj := inObj W v l ty fz
  next := l.length + 2
  lt := by
    intro id o h
    match id with
    | 0 => omega
    | 1 => omega
    | i + 2 =>
      simp only [inObj] at h
      obtain ⟨y, hy, _⟩ := Option.bind_eq_some_iff.1 h
      have := (List.getElem?_eq_some_iff.1 hy).1
      omega
theorem tabL_fst (l : List (Row × Value)) : (tabL l).map (·.1) = l.map (·.1) := by
  unfold tabL
  apply List.ext_getElem?
  intro i
  simp
  cases l[i]? <;> rfl
theorem tabL_get {l : List (Row × Value)} {i : Nat} : (tabL l)[i]? = (l[i]?).map fun y => (y.1, argAV i y) := by
  unfold tabL; simp
theorem tabL_len (l : List (Row × Value)) : (tabL l).length = l.length := by unfold tabL; simp
section
variable {W : World} {v : Value} {l : List (Row × Value)} {ty : TypeId} {fz : Nat × Nat}
theorem argAV_vr (hin : RowsIn W v l) {i : Nat} {y : Row × Value} (hy : l[i]? = some y) : VR (inE v l) (argAV i y) y.2 := by
  unfold argAV
  split
  · exact .sc _
  · rename_i hne
    rcases (hin.1 y (List.mem_of_getElem? hy)).1 with ⟨_, _, _, h⟩ | ⟨b, o, cap, hv, h1, h2, _, _⟩
    · exact absurd (by rw [h]; rfl) hne
    · rw [hv]
      exact .sl (B := ⟨b, cap * 2, 2, o⟩) (by simp only [inE, hy, Option.map_some, blkOf, hv]) (.inl rfl) (by simp) h1 h2
theorem tabAV_vr (hin : RowsIn W v l) : VR (inE v l) (tabAV v l) v := by
  unfold tabAV
  split
  · exact .sc _
  · rename_i hne
    rcases hin.2 with ⟨_, _, _, h⟩ | ⟨b, o, cap, hv, h1, h2, _, _⟩
    · exact absurd (by rw [h]; rfl) hne
    · rw [hv]
      exact .sl (B := ⟨b, cap * 6, 6, o⟩) rfl (.inl rfl) (by simp) h1 h2
theorem in_rel (hin : RowsIn W v l) (ht : W.heap[1]? = some (pow10O ty fz)) : Rel (inE v l) (inAH W v l ty fz) W := by
  have ro_all : ∀ id o, inObj W v l ty fz id = some o → o.ro = true := by
    intro id o h
    match id with
    | 0 => simp only [inObj, Option.some.injEq] at h; rw [← h]; rfl
    | 1 =>
      simp only [inObj] at h
      split at h
      · cases h
      · simp only [Option.some.injEq] at h; rw [← h]; rfl
    | i + 2 =>
      simp only [inObj] at h
      obtain ⟨y, hy, h2⟩ := Option.bind_eq_some_iff.1 h
      split at h2
      · cases h2
      · simp only [Option.some.injEq] at h2; rw [← h2]; rfl
  refine ⟨fun id o h => ?_, fun i j oi oj _ _ hi hj _ _ _ => .inr ⟨ro_all i oi hi, ro_all j oj hj⟩, fun id hid => ?_⟩
  · match id with
    | 0 =>
      have h : some (oTab 1 (pow10O ty fz)) = some o := h
      cases h
      exact ⟨_, rfl, rfl, ht⟩
    | 1 =>
      have h : (if l.length = 0 then none else some (roRow W v 6 ((tabL l).flatMap encRA))) = some o := h
      split at h
      · cases h
      · rename_i hne
        cases h
        rcases hin.2 with ⟨_, _, _, h⟩ | ⟨b, o, cap, hv, h1, h2, h3, h4⟩
        · exact absurd (by rw [h]; rfl) hne
        · have hat : AtC (inE v l) W b o ((tabL l).flatMap encRA) := by
            refine atC_of (sz := 6) encRA_len (by omega) (fun e => h3 (List.length_eq_zero_iff.1 (by have := congrArg List.length e; rw [tabL_len] at this; exact this))) fun q y hq j hj => ?_
            rw [tabL_get] at hq
            obtain ⟨y', hy', rfl⟩ := Option.map_eq_some_iff.1 hq
            have hc := h4 q y' hy' j
            match j, hj with
            | 0, _ => exact ⟨_, _, hc _ rfl, rfl, .sc _, rfl⟩
            | 1, _ => exact ⟨_, _, hc _ rfl, rfl, .sc _, rfl⟩
            | 2, _ =>
              refine ⟨_, _, hc _ rfl, rfl, argAV_vr hin hy', ?_⟩
              obtain ⟨a, len, cap, hs⟩ := (hin.1 y' (List.mem_of_getElem? hy')).2
              rw [hs]; rfl
            | 3, _ => exact ⟨_, _, hc _ rfl, rfl, .sc _, rfl⟩
            | 4, _ => exact ⟨_, _, hc _ rfl, rfl, .sc _, rfl⟩
            | 5, _ => exact ⟨_, _, hc _ rfl, rfl, .sc _, rfl⟩
          obtain ⟨arr, T, fz', hb, hcr⟩ := hat
          have hbk : blkOf v 6 = ⟨b, cap * 6, 6, o⟩ := by rw [hv]; rfl
          refine ⟨blkOf v 6, rfl, ⟨arr, fz', ?_, (fun hro => by cases hro), ?_, by rw [hbk]; rfl, by rw [hbk]; exact hcr⟩⟩
          · show W.heap[(blkOf v 6).b]? = some (.cells arr (tyAt W (blkOf v 6).b) fz')
            rw [hbk, tyAt_of hb]; exact hb
          · show ((tabL l).flatMap encRA).length ≤ (blkOf v 6).n
            rw [hbk, flat_len encRA_len, tabL_len]
            exact Nat.mul_le_mul_right _ h1
    | i + 2 =>
      have h : ((l[i]?).bind fun y => if y.1.args.length = 0 then none else some (roRow W y.2 2 (y.1.args.flatMap Arg.enc))) = some o := h
      obtain ⟨y, hy, h2⟩ := Option.bind_eq_some_iff.1 h
      split at h2
      · cases h2
      · rename_i hne
        cases h2
        rcases (hin.1 y (List.mem_of_getElem? hy)).1 with ⟨_, _, _, h⟩ | ⟨b, o, cap, hv, h1, h2, h3, h4⟩
        · exact absurd (by rw [h]; rfl) hne
        · obtain ⟨arr, T, fz', hb, hcr⟩ := h4 (inE v l)
          have hbk : blkOf y.2 2 = ⟨b, cap * 2, 2, o⟩ := by rw [hv]; rfl
          refine ⟨blkOf y.2 2, by simp only [inE, hy, Option.map_some], ⟨arr, fz', ?_, (fun hro => by cases hro), ?_, by rw [hbk]; rfl, by rw [hbk]; exact hcr⟩⟩
          · show W.heap[(blkOf y.2 2).b]? = some (.cells arr (tyAt W (blkOf y.2 2).b) fz')
            rw [hbk, tyAt_of hb]; exact hb
          · show (y.1.args.flatMap Arg.enc).length ≤ (blkOf y.2 2).n
            rw [hbk, flat_len Arg.enc_len]
            exact Nat.mul_le_mul_right _ h1
  · match id, hid with
    | i + 2, hid =>
      have : l.length ≤ i := by have hh : l.length + 2 ≤ i + 2 := hid; omega
      simp only [inE, List.getElem?_eq_none this, Option.map_none]
theorem in_rows (hin : RowsIn W v l) : RowsL (inAH W v l ty fz) (tabAV v l) (tabL l) := by
  refine ⟨?_, fun y hy => ?_⟩
  · by_cases h0 : l.length = 0
    · have : l = [] := List.length_eq_zero_iff.1 h0
      subst this
      rcases hin.2 with ⟨a, c, hv, _⟩ | ⟨_, _, _, _, _, _, h, _⟩
      · exact .inr (.inl ⟨a, c, by rw [hv]; rfl, rfl⟩)
      · exact absurd rfl h
    · refine .inr (.inr ⟨1, [], true, tyAt W (blkOf v 6).b, ?_, fun h => (by cases h), ?_⟩)
      · unfold tabAV; rw [if_neg h0, tabL_len]
      · show (if l.length = 0 then none else some (roRow W v 6 ((tabL l).flatMap encRA))) = _
        rw [if_neg h0, List.append_nil]; rfl
  · obtain ⟨i, hi⟩ := List.mem_iff_getElem?.1 hy
    rw [tabL_get] at hi
    obtain ⟨y', hy', rfl⟩ := Option.map_eq_some_iff.1 hi
    show SlR Arg.enc 2 41 _ (argAV i y') y'.1.args
    by_cases h0 : y'.1.args.length = 0
    · have he : y'.1.args = [] := List.length_eq_zero_iff.1 h0
      unfold argAV
      rw [if_pos h0, he]
      rcases (hin.1 y' (List.mem_of_getElem? hy')).1 with ⟨a, c, hv, _⟩ | ⟨_, _, _, _, _, _, h, _⟩
      · exact .inr (.inl ⟨a, c, by rw [hv], rfl⟩)
      · exact absurd he h
    · refine .inr (.inr ⟨i + 2, [], true, tyAt W (blkOf y'.2 2).b, ?_, fun h => (by cases h), ?_⟩)
      · unfold argAV; rw [if_neg h0]
      · show ((l[i]?).bind fun y => if y.1.args.length = 0 then none else some (roRow W y.2 2 (y.1.args.flatMap Arg.enc))) = _
        rw [hy', Option.bind_some, if_neg h0, List.append_nil]; rfl
theorem in_tab : HasTab 1 (inAH W v l ty fz) := ⟨ty, fz, rfl⟩
end
end Go.Proofs.YthkkgbmjjpcfaaaDoor
namespace Go.Ab
open Go.RowKit
def AH.empty : AH := ⟨fun _ => none, 0, fun _ _ h => by cases h⟩
theorem Rel.empty (w : World) : Rel (fun _ => none) AH.empty w := ⟨fun _ _ h => (by cases h), fun _ _ _ _ _ _ h => (by cases h), fun _ _ => rfl⟩
theorem Step.below {E E' : Env} {h h' : AH} {w w' : World} (s : Step E h (fun _ => False) w E' h' w') : Below w.heap.size w w' := ⟨s.os, s.tape, s.output, s.size, fun b hb => s.frame b hb fun _ _ _ hm => hm.elim⟩
end Go.Ab
namespace Go.Proofs.YthkkgbmjjpcfaaaDoor
open Go.ChangeShapes Go.WideShapes Go.ChangeAt Go.RowKit Go.ChangeMaps
section
variable {H : Type} {enc : TypeId × Value → H} {P : Program}
theorem post_of_below {f : Func} {s : ChangeSpec} {apart fresh handsOn again : Bool} {W W' : World} {args : Array Value} {v : Value} {ds gs : List (DataW H)} {before pa pv : List MemPlace}
    (hW : DataW.Whole enc P f.params.toList s.vars apart W args.toList ds gs before)
    (hres : ∀ (b : Nat) (sp : Nat → Bool) (hd : Bool), DataW.TrodAll enc P W' b sp hd f.resultTypes.toList (v.resultList f.resultTypes.size) (s.fn H (ds ++ gs)).results [])
    (hargs : ∀ sp : Nat → Bool, (∀ p ∈ before, sp p.block = true) → DataW.TrodAll enc P W' 0 sp true f.params.toList args.toList (s.fn H (ds ++ gs)).args pa)
    (hvars : ∀ sp : Nat → Bool, (∀ p ∈ before, sp p.block = true) → DataW.TrodVars enc P W' sp s.vars (s.fn H (ds ++ gs)).vars pv)
    (hps : before = pa ++ pv) (hb : Below W.heap.size W W')
    (hok : ∀ (j : Nat) (t : TypeId) (r : Value), f.resultTypes[j]? = some t → (v.resultList f.resultTypes.size)[j]? = some r → Value.okWide P W' .any 0 t r) :
    s.post enc P f apart fresh handsOn again W args v W' := by
  have hlt : ∀ p ∈ before, p.block < W.heap.size := fun p hp => hW.lt p hp
  have hold : ∀ p ∈ before, (fun b => decide (b < W.heap.size)) p.block = true := fun p hp => by simpa using hlt p hp
  refine ⟨ds, gs, before, [], pa, pv, hW, hres _ _ _, hargs _ hold, hvars _ hold, World.keptBut_mono (fun p hp => ⟨hp, ?_⟩) (hb.frame (· ∈ before)), fun _ => ?_⟩
  · rw [hps, List.mem_append] at hp
    exact Or.inr hp
  · obtain ⟨_, _, _, _, _, hz, hn⟩ := hW
    refine ⟨hok, _, _, ([] ++ pa) ++ pv, ⟨[] ++ pa, pv, trodAll_append (hargs _ (fun _ _ => rfl)) (hres _ _ _), hvars _ (fun _ _ => rfl), rfl, ?_, ?_⟩, ?_⟩
    · intro b off hp
      have hin : MemPlace.cell b off ∈ before := by rw [hps]; simpa using hp
      rw [hb.frozen (hlt _ hin)]
      exact hz b off hin
    · intro ha
      have := hn ha
      rw [hps] at this
      simpa using this
    · intro p hp _
      rw [hps]
      simpa using hp
end
theorem Tryd.own : ownKnob Tryd.prog.godebug = none := by kernel_rfl
theorem Tryd.laidOut : laidOutB Tryd.prog = true := by kernel_rfl
end Go.Proofs.YthkkgbmjjpcfaaaDoor
namespace Go.Proofs.YthkkgbmjjpcfaaaDoor
open Go.ChangeShapes Go.WideShapes Go.ChangeAt Go.RowKit Go.ChangeMaps Go.Ab
theorem gPow : Tryd.prog.globalNamed "internal/strconv.uint64pow10" = some 1 := by kernel_rfl
theorem gPowType : (Tryd.prog.globals[1]?).map (·.type) = some 114 := by kernel_rfl
theorem powData {H : Type} : (Rows.laid_internal_strconv_uint64pow10 : DataW H) = Lib.tabData .u64 Lib.pow10Tab := by kernel_rfl
theorem pow_block {W : World} (h : laidMetH Tryd.prog Rows.parseBackUptoRow.laid W) : ∃ ty fz, W.heap[1]? = some (pow10O ty fz) := by
  have h1 : laidMet Tryd.prog Rows.parseBackUptoRow.laid W := h
  have h2 : laidMet Tryd.prog [("internal/strconv.uint64pow10", Rows.laid_internal_strconv_uint64pow10)] W := laidMet.tail (laidMet.tail h1)
  rw [powData] at h2
  have h3 := Lib.tabIs_of_head gPow gPowType Tryd.underlying114 Tryd.underlying102 (by kernel_rfl) (by kernel_rfl) h2
  unfold Lib.TabIs World.var? at h3
  rw [gPow, Option.bind_some] at h3
  split at h3
  · rename_i cs T fz hc
    cases h3
    exact ⟨T, fz, hc⟩
  · cases h3
theorem back_any {W : World} {s : ByteArray} {v : Value} {l : List (Row × Value)} {ty : TypeId} {fz : Nat × Nat} (hin : RowsIn W v l) (ht : W.heap[1]? = some (pow10O ty fz)) (hs : rowsW (l.map (·.1)) ≤ 500000000) :
    Calls Tryd.prog 4 #[.string s, v] W fun e w' => e = .returned (.bool true) ∧ Below W.heap.size W w' := by
  have hc : ACalls Tryd.prog 4 [.sc (.string s), tabAV v l] (inAH W v l ty fz) (fun _ => False) (fun ae _ => ae = .ret (B true)) := law4_ok (in_rows hin) in_tab (by rw [tabL_fst]; exact hs) fun _ _ => rfl
  refine (hc _ W [.string s, v] (in_rel hin ht) (.cons (.sc _) (.cons (tabAV_vr hin) .nil))).mono ?_
  rintro e w' ⟨E', h', ae, hst, he, rfl⟩
  refine ⟨?_, hst.below⟩
  cases e <;> first | exact he.elim | skip
  cases he
  rfl
theorem below_same {W W' : World} (hb : Below W.heap.size W W') {x : MemPlace} (hx : x.block < W.heap.size) : W.sameAt W' x := by
  cases x with
  | cell b off =>
    show W'.cell? ⟨b, off, none⟩ = W.cell? ⟨b, off, none⟩
    unfold World.cell?
    rw [hb.block b hx]
  | map b => exact hb.block b hx
theorem slice_own {W : World} {base : Nat} {v v1 : Value} (h : Value.okWide Tryd.prog W .any base 22 v) (hc : v.cells.toList = [v1]) : v = v1 := by
  unfold Value.okWide at h
  rw [Tryd.underlying22] at h
  simp only [Cell.okWide, Cell.ok, Tryd.underlying22] at h
  cases v <;> simp_all [Value.cells]
theorem back_contract (H : Type) (enc : TypeId × Value → H) (W : World) (base : Nat) (args : Array Value) (ds gs : List (DataW H)) (before : List MemPlace)
    (hval : ∀ (j : Nat) t v, Tryd.f4.params[j]? = some t → args[j]? = some v → Value.okWide Tryd.prog W .any base t v)
    (hW : DataW.Whole enc Tryd.prog Tryd.f4.params.toList Rows.parseBackSpec.vars false W args.toList ds gs before) (hL : laidMetH Tryd.prog Rows.parseBackUptoRow.laid W) (hk : Rows.uptoSmall H (ds ++ gs) = true) :
    Calls Tryd.prog 4 args W fun e W' => ∃ v, e = .returned v ∧ Rows.parseBackSpec.post enc Tryd.prog Tryd.f4 false true false false W args v W' := by
  have hW' := hW
  obtain ⟨p, q, hA0, hV, rfl, hfz, hnd⟩ := hW
  have hA : DataW.TrodAll enc Tryd.prog W 0 (fun _ => true) true Tryd.f4.params.toList args.toList ds p := hA0
  rw [Tryd.params4] at hA hval
  obtain ⟨v0, v1, d0, d1, p0, p1, rfl, rfl, rfl, h0, h1⟩ := trodAll_two hA
  obtain ⟨rfl, rfl⟩ := trodVars_none hV
  obtain ⟨a, rfl, rfl, rfl, wa⟩ := open_string Tryd.underlying9 (hval 0 9 v0 rfl rfl) h0
  clear hA0
  simp only [List.append_nil, List.nil_append] at hW'
  have h00 := h1
  obtain ⟨fuel, hf⟩ := h1
  obtain ⟨v2, l, hc, hin, hs⟩ := rows_open hf
  have hv := slice_own (hval 1 22 v1 rfl rfl) hc
  subst hv
  obtain ⟨ty, fz, hb⟩ := pow_block hL
  have hbulk : Rows.uptoBulk d1 ≤ 1048576 := by
    have := of_decide_eq_true hk
    simp only [List.append_nil, Rows.uptoBulkAll] at this
    omega
  have hs : rowsW (l.map (·.1)) ≤ 8 * Rows.uptoBulk d1 := hs
  refine (back_any hin hb (by omega)).mono fun e W' ⟨he, hbl⟩ => ?_
  subst he
  have hsame : ∀ x ∈ p1, W.sameAt W' x := fun x hx => below_same hbl (hW'.lt x hx)
  exact ⟨_, rfl, post_of_below (pa := p1) (pv := []) hW' (fun _ _ _ => trodAll_mk1 (shut_bool Tryd.underlying4 true)) (fun sp hsp => trodAll_mk2 (p := []) (shut_string Tryd.underlying9 wa) (WideElems.Trod_stays (P := Tryd.prog) Tryd.laidOut (by kernel_rfl) (of_decide_eq_true (by kernel_rfl)) h00 hsame hsp)) (fun _ _ => rfl) (by simp) hbl (ok_one (by kernel_rfl) rfl (okWide_bool_mk Tryd.underlying4 true))⟩
end Go.Proofs.YthkkgbmjjpcfaaaDoor
namespace Go.Proofs.YthkkgbmjjpcfaaaDoor
open Go.ChangeShapes Go.WideShapes Go.ChangeAt Go.RowKit Go.ChangeMaps Go.Ab
def u8s (l : List Int) : Array Value := (l.map fun z => Value.int .u8 z).toArray
def tab32 : Array Value := u8s [0, 1, 28, 2, 29, 14, 24, 3, 30, 22, 20, 15, 25, 17, 4, 8, 31, 27, 13, 23, 21, 19, 16, 7, 26, 12, 18, 6, 11, 5, 10, 9]
def tab64 : Array Value := u8s [0, 1, 56, 2, 57, 49, 28, 3, 61, 58, 42, 50, 38, 29, 17, 4, 62, 47, 59, 36, 45, 43, 51, 22, 53, 39, 33, 30, 24, 18, 12, 5, 63, 55, 48, 27, 60, 41, 37, 16, 46, 35, 44, 21, 52, 32, 23, 11, 54, 26, 40, 15, 34, 20, 31, 10, 25, 14, 19, 9, 13, 8, 7, 6]
def tabP : Array Value := (Lib.pow10Tab.map fun z => Value.int .u64 z).toArray
def layAs (a : Array Value) : Go.Obj → Go.Obj
  | .cells _ t frozen => .cells a t frozen
  | o => o
noncomputable def laidWorld (os : Os) : World :=
  { World.holding Tryd.prog os ⟨#[], #[], []⟩ with heap := (((World.holding Tryd.prog os ⟨#[], #[], []⟩).heap.modify 1 (layAs tabP)).modify 2 (layAs tab32)).modify 3 (layAs tab64) }
theorem laid_met (os : Os) : laidMet Tryd.prog Rows.parseBackUptoRow.laid ((laidWorld os).forCall (fun _ _ => 0) ⟨#[], #[.string ⟨#[]⟩, .slice none 0 0], []⟩).memory :=
  laidMet_of_run' 80 (by kernel_rfl) (by kernel_rfl)
theorem back_reads (os : Os) {H : Type} (enc : TypeId × Value → H) : ∃ places, DataW.whole enc Tryd.prog ((laidWorld os).forCall (fun _ _ => 0) ⟨#[], #[.string ⟨#[]⟩, .slice none 0 0], []⟩).memory Tryd.f4.params.toList Rows.parseBackSpec.vars false #[Value.string ⟨#[]⟩, Value.slice none 0 0].toList 8 = some ([.lit (.string []), .nil], [], places) :=
  ⟨[], by kernel_rfl⟩
theorem back_lifted (os : Os) (started : os.Started) (H : Type) (enc : TypeId × Value → H) (F : Stop.Interp) :
    ReturnsInHanded {} Tryd.checked os 4 .any ((Rows.OpenSpec.upto Rows.parseBackSpec).preRow enc Tryd.prog Tryd.f4 Rows.parseBackUptoRow.domain false Rows.parseBackUptoRow.laid) (((Rows.OpenSpec.upto Rows.parseBackSpec).at F).post enc Tryd.prog Tryd.f4 false true false false) := by
  obtain ⟨places, hx⟩ := back_reads os enc
  refine returnsInHanded_of_row (C := Tryd.checked) (s := Rows.OpenSpec.upto Rows.parseBackSpec) Tryd.own started (by kernel_rfl) Tryd.func4
    (witness_row_at (enc := enc) (C := Tryd.checked) false (laidWorld os) #[.string ⟨#[]⟩, .slice none 0 0] rfl (by kernel_rfl) (by kernel_rfl) (by kernel_rfl)
      (OpenSpec.preRow_of_cond 8 hx (by kernel_rfl) (fun k hk => by cases hk; kernel_rfl) (by kernel_rfl) (laid_met os))) ?_
  intro W base args ds gs before hval hW _ hcond _ hL _ _
  exact back_contract H enc W base args ds gs before hval hW hL (hcond _ rfl)
theorem back_said : Rows.ParseBackUptoSaid :=
  OpenClaim.holds_of_cond 4 Tryd.f4 rfl rfl rfl rfl rfl rfl rfl ⟨rfl, rfl, rfl, rfl, rfl⟩ rfl rfl rfl rfl rfl (by kernel_rfl) Tryd.func4 (by kernel_rfl)
    (of_decide_eq_true (by kernel_rfl)) (by unfold Func.isWrapper; first | (rw [if_pos (by decide +kernel)]; kernel_rfl) | (rw [if_neg (by decide +kernel)]; exact ⟨rfl, rfl⟩))
    (fun os started H enc _ F => by rw [OpenClaim.pre_eq_preRow]; exact back_lifted os started H enc F)
theorem back_plain (f : FuncId) (fn : Func) (hf : Tryd.pinned.checked.prog.funcNamed "cubit/cubitlaw10.ParseBack" = some f) (hfn : Tryd.pinned.checked.prog.funcs[f]? = some fn) :
    true = Tryd.pinned.checked.prog.looks [] ∧ ∀ (j : Nat) t, fn.params[j]? = some t → Tryd.pinned.checked.prog.wantsStandIn t = false := by
  obtain rfl : f = 4 := Option.some.inj ((show Tryd.prog.funcNamed "cubit/cubitlaw10.ParseBack" = some 4 by kernel_rfl).symm.trans hf) |>.symm
  obtain rfl : fn = Tryd.f4 := (Option.some.inj (Tryd.func4.symm.trans hfn)).symm
  refine ⟨by kernel_rfl, fun j t ht => ?_⟩
  rw [Tryd.params4] at ht
  have hm := Array.mem_of_getElem? ht
  simp at hm
  rcases hm with rfl | rfl
  · exact (show Tryd.prog.wantsStandIn 9 = false by kernel_rfl)
  · exact (show Tryd.prog.wantsStandIn 22 = false by kernel_rfl)
theorem back_card : Rows.ParseBackUptoCardSaid :=
  Claim7.holds_tied_plain_at .later [] _ _ _ _ back_said (fun _ h => by cases h) (by kernel_rfl) (fun _ h => by cases h) parseBackUpto_row_tie rfl ⟨rfl, rfl⟩ (by kernel_rfl) rfl back_plain (by kernel_rfl)
end Go.Proofs.YthkkgbmjjpcfaaaDoor

/- The shelf of strconv and strings, the builder, names, kinds, a row's form. No condition. -/
import Derived.Shelf.Strconv.Itoa3
import Derived.Shelf.Strings.Repeat
import Derived.Shelf.Strings.OnBuilder
import Derived.Test.YthkkgbmjjpcfaaaDoorProg
import Derived.Lib.ItoaLen
import Derived.Test.YthkkgbmjjpcfaaaDoorGr
import Derived.Test.YthkkgbmjjpcfaaaDoorGw
import Derived.Test.YthkkgbmjjpcfaaaDoorQa
set_option maxRecDepth 100000
namespace Go.Proofs
open Go.Shelf
def Tryd.lays171_ren : Go.Shelf.Ren := { f := fun x => match x with | 171 => 47 | 243 => 57 | 246 => 65 | 283 => 71 | 284 => 72 | 285 => 73 | 286 => 74 | 129 => 77 | 317 => 76 | 318 => 78 | 319 => 79 | 320 => 80 | 337 => 81 | 338 => 82 | n => n, t := fun x => match x with | 3 => 3 | 9 => 9 | 2 => 2 | 4 => 4 | 171 => 107 | 0 => 0 | 53 => 102 | 37 => 46 | 5 => 5 | 173 => 110 | 212 => 114 | 51 => 99 | 20 => 20 | 213 => 115 | 46 => 94 | 232 => 118 | 233 => 119 | n => n, g := fun x => match x with | 17 => 1 | 18 => 2 | 19 => 3 | n => n }
theorem Tryd.lays171 : LaysM.n171 Tryd.prog Tryd.lays171_ren where
  mixed := by kernel_rfl
  f129 := Tryd.func77.trans (congrArg some (by kernel_rfl))
  f171 := Tryd.func47.trans (congrArg some (by kernel_rfl))
  f243 := Tryd.func57.trans (congrArg some (by kernel_rfl))
  f246 := Tryd.func65.trans (congrArg some (by kernel_rfl))
  f283 := Tryd.func71.trans (congrArg some (by kernel_rfl))
  f284 := Tryd.func72.trans (congrArg some (by kernel_rfl))
  f285 := Tryd.func73.trans (congrArg some (by kernel_rfl))
  f286 := Tryd.func74.trans (congrArg some (by kernel_rfl))
  f317 := Tryd.func76.trans (congrArg some (by kernel_rfl))
  f318 := Tryd.func78.trans (congrArg some (by kernel_rfl))
  f319 := Tryd.func79.trans (congrArg some (by kernel_rfl))
  f320 := Tryd.func80.trans (congrArg some (by kernel_rfl))
  f337 := Tryd.func81.trans (congrArg some (by kernel_rfl))
  f338 := Tryd.func82.trans (congrArg some (by kernel_rfl))
  t0 := Tryd.underlying0
  a0 := Tryd.isAgg0
  z0 := Tryd.sizeOf0
  v0 := Tryd.zeroValue0
  t2 := Tryd.underlying2
  a2 := Tryd.isAgg2
  z2 := Tryd.sizeOf2
  v2 := Tryd.zeroValue2
  t3 := Tryd.underlying3
  a3 := Tryd.isAgg3
  z3 := Tryd.sizeOf3
  v3 := Tryd.zeroValue3
  t4 := Tryd.underlying4
  a4 := Tryd.isAgg4
  z4 := Tryd.sizeOf4
  v4 := Tryd.zeroValue4
  t5 := Tryd.underlying5
  a5 := Tryd.isAgg5
  z5 := Tryd.sizeOf5
  v5 := Tryd.zeroValue5
  t9 := Tryd.underlying9
  a9 := Tryd.isAgg9
  z9 := Tryd.sizeOf9
  v9 := Tryd.zeroValue9
  t20 := Tryd.underlying20
  a20 := Tryd.isAgg20
  z20 := Tryd.sizeOf20
  v20 := Tryd.zeroValue20
  t37 := Tryd.underlying46
  a37 := Tryd.isAgg46
  z37 := Tryd.sizeOf46
  v37 := Tryd.zeroValue46
  t46 := Tryd.underlying94
  a46 := Tryd.isAgg94
  z46 := Tryd.sizeOf94
  v46 := Tryd.zeroValue94
  t51 := Tryd.underlying99
  a51 := Tryd.isAgg99
  z51 := Tryd.sizeOf99
  v51 := Tryd.zeroValue99
  t53 := Tryd.underlying102
  a53 := Tryd.isAgg102
  z53 := Tryd.sizeOf102
  v53 := Tryd.zeroValue102
  t171 := Tryd.underlying107
  a171 := Tryd.isAgg107
  z171 := Tryd.sizeOf107
  v171 := Tryd.zeroValue107
  t173 := Tryd.underlying110
  a173 := Tryd.isAgg110
  z173 := Tryd.sizeOf110
  v173 := Tryd.zeroValue110
  t212 := Tryd.underlying114
  a212 := Tryd.isAgg114
  z212 := Tryd.sizeOf114
  v212 := Tryd.zeroValue114
  t213 := Tryd.underlying115
  a213 := Tryd.isAgg115
  z213 := Tryd.sizeOf115
  t232 := Tryd.underlying118
  a232 := Tryd.isAgg118
  z232 := Tryd.sizeOf118
  v232 := Tryd.zeroValue118
  t233 := Tryd.underlying119
  a233 := Tryd.isAgg119
  z233 := Tryd.sizeOf119
  v233 := Tryd.zeroValue119
  g17 := by kernel_rfl
  g18 := by kernel_rfl
  g19 := by kernel_rfl
  i0 := by kernel_rfl
  i2 := by kernel_rfl
  i3 := by kernel_rfl
  i4 := by kernel_rfl
  i5 := by kernel_rfl
  i9 := by kernel_rfl
  i20 := by kernel_rfl
  i37 := by kernel_rfl
  i46 := by kernel_rfl
  i51 := by kernel_rfl
  i53 := by kernel_rfl
  i171 := by kernel_rfl
  i173 := by kernel_rfl
  i212 := by kernel_rfl
  i232 := by kernel_rfl
  i233 := by kernel_rfl
  m17 := by kernel_rfl
  m18 := by kernel_rfl
  m19 := by kernel_rfl
def Tryd.lays156_ren : Go.Shelf.Ren := { f := fun x => match x with | 156 => 48 | 165 => 58 | 166 => 50 | 169 => 17 | 240 => 61 | 241 => 66 | 276 => 70 | 277 => 75 | n => n, t := fun x => match x with | 31 => 87 | 9 => 9 | 3 => 3 | 4 => 4 | 0 => 0 | 20 => 20 | 72 => 48 | 76 => 92 | 70 => 45 | 37 => 46 | 75 => 91 | 127 => 72 | 164 => 105 | 5 => 5 | 80 => 53 | n => n, g := fun n => n }
theorem Tryd.lays156 : Lays.n156 Tryd.prog Tryd.lays156_ren where
  mixed := by kernel_rfl
  f156 := Tryd.func48.trans (congrArg some (by kernel_rfl))
  f165 := Tryd.func58.trans (congrArg some (by kernel_rfl))
  f166 := Tryd.func50.trans (congrArg some (by kernel_rfl))
  f169 := Tryd.func17.trans (congrArg some (by kernel_rfl))
  f240 := Tryd.func61.trans (congrArg some (by kernel_rfl))
  f241 := Tryd.func66.trans (congrArg some (by kernel_rfl))
  f276 := Tryd.func70.trans (congrArg some (by kernel_rfl))
  f277 := Tryd.func75.trans (congrArg some (by kernel_rfl))
  t0 := Tryd.underlying0
  a0 := Tryd.isAgg0
  z0 := Tryd.sizeOf0
  v0 := Tryd.zeroValue0
  t3 := Tryd.underlying3
  a3 := Tryd.isAgg3
  z3 := Tryd.sizeOf3
  v3 := Tryd.zeroValue3
  t4 := Tryd.underlying4
  a4 := Tryd.isAgg4
  z4 := Tryd.sizeOf4
  v4 := Tryd.zeroValue4
  t9 := Tryd.underlying9
  a9 := Tryd.isAgg9
  z9 := Tryd.sizeOf9
  v9 := Tryd.zeroValue9
  t20 := Tryd.underlying20
  a20 := Tryd.isAgg20
  z20 := Tryd.sizeOf20
  v20 := Tryd.zeroValue20
  t31 := Tryd.underlying87
  a31 := Tryd.isAgg87
  z31 := Tryd.sizeOf87
  v31 := Tryd.zeroValue87
  t37 := Tryd.underlying46
  a37 := Tryd.isAgg46
  z37 := Tryd.sizeOf46
  v37 := Tryd.zeroValue46
  t70 := Tryd.underlying45
  a70 := Tryd.isAgg45
  z70 := Tryd.sizeOf45
  v70 := Tryd.zeroValue45
  t72 := Tryd.underlying48
  a72 := Tryd.isAgg48
  z72 := Tryd.sizeOf48
  v72 := Tryd.zeroValue48
  t75 := Tryd.underlying91
  a75 := Tryd.isAgg91
  z75 := Tryd.sizeOf91
  v75 := Tryd.zeroValue91
  t76 := Tryd.underlying92
  a76 := Tryd.isAgg92
  z76 := Tryd.sizeOf92
  v76 := Tryd.zeroValue92
  t127 := Tryd.underlying72
  a127 := Tryd.isAgg72
  z127 := Tryd.sizeOf72
  v127 := Tryd.zeroValue72
  t164 := Tryd.underlying105
  a164 := Tryd.isAgg105
  z164 := Tryd.sizeOf105
  v164 := Tryd.zeroValue105
def Tryd.lays105_ren : Go.Shelf.Ren := { f := fun x => match x with | 105 => 49 | 212 => 59 | 99 => 60 | 165 => 58 | 166 => 50 | 170 => 16 | 169 => 17 | 263 => 67 | 264 => 68 | 206 => 69 | 240 => 61 | 241 => 66 | 276 => 70 | 277 => 75 | n => n, t := fun x => match x with | 9 => 9 | 3 => 3 | 4 => 4 | 20 => 20 | 0 => 0 | 46 => 94 | 109 => 95 | 5 => 5 | 72 => 48 | 76 => 92 | 51 => 99 | 146 => 100 | 53 => 102 | 148 => 103 | 70 => 45 | 37 => 46 | 75 => 91 | 127 => 72 | 164 => 105 | 80 => 53 | n => n, g := fun n => n }
theorem Tryd.lays105 : Lays.n105 Tryd.prog Tryd.lays105_ren where
  mixed := by kernel_rfl
  f99 := Tryd.func60.trans (congrArg some (by kernel_rfl))
  f105 := Tryd.func49.trans (congrArg some (by kernel_rfl))
  f165 := Tryd.func58.trans (congrArg some (by kernel_rfl))
  f166 := Tryd.func50.trans (congrArg some (by kernel_rfl))
  f169 := Tryd.func17.trans (congrArg some (by kernel_rfl))
  f170 := Tryd.func16.trans (congrArg some (by kernel_rfl))
  f206 := Tryd.func69.trans (congrArg some (by kernel_rfl))
  f212 := Tryd.func59.trans (congrArg some (by kernel_rfl))
  f240 := Tryd.func61.trans (congrArg some (by kernel_rfl))
  f241 := Tryd.func66.trans (congrArg some (by kernel_rfl))
  f263 := Tryd.func67.trans (congrArg some (by kernel_rfl))
  f264 := Tryd.func68.trans (congrArg some (by kernel_rfl))
  f276 := Tryd.func70.trans (congrArg some (by kernel_rfl))
  f277 := Tryd.func75.trans (congrArg some (by kernel_rfl))
  t0 := Tryd.underlying0
  a0 := Tryd.isAgg0
  z0 := Tryd.sizeOf0
  v0 := Tryd.zeroValue0
  t3 := Tryd.underlying3
  a3 := Tryd.isAgg3
  z3 := Tryd.sizeOf3
  v3 := Tryd.zeroValue3
  t4 := Tryd.underlying4
  a4 := Tryd.isAgg4
  z4 := Tryd.sizeOf4
  v4 := Tryd.zeroValue4
  t5 := Tryd.underlying5
  a5 := Tryd.isAgg5
  z5 := Tryd.sizeOf5
  v5 := Tryd.zeroValue5
  t9 := Tryd.underlying9
  a9 := Tryd.isAgg9
  z9 := Tryd.sizeOf9
  v9 := Tryd.zeroValue9
  t20 := Tryd.underlying20
  a20 := Tryd.isAgg20
  z20 := Tryd.sizeOf20
  v20 := Tryd.zeroValue20
  t37 := Tryd.underlying46
  a37 := Tryd.isAgg46
  z37 := Tryd.sizeOf46
  v37 := Tryd.zeroValue46
  t46 := Tryd.underlying94
  a46 := Tryd.isAgg94
  z46 := Tryd.sizeOf94
  v46 := Tryd.zeroValue94
  t51 := Tryd.underlying99
  a51 := Tryd.isAgg99
  z51 := Tryd.sizeOf99
  v51 := Tryd.zeroValue99
  t53 := Tryd.underlying102
  a53 := Tryd.isAgg102
  z53 := Tryd.sizeOf102
  v53 := Tryd.zeroValue102
  t70 := Tryd.underlying45
  a70 := Tryd.isAgg45
  z70 := Tryd.sizeOf45
  v70 := Tryd.zeroValue45
  t72 := Tryd.underlying48
  a72 := Tryd.isAgg48
  z72 := Tryd.sizeOf48
  v72 := Tryd.zeroValue48
  t75 := Tryd.underlying91
  a75 := Tryd.isAgg91
  z75 := Tryd.sizeOf91
  v75 := Tryd.zeroValue91
  t76 := Tryd.underlying92
  a76 := Tryd.isAgg92
  z76 := Tryd.sizeOf92
  v76 := Tryd.zeroValue92
  t109 := Tryd.underlying95
  a109 := Tryd.isAgg95
  z109 := Tryd.sizeOf95
  v109 := Tryd.zeroValue95
  t127 := Tryd.underlying72
  a127 := Tryd.isAgg72
  z127 := Tryd.sizeOf72
  v127 := Tryd.zeroValue72
  t146 := Tryd.underlying100
  a146 := Tryd.isAgg100
  z146 := Tryd.sizeOf100
  v146 := Tryd.zeroValue100
  t148 := Tryd.underlying103
  a148 := Tryd.isAgg103
  z148 := Tryd.sizeOf103
  v148 := Tryd.zeroValue103
  t164 := Tryd.underlying105
  a164 := Tryd.isAgg105
  z164 := Tryd.sizeOf105
  v164 := Tryd.zeroValue105
theorem Tryd.x105 : (Tryd.lays105_ren).f 105 = 49 := rfl
end Go.Proofs
namespace Go.Ab
open Go.RowKit
theorem Step.of_below {E : Env} {h : AH} {M : Nat → Prop} {w w' : World} (hr : Rel E h w) (hb : Below w.heap.size w w') : Step E h M w E h w' where
  env _ _ h := h
  rel := ⟨fun id o ho => let ⟨B, hB, hO⟩ := hr.obj id o ho; ⟨B, hB, hO.mono (fun _ _ h => h) (hb.block _ hO.lt)⟩, hr.inj, hr.fresh⟩
  next := Nat.le_refl _
  keep _ _ _ := rfl
  dead _ _ h := h
  os := hb.os
  tape := hb.tape
  output := hb.output
  size := hb.size
  frame b hb' _ := hb.block b hb'
  orig id B o h1 _ _ h3 := by have := h.lt _ _ h1; omega
  rok id o o' h1 h2 h3 := by rw [h1] at h2; cases h2; exact h3
theorem acalls_below {P : Program} {f : FuncId} {args : List AV} {h : AH} {M : Nat → Prop} {R : AE → AH → Prop} {v : Value}
    (hc : ∀ E w cargs, Rel E h w → VRs E args cargs → Calls P f cargs.toArray w fun e w' => e = .returned v ∧ Below w.heap.size w w') (hR : R (.ret (.sc v)) h) : ACalls P f args h M R := by
  intro E w cargs hr ha
  refine (hc E w cargs hr ha).mono ?_
  rintro e w' ⟨rfl, hb⟩
  exact ⟨E, h, .ret (.sc v), Step.of_below hr hb, .sc _, hR⟩
def oTab (g : Nat) (ob : Go.Obj) : AO := { cells := [], sz := 0, ty := 0, ro := true, kind := .glob g ob }
def pow10O (ty : TypeId) (fz : Nat × Nat) : Go.Obj := .cells ((Lib.pow10Tab.map fun z => Value.int .u64 z).toArray) ty fz
def HasTab (g : Nat) (h : AH) : Prop := ∃ ty fz, h.obj 0 = some (oTab g (pow10O ty fz))
theorem HasTab.fr {g : Nat} {h h' : AH} {S : Nat → Prop} (ht : HasTab g h) (hf : Fr h h' S) (hs : ¬ S 0) : HasTab g h' := by
  obtain ⟨ty, fz, h0⟩ := ht
  exact ⟨ty, fz, hf.obj h0 hs⟩
theorem HasTab.is {P : Program} {g : Nat} {E : Env} {h : AH} {w : World} (ht : HasTab g h) (hr : Rel E h w) (hg : P.globalNamed "internal/strconv.uint64pow10" = some g) : Lib.TabIs P w "internal/strconv.uint64pow10" .u64 Lib.pow10Tab := by
  obtain ⟨ty, fz, h0⟩ := ht
  obtain ⟨B, hB, hO⟩ := hr.obj 0 _ h0
  have hO2 : B.b = g ∧ w.heap[g]? = some (pow10O ty fz) := hO
  unfold Lib.TabIs World.var?
  rw [hg, Option.bind_some, hO2.2]
  rfl
theorem below_grow (w : World) (k : Nat) (os : Array Go.Obj) : Below w.heap.size w (Go.Sort.grow (w.drewN k) os) := by
  refine ⟨rfl, rfl, rfl, ?_, fun i hi => ?_⟩
  · show _ ≤ (w.heap ++ os).size
    simp
  · show (w.heap ++ os)[i]? = _
    rw [Array.getElem?_append_left hi]
def SlR {α : Type} (f : α → List AV) (sz : Nat) (ty : TypeId) (h : AH) (x : AV) (l : List α) : Prop :=
  (x = nilS ∧ l = []) ∨ (∃ a c, x = .sc (.slice a 0 c) ∧ l = []) ∨ ∃ id rest ro ty', x = .sl id 0 l.length ∧ (ro = false → ty' = ty) ∧ h.obj id = some { cells := l.flatMap f ++ rest, sz := sz, ty := ty', ro := ro, kind := .row }
theorem SlL.toR {α : Type} {f : α → List AV} {sz : Nat} {ty : TypeId} {h : AH} {x : AV} {l : List α} (hl : SlL f sz ty h x l) : SlR f sz ty h x l := by
  rcases hl with hl | ⟨id, h1, h2⟩
  · exact .inl hl
  · exact .inr (.inr ⟨id, [], false, ty, h1, fun _ => rfl, by simpa [mkO] using h2⟩)
theorem SlR.fr {α : Type} {f : α → List AV} {sz : Nat} {ty : TypeId} {h h' : AH} {S : Nat → Prop} {x : AV} {l : List α} (hl : SlR f sz ty h x l) (hf : Fr h h' S) (hs : ∀ id o, h.obj id = some o → (o.ro = false → o.ty = ty) → ¬ S id) : SlR f sz ty h' x l := by
  rcases hl with hl | hl | ⟨id, rest, ro, ty', h1, h3, h2⟩
  · exact .inl hl
  · exact .inr (.inl hl)
  · exact .inr (.inr ⟨id, rest, ro, ty', h1, h3, hf.obj h2 (hs id _ h2 h3)⟩)
theorem SlR.fr0 {α : Type} {f : α → List AV} {sz : Nat} {ty : TypeId} {h h' : AH} {x : AV} {l : List α} (hl : SlR f sz ty h x l) (hf : Fr h h' fun _ => False) : SlR f sz ty h' x l := hl.fr hf fun _ _ _ _ h => h
theorem SlR.len {α : Type} {f : α → List AV} {sz : Nat} {ty : TypeId} {h : AH} {x : AV} {l : List α} (hl : SlR f sz ty h x l) : (strArg x = false) ∧ ∀ K : AV → Prop, pLen x K = K (.sc (.int .i64 l.length)) := by
  rcases hl with ⟨rfl, rfl⟩ | ⟨a, c, rfl, rfl⟩ | ⟨id, rest, ro, ty', rfl, _, _⟩ <;> exact ⟨rfl, fun _ => rfl⟩
theorem SlR.one {α : Type} {f : α → List AV} {sz : Nat} {ty : TypeId} {h : AH} {x : AV} {l : List α} (hl : SlR f sz ty h x l) : oneA x = true ∧ avCells x = some [x] := by
  rcases hl with ⟨rfl, rfl⟩ | ⟨a, c, rfl, rfl⟩ | ⟨id, rest, ro, ty', rfl, _, _⟩ <;> exact ⟨rfl, rfl⟩
theorem SlR.at_ {α : Type} {f : α → List AV} {sz : Nat} {ty : TypeId} {h : AH} {x : AV} {l : List α} (hl : SlR f sz ty h x l) (hf : ∀ y, (f y).length = sz) {i : Nat} {y : α} (hy : l[i]? = some y) :
    ∃ id cells ro ty', x = .sl id 0 l.length ∧ h.obj id = some { cells := cells, sz := sz, ty := ty', ro := ro, kind := .row } ∧ (cells.drop (i * sz)).take sz = f y ∧ i * sz + sz ≤ cells.length ∧ ∀ j, j < sz → cells[i * sz + j]? = (f y)[j]? := by
  have hi : i < l.length := (List.getElem?_eq_some_iff.1 hy).1
  rcases hl with ⟨_, rfl⟩ | ⟨_, _, _, rfl⟩ | ⟨id, rest, ro, ty', h1, _, h2⟩
  · simp at hi
  · simp at hi
  · have hlen : (l.flatMap f).length = l.length * sz := flat_len hf l
    have hle : i * sz + sz ≤ (l.flatMap f).length := by
      rw [hlen, ← Nat.succ_mul]
      exact Nat.mul_le_mul_right _ hi
    refine ⟨id, _, ro, ty', h1, h2, ?_, by simp only [List.length_append]; omega, fun j hj => ?_⟩
    · rw [List.drop_append_of_le_length (by omega), List.take_append_of_le_length (by rw [List.length_drop]; omega)]
      exact flat_drop hf l i y hy
    · rw [List.getElem?_append_left (by omega), flat_get hf l i j hj, hy]; rfl
end Go.Ab
namespace Go.Proofs.YthkkgbmjjpcfaaaDoor
open Go.Ab Go.RowKit Go.Shelf
theorem glob1 : Tryd.prog.globalNamed "internal/strconv.uint64pow10" = some 1 := by kernel_rfl
theorem Tryd.builderX105 : Builder.Extra Tryd.prog Tryd.lays105_ren where
  sizeBuilder := by kernel_rfl
  liesBuilder := by kernel_rfl
  t5 := Tryd.underlying5
  a5 := Tryd.isAgg5
  z5 := Tryd.sizeOf5
  v5 := Tryd.zeroValue5
  infoByte := by kernel_rfl
  cellsByte := by kernel_rfl
  sizeByte := by kernel_rfl
  neB5 := by decide
theorem Tryd.builderX156 : Builder.Extra Tryd.prog Tryd.lays156_ren where
  sizeBuilder := by kernel_rfl
  liesBuilder := by kernel_rfl
  t5 := Tryd.underlying5
  a5 := Tryd.isAgg5
  z5 := Tryd.sizeOf5
  v5 := Tryd.zeroValue5
  infoByte := by kernel_rfl
  cellsByte := by kernel_rfl
  sizeByte := by kernel_rfl
  neB5 := by decide
section
variable {h : AH} {M : Nat → Prop} {R : AE → AH → Prop}
theorem itoa_ok {n : Int} (h0 : -9223372036854775808 ≤ n) (h1 : n ≤ 9223372036854775807) (ht : HasTab 1 h) (hR : R (.ret (.sc (.string ⟨(Lib.itoa n).toArray⟩))) h) : ACalls Tryd.prog 47 [.sc (.int .i64 n)] h M R := by
  refine acalls_below (v := .string ⟨(Lib.itoa n).toArray⟩) (fun E w cargs hr ha => ?_) hR
  cases ha with
  | cons a1 a2 =>
    cases a2; cases a1
    refine (Any.strconv_Itoa Tryd.lays171 n h0 h1 w (ht.is hr glob1)).mono ?_
    rintro e w' ⟨he, k, os, rfl⟩
    exact ⟨he, below_grow w k os⟩
theorem repeat_ok {s : ByteArray} {c : Nat} (hc : c ≤ 100000) (hs : s.size ≤ 100000) (hR : R (.ret (.sc (.string ⟨(Lib.repeatL s.data.toList c).toArray⟩))) h) : ACalls Tryd.prog 49 [.sc (.string s), .sc (.int .i64 c)] h M R := by
  refine acalls_below (v := .string ⟨(Lib.repeatL s.data.toList c).toArray⟩) (fun E w cargs hr ha => ?_) hR
  cases ha with
  | cons a1 a2 =>
    cases a2 with
    | cons a2 a3 =>
      cases a3; cases a1; cases a2
      exact Any.strings_Repeat Tryd.lays105 Tryd.builderX105 s c w (by omega) (by have := Nat.mul_le_mul hs hc; omega)
def strCell (s : ByteArray) : List AV := [.sc (.string s)]
theorem flat_strs (l : List ByteArray) : l.flatMap strCell = l.map fun s => .sc (.string s) := by
  induction l with
  | nil => rfl
  | cons s l ih => simp [strCell, ih]
theorem join_ok {x : AV} {xs : List ByteArray} {sep : ByteArray} (hx : SlL strCell 1 9 h x xs) (hn : xs.length ≤ 100000) (hl : (Lib.join (xs.map (·.data.toList)) sep.data.toList).length ≤ 140737488355328)
    (hR : R (.ret (.sc (.string ⟨(Lib.join (xs.map (·.data.toList)) sep.data.toList).toArray⟩))) h) : ACalls Tryd.prog 48 [x, .sc (.string sep)] h M R := by
  refine acalls_below (v := .string ⟨(Lib.join (xs.map (·.data.toList)) sep.data.toList).toArray⟩) (fun E w cargs hr ha => ?_) hR
  cases ha with
  | cons a1 a2 =>
    cases a2 with
    | cons a2 a3 =>
      cases a3; cases a2
      rcases hx with ⟨rfl, rfl⟩ | ⟨id, rfl, ho⟩
      · cases a1
        refine (Any.strings_Join_none Tryd.lays156 Tryd.builderX156 none 0 sep w).mono ?_
        rintro e w' ⟨he, rfl⟩
        exact ⟨by rw [he]; rfl, Below.refl _ _⟩
      · cases a1 with
        | sl hB hof hc hlen hm =>
          rename_i o' cap B
          obtain ⟨B', hB', hO⟩ := hr.obj id _ ho
          rw [hB] at hB'; cases hB'
          obtain ⟨arr, fz, hb, hfz, hle, hbs, hcr⟩ := hO.row rfl
          obtain ⟨_, hn', hB0⟩ := hfz rfl
          have hcr := hcr.zero hB0
          have hlt := hO.lt
          have hs1 : B.sz = 1 := hbs
          have hfl : (mkO (xs.flatMap strCell) 1 9).cells = xs.map fun s => .sc (.string s) := flat_strs xs
          rw [hfl] at hcr
          by_cases h0 : xs.length = 0
          · have : xs = [] := List.length_eq_zero_iff.1 h0
            subst this
            refine (Any.strings_Join_none Tryd.lays156 Tryd.builderX156 (some ⟨B.b, o', none⟩) cap sep w).mono ?_
            rintro e w' ⟨he, rfl⟩
            exact ⟨by rw [he]; rfl, Below.refl _ _⟩
          · have ho' : o' = 0 := by omega
            subst ho'
            have := Any.strings_Join Tryd.lays156 Tryd.builderX156 B.b 0 cap xs sep w (fun j s hj => ?_) hlt (by omega) hlen hl
            · exact this
            · obtain ⟨v, hv, hvr, _⟩ := hcr j (.sc (.string s)) (by simp [hj])
              cases hvr
              simp [World.cell?, hb, hv]
end
end Go.Proofs.YthkkgbmjjpcfaaaDoor
namespace Go.Proofs.YthkkgbmjjpcfaaaDoor
open Go.Ab Go.RowKit Go.Shelf
theorem rowAt_more {p : Program} {fits : TypeId → Bool} {d : Nat} {e : TypeId} {off n c : Nat} (h : rowAt p fits d e 1 off n = true) (ho : off < p.cellsOf e) (hc : 0 < c) : rowAt p fits d e c off n = true := by
  cases d with
  | zero => simp [rowAt] at h
  | succ d =>
    unfold rowAt at h ⊢
    have hs : ¬ p.cellsOf e = 0 := by omega
    simp only [hs, if_false, Nat.div_eq_of_lt ho, Nat.mod_eq_of_lt ho, Nat.zero_add] at h ⊢
    rw [Bool.or_eq_true] at h ⊢
    rcases h with h | h
    · left
      simp only [Bool.and_eq_true, decide_eq_true_eq] at h ⊢
      exact ⟨⟨h.1.1, by omega⟩, h.2⟩
    · right
      rw [Bool.and_eq_true] at h ⊢
      exact ⟨by simpa using hc, h.2⟩
theorem liesAt_more {p : Program} {e : TypeId} {off c : Nat} (ho : off < p.cellsOf e) (hc : 0 < c) : ∀ (d : Nat) (u : TypeId) (n : Nat), liesAt p d e 1 off u n = true → liesAt p d e c off u n = true
  | 0, _, _, h => by simp [liesAt] at h
  | d + 1, u, n, h => by
    unfold liesAt at h ⊢
    rw [Bool.or_eq_true] at h ⊢
    rcases h with h | h
    · exact .inl (rowAt_more h ho hc)
    · right
      split at h
      · exact liesAt_more ho hc d _ _ h
      · cases h
theorem lies_writer {n : Nat} (hn : 3 ≤ n) : liesAt Tryd.prog Tryd.prog.depth 50 (n / Tryd.prog.cellsOf 50) 1 48 1 = true := by
  have h3 : Tryd.prog.cellsOf 50 = 3 := by kernel_rfl
  refine liesAt_more (by rw [h3]; omega) ?_ _ _ _ (by kernel_rfl)
  rw [h3]
  exact Nat.div_pos hn (by omega)
set_option maxHeartbeats 1000000 in
theorem copyCheck_fresh (b n : Nat) (w : World) (h0 : w.cell? ⟨b, 1, none⟩ = some (.pointer none)) (hsh : w.shape? b = some (50, n)) (hn : 3 ≤ n) (hfz : w.frozen? ⟨b, 1, none⟩ = false) :
    Calls Tryd.prog 61 #[.pointer (some ⟨b, 1, none⟩)] w fun e w' => e = .returned (.tuple #[]) ∧ w' = w.setCell ⟨b, 1, none⟩ (.pointer (some ⟨b, 1, none⟩)) := by
  have L := Tryd.lays156
  have X := Tryd.builderX156.toX72
  obtain ⟨j, hj, hjs⟩ := Option.map_eq_some_iff.1 X.sizeBuilder
  have mixed := L.mixed
  have hlies := lies_writer hn
  have t72 := L.t72; have a72 := L.a72; have z72 := L.z72; have v72 := L.v72; have u72 := run_underlying L.t72
  have t70 := L.t70; have a70 := L.a70; have z70 := L.z70; have v70 := L.v70; have u70 := run_underlying L.t70
  have t9 := L.t9; have a9 := L.a9; have z9 := L.z9; have v9 := L.v9; have u9 := run_underlying L.t9
  have t4 := L.t4; have a4 := L.a4; have z4 := L.z4; have v4 := L.v4; have u4 := run_underlying L.t4
  have t164 := L.t164; have a164 := L.a164; have z164 := L.z164; have v164 := L.v164; have u164 := run_underlying L.t164
  go_enter L.f240, Body.n240_ntmps Tryd.lays156_ren
  go_wp2
  rw [Lib.run_to_unsafe w ⟨b, 1, none⟩ L.t70 L.t164 hj (by rw [hjs]; decide) hsh (by show 1 < n; omega)]
  simp only [Result.andThen]
  rw [Oper.upon_value]
  go_wp2
  rw [run_callFunc_extern L.f276 (by kernel_rfl) (by kernel_rfl) (by kernel_rfl) (e := Extern.AbiNoEscape.same) (by kernel_rfl)]
  rw [Lib.run_noEscape]
  simp only [Result.andThen]
  rw [Oper.upon_value]
  go_wp2
  rw [Lib.run_from_unsafe w ⟨b, 1, none⟩ L.t164 L.t70 hj hsh hlies]
  simp only [Result.andThen]
  rw [Oper.upon_value]
  go_wp2
  go_end0
  exact ⟨rfl, rfl⟩
set_option maxHeartbeats 1000000 in
theorem copyCheck_used (b : Nat) (w : World) (h0 : w.cell? ⟨b, 1, none⟩ = some (.pointer (some ⟨b, 1, none⟩))) :
    Calls Tryd.prog 61 #[.pointer (some ⟨b, 1, none⟩)] w fun e w' => e = .returned (.tuple #[]) ∧ w' = w := by
  have L := Tryd.lays156
  have X := Tryd.builderX156.toX72
  obtain ⟨j, hj, _⟩ := Option.map_eq_some_iff.1 X.sizeBuilder
  have mixed := L.mixed
  have t72 := L.t72; have a72 := L.a72; have z72 := L.z72; have v72 := L.v72; have u72 := run_underlying L.t72
  have t70 := L.t70; have a70 := L.a70; have z70 := L.z70; have v70 := L.v70; have u70 := run_underlying L.t70
  have t9 := L.t9; have a9 := L.a9; have z9 := L.z9; have v9 := L.v9; have u9 := run_underlying L.t9
  have t4 := L.t4; have a4 := L.a4; have z4 := L.z4; have v4 := L.v4; have u4 := run_underlying L.t4
  have t164 := L.t164; have a164 := L.a164; have z164 := L.z164; have v164 := L.v164; have u164 := run_underlying L.t164
  go_enter L.f240, Body.n240_ntmps Tryd.lays156_ren
  go_wp2
  rw [Lib.run_neq_ptr_same w _ L.t70 hj]
  go_wp2
  go_end0
  exact ⟨rfl, rfl⟩
end Go.Proofs.YthkkgbmjjpcfaaaDoor
namespace Go.Ab
open Go.RowKit
theorem heap_freeze (w : World) (a : Addr) (n : Nat) {arr : Array Value} {T : TypeId} {fz : Nat × Nat} (h : w.heap[a.block]? = some (.cells arr T fz)) : ∃ fz', (w.freeze a n).heap[a.block]? = some (.cells arr T fz') := by
  unfold World.freeze
  split
  · exact ⟨fz, h⟩
  · obtain ⟨lo, hi⟩ := fz
    simp only [Array.getElem?_modify, h, if_true, Option.map_some]
    exact ⟨_, rfl⟩
theorem heap_freeze_ne (w : World) (a : Addr) (n : Nat) {k : Nat} (h : k ≠ a.block) : (w.freeze a n).heap[k]? = w.heap[k]? := by
  unfold World.freeze
  split
  · rfl
  · simp only [Array.getElem?_modify]
    rw [if_neg (fun e => h e.symm)]
theorem freeze_size (w : World) (a : Addr) (n : Nat) : (w.freeze a n).heap.size = w.heap.size := by
  unfold World.freeze
  split
  · rfl
  · simp
def AH.frz (h : AH) (id : Nat) : AH := h.upd id fun o => { o with ro := true }
theorem AH.frz_obj (h : AH) (id i : Nat) : (h.frz id).obj i = if i = id then (h.obj i).map (fun o => { o with ro := true }) else h.obj i := rfl
theorem Step.freeze {E : Env} {h : AH} {M : Nat → Prop} {w : World} (hr : Rel E h w) {id : Nat} {B : Blk} {o : AO} (ho : h.obj id = some o) (hB : E id = some B) (hk : o.kind = .row) (hro : o.ro = false) (hM : M id) (n : Nat) :
    Step E h M w E (h.frz id) (w.freeze ⟨B.b, 0, none⟩ n) := by
  obtain ⟨B', hB', hO⟩ := hr.obj id o ho
  obtain ⟨arr, fz, hb, hfz, hle, hsz, hcr⟩ := hO.row hk
  rw [hB] at hB'; cases hB'
  obtain ⟨fz', hb'⟩ := heap_freeze w ⟨B.b, 0, none⟩ n hb
  refine ⟨fun _ _ h => h, ⟨?_, ?_, hr.fresh⟩, Nat.le_refl _, ?_, ?_, ?_, ?_, ?_, by rw [freeze_size]; exact Nat.le_refl _, ?_, ?_, ?_⟩
  · intro i o' ho'
    rw [AH.frz_obj] at ho'
    by_cases e : i = id
    · subst e
      rw [if_pos rfl, ho] at ho'
      simp only [Option.map_some, Option.some.injEq] at ho'
      subst ho'
      exact ⟨B, hB, OR.of_row hk ⟨arr, fz', hb', fun h => by simp at h, hle, hsz, hcr⟩⟩
    · rw [if_neg e] at ho'
      obtain ⟨B', hB', hO⟩ := hr.obj i o' ho'
      exact ⟨B', hB', hO.mono (fun _ _ h => h) (heap_freeze_ne w _ n fun hbb => (hr.inj i id o' o B' B ho' ho hB' hB hbb).elim e (fun hh => by rw [hro] at hh; cases hh.2))⟩
  · intro i j oi oj Bi Bj h1 h2 h3 h4 h5
    rw [AH.frz_obj] at h1 h2
    have some' : ∀ i oi, (if i = id then (h.obj i).map (fun o => ({ o with ro := true } : AO)) else h.obj i) = some oi → ∃ o', h.obj i = some o' ∧ (o'.ro = true → oi.ro = true) := by
      intro i oi hi
      split at hi
      · cases ho : h.obj i with
        | none => rw [ho] at hi; cases hi
        | some o' => rw [ho] at hi; simp only [Option.map_some, Option.some.injEq] at hi; subst hi; exact ⟨o', rfl, fun _ => rfl⟩
      · exact ⟨oi, hi, fun h => h⟩
    obtain ⟨a, ha, ra⟩ := some' i oi h1
    obtain ⟨b, hb, rb⟩ := some' j oj h2
    rcases hr.inj i j a b Bi Bj ha hb h3 h4 h5 with h6 | h6
    · exact .inl h6
    · exact .inr ⟨ra h6.1, rb h6.2⟩
  · intro i _ hm
    rw [AH.frz_obj, if_neg (fun (e : i = id) => hm (e ▸ hM))]
  · intro i _ h0
    rw [AH.frz_obj, h0]; simp
  · unfold World.freeze; split <;> rfl
  · unfold World.freeze; split <;> rfl
  · unfold World.freeze; split <;> rfl
  · intro b _ hno
    exact heap_freeze_ne w _ n (fun hbb => hno id B o hM ho hro hB hbb.symm)
  · intro i C oi hi _ _ hge
    rw [AH.frz_obj] at hi
    have : h.obj i ≠ none := fun h0 => by rw [h0] at hi; simp at hi
    have := AH.lt' this
    omega
  · intro i o1 o2 h1' h2' h3'
    rw [AH.frz_obj] at h2'
    split at h2'
    · rw [h1'] at h2'; simp only [Option.map_some, Option.some.injEq] at h2'; subst h2'; rfl
    · rw [h1'] at h2'; cases h2'; exact h3'
end Go.Ab
namespace Go.Proofs.YthkkgbmjjpcfaaaDoor
open Go.Ab Go.RowKit Go.Shelf
def SW (n0 : Nat) (h : AH) (id : Nat) : Prop := n0 ≤ id ∧ ∃ o, h.obj id = some o ∧ o.ro = false ∧ (o.ty = 50 ∨ o.ty = 5)
theorem SW.trans {n0 : Nat} {h h1 h2 : AH} (a : Fr h h1 (SW n0 h)) (b : Fr h1 h2 (SW n0 h1)) : Fr h h2 (SW n0 h) := by
  refine ⟨Nat.le_trans a.next b.next, fun id h1' h2' => ?_⟩
  have e1 := a.keep id h1' h2'
  rw [b.keep id (Nat.lt_of_lt_of_le h1' a.next) ?_, e1]
  rintro ⟨h3, o, h4, h5⟩
  exact h2' ⟨h3, o, by rw [← e1]; exact h4, h5⟩
theorem SW.of_fr {n0 : Nat} {h h1 : AH} (a : Fr h h1 fun _ => False) : Fr h h1 (SW n0 h) := a.mono fun _ h => h.elim
structure Wr (n0 : Nat) (h : AH) (w : Nat) (rv : AV) (l : List UInt8) : Prop where
  own : n0 ≤ w
  ex : ∃ p bv, h.obj w = some (mkO [rv, p, bv] 3 50) ∧ (p = .sc (.pointer none) ∨ p = .ptr w 1) ∧ ((bv = nilS ∧ l = []) ∨ ∃ id, l ≠ [] ∧ n0 ≤ id ∧ bv = .sl id 0 l.length ∧ h.obj id = some (mkO (strC l) 1 5))
theorem Wr.fr {n0 : Nat} {h h' : AH} {w : Nat} {rv : AV} {l : List UInt8} (a : Wr n0 h w rv l) {S : Nat → Prop} (hf : Fr h h' S) (hs : ∀ id o, h.obj id = some o → o.ty = 50 ∨ o.ty = 5 → ¬ S id) : Wr n0 h' w rv l := by
  obtain ⟨h1, p, bv, h2, h3, h4⟩ := a
  refine ⟨h1, p, bv, hf.obj h2 (hs _ _ h2 (.inl rfl)), h3, ?_⟩
  rcases h4 with h4 | ⟨id, h5, h6, h7, h8⟩
  · exact .inl h4
  · exact .inr ⟨id, h5, h6, h7, hf.obj h8 (hs _ _ h8 (.inr rfl))⟩
theorem Wr.fr0 {n0 : Nat} {h h' : AH} {w : Nat} {rv : AV} {l : List UInt8} (a : Wr n0 h w rv l) (hf : Fr h h' fun _ => False) : Wr n0 h' w rv l := a.fr hf fun _ _ _ _ h => h
section
variable {h : AH} {M : Nat → Prop} {R : AE → AH → Prop} {n0 w : Nat} {rv : AV} {l : List UInt8}
theorem len_ok (hw : Wr n0 h w rv l) (hR : R (.ret (.sc (.int .i64 l.length))) h) : ACalls Tryd.prog 16 [.ptr w 1] h M R := by
  obtain ⟨_, p, bv, h2, _, h4⟩ := hw
  apply F16.calls
  rcases h4 with ⟨rfl, rfl⟩ | ⟨id, _, _, rfl, _⟩
  · simpa [h2] using hR
  · simpa [h2] using hR
theorem copyCheck_ok {p bv : AV} (ho : h.obj w = some (mkO [rv, p, bv] 3 50)) (hp : p = .sc (.pointer none) ∨ p = .ptr w 1) (hM : M w) (hR : ∀ h', Fr h h' (· = w) → h'.obj w = some (mkO [rv, .ptr w 1, bv] 3 50) → R (.ret (.tup [])) h') : ACalls Tryd.prog 61 [.ptr w 1] h M R := by
  intro E wd cargs hr ha
  cases ha with
  | cons a1 a2 =>
    cases a2
    cases a1 with
    | ptr hB =>
      rename_i B
      obtain ⟨B', hB', hO⟩ := hr.obj w _ ho
      rw [hB] at hB'; cases hB'
      obtain ⟨arr, fz, hb, hfz, hle, hbs, hcr⟩ := hO.row rfl
      obtain ⟨hz, hn', hB0⟩ := hfz rfl
      have hcr := hcr.zero hB0
      have h3 : 3 ≤ arr.size := hcr.get
      rw [hB0]
      subst hz
      obtain ⟨v, hv, hvr, _⟩ := hcr 1 p rfl
      rcases hp with rfl | rfl
      · cases hvr
        refine (copyCheck_fresh B.b arr.size wd (by simp [World.cell?, hb, hv]) (by simp [World.shape?, hb]) h3 (by simp [World.frozen?, hb])).mono ?_
        rintro e w' ⟨rfl, rfl⟩
        have hst := (Step.set1 (M := M) (c := .ptr w 1) (v := .pointer (some ⟨B.b, 1, none⟩)) (off := 1) hr ho hB rfl rfl hM (by simp [mkO]) (by have := VR.ptr (off := 1) hB; rwa [hB0] at this) rfl).1
        refine ⟨E, _, .ret (.tup []), hst, .tup .nil, hR _ ⟨Nat.le_refl _, fun id _ hne => AH.put_old hne⟩ ?_⟩
        rw [put_row ho]; rfl
      · cases hvr with
        | ptr hB2 =>
          rw [hB] at hB2; cases hB2
          rw [hB0] at hv
          refine (copyCheck_used B.b wd (by simp [World.cell?, hb, hv])).mono ?_
          rintro e w' ⟨rfl, rfl⟩
          exact ⟨E, h, .ret (.tup []), Step.refl hr, .tup .nil, hR _ Fr.refl ho⟩
theorem strC_app (a b : List UInt8) : strC (a ++ b) = strC a ++ strC b := by simp [strC]
theorem strC_len (a : List UInt8) : (strC a).length = a.length := by simp [strC]
theorem wstr_ok {s : ByteArray} (hw : Wr n0 h w rv l) (hl : l.length + s.size ≤ 140737488355328) (hn : n0 ≤ h.next) (hM : ∀ id, SW n0 h id → M id) (hR : ∀ h', Fr h h' (SW n0 h) → Wr n0 h' w rv (l ++ s.data.toList) → R (.ret (.tup [.sc (.int .i64 s.size), .sc .nilIface])) h') : ACalls Tryd.prog 50 [.ptr w 1, .sc (.string s)] h M R := by
  obtain ⟨h1, p, bv, h2, h3, h4⟩ := hw
  have hMw : M w := hM w ⟨h1, _, h2, rfl, .inl rfl⟩
  have hsd : s.data.toList.length = s.size := by rw [Array.length_toList]; rfl
  have hwn := h.lt _ _ h2
  apply F50.calls
  simp only [F50.k4, F50.t4, F50.k3, F50.t3]
  refine ⟨(· = w), fun id e _ => .inl (e ▸ hMw), copyCheck_ok h2 h3 rfl ?_⟩
  intro h5 f5 o5
  have n5 := f5.next
  have ne5 : ∀ id, h.obj id = some (mkO (strC l) 1 5) → id ≠ w := fun id ho e => by subst e; rw [h2] at ho; simp [mkO] at ho
  rcases h4 with ⟨rfl, rfl⟩ | ⟨id, h6, h7, rfl, h8⟩
  · simp [o5, eAppS, eStore_f, -F50.k1]
    by_cases hz : s = ByteArray.empty
    · have hsn : s.data.toList = [] := by subst hz; rfl
      rw [if_pos hz]
      simp [hMw]
      refine hR _ ?_ ⟨h1, .ptr w 1, nilS, ?_, .inr rfl, .inl ⟨rfl, by rw [hsn]; rfl⟩⟩
      · exact (f5.put (cs := [nilS]) (off := 2) (.inl rfl)).mono fun id e => e ▸ ⟨h1, _, h2, rfl, .inl rfl⟩
      · rw [put_row o5]; rfl
    · rw [if_neg hz]
      have hz' : s.size ≠ 0 := fun e => hz (by simpa using e)
      refine ⟨by simpa using hl, ?_⟩
      have hwn5 : w ≠ h5.next := by omega
      simp [AH.alloc_obj, hwn5, o5, stk_mk, hMw]
      refine hR _ ?_ ⟨h1, .ptr w 1, .sl h5.next 0 s.size, ?_, .inr rfl, .inr ⟨h5.next, ?_, by omega, by simp [hsd], ?_⟩⟩
      · exact ((f5.alloc _).put (.inl rfl)).mono fun id e => e ▸ ⟨h1, _, h2, rfl, .inl rfl⟩
      · rw [put_row (by rw [AH.alloc_old (by omega)]; exact o5)]; rfl
      · intro e; have := congrArg List.length e; rw [List.nil_append, hsd] at this; exact hz' this
      · rw [AH.put_old (by omega), AH.alloc_new]; simp [mkO]
  · have hidn := h.lt _ _ h8
    have hidw := ne5 id h8
    have o8 := f5.obj h8 hidw
    have hMid : M id := hM id ⟨h7, _, h8, rfl, .inr rfl⟩
    have hwn5 : w ≠ h5.next := by omega
    simp [o5, eAppS, eStore_f, -F50.k1]
    refine ⟨_, ⟨.inl hMid, o8, rfl, rfl, rfl, rfl, by simp [mkO, strC_len], hl⟩, ?_⟩
    simp [AH.alloc_obj, AH.del_next, hwn5, AH.del_obj, hidw, Ne.symm hidw, o5, stk_mk, hMw, mkO]
    have hnew : h5.next ≠ w := by omega
    refine hR _ ?_ ⟨h1, .ptr w 1, .sl h5.next 0 (l.length + s.size), ?_, .inr rfl, .inr ⟨h5.next, ?_, by omega, by simp [hsd], ?_⟩⟩
    · refine ⟨by simp [AH.put_next, AH.alloc_next, AH.del_next]; omega, fun i hi hs => ?_⟩
      have hiw : i ≠ w := fun e => hs (e ▸ ⟨h1, _, h2, rfl, .inl rfl⟩)
      have hii : i ≠ id := fun e => hs (e ▸ ⟨h7, _, h8, rfl, .inr rfl⟩)
      rw [AH.put_old hiw, AH.alloc_old (by rw [AH.del_next]; omega), AH.del_old hii, f5.keep i hi hiw]
    · rw [put_row (cells := [rv, .ptr w 1, .sl id 0 l.length]) (sz := 3) (ty := 50) (by rw [AH.alloc_old (by rw [AH.del_next]; omega), AH.del_old (Ne.symm hidw), o5])]; rfl
    · simp [h6]
    · rw [AH.put_old hnew]
      rw [show h5.next = (h5.del id).next from rfl, AH.alloc_new, List.take_of_length_le (by rw [strC_len]; omega), ← strC_app]
end
set_option maxHeartbeats 2000000 in
theorem bstring_some (b g cap : Nat) (cur : Array Value) (l : List UInt8) (w : World) (h2 : w.cell? ⟨b, 2, none⟩ = some (.slice (some ⟨g, 0, none⟩) l.length cap)) (hg : w.heap[g]? = some (.cells cur 5 (0, 0)))
    (hcells : ∀ j x, l[j]? = some x → w.cell? ⟨g, j, none⟩ = some (.int .u8 x.toNat)) (h0 : l ≠ []) (hle : l.length ≤ cur.size) (hcap : l.length ≤ cap) (hcm : cap ≤ maxLen) :
    Calls Tryd.prog 17 #[.pointer (some ⟨b, 1, none⟩)] w fun e w' => e = .returned (.string ⟨l.toArray⟩) ∧ w' = w.drew.freeze ⟨g, 0, none⟩ l.length := by
  have L := Tryd.lays156
  have X := Tryd.builderX156
  have hl0 : l.length ≠ 0 := by simpa using h0
  have c1 : w.drew.cell? ⟨b, 2, none⟩ = some (.slice (some ⟨g, 0, none⟩) l.length cap) := h2
  have hSD : (Builtin.unsafeSliceData_ #[(Tryd.lays156_ren.t 37)] (Tryd.lays156_ren.t 127) #[.slice (some ⟨g, 0, none⟩) l.length cap]).run Tryd.prog w.drew = .ok (.pointer (some ⟨g, 0, none⟩)) w.drew :=
    Lib.run_unsafeSliceData_row _ _ _ _ _ _ (by omega)
  have hUS : (Builtin.unsafeString_ #[(Tryd.lays156_ren.t 127), (Tryd.lays156_ren.t 3)] (Tryd.lays156_ren.t 9) #[.pointer (some ⟨g, 0, none⟩), .int .i64 l.length]).run Tryd.prog w.drew = .ok (.string ⟨l.toArray⟩) (w.drew.freeze ⟨g, 0, none⟩ l.length) := by
    refine Lib.run_unsafeString_row w.drew (Tryd.lays156_ren.t 127) (Tryd.lays156_ren.t 3) (Tryd.lays156_ren.t 9) 5 L.t127 X.cellsByte g cur.size (by have hg' : w.drew.heap[g]? = some (.cells cur 5 (0, 0)) := hg; simp [World.shape?, hg']) l h0 (by omega) (by unfold maxLen at hcm; omega) ?_
    intro j x hx
    have := hcells j x hx
    have e : (⟨g, 0, none⟩ : Addr).add j = ⟨g, j, none⟩ := by unfold Addr.add; by_cases hj : j = 0 <;> simp [hj]
    rw [e]
    exact this
  clear hcells
  have mixed := L.mixed
  have t72 := L.t72; have a72 := L.a72; have z72 := L.z72; have v72 := L.v72; have u72 := run_underlying L.t72
  have t70 := L.t70; have a70 := L.a70; have z70 := L.z70; have v70 := L.v70; have u70 := run_underlying L.t70
  have t37 := L.t37; have a37 := L.a37; have z37 := L.z37; have v37 := L.v37; have u37 := run_underlying L.t37
  have t127 := L.t127; have a127 := L.a127; have z127 := L.z127; have v127 := L.v127; have u127 := run_underlying L.t127
  have t3 := L.t3; have a3 := L.a3; have z3 := L.z3; have v3 := L.v3; have u3 := run_underlying L.t3
  have t9 := L.t9; have a9 := L.a9; have z9 := L.z9; have v9 := L.v9; have u9 := run_underlying L.t9
  have t5 := X.t5; have a5 := X.a5; have z5 := X.z5; have v5 := X.v5; have u5 := run_underlying X.t5
  go_enter L.f169, Body.n169_ntmps Tryd.lays156_ren
  go_wp2
  go_region_o
  all_goals (go_wp2; go_ret; exact ⟨rfl, rfl⟩)
set_option maxHeartbeats 2000000 in
theorem bstring_nil (b : Nat) (w : World) (h2 : w.cell? ⟨b, 2, none⟩ = some (.slice none 0 0)) :
    Calls Tryd.prog 17 #[.pointer (some ⟨b, 1, none⟩)] w fun e w' => e = .returned (.string ⟨#[]⟩) ∧ w' = w.drew := by
  have L := Tryd.lays156
  have X := Tryd.builderX156
  have hUS : ∀ (W : World) (q : Option Addr), (Builtin.unsafeString_ #[(Tryd.lays156_ren.t 127), (Tryd.lays156_ren.t 3)] (Tryd.lays156_ren.t 9) #[.pointer q, .int .i64 0]).run Tryd.prog W = .ok (.string .empty) W := fun W q => Lib.run_unsafeString_none W _ _ _ q
  have c1 : w.drew.cell? ⟨b, 2, none⟩ = some (.slice none 0 0) := h2
  have hSD : (Builtin.unsafeSliceData_ #[(Tryd.lays156_ren.t 37)] (Tryd.lays156_ren.t 127) #[.slice none 0 0]).run Tryd.prog w.drew = .ok (.pointer none) w.drew := rfl
  have mixed := L.mixed
  have t72 := L.t72; have a72 := L.a72; have z72 := L.z72; have v72 := L.v72; have u72 := run_underlying L.t72
  have t70 := L.t70; have a70 := L.a70; have z70 := L.z70; have v70 := L.v70; have u70 := run_underlying L.t70
  have t37 := L.t37; have a37 := L.a37; have z37 := L.z37; have v37 := L.v37; have u37 := run_underlying L.t37
  have t127 := L.t127; have a127 := L.a127; have z127 := L.z127; have v127 := L.v127; have u127 := run_underlying L.t127
  have t3 := L.t3; have a3 := L.a3; have z3 := L.z3; have v3 := L.v3; have u3 := run_underlying L.t3
  have t9 := L.t9; have a9 := L.a9; have z9 := L.z9; have v9 := L.v9; have u9 := run_underlying L.t9
  have t5 := X.t5; have a5 := X.a5; have z5 := X.z5; have v5 := X.v5; have u5 := run_underlying X.t5
  go_enter L.f169, Body.n169_ntmps Tryd.lays156_ren
  go_wp2
  go_region_o
  all_goals (go_wp2; go_ret; exact ⟨rfl, rfl⟩)
section
variable {h : AH} {M : Nat → Prop} {R : AE → AH → Prop} {n0 w : Nat} {rv : AV} {l : List UInt8}
theorem bstr_ok (hw : Wr n0 h w rv l) (hM : ∀ id, SW n0 h id → M id) (hR : ∀ h', Fr h h' (SW n0 h) → R (.ret (.sc (.string ⟨l.toArray⟩))) h') : ACalls Tryd.prog 17 [.ptr w 1] h M R := by
  obtain ⟨_, p, bv, ho, _, h4⟩ := hw
  intro E wd cargs hr ha
  cases ha with
  | cons a1 a2 =>
    cases a2
    cases a1 with
    | ptr hB =>
      rename_i B
      obtain ⟨B', hB', hO⟩ := hr.obj w _ ho
      rw [hB] at hB'; cases hB'
      obtain ⟨arr, fz, hb, hfz, hle, hbs, hcr⟩ := hO.row rfl
      obtain ⟨hz, hn', hB0⟩ := hfz rfl
      have hcr := hcr.zero hB0
      rw [hB0]
      obtain ⟨v, hv, hvr, hone⟩ := hcr 2 bv rfl
      clear hone
      have hc2 : wd.cell? ⟨B.b, 2, none⟩ = some v := by simp [World.cell?, hb, hv]
      rcases h4 with ⟨rfl, rfl⟩ | ⟨id, h5, h6, rfl, h8⟩
      · cases hvr
        refine (bstring_nil B.b wd hc2).mono ?_
        rintro e w' ⟨rfl, rfl⟩
        exact ⟨E, h, .ret (.sc (.string ⟨#[]⟩)), Step.drew hr rfl rfl rfl rfl, .sc _, hR h Fr.refl⟩
      · cases hvr with
        | sl hC hof hc hlen hm =>
          rename_i o' cap C
          obtain ⟨C', hC', hO2⟩ := hr.obj id _ h8
          rw [hC] at hC'; cases hC'
          obtain ⟨arr2, fz2, hb2, hfz2, hle2, hbs2, hcr2⟩ := hO2.row rfl
          obtain ⟨hz2, hn2, hC0⟩ := hfz2 rfl
          have hcr2 := hcr2.zero hC0
          subst hz2
          have hl0 : l.length ≠ 0 := by simpa using h5
          have ho' : o' = 0 := by omega
          subst ho'
          have hsz2 := hcr2.get
          have hle3 : l.length ≤ arr2.size := by have : (mkO (strC l) 1 5).cells.length = l.length := strC_len l; omega
          refine (bstring_some B.b C.b cap arr2 l wd hc2 hb2 (fun j x hx => ?_) h5 hle3 hlen hm).mono ?_
          · obtain ⟨q, hq, hqr, _⟩ := hcr2 j (.sc (.int .u8 x.toNat)) (by simp [mkO, strC, hx])
            cases hqr
            simp [World.cell?, hb2, hq]
          rintro e w' ⟨rfl, rfl⟩
          have hMid : M id := hM id ⟨h6, _, h8, rfl, .inr rfl⟩
          have hs0 : Step E h M wd E h wd.drew := Step.drew hr rfl rfl rfl rfl
          have hst := Step.freeze (M := M) hs0.rel h8 hC rfl rfl hMid l.length
          refine ⟨E, _, .ret (.sc (.string ⟨l.toArray⟩)), hs0.trans hr hst (fun _ _ hm => .inl hm), .sc _, hR _ ⟨Nat.le_refl _, fun i hi hs => ?_⟩⟩
          rw [AH.frz_obj, if_neg (fun (e : i = id) => hs (e ▸ ⟨h6, _, h8, rfl, .inr rfl⟩))]
end
end Go.Proofs.YthkkgbmjjpcfaaaDoor
namespace Go.Proofs.YthkkgbmjjpcfaaaDoor
open Go.Ab
def isNameS (s : ByteArray) : Bool := decide (0 < s.size) && isLetter (byteAt s 0) && (runS isNameB s 0 == s.size)
def plainS (s : ByteArray) : Bool := isNameS s && !ownB s
theorem size_pos {s : ByteArray} (h : ¬ s = ByteArray.empty) : 0 < s.size := by
  rcases Nat.eq_zero_or_pos s.size with h1 | h1
  · exact absurd (by simpa using h1) h
  · exact h1
theorem emp_eq : (⟨#[]⟩ : ByteArray) = ByteArray.empty := rfl
section
variable {h : AH} {M : Nat → Prop} {R : AE → AH → Prop} {s : ByteArray}
theorem isName_ok (hs : s.size < 9223372036854775807) (hR : R (.ret (.sc (.bool (isNameS s)))) h) : ACalls Tryd.prog 56 [.sc (.string s)] h M R := by
  apply F56.calls
  by_cases h0 : s = ByteArray.empty
  · subst h0
    simp [emp_eq]
    simpa [isNameS] using hR
  · have hp := size_pos h0
    have hb : byteAt s 0 = s[0].toNat := by simp [byteAt, hp]
    simp [emp_eq, h0, hp, -F56.k4]
    refine ⟨fun _ => False, fun _ h => h.elim, letter_ok ?_⟩
    have hg := hR
    unfold isNameS at hR
    rw [hb] at hR
    cases hl : isLetter (s[0].toNat : Nat)
    · simp [hl] at hR
      simp [hl]
      exact hR
    · simp [hl, -F56.k2]
      refine ⟨fun _ => False, fun _ h => h.elim, run_ok inName_ok rfl hs ?_⟩
      simp
      simp [hl, hp] at hR
      have e : (((runS isNameB s 0 : Nat) : Int) == (s.size : Int)) = (runS isNameB s 0 == s.size) := by
        rw [Bool.eq_iff_iff]; simp; omega
      show R (.ret (.sc (.bool (((runS isNameB s 0 : Nat) : Int) == (s.size : Int))))) h
      rw [e]; exact hR
theorem plainName_ok (hs : s.size < 9223372036854775807) (hR : R (.ret (.sc (.bool (plainS s)))) h) : ACalls Tryd.prog 45 [.sc (.string s)] h M R := by
  apply F45.calls
  simp [-F45.k3]
  refine ⟨fun _ => False, fun _ h => h.elim, isName_ok hs ?_⟩
  unfold plainS at hR
  cases hn : isNameS s
  · simp [hn] at hR ⊢; exact hR
  · simp [hn] at hR
    simp [-F45.k2]
    refine ⟨fun _ => False, fun _ h => h.elim, own_ok ?_⟩
    simpa using hR
theorem counted_ok {n : Int} (hR : R (.ret (.sc (.bool (decide (0 ≤ n) && decide (n ≤ 9007199254740991))))) h) : ACalls Tryd.prog 46 [.sc (.int .i64 n)] h M R := by
  apply F46.calls
  by_cases h1 : 0 ≤ n <;> by_cases h2 : n ≤ 9007199254740991 <;> simp [h1, h2] at hR ⊢ <;> exact hR
end
end Go.Proofs.YthkkgbmjjpcfaaaDoor
namespace Go.Proofs.YthkkgbmjjpcfaaaDoor
open Go.Ab
structure Shape where
  name : Bool
  num : Bool
  args : Int
  body : Bool
def Shape.enc (s : Shape) : List AV := [.sc (.bool s.name), .sc (.bool s.num), .sc (.int .i64 s.args), .sc (.bool s.body)]
def shapeP (k : ByteArray) : Shape × Bool :=
  if k = sQubits ∨ k = sBits then (⟨true, true, 0, false⟩, true)
  else if k = sGate then (⟨true, false, -1, true⟩, true)
  else if k = sRepeat then (⟨false, true, 0, true⟩, true)
  else if k = sIf then (⟨true, true, 0, true⟩, true)
  else if k = sMeasure then (⟨false, false, 2, false⟩, true)
  else if k = sReset then (⟨false, false, 1, false⟩, true)
  else if k = sUse then (⟨true, false, -1, false⟩, true)
  else (⟨false, false, 0, false⟩, false)
theorem ag67 : aggOf Tryd.prog 67 = some true := by kernel_rfl
theorem sz67 : szOf Tryd.prog 67 = some 4 := by kernel_rfl
section
variable {h : AH} {M : Nat → Prop} {R : AE → AH → Prop}
theorem shape_end {s : Shape} {b : Bool} (hR : ∀ h', Fr h h' (fun _ => False) → R (.ret (.tup [.agg s.enc, .sc (.bool b)])) h') :
    R (.ret (.tup [.agg s.enc, .sc (.bool b)])) ((h.alloc (mkO ([.bool false, .bool false, .int .i64 0, .bool false].map AV.sc) 4 67)).put h.next 0 s.enc) :=
  hR _ ((Fr.refl.alloc _).put (.inr (Nat.le_refl _)))
theorem shapeOf_ok {k : ByteArray} (hR : ∀ h', Fr h h' (fun _ => False) → R (.ret (.tup [.agg (shapeP k).1.enc, .sc (.bool (shapeP k).2)])) h') : ACalls Tryd.prog 23 [.sc (.string k)] h M R := by
  apply F23.calls
  unfold shapeP at hR
  have fin := fun (s : Shape) (b : Bool) hh => shape_end (h := h) (R := R) (s := s) (b := b) hh
  by_cases h1 : k = sQubits
  · subst h1
    simp at hR
    simp [sQubits, AH.alloc_obj, ag67, sz67, AH.put_obj]
    exact fin ⟨true, true, 0, false⟩ true hR
  by_cases h2 : k = sBits
  · subst h2
    simp at hR
    simp [sBits, AH.alloc_obj, ag67, sz67, AH.put_obj]
    exact fin ⟨true, true, 0, false⟩ true hR
  by_cases h3 : k = sGate
  · subst h3
    simp [sQubits, sBits, sGate] at hR
    simp [sGate, AH.alloc_obj, ag67, sz67, AH.put_obj]
    exact fin ⟨true, false, -1, true⟩ true hR
  by_cases h4 : k = sRepeat
  · subst h4
    simp [sQubits, sBits, sGate, sRepeat] at hR
    simp [sRepeat, AH.alloc_obj, ag67, sz67, AH.put_obj]
    exact fin ⟨false, true, 0, true⟩ true hR
  by_cases h5 : k = sIf
  · subst h5
    simp [sQubits, sBits, sGate, sRepeat, sIf] at hR
    simp [sIf, AH.alloc_obj, ag67, sz67, AH.put_obj]
    exact fin ⟨true, true, 0, true⟩ true hR
  by_cases h6 : k = sMeasure
  · subst h6
    simp [sQubits, sBits, sGate, sRepeat, sIf, sMeasure] at hR
    simp [sMeasure, AH.alloc_obj, ag67, sz67, AH.put_obj]
    exact fin ⟨false, false, 2, false⟩ true hR
  by_cases h7 : k = sReset
  · subst h7
    simp [sQubits, sBits, sGate, sRepeat, sIf, sMeasure, sReset] at hR
    simp [sReset, AH.alloc_obj, ag67, sz67, AH.put_obj]
    exact fin ⟨false, false, 1, false⟩ true hR
  by_cases h8 : k = sUse
  · subst h8
    simp [sQubits, sBits, sGate, sRepeat, sIf, sMeasure, sReset, sUse] at hR
    simp [sUse, AH.alloc_obj, ag67, sz67, AH.put_obj]
    exact fin ⟨true, false, -1, false⟩ true hR
  simp [h1, h2, h3, h4, h5, h6, h7, h8] at hR
  unfold sQubits at h1; unfold sBits at h2; unfold sGate at h3; unfold sRepeat at h4; unfold sIf at h5; unfold sMeasure at h6; unfold sReset at h7; unfold sUse at h8
  simp [h1, h2, h3, h4, h5, h6, h7, h8, AH.alloc_obj, ag67, sz67, AH.put_obj]
  exact fin ⟨false, false, 0, false⟩ false hR
end
end Go.Proofs.YthkkgbmjjpcfaaaDoor
namespace Go.Ab
variable {P : Program} {α : Type} {f : α → List AV} {sz : Nat} {ty : TypeId} {h : AH} {x : AV} {l : List α} {i : Nat} {y : α} {W : Nat → Prop}
theorem rng_at {K : AV → Nat → Prop} (hl : SlR f sz ty h x l) (hf : ∀ y, (f y).length = sz) (hi : l[i]? = some y) (hK : ∀ q, K (.agg (f y)) q) :
    pIxA (some (sz, none)) x (.sc (.int .i64 i)) fun t => lLd (some true) (some sz) t h K := by
  have hlt : i < l.length := (List.getElem?_eq_some_iff.1 hi).1
  obtain ⟨id, cells, ro, ty', rfl, ho, h1, h2, _⟩ := hl.at_ hf hi
  simp only [pIxA_sl, lLdn_f, ho, ldnk_mk, Nat.zero_add, Int.toNat_natCast]
  refine ⟨⟨by omega, by omega⟩, h2, ?_⟩
  rw [h1]; exact hK _
theorem rng_var {K : AV → AH → Prop} {z : List Value} (hl : SlR f sz ty h x l) (hf : ∀ y, (f y).length = sz) (ho : (f y).all oneA = true) (hi : l[i]? = some y) (hz : z.all (·.oneCell') = true) (hn : z.length = sz) (hW : ∀ id, h.next ≤ id → W id)
    (hK : ∀ vn h', Fr h h' (fun _ => False) → h.next ≤ vn → h'.obj vn = some (mkO (f y) sz ty) → K (.ptr vn 0) h') :
    pIxA (some (sz, none)) x (.sc (.int .i64 i)) fun t => lLd (some true) (some sz) t h fun v _ => eAlloc (some z) sz ty h fun p h1 => eStore (some sz) p v h1 W fun h2 => K p h2 := by
  refine rng_at hl hf hi fun q => ?_
  have hv := AH.alloc_new h (mkO (z.map AV.sc) sz ty)
  simp only [eAlloc_d, eStore_f, hv, avC_agg, stk_mk]
  refine ⟨hz, ⟨hW _ (Nat.le_refl _), ho, hf _, by simp [hn]⟩, ?_⟩
  refine hK _ _ ((Fr.refl.alloc _).put (.inr (Nat.le_refl _))) (Nat.le_refl _) ?_
  rw [put_row hv]
  congr 1
  simp only [mkO]
  congr 1
  exact aFill_one (by simp [hn, hf])
theorem var_ld {K : AV → Nat → Prop} {cs : List AV} {vn : Nat} (ho : h.obj vn = some (mkO cs sz ty)) (hc : cs.length = sz) (hK : ∀ q, K (.agg cs) q) : lLd (some true) (some sz) (.ptr vn 0) h K := by
  simp only [lLdn_f, ho, ldnk_mk, Nat.zero_add, List.drop_zero]
  refine ⟨by omega, ?_⟩
  rw [List.take_of_length_le (by omega)]; exact hK _
theorem box_var {K : AV → AH → Prop} {cs : List AV} (ho : cs.all oneA = true) (hK : ∀ vn h', Fr h h' (fun _ => False) → h.next ≤ vn → h'.obj vn = some (mkO cs sz ty) → K (.ptr vn 0) h') : eBox sz ty (.agg cs) h K :=
  ⟨cs, rfl, ho, hK _ _ (Fr.refl.alloc _) (Nat.le_refl _) (AH.alloc_new h _)⟩
theorem new_var {K : AV → AH → Prop} {z : List Value} {cs : List AV} (ho : cs.all oneA = true) (hc : cs.length = sz) (hz : z.all (·.oneCell') = true) (hn : z.length = sz) (hW : ∀ id, h.next ≤ id → W id)
    (hK : ∀ vn h', Fr h h' (fun _ => False) → h.next ≤ vn → h'.obj vn = some (mkO cs sz ty) → K (.ptr vn 0) h') :
    eAlloc (some z) sz ty h fun p h1 => eStore (some sz) p (.agg cs) h1 W fun h2 => K p h2 := by
  have hv := AH.alloc_new h (mkO (z.map AV.sc) sz ty)
  simp only [eAlloc_d, eStore_f, hv, avC_agg, stk_mk]
  refine ⟨hz, ⟨hW _ (Nat.le_refl _), ho, hc, by simp [hn]⟩, ?_⟩
  refine hK _ _ ((Fr.refl.alloc _).put (.inr (Nat.le_refl _))) (Nat.le_refl _) ?_
  rw [put_row hv]
  congr 1
  simp only [mkO]
  congr 1
  exact aFill_one (by simp [hn, hc])
theorem Fr.tr0 {h h1 h2 : AH} (a : Fr h h1 fun _ => False) (b : Fr h1 h2 fun _ => False) : Fr h h2 fun _ => False := a.trans (b.mono fun _ h => h.elim)
theorem Fr.ob0 {h h1 : AH} (a : Fr h h1 fun _ => False) {id : Nat} {o : AO} (ho : h.obj id = some o) : h1.obj id = some o := a.obj ho fun h => h
end Go.Ab
namespace Go.Proofs.YthkkgbmjjpcfaaaDoor
open Go.Ab
attribute [-simp] eAlloc_d eStore_f
def argOk (gate : Bool) (a : Arg) : Bool := plainS a.name && decide (-1 ≤ a.index) && decide (a.index ≤ 9007199254740991) && (!gate || decide (a.index = -1))
def countedP (n : Int) : Bool := decide (0 ≤ n) && decide (n ≤ 9007199254740991)
def headOk (sh : Shape) (ok : Bool) (r : Row) : Bool :=
  ok && (sh.name == plainS r.name) && (sh.name || decide (r.name = ByteArray.empty)) && (!sh.num || countedP r.num) && (sh.num || decide (r.num = 0)) && (decide (sh.args < 0) || decide ((r.args.length : Int) = sh.args)) && (sh.body || decide (r.rows = 0))
def rightP (r : Row) : Bool := headOk (shapeP r.kind).1 (shapeP r.kind).2 r && r.args.all (argOk (decide (r.kind = sGate)))
theorem ib4 : isBoolT Tryd.prog 4 = true := by kernel_rfl
theorem pBin_bneq {t : TypeId} {c a b : Bool} {K : AV → Prop} (ht : isBoolT Tryd.prog t = true) : pBin Tryd.prog .neq t c (.sc (.bool a)) (.sc (.bool b)) K = K (.sc (.bool (!(a == b)))) := by simp [pBin, ht]
theorem int_bne (x y : Int) : (x != y) = !decide (x = y) := by by_cases h : x = y <;> simp [h]
section
variable {h : AH} {M W : Nat → Prop} {R : AE → AH → Prop} {QR QN : VK} {QE : Nat → VK} {QP : AV → AH → Prop} {vr vs : Nat} {r : Row} {a : AV} {sh : Shape} {ok : Bool}
theorem F24_1 {b : Bool} (hv : h.obj vr = some (mkO (encRA (r, a)) 6 39)) (hs : h.obj vs = some (mkO sh.enc 4 67))
    (hK : F24.n36 W QR QN QE QP (.ptr vr 0) (.ptr vs 0) (.sc (.bool (b || (!sh.name && !decide (r.name = ByteArray.empty))))) h) : F24.n40 W QR QN QE QP (.ptr vr 0) (.ptr vs 0) (.sc (.bool b)) h := by
  revert hK
  cases b <;> cases hx : sh.name <;> by_cases he : r.name = ByteArray.empty <;> intro hK <;> simp [-F24.n36, hv, hs, encRA, Shape.enc, emp_eq, hx, he, int_bne] at hK ⊢ <;> exact hK
theorem F24_2 {b : Bool} (hv : h.obj vr = some (mkO (encRA (r, a)) 6 39)) (hs : h.obj vs = some (mkO sh.enc 4 67))
    (hK : F24.n32 W QR QN QE QP (.ptr vr 0) (.ptr vs 0) (.sc (.bool (b || (sh.num && !countedP r.num)))) h) : F24.n36 W QR QN QE QP (.ptr vr 0) (.ptr vs 0) (.sc (.bool b)) h := by
  revert hK
  cases b <;> cases hx : sh.num <;> intro hK <;> simp [-F24.n32, hv, hs, encRA, Shape.enc, emp_eq, hx] at hK ⊢
  · exact hK
  · refine ⟨fun _ => False, fun _ h => h.elim, counted_ok ?_⟩
    show pUn _ (.sc (.bool (countedP r.num))) _
    simp [-F24.n32]
    exact hK
  · exact hK
  · exact hK
theorem F24_3 {b : Bool} (hv : h.obj vr = some (mkO (encRA (r, a)) 6 39)) (hs : h.obj vs = some (mkO sh.enc 4 67))
    (hK : F24.n28 W QR QN QE QP (.ptr vr 0) (.ptr vs 0) (.sc (.bool (b || (!sh.num && !decide (r.num = 0))))) h) : F24.n32 W QR QN QE QP (.ptr vr 0) (.ptr vs 0) (.sc (.bool b)) h := by
  revert hK
  cases b <;> cases hx : sh.num <;> by_cases he : r.num = 0 <;> intro hK <;> simp [-F24.n28, hv, hs, encRA, Shape.enc, hx, he, int_bne] at hK ⊢ <;> exact hK
theorem F24_4 {b : Bool} (hv : h.obj vr = some (mkO (encRA (r, a)) 6 39)) (hs : h.obj vs = some (mkO sh.enc 4 67)) (ha : strArg a = false ∧ ∀ K : AV → Prop, pLen a K = K (.sc (.int .i64 r.args.length)))
    (hK : F24.n24 W QR QN QE QP (.ptr vr 0) (.ptr vs 0) (.sc (.bool (b || (decide (0 ≤ sh.args) && !decide ((r.args.length : Int) = sh.args))))) h) : F24.n28 W QR QN QE QP (.ptr vr 0) (.ptr vs 0) (.sc (.bool b)) h := by
  revert hK
  cases b <;> by_cases hx : 0 ≤ sh.args <;> by_cases he : (r.args.length : Int) = sh.args <;> intro hK <;> simp [-F24.n24, hv, hs, encRA, Shape.enc, hx, he, ha.1, ha.2, int_bne] at hK ⊢ <;> exact hK
theorem F24_5 {b : Bool} (hv : h.obj vr = some (mkO (encRA (r, a)) 6 39)) (hs : h.obj vs = some (mkO sh.enc 4 67))
    (hK : F24.n20 W QR QN QE QP (.ptr vr 0) (.sc (.bool (b || (!sh.body && !decide (r.rows = 0))))) h) : F24.n24 W QR QN QE QP (.ptr vr 0) (.ptr vs 0) (.sc (.bool b)) h := by
  revert hK
  cases b <;> cases hx : sh.body <;> by_cases he : r.rows = 0 <;> intro hK <;> simp [-F24.n20, hv, hs, encRA, Shape.enc, hx, he, int_bne] at hK ⊢ <;> exact hK
theorem F24_cond (hv : h.obj vr = some (mkO (encRA (r, a)) 6 39)) (hs : h.obj vs = some (mkO sh.enc 4 67)) (ha : strArg a = false ∧ ∀ K : AV → Prop, pLen a K = K (.sc (.int .i64 r.args.length))) (hn : r.name.size < 9223372036854775807)
    (hf : headOk sh ok r = false → QR [.sc (.bool false)] h) (ht : headOk sh ok r = true → F24.n18 W QR QN QE QP (.ptr vr 0) h) : F24.n43 W QR QN QE QP (.ptr vr 0) (.ptr vs 0) (.sc (.bool ok)) h := by
  have key : ∀ b : Bool, b = (!ok || !(sh.name == plainS r.name)) → F24.n40 W QR QN QE QP (.ptr vr 0) (.ptr vs 0) (.sc (.bool b)) h := by
    intro b hb
    refine F24_1 hv hs (F24_2 hv hs (F24_3 hv hs (F24_4 hv hs ha (F24_5 hv hs ?_))))
    have he : (((((b || (!sh.name && !decide (r.name = ByteArray.empty))) || (sh.num && !countedP r.num)) || (!sh.num && !decide (r.num = 0))) || (decide (0 ≤ sh.args) && !decide ((r.args.length : Int) = sh.args))) || (!sh.body && !decide (r.rows = 0))) = !headOk sh ok r := by
      rw [hb]; unfold headOk
      have : decide (sh.args < 0) = !decide (0 ≤ sh.args) := by by_cases hx : sh.args < 0 <;> by_cases hy : 0 ≤ sh.args <;> simp [hx, hy] <;> omega
      rw [this]
      simp only [Bool.not_and, Bool.not_or, Bool.not_not]
    rw [he]
    cases hh : headOk sh ok r with
    | true => simp [-F24.n18]; exact ht hh
    | false => simp [-F24.n18]; exact hf hh
  cases ok with
  | false =>
    simp [-F24.n40]
    exact key true (by simp)
  | true =>
  simp [-F24.n40, hs, hv, encRA, Shape.enc]
  refine ⟨fun _ => False, fun _ h => h.elim, plainName_ok hn ?_⟩
  simp only [pBin_bneq ib4]
  have := key _ rfl
  simpa [-F24.n40] using this
theorem F24_arg {i n : Nat} {x : AV} {va : Nat} {g : Arg} (hv : h.obj vr = some (mkO (encRA (r, a)) 6 39)) (hg : h.obj va = some (mkO g.enc 2 41)) (hn : g.name.size < 9223372036854775807)
    (hf : argOk (decide (r.kind = sGate)) g = false → QR [.sc (.bool false)] h) (ht : argOk (decide (r.kind = sGate)) g = true → F24.n2 W QR QN QE QP (.ptr vr 0) x (.sc (.int .i64 n)) (.sc (.int .i64 i)) h) :
    F24.n13 W QR QN QE QP (.ptr vr 0) (.ptr va 0) x (.sc (.int .i64 n)) (.sc (.int .i64 i)) h := by
  have fin : ∀ b : Bool, b = !argOk (decide (r.kind = sGate)) g → F24.n4 W QR QN QE QP (.ptr vr 0) x (.sc (.int .i64 n)) (.sc (.int .i64 i)) (.sc (.bool b)) h := by
    intro b hb
    cases hh : argOk (decide (r.kind = sGate)) g with
    | true => rw [hb, hh]; simp [-F24.n2]; exact ht hh
    | false => rw [hb, hh]; simp [-F24.n2]; exact hf hh
  unfold argOk at fin
  simp [-F24.n12, hg, Arg.enc]
  refine ⟨fun _ => False, fun _ h => h.elim, plainName_ok hn ?_⟩
  simp [-F24.n4, hg, hv, encRA, Arg.enc]
  by_cases h1 : plainS g.name = true
  · by_cases h2 : g.index < -1
    · simp [-F24.n4, h1, h2]
      exact fin true (by simp [h1]; omega)
    · by_cases h3 : 9007199254740991 < g.index
      · simp [-F24.n4, h1, h2, h3]
        exact fin true (by simp [h1]; omega)
      · by_cases h4 : r.kind = sGate
        · simp [-F24.n4, h1, h2, h3, h4, sGate, int_bne]
          refine fin _ ?_
          have e2 : -1 ≤ g.index := by omega
          have e3 : g.index ≤ 9007199254740991 := by omega
          simp [h1, h4, e2, e3]
        · simp [-F24.n4, h1, h2, h3, h4]
          have e2 : -1 ≤ g.index := by omega
          have e3 : g.index ≤ 9007199254740991 := by omega
          exact fin _ (by simp [h1, h4, e2, e3])
  · simp [-F24.n4, h1]
    exact fin true (by simp [h1])
theorem F24_loop {y : Row × AV} (hW : ∀ id, h.next ≤ id → W id) (hv : h.obj vr = some (mkO (encRA y) 6 39)) (ha : SlR Arg.enc 2 41 h y.2 y.1.args) (hn : ∀ g ∈ y.1.args, g.name.size < 9223372036854775807) (hl : y.1.args.length ≤ 1000000000)
    (hR : ∀ h', Fr h h' (fun _ => False) → QR [.sc (.bool (y.1.args.all (argOk (decide (y.1.kind = sGate)))))] h') : F24.n18 W QR QN QE QP (.ptr vr 0) h := by
  simp [hv, encRA, ha.len.1, ha.len.2]
  unfold F24.n17
  refine vLoop_of (ι := Nat) (fun i vs h' => vs = [.ptr vr 0, y.2, .sc (.int .i64 y.1.args.length), .sc (.int .i64 i)] ∧ i ≤ y.1.args.length ∧ Fr h h' (fun _ => False) ∧ (y.1.args.drop i).all (argOk (decide (y.1.kind = sGate))) = y.1.args.all (argOk (decide (y.1.kind = sGate)))) (fun i => y.1.args.length - i) 0 ?_ ?_
  · exact ⟨rfl, by omega, Fr.refl, rfl⟩
  rintro K i vs h' ⟨rfl, hi, hf, he⟩ hK
  simp only [F24.g1_, List.getD_cons_zero, List.getD_cons_succ]
  by_cases hlt : i < y.1.args.length
  · have hli : (i : Int) < y.1.args.length := by omega
    have g1 : y.1.args[i]? = some y.1.args[i] := List.getElem?_eq_getElem hlt
    rw [List.drop_eq_getElem_cons hlt, List.all_cons] at he
    have hgn := hn _ (List.getElem_mem hlt)
    generalize y.1.args[i] = g at *
    simp [-F24.n14, hli]
    refine rng_var (ha.fr0 hf) Arg.enc_len (Arg.enc_one _) g1 rfl rfl (fun id hid => hW id (Nat.le_trans hf.next hid)) fun vn h2 f2 hvn hov => ?_
    have hf2 : Fr h h2 (fun _ => False) := hf.trans (f2.mono fun _ h => h.elim)
    refine F24_arg (r := y.1) (a := y.2) (hf2.obj hv (fun h => h)) hov hgn (fun hb => ?_) (fun hb => ?_)
    · rw [hb] at he
      have := hR h2 hf2
      rw [← he] at this
      exact this
    · rw [hb] at he
      have hw : IntKind.i64.wrap ((i : Int) + 1) = ((i + 1 : Nat) : Int) := by rw [wrap_in (by omega) (by omega)]; simp
      simp [hw]
      exact hK (i + 1) _ _ (by omega) ⟨by simp, by omega, hf2, by simpa using he⟩
  · have hnl : ¬ (i : Int) < y.1.args.length := by omega
    rw [List.drop_eq_nil_of_le (by omega)] at he
    simp [hnl]
    have := hR h' hf
    rw [← he] at this
    exact this
theorem encRA_one {y : Row × AV} (ha : SlR Arg.enc 2 41 h y.2 y.1.args) : (encRA y).all oneA = true := by
  show (true && (true && (oneA y.2 && (true && (true && (true && true)))))) = true
  rw [ha.one.1]; rfl
theorem right_ok {y : Row × AV} {R : AE → AH → Prop} (ha : SlR Arg.enc 2 41 h y.2 y.1.args) (hn : y.1.name.size < 9223372036854775807) (hna : ∀ g ∈ y.1.args, g.name.size < 9223372036854775807) (hl : y.1.args.length ≤ 1000000000)
    (hR : ∀ h', Fr h h' (fun _ => False) → R (.ret (.sc (.bool (rightP y.1)))) h') : ACalls Tryd.prog 24 [.agg (encRA y)] h M R := by
  apply F24.callsN
  unfold F24.n45
  have hone := encRA_one ha
  refine box_var hone fun vr h1 f1 hvr ov => ?_
  simp [-F24.n43, ov, encRA]
  refine ⟨fun _ => False, fun _ h => h.elim, shapeOf_ok fun h2 f2 => ?_⟩
  simp only [pExt_tup, cellK_some, List.getElem?_cons_zero, List.getElem?_cons_succ]
  refine new_var (by rfl) rfl rfl rfl (fun id hid => .inr (by have := f1.next; have := f2.next; omega)) fun vs h3 f3 hvs os => ?_
  have g3 := f1.tr0 (f2.tr0 f3)
  refine F24_cond (r := y.1) (a := y.2) ((f2.tr0 f3).ob0 ov) os ⟨ha.len.1, ha.len.2⟩ hn (fun hb => ?_) (fun hb => ?_)
  · simp
    have := hR h3 g3
    unfold rightP at this
    rw [hb] at this
    exact this
  · refine F24_loop (y := y) (fun id hid => .inr (by have := g3.next; omega)) ((f2.tr0 f3).ob0 ov) (ha.fr0 g3) hna hl fun h4 f4 => ?_
    simp
    have := hR h4 (g3.tr0 f4)
    unfold rightP at this
    rw [hb] at this
    exact this
end
end Go.Proofs.YthkkgbmjjpcfaaaDoor
namespace Go.Proofs.YthkkgbmjjpcfaaaDoor
open Go.Ab
attribute [-simp] eAlloc_d eStore_f
end Go.Proofs.YthkkgbmjjpcfaaaDoor
namespace Go.Proofs.YthkkgbmjjpcfaaaDoor
open Go.Ab
attribute [-simp] eAlloc_d eStore_f
def fitP (r : Row) : Bool := rightP r && decide (0 ≤ r.rows)
section
variable {h : AH} {M W : Nat → Prop} {R : AE → AH → Prop} {QR QN : VK} {QE : Nat → VK} {QP : AV → AH → Prop} {vr : Nat} {r : Row} {a : AV} {sh : Shape} {b : Bool}
abbrev B (b : Bool) : AV := .sc (.bool b)
abbrev I (n : Int) : AV := .sc (.int .i64 n)
theorem plain_ne {s : ByteArray} (h : plainS s = true) : s ≠ ByteArray.empty := by
  intro e
  subst e
  simp [plainS, isNameS] at h
end
end Go.Proofs.YthkkgbmjjpcfaaaDoor
namespace Go.Proofs.YthkkgbmjjpcfaaaDoor
open Go.Ab
attribute [-simp] eAlloc_d eStore_f
abbrev bs (l : List UInt8) : ByteArray := ⟨l.toArray⟩
abbrev ls (s : ByteArray) : List UInt8 := s.data.toList
abbrev S (l : List UInt8) : AV := .sc (.string (bs l))
theorem bs_size (l : List UInt8) : (bs l).size = l.length := rfl
section
variable {h : AH} {M W : Nat → Prop} {R : AE → AH → Prop} {QR QN : VK} {QE : Nat → VK} {QP : AV → AH → Prop} {vr : Nat} {r : Row} {a : AV} {sh : Shape} {b : Bool}
def argT (g : Arg) : List UInt8 := ls g.name ++ (if g.index < 0 then [] else 91 :: (Lib.itoa g.index ++ [93]))
end
end Go.Proofs.YthkkgbmjjpcfaaaDoor
namespace Go.Proofs.YthkkgbmjjpcfaaaDoor
open Go.Ab
attribute [-simp] eAlloc_d eStore_f
def argsT (l : List Arg) : List UInt8 := l.flatMap fun g => 32 :: argT g
def numK (k : ByteArray) : Bool := decide (k = sQubits) || decide (k = sBits) || decide (k = sRepeat) || decide (k = sIf)
def baseT (r : Row) : List UInt8 := if r.kind = sUse then ls r.name else if r.name = ByteArray.empty then ls r.kind else ls r.kind ++ 32 :: ls r.name
def refHead (r : Row) : List UInt8 := baseT r ++ (if numK r.kind then 32 :: Lib.itoa r.num else []) ++ argsT r.args
structure RowB (r : Row) : Prop where
  kind : r.kind.size ≤ 100000
  name : r.name.size ≤ 100000
  args : ∀ g ∈ r.args, g.name.size ≤ 100000
  len : r.args.length ≤ 90000
  all : (r.args.map fun g => g.name.size + 30).sum ≤ 10000000
def IdxB (r : Row) : Prop := ∀ g ∈ r.args, g.index ≤ 9007199254740991
theorem argT_len {g : Arg} (h : g.index ≤ 9007199254740991) : (argT g).length + 1 ≤ g.name.size + 30 := by
  have e : (ls g.name).length = g.name.size := rfl
  unfold argT
  by_cases hi : g.index < 0
  · simp only [hi, if_true, List.append_nil]; omega
  · have := Lib.itoa_length_le g.index (by omega) (by omega)
    simp only [hi, if_false, List.length_append, List.length_cons, List.length_nil]; omega
theorem argsT_len : ∀ {l : List Arg}, (∀ g ∈ l, g.index ≤ 9007199254740991) → (argsT l).length ≤ (l.map fun g => g.name.size + 30).sum
  | [], _ => by simp [argsT]
  | g :: l, h => by
    have h1 := argT_len (h g (by simp))
    have h2 := argsT_len (l := l) (fun g hg => h g (by simp [hg]))
    have e : argsT (g :: l) = (32 :: argT g) ++ argsT l := by simp [argsT]
    rw [e]
    simp only [List.length_append, List.length_cons, List.map_cons, List.sum_cons]
    omega
end Go.Proofs.YthkkgbmjjpcfaaaDoor
namespace Go.Proofs.YthkkgbmjjpcfaaaDoor
open Go.Ab
attribute [-simp] eAlloc_d eStore_f
def bodyK (k : ByteArray) : Bool := decide (k = sGate) || decide (k = sRepeat) || decide (k = sIf)
def okRows (d : Nat) (rows : List Row) : Bool :=
  match rows with
  | [] => true
  | r :: rest => decide (d ≤ 32) && fitP r && decide (r.rows ≤ rest.length) && okRows (d + 1) (rest.take r.rows.toNat) && !(bodyK r.kind && decide (32 ≤ d)) && okRows d (rest.drop r.rows.toNat)
termination_by rows.length
decreasing_by all_goals (simp only [List.length_take, List.length_drop, List.length_cons]; omega)
def textP (ind : List UInt8) (rows : List Row) : List UInt8 :=
  match rows with
  | [] => []
  | r :: rest => ind ++ refHead r ++ (if bodyK r.kind then [32, 123, 10] ++ textP (ind ++ [32, 32]) (rest.take r.rows.toNat) ++ ind ++ [125, 10] else [59, 10]) ++ textP ind (rest.drop r.rows.toNat)
termination_by rows.length
decreasing_by all_goals (simp only [List.length_take, List.length_drop, List.length_cons]; omega)
section
variable {α : Type}
def seg (l : List α) (i j : Nat) : List α := (l.drop i).take (j - i)
theorem seg_cons {l : List α} {i j : Nat} (hi : i < j) (hj : j ≤ l.length) : seg l i j = l[i] :: seg l (i + 1) j := by
  unfold seg
  rw [List.drop_eq_getElem_cons (by omega), show j - i = (j - (i + 1)) + 1 by omega, List.take_succ_cons]
theorem seg_len {l : List α} {i j : Nat} (hi : i ≤ j) (hj : j ≤ l.length) : (seg l i j).length = j - i := by
  unfold seg; simp; omega
theorem seg_take {l : List α} {i j k : Nat} (hk : i + k ≤ j) : (seg l i j).take k = seg l i (i + k) := by
  unfold seg
  rw [List.take_take, show min k (j - i) = k by omega, show i + k - i = k by omega]
theorem seg_drop {l : List α} {i j k : Nat} (hk : i + k ≤ j) : (seg l i j).drop k = seg l (i + k) j := by
  unfold seg
  rw [List.drop_take, List.drop_drop, show j - i - k = j - (i + k) by omega]
theorem seg_nil {l : List α} {i j : Nat} (h : j ≤ i) : seg l i j = [] := by
  unfold seg; rw [show j - i = 0 by omega]; rfl
theorem seg_all {l : List α} : seg l 0 l.length = l := by unfold seg; simp
end
structure RowsL (h : AH) (x : AV) (l : List (Row × AV)) : Prop where
  tab : SlR encRA 6 39 h x l
  args : ∀ y ∈ l, SlR Arg.enc 2 41 h y.2 y.1.args
theorem RowsL.fr0 {h h' : AH} {x : AV} {l : List (Row × AV)} (a : RowsL h x l) (hf : Fr h h' fun _ => False) : RowsL h' x l := ⟨a.tab.fr0 hf, fun y hy => (a.args y hy).fr0 hf⟩
abbrev sg (l : List (Row × AV)) (i j : Nat) : List Row := (seg l i j).map (·.1)
theorem sg_cons {l : List (Row × AV)} {i j : Nat} (hi : i < j) (hj : j ≤ l.length) : sg l i j = (l[i]'(by omega)).1 :: sg l (i + 1) j := by unfold sg; rw [seg_cons hi hj]; rfl
theorem sg_take {l : List (Row × AV)} {i j k : Nat} (hk : i + k ≤ j) : (sg l i j).take k = sg l i (i + k) := by unfold sg; rw [← List.map_take, seg_take hk]
theorem sg_drop {l : List (Row × AV)} {i j k : Nat} (hk : i + k ≤ j) : (sg l i j).drop k = sg l (i + k) j := by unfold sg; rw [← List.map_drop, seg_drop hk]
theorem sg_len {l : List (Row × AV)} {i j : Nat} (hi : i ≤ j) (hj : j ≤ l.length) : (sg l i j).length = j - i := by unfold sg; rw [List.length_map, seg_len hi hj]
section
variable {h : AH} {M W : Nat → Prop} {R : AE → AH → Prop} {QR QN : VK} {QE : Nat → VK} {QP : AV → AH → Prop} {vr : Nat} {x : AV} {y : Row × AV}
theorem okRows_cons {d : Nat} {r : Row} {rest : List Row} : okRows d (r :: rest) = (decide (d ≤ 32) && fitP r && decide (r.rows ≤ rest.length) && okRows (d + 1) (rest.take r.rows.toNat) && !(bodyK r.kind && decide (32 ≤ d)) && okRows d (rest.drop r.rows.toNat)) := by
  rw [okRows]
theorem okRows_nil {d : Nat} : okRows d [] = true := by rw [okRows]
theorem fit_rows {r : Row} (h : fitP r = true) : 0 ≤ r.rows := by
  unfold fitP at h; simp at h; exact h.2
end
end Go.Proofs.YthkkgbmjjpcfaaaDoor
namespace Go.Proofs.YthkkgbmjjpcfaaaDoor
open Go.Ab
attribute [-simp] eAlloc_d eStore_f
theorem fit_num {r : Row} (hf : fitP r = true) : 0 ≤ r.num ∧ r.num ≤ 9007199254740991 ∧ IdxB r := by
  unfold fitP rightP headOk countedP at hf
  simp only [Bool.and_eq_true] at hf
  obtain ⟨⟨h1, h2⟩, _⟩ := hf
  have hI : IdxB r := by
    intro g hg
    have := List.all_eq_true.1 h2 g hg
    unfold argOk at this
    simp only [Bool.and_eq_true, decide_eq_true_eq] at this
    exact this.1.2
  obtain ⟨⟨⟨⟨⟨_, _⟩, h3⟩, h4⟩, _⟩, _⟩ := h1
  cases hs : (shapeP r.kind).1.num with
  | true =>
    rw [hs] at h3
    simp at h3
    exact ⟨h3.1, h3.2, hI⟩
  | false =>
    rw [hs] at h4
    simp at h4
    exact ⟨by omega, by omega, hI⟩
theorem ok_cons {d : Nat} {r : Row} {rest : List Row} (h : okRows d (r :: rest) = true) : d ≤ 32 ∧ fitP r = true ∧ 0 ≤ r.rows ∧ r.rows ≤ rest.length ∧ okRows (d + 1) (rest.take r.rows.toNat) = true ∧ (bodyK r.kind = true → d < 32) ∧ okRows d (rest.drop r.rows.toNat) = true := by
  rw [okRows_cons] at h
  simp only [Bool.and_eq_true, decide_eq_true_eq, Bool.not_eq_true', Bool.and_eq_false_iff, decide_eq_false_iff_not] at h
  obtain ⟨⟨⟨⟨⟨h1, h2⟩, h3⟩, h4⟩, h5⟩, h6⟩ := h
  refine ⟨h1, h2, fit_rows h2, h3, h4, fun hb => ?_, h6⟩
  rcases h5 with h5 | h5
  · rw [hb] at h5; cases h5
  · omega
theorem textP_cons {ind : List UInt8} {r : Row} {rest : List Row} : textP ind (r :: rest) = ind ++ refHead r ++ (if bodyK r.kind then [32, 123, 10] ++ textP (ind ++ [32, 32]) (rest.take r.rows.toNat) ++ ind ++ [125, 10] else [59, 10]) ++ textP ind (rest.drop r.rows.toNat) := by
  rw [textP]
theorem textP_nil {ind : List UInt8} : textP ind [] = [] := by rw [textP]
section
variable {h : AH} {M W : Nat → Prop} {R : AE → AH → Prop} {QR QN : VK} {QE : Nat → VK} {QP : AV → AH → Prop} {vr : Nat} {x : AV} {y : Row × AV}
theorem sg_all {l : List (Row × AV)} : sg l 0 l.length = l.map (·.1) := by unfold sg; rw [seg_all]
def showP (rows : List Row) : List AV :=
  if okRows 0 rows then (if (textP [] rows).length ≤ 65536 then [S (textP [] rows), I 0] else [S [], I 1]) else [S [], I 100]
end
end Go.Proofs.YthkkgbmjjpcfaaaDoor

/-
  No cell of these rows narrows 'for every input' (looked for: loops, veiled, ifaces, maps, wideKeys, modest, calm, conditions, laid).
  DERIVED. THE GIVEN ROWS OF THIS SEAT. 3 by the template 'for every input the law returns true; each argument reads behind the call as it read before'; 0 by the template 'total and deterministic' (their statements: YthkkgbmjjpcfaaaTotals.lean).
  GIVEN WITH THE SEED: the statements are not yours to turn. If you find one false, say at which input.
  Laid BY PROGRAM, IN A SANDBOX (cutbox-rows.mjs): the forced cells as the released guide's own fill.sh prints them over the translation 7d0475e29a43c97a… (all of the seat's roots in one cut). By AI agents, Wed Nov 11 2026. No macro, syntax, notation, axiom, sorry.
-/
import Derived.Test.YthkkgbmjjpcfaaaChecked
import GoSem.Claim
import GoSem.ClaimJoined
import GoSem.ClaimMapViews
import Derived.JoinedTies
import Derived.KernelRfl
namespace Go.Proofs.Ythkkgbmjjpcfaaa
/- THE CELL 'sum', in the pinned program and in every row, IS THE sha256 OF THE DUMP (.gsa) THAT YthkkgbmjjpcfaaaProg.lean LOADS. Nothing in Lean hashes anything: it is a label: what it is worth is what the hold of that sum in a sandbox is worth. -/
noncomputable def Try.pinned : Pinned := { name := "ythkkgbmjjpcfaaa", sum := "7d0475e29a43c97a61a239a5ad13797d03e17f68e658ed884f3dd158f5a37316", checked := Try.checked }
namespace Rows
def none {H : Type} : Left H := { results := [], args := [] }

/-- 'cubitlaw10.ParseTexts': WHATEVER THE INPUT: true; the input reads as it did. -/
def parseTextsSpec : ChangeSpec := { name := "parseTexts", fn := fun _ => fun
  | [d] => { results := [.lit (.bool true)], args := [d] }
  | _ => none }
def parseTextsRow : OpenClaim := { program := "ythkkgbmjjpcfaaa", sum := "7d0475e29a43c97a61a239a5ad13797d03e17f68e658ed884f3dd158f5a37316", func := "cubit/cubitlaw10.ParseTexts", spec := "parseTexts", inPlace := ["internal/bytealg.IndexByteString"], unfollowed := true, recurses := true, apart := false }
def ParseTextsSaid : Prop := parseTextsRow.holds Try.pinned (OpenSpec.ofChange parseTextsSpec)

/-- ITS FALSE NEIGHBOUR: 'it returns false'. Refute it at one input. -/
def parseTextsWrong : ChangeSpec := { name := "parseTexts", fn := fun _ => fun
  | [d] => { results := [.lit (.bool false)], args := [d] }
  | _ => none }
def ParseTextsWrongFalsely : Prop := parseTextsRow.holds Try.pinned (OpenSpec.ofChange parseTextsWrong)

/-- 'cubitlaw10.ParsePlaces': WHATEVER THE INPUT: true; the input reads as it did. -/
def parsePlacesSpec : ChangeSpec := { name := "parsePlaces", fn := fun _ => fun
  | [d] => { results := [.lit (.bool true)], args := [d] }
  | _ => none }
def parsePlacesRow : OpenClaim := { program := "ythkkgbmjjpcfaaa", sum := "7d0475e29a43c97a61a239a5ad13797d03e17f68e658ed884f3dd158f5a37316", func := "cubit/cubitlaw10.ParsePlaces", spec := "parsePlaces", inPlace := ["internal/bytealg.IndexByteString"], unfollowed := true, recurses := true, apart := false }
def ParsePlacesSaid : Prop := parsePlacesRow.holds Try.pinned (OpenSpec.ofChange parsePlacesSpec)

/-- ITS FALSE NEIGHBOUR: 'it returns false'. Refute it at one input. -/
def parsePlacesWrong : ChangeSpec := { name := "parsePlaces", fn := fun _ => fun
  | [d] => { results := [.lit (.bool false)], args := [d] }
  | _ => none }
def ParsePlacesWrongFalsely : Prop := parsePlacesRow.holds Try.pinned (OpenSpec.ofChange parsePlacesWrong)

/-- 'cubitlaw10.ParseCuts': WHATEVER THE INPUT: true; the input reads as it did. -/
def parseCutsSpec : ChangeSpec := { name := "parseCuts", fn := fun _ => fun
  | [d1, d2] => { results := [.lit (.bool true)], args := [d1, d2] }
  | _ => none }
def parseCutsRow : OpenClaim := { program := "ythkkgbmjjpcfaaa", sum := "7d0475e29a43c97a61a239a5ad13797d03e17f68e658ed884f3dd158f5a37316", func := "cubit/cubitlaw10.ParseCuts", spec := "parseCuts", inPlace := ["internal/bytealg.IndexByteString"], unfollowed := true, recurses := true, apart := false }
def ParseCutsSaid : Prop := parseCutsRow.holds Try.pinned (OpenSpec.ofChange parseCutsSpec)

/-- ITS FALSE NEIGHBOUR: 'it returns false'. Refute it at one input. -/
def parseCutsWrong : ChangeSpec := { name := "parseCuts", fn := fun _ => fun
  | [d1, d2] => { results := [.lit (.bool false)], args := [d1, d2] }
  | _ => none }
def ParseCutsWrongFalsely : Prop := parseCutsRow.holds Try.pinned (OpenSpec.ofChange parseCutsWrong)

/- THE SECOND FORM. 'bulk': how many values and letters a reading holds, each counted each time it is reached (what is shared counts as often as it is met; a slice's spare places count too). A statement '..UptoSaid' is the law's where the arguments, and the package variables that the reading takes, are together of bulk at most 1048576: NARROWER than '..Said'. Prove '..Said' where nothing that the law and all that it calls make is longer than what came in: it says more and counts as full. Else prove '..UptoSaid'. A law counts once. -/
mutual
def uptoBulk {H : Type} : DataW H → Nat
  | .lit (.string bytes) => bytes.length + 1
  | .lit _ => 1
  | .nil => 1
  | .ptr d => uptoBulk d + 1
  | .slice elems spare => uptoBulkAll elems + uptoBulkAll spare + 1
  | .agg parts => uptoBulkAll parts + 1
  | .iface _ d => uptoBulk d + 1
  | .map entries => uptoBulkEntries entries + 1
  | .held _ => 1
def uptoBulkAll {H : Type} : List (DataW H) → Nat
  | [] => 0
  | d :: r => uptoBulk d + uptoBulkAll r
def uptoBulkEntries {H : Type} : List (Lit × DataW H) → Nat
  | [] => 0
  | x :: r => uptoBulkEntry x + uptoBulkEntries r
def uptoBulkEntry {H : Type} : Lit × DataW H → Nat
  | (.string bytes, d) => bytes.length + uptoBulk d + 1
  | (_, d) => uptoBulk d + 1
 end
def uptoSmall : (H : Type) → List (DataW H) → Bool := fun _ ds => decide (uptoBulkAll ds ≤ 1048576)
def OpenSpec.upto (s : _root_.Go.ChangeSpec) : _root_.Go.OpenSpec := { _root_.Go.OpenSpec.ofChange s with cond := some uptoSmall }

/-- 'cubitlaw10.ParseTexts', WHERE WHAT IT READS IS OF BULK AT MOST 1048576: true; the input reads as it did. -/
def parseTextsUptoRow : OpenClaim := { program := "ythkkgbmjjpcfaaa", sum := "7d0475e29a43c97a61a239a5ad13797d03e17f68e658ed884f3dd158f5a37316", func := "cubit/cubitlaw10.ParseTexts", spec := "parseTexts", inPlace := ["internal/bytealg.IndexByteString"], unfollowed := true, recurses := true, apart := false, narrowed := true }
def ParseTextsUptoSaid : Prop := parseTextsUptoRow.holds Try.pinned (OpenSpec.upto parseTextsSpec)

/-- 'cubitlaw10.ParsePlaces', WHERE WHAT IT READS IS OF BULK AT MOST 1048576: true; the input reads as it did. -/
def parsePlacesUptoRow : OpenClaim := { program := "ythkkgbmjjpcfaaa", sum := "7d0475e29a43c97a61a239a5ad13797d03e17f68e658ed884f3dd158f5a37316", func := "cubit/cubitlaw10.ParsePlaces", spec := "parsePlaces", inPlace := ["internal/bytealg.IndexByteString"], unfollowed := true, recurses := true, apart := false, narrowed := true }
def ParsePlacesUptoSaid : Prop := parsePlacesUptoRow.holds Try.pinned (OpenSpec.upto parsePlacesSpec)

/-- 'cubitlaw10.ParseCuts', WHERE WHAT IT READS IS OF BULK AT MOST 1048576: true; the input reads as it did. -/
def parseCutsUptoRow : OpenClaim := { program := "ythkkgbmjjpcfaaa", sum := "7d0475e29a43c97a61a239a5ad13797d03e17f68e658ed884f3dd158f5a37316", func := "cubit/cubitlaw10.ParseCuts", spec := "parseCuts", inPlace := ["internal/bytealg.IndexByteString"], unfollowed := true, recurses := true, apart := false, narrowed := true }
def ParseCutsUptoSaid : Prop := parseCutsUptoRow.holds Try.pinned (OpenSpec.upto parseCutsSpec)

end Rows
end Go.Proofs.Ythkkgbmjjpcfaaa

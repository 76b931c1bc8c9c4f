/-
  No cell of these rows narrows 'for every input' (looked for: loops, veiled, ifaces, maps, wideKeys, modest, calm, conditions, laid).
  DERIVED. THE GIVEN ROWS OF THIS SEAT. 4 by the template 'for every input the law returns true; each argument reads behind the call as it read before'; 0 by the template 'total and deterministic' (their statements: YtjehibknlmehmaaTotals.lean).
  GIVEN WITH THE SEED: the statements are not yours to turn. If you find one false, say at which input.
  Laid BY PROGRAM, IN A SANDBOX (cutbox-rows.mjs): the forced cells as the released guide's own fill.sh prints them over the translation 2564fb1293fed712… (all of the seat's roots in one cut). By AI agents, Wed Nov 11 2026. No macro, syntax, notation, axiom, sorry.
-/
import Derived.Test.YtjehibknlmehmaaChecked
import GoSem.Claim
import GoSem.ClaimJoined
import GoSem.ClaimMapViews
import Derived.JoinedTies
import Derived.KernelRfl
namespace Go.Proofs.Ytjehibknlmehmaa
/- THE CELL 'sum', in the pinned program and in every row, IS THE sha256 OF THE DUMP (.gsa) THAT YtjehibknlmehmaaProg.lean LOADS. Nothing in Lean hashes anything: it is a label: what it is worth is what the hold of that sum in a sandbox is worth. -/
noncomputable def Try.pinned : Pinned := { name := "ytjehibknlmehmaa", sum := "2564fb1293fed7124e79177e40a286b8f07871272721e03a1d5f0e3c0fec5000", checked := Try.checked }
namespace Rows
def none {H : Type} : Left H := { results := [], args := [] }

/-- 'cubitlaw12.FlatRows': WHATEVER THE INPUT: true; the input reads as it did. -/
def flatRowsSpec : ChangeSpec := { name := "flatRows", fn := fun _ => fun
  | [d] => { results := [.lit (.bool true)], args := [d] }
  | _ => none }
def flatRowsRow : OpenClaim := { program := "ytjehibknlmehmaa", sum := "2564fb1293fed7124e79177e40a286b8f07871272721e03a1d5f0e3c0fec5000", func := "cubit/cubitlaw12.FlatRows", spec := "flatRows", inPlace := ["internal/bytealg.IndexByteString"], unfollowed := true, recurses := true, plainKeys := false, apart := false }
def FlatRowsSaid : Prop := flatRowsRow.holds Try.pinned (OpenSpec.ofChange flatRowsSpec)

/-- ITS FALSE NEIGHBOUR: 'it returns false'. Refute it at one input. -/
def flatRowsWrong : ChangeSpec := { name := "flatRows", fn := fun _ => fun
  | [d] => { results := [.lit (.bool false)], args := [d] }
  | _ => none }
def FlatRowsWrongFalsely : Prop := flatRowsRow.holds Try.pinned (OpenSpec.ofChange flatRowsWrong)

/-- 'cubitlaw12.FlatChecked': WHATEVER THE INPUT: true; the input reads as it did. -/
def flatCheckedSpec : ChangeSpec := { name := "flatChecked", fn := fun _ => fun
  | [d] => { results := [.lit (.bool true)], args := [d] }
  | _ => none }
def flatCheckedRow : OpenClaim := { program := "ytjehibknlmehmaa", sum := "2564fb1293fed7124e79177e40a286b8f07871272721e03a1d5f0e3c0fec5000", func := "cubit/cubitlaw12.FlatChecked", spec := "flatChecked", inPlace := ["internal/bytealg.IndexByteString"], unfollowed := true, recurses := true, plainKeys := false, apart := false }
def FlatCheckedSaid : Prop := flatCheckedRow.holds Try.pinned (OpenSpec.ofChange flatCheckedSpec)

/-- ITS FALSE NEIGHBOUR: 'it returns false'. Refute it at one input. -/
def flatCheckedWrong : ChangeSpec := { name := "flatChecked", fn := fun _ => fun
  | [d] => { results := [.lit (.bool false)], args := [d] }
  | _ => none }
def FlatCheckedWrongFalsely : Prop := flatCheckedRow.holds Try.pinned (OpenSpec.ofChange flatCheckedWrong)

/-- 'cubitlaw12.FlatUnrolls': WHATEVER THE INPUT: true; the input reads as it did. -/
def flatUnrollsSpec : ChangeSpec := { name := "flatUnrolls", fn := fun _ => fun
  | [d] => { results := [.lit (.bool true)], args := [d] }
  | _ => none }
def flatUnrollsRow : OpenClaim := { program := "ytjehibknlmehmaa", sum := "2564fb1293fed7124e79177e40a286b8f07871272721e03a1d5f0e3c0fec5000", func := "cubit/cubitlaw12.FlatUnrolls", spec := "flatUnrolls", inPlace := ["internal/bytealg.IndexByteString"], unfollowed := true, recurses := true, plainKeys := false, apart := false }
def FlatUnrollsSaid : Prop := flatUnrollsRow.holds Try.pinned (OpenSpec.ofChange flatUnrollsSpec)

/-- ITS FALSE NEIGHBOUR: 'it returns false'. Refute it at one input. -/
def flatUnrollsWrong : ChangeSpec := { name := "flatUnrolls", fn := fun _ => fun
  | [d] => { results := [.lit (.bool false)], args := [d] }
  | _ => none }
def FlatUnrollsWrongFalsely : Prop := flatUnrollsRow.holds Try.pinned (OpenSpec.ofChange flatUnrollsWrong)

/-- 'cubitlaw12.FlatKeeps': WHATEVER THE INPUT: true; the input reads as it did. -/
def flatKeepsSpec : ChangeSpec := { name := "flatKeeps", fn := fun _ => fun
  | [d] => { results := [.lit (.bool true)], args := [d] }
  | _ => none }
def flatKeepsRow : OpenClaim := { program := "ytjehibknlmehmaa", sum := "2564fb1293fed7124e79177e40a286b8f07871272721e03a1d5f0e3c0fec5000", func := "cubit/cubitlaw12.FlatKeeps", spec := "flatKeeps", inPlace := ["internal/bytealg.IndexByteString"], unfollowed := true, recurses := true, plainKeys := false, apart := false }
def FlatKeepsSaid : Prop := flatKeepsRow.holds Try.pinned (OpenSpec.ofChange flatKeepsSpec)

/-- ITS FALSE NEIGHBOUR: 'it returns false'. Refute it at one input. -/
def flatKeepsWrong : ChangeSpec := { name := "flatKeeps", fn := fun _ => fun
  | [d] => { results := [.lit (.bool false)], args := [d] }
  | _ => none }
def FlatKeepsWrongFalsely : Prop := flatKeepsRow.holds Try.pinned (OpenSpec.ofChange flatKeepsWrong)

/- THE SECOND FORM. 'bulk': how many values and letters a reading holds, each counted each time it is reached (what is shared counts as often as it is met; a slice's spare places count too). A statement '..UptoSaid' is the law's where the arguments, and the package variables that the reading takes, are together of bulk at most 1048576: NARROWER than '..Said'. Prove '..Said' where nothing that the law and all that it calls make is longer than what came in: it says more and counts as full. Else prove '..UptoSaid'. A law counts once. -/
mutual
def uptoBulk {H : Type} : DataW H → Nat
  | .lit (.string bytes) => bytes.length + 1
  | .lit _ => 1
  | .nil => 1
  | .ptr d => uptoBulk d + 1
  | .slice elems spare => uptoBulkAll elems + uptoBulkAll spare + 1
  | .agg parts => uptoBulkAll parts + 1
  | .iface _ d => uptoBulk d + 1
  | .map entries => uptoBulkEntries entries + 1
  | .held _ => 1
def uptoBulkAll {H : Type} : List (DataW H) → Nat
  | [] => 0
  | d :: r => uptoBulk d + uptoBulkAll r
def uptoBulkEntries {H : Type} : List (Lit × DataW H) → Nat
  | [] => 0
  | x :: r => uptoBulkEntry x + uptoBulkEntries r
def uptoBulkEntry {H : Type} : Lit × DataW H → Nat
  | (.string bytes, d) => bytes.length + uptoBulk d + 1
  | (_, d) => uptoBulk d + 1
 end
def uptoSmall : (H : Type) → List (DataW H) → Bool := fun _ ds => decide (uptoBulkAll ds ≤ 1048576)
def OpenSpec.upto (s : _root_.Go.ChangeSpec) : _root_.Go.OpenSpec := { _root_.Go.OpenSpec.ofChange s with cond := some uptoSmall }

/-- 'cubitlaw12.FlatRows', WHERE WHAT IT READS IS OF BULK AT MOST 1048576: true; the input reads as it did. -/
def flatRowsUptoRow : OpenClaim := { program := "ytjehibknlmehmaa", sum := "2564fb1293fed7124e79177e40a286b8f07871272721e03a1d5f0e3c0fec5000", func := "cubit/cubitlaw12.FlatRows", spec := "flatRows", inPlace := ["internal/bytealg.IndexByteString"], unfollowed := true, recurses := true, plainKeys := false, apart := false, narrowed := true }
def FlatRowsUptoSaid : Prop := flatRowsUptoRow.holds Try.pinned (OpenSpec.upto flatRowsSpec)

/-- 'cubitlaw12.FlatChecked', WHERE WHAT IT READS IS OF BULK AT MOST 1048576: true; the input reads as it did. -/
def flatCheckedUptoRow : OpenClaim := { program := "ytjehibknlmehmaa", sum := "2564fb1293fed7124e79177e40a286b8f07871272721e03a1d5f0e3c0fec5000", func := "cubit/cubitlaw12.FlatChecked", spec := "flatChecked", inPlace := ["internal/bytealg.IndexByteString"], unfollowed := true, recurses := true, plainKeys := false, apart := false, narrowed := true }
def FlatCheckedUptoSaid : Prop := flatCheckedUptoRow.holds Try.pinned (OpenSpec.upto flatCheckedSpec)

/-- 'cubitlaw12.FlatUnrolls', WHERE WHAT IT READS IS OF BULK AT MOST 1048576: true; the input reads as it did. -/
def flatUnrollsUptoRow : OpenClaim := { program := "ytjehibknlmehmaa", sum := "2564fb1293fed7124e79177e40a286b8f07871272721e03a1d5f0e3c0fec5000", func := "cubit/cubitlaw12.FlatUnrolls", spec := "flatUnrolls", inPlace := ["internal/bytealg.IndexByteString"], unfollowed := true, recurses := true, plainKeys := false, apart := false, narrowed := true }
def FlatUnrollsUptoSaid : Prop := flatUnrollsUptoRow.holds Try.pinned (OpenSpec.upto flatUnrollsSpec)

/-- 'cubitlaw12.FlatKeeps', WHERE WHAT IT READS IS OF BULK AT MOST 1048576: true; the input reads as it did. -/
def flatKeepsUptoRow : OpenClaim := { program := "ytjehibknlmehmaa", sum := "2564fb1293fed7124e79177e40a286b8f07871272721e03a1d5f0e3c0fec5000", func := "cubit/cubitlaw12.FlatKeeps", spec := "flatKeeps", inPlace := ["internal/bytealg.IndexByteString"], unfollowed := true, recurses := true, plainKeys := false, apart := false, narrowed := true }
def FlatKeepsUptoSaid : Prop := flatKeepsUptoRow.holds Try.pinned (OpenSpec.upto flatKeepsSpec)

end Rows
end Go.Proofs.Ytjehibknlmehmaa

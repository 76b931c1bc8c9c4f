/-
  DERIVED. GIVEN WITH THE SEED: THE CARDS: each row of YtjehibknlmehmaaGreatDoorRows.lean that lists a variable, with what it lists TIED to the program's text (the seventh form; the later family's looks); each row that meets fmt, with fmt's text TOLD by the authors' own Lean function (tested against real Go, not proved from fmt's source: count such statements apart). THE CARD IS WHAT COUNTS. Prove the row's statement (the work); the ties are given (YtjehibknlmehmaaGreatDoorTie.lean); close each card by the builder's one call (the guide's Derived/Test/ToyasCard.lean, 'card_holds'). Laid BY PROGRAM, IN A SANDBOX (cutbox-door.mjs). By AI agents, Wed Nov 11 2026. No macro, syntax, notation, axiom, sorry.
-/
import Derived.Test.YtjehibknlmehmaaGreatDoorRows
import GoSem.ClaimSeven
namespace Go.Proofs.YtjehibknlmehmaaGreatDoor
namespace Rows

/-- THE TIED CARD OF 'cubitlaw12.FlatShows'. -/
def flatShowsCard : Claim7 := { stood := { row := flatShowsRow, standIns := [], harness := (true, "fbbbe81fce5f0f6ae83a0a451544c1b9f37616192204ee79dc8287dea9e71f53"), looks := true }, kinds := [], alts := [], laidByText := true, laidKinds := [.data, .data, .data], laidTests := true, laidLooks := .later }
def FlatShowsCardSaid : Prop := Claim7.holds Tryz.pinned (.plain (OpenSpec.ofChange flatShowsSpec)) flatShowsCard

/-- THE TIED CARD OF 'cubitlaw12.FlatBack'. -/
def flatBackCard : Claim7 := { stood := { row := flatBackRow, standIns := [], harness := (true, "fbbbe81fce5f0f6ae83a0a451544c1b9f37616192204ee79dc8287dea9e71f53"), looks := true }, kinds := [], alts := [], laidByText := true, laidKinds := [.data, .data, .data], laidTests := true, laidLooks := .later }
def FlatBackCardSaid : Prop := Claim7.holds Tryz.pinned (.plain (OpenSpec.ofChange flatBackSpec)) flatBackCard

/-- THE SECOND FORM's CARD OF 'cubitlaw12.FlatShows'. -/
def flatShowsUptoCard : Claim7 := { stood := { row := flatShowsUptoRow, standIns := [], harness := (true, "fbbbe81fce5f0f6ae83a0a451544c1b9f37616192204ee79dc8287dea9e71f53"), looks := true }, kinds := [], alts := [], laidByText := true, laidKinds := [.data, .data, .data], laidTests := true, laidLooks := .later }
def FlatShowsUptoCardSaid : Prop := Claim7.holds Tryz.pinned (.plain (OpenSpec.upto flatShowsSpec)) flatShowsUptoCard

/-- THE SECOND FORM's CARD OF 'cubitlaw12.FlatBack'. -/
def flatBackUptoCard : Claim7 := { stood := { row := flatBackUptoRow, standIns := [], harness := (true, "fbbbe81fce5f0f6ae83a0a451544c1b9f37616192204ee79dc8287dea9e71f53"), looks := true }, kinds := [], alts := [], laidByText := true, laidKinds := [.data, .data, .data], laidTests := true, laidLooks := .later }
def FlatBackUptoCardSaid : Prop := Claim7.holds Tryz.pinned (.plain (OpenSpec.upto flatBackSpec)) flatBackUptoCard
end Rows
end Go.Proofs.YtjehibknlmehmaaGreatDoor

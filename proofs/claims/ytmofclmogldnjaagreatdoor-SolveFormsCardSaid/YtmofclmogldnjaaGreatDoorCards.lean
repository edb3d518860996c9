/-
  DERIVED. GIVEN WITH THE SEED: THE CARDS: each row of YtmofclmogldnjaaGreatDoorRows.lean that lists a variable, with what it lists TIED to the program's text (the seventh form; the later family's looks); each row that meets fmt, with fmt's text TOLD by the authors' own Lean function (tested against real Go, not proved from fmt's source: count such statements apart). THE CARD IS WHAT COUNTS. Prove the row's statement (the work); the ties are given (YtmofclmogldnjaaGreatDoorTie.lean); close each card by the builder's one call (the guide's Derived/Test/ToyasCard.lean, 'card_holds'). Laid BY PROGRAM, IN A SANDBOX (cutbox-door.mjs). By AI agents, Wed Nov 11 2026. No macro, syntax, notation, axiom, sorry.
-/
import Derived.Test.YtmofclmogldnjaaGreatDoorRows
import GoSem.ClaimSeven
namespace Go.Proofs.YtmofclmogldnjaaGreatDoor
namespace Rows

/-- THE TIED CARD OF 'covalentlaw15.MetaEntries'. -/
def metaEntriesCard : Claim7 := { stood := { row := metaEntriesRow, standIns := [], harness := (true, "fe87a95dca1f6ac2d35833a8314a23d5e921baf697ab3341728116b1ab04b80f"), looks := false }, kinds := [], alts := [], laidByText := true, laidKinds := [.data, .data, .data], laidTests := true, laidLooks := .later }
def MetaEntriesCardSaid : Prop := Claim7.holds Tryz.pinned (.plain (OpenSpec.ofChange metaEntriesSpec)) metaEntriesCard

/-- THE TIED CARD OF 'covalentlaw06.ConformTargets'. -/
def conformTargetsCard : Claim7 := { stood := { row := conformTargetsRow, standIns := [], harness := (true, "fe87a95dca1f6ac2d35833a8314a23d5e921baf697ab3341728116b1ab04b80f"), looks := false }, kinds := [], alts := [], laidByText := true, laidKinds := [.data, .data, .data], laidTests := true, laidLooks := .later }
def ConformTargetsCardSaid : Prop := Claim7.holds Tryz.pinned (.plain (OpenSpec.ofChange conformTargetsSpec)) conformTargetsCard

/-- THE TIED CARD OF 'covalentlaw07.SolveForms'. -/
def solveFormsCard : Claim7 := { stood := { row := solveFormsRow, standIns := [], harness := (true, "fe87a95dca1f6ac2d35833a8314a23d5e921baf697ab3341728116b1ab04b80f"), looks := false }, kinds := [], alts := [], laidByText := true, laidKinds := [.data, .data, .data], laidTests := true, laidLooks := .later }
def SolveFormsCardSaid : Prop := Claim7.holds Tryz.pinned (.plain (OpenSpec.ofChange solveFormsSpec)) solveFormsCard

/-- THE SECOND FORM's CARD OF 'covalentlaw15.MetaEntries'. -/
def metaEntriesUptoCard : Claim7 := { stood := { row := metaEntriesUptoRow, standIns := [], harness := (true, "fe87a95dca1f6ac2d35833a8314a23d5e921baf697ab3341728116b1ab04b80f"), looks := false }, kinds := [], alts := [], laidByText := true, laidKinds := [.data, .data, .data], laidTests := true, laidLooks := .later }
def MetaEntriesUptoCardSaid : Prop := Claim7.holds Tryz.pinned (.plain (OpenSpec.upto metaEntriesSpec)) metaEntriesUptoCard

/-- THE SECOND FORM's CARD OF 'covalentlaw06.ConformTargets'. -/
def conformTargetsUptoCard : Claim7 := { stood := { row := conformTargetsUptoRow, standIns := [], harness := (true, "fe87a95dca1f6ac2d35833a8314a23d5e921baf697ab3341728116b1ab04b80f"), looks := false }, kinds := [], alts := [], laidByText := true, laidKinds := [.data, .data, .data], laidTests := true, laidLooks := .later }
def ConformTargetsUptoCardSaid : Prop := Claim7.holds Tryz.pinned (.plain (OpenSpec.upto conformTargetsSpec)) conformTargetsUptoCard

/-- THE SECOND FORM's CARD OF 'covalentlaw07.SolveForms'. -/
def solveFormsUptoCard : Claim7 := { stood := { row := solveFormsUptoRow, standIns := [], harness := (true, "fe87a95dca1f6ac2d35833a8314a23d5e921baf697ab3341728116b1ab04b80f"), looks := false }, kinds := [], alts := [], laidByText := true, laidKinds := [.data, .data, .data], laidTests := true, laidLooks := .later }
def SolveFormsUptoCardSaid : Prop := Claim7.holds Tryz.pinned (.plain (OpenSpec.upto solveFormsSpec)) solveFormsUptoCard
end Rows
end Go.Proofs.YtmofclmogldnjaaGreatDoor

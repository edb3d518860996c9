/-
  DERIVED. GIVEN WITH THE SEED: THE CARDS: each row of YtnnimjficnjbdaaGreatDoorRows.lean that lists a variable, with what it lists TIED to the program's text (the seventh form; the later family's looks); each row that meets fmt, with fmt's text TOLD by the authors' own Lean function (tested against real Go, not proved from fmt's source: count such statements apart). THE CARD IS WHAT COUNTS. Prove the row's statement (the work); the ties are given (YtnnimjficnjbdaaGreatDoorTie.lean); close each card by the builder's one call (the guide's Derived/Test/ToyasCard.lean, 'card_holds'). Laid BY PROGRAM, IN A SANDBOX (cutbox-door.mjs). By AI agents, Wed Nov 11 2026. No macro, syntax, notation, axiom, sorry.
-/
import Derived.Test.YtnnimjficnjbdaaGreatDoorRows
import GoSem.ClaimSeven
namespace Go.Proofs.YtnnimjficnjbdaaGreatDoor
namespace Rows

/-- THE TIED CARD OF 'covalentlaw10.FlowOverlaps'. -/
def flowOverlapsCard : Claim7 := { stood := { row := flowOverlapsRow, standIns := [], harness := (true, "16c470bd01638aa3a6705bd1a9130226c3f7646c5c2c5eeeeb28a9bf64e18e0b"), looks := true }, kinds := [], alts := [], laidByText := true, laidKinds := [.data, .data, .data], laidTests := true, laidLooks := .later }
def FlowOverlapsCardSaid : Prop := Claim7.holds Tryz.pinned (.plain (OpenSpec.ofChange flowOverlapsSpec)) flowOverlapsCard

/-- THE SECOND FORM's CARD OF 'covalentlaw10.FlowOverlaps'. -/
def flowOverlapsUptoCard : Claim7 := { stood := { row := flowOverlapsUptoRow, standIns := [], harness := (true, "16c470bd01638aa3a6705bd1a9130226c3f7646c5c2c5eeeeb28a9bf64e18e0b"), looks := true }, kinds := [], alts := [], laidByText := true, laidKinds := [.data, .data, .data], laidTests := true, laidLooks := .later }
def FlowOverlapsUptoCardSaid : Prop := Claim7.holds Tryz.pinned (.plain (OpenSpec.upto flowOverlapsSpec)) flowOverlapsUptoCard
end Rows
end Go.Proofs.YtnnimjficnjbdaaGreatDoor

/-
  DERIVED. GIVEN WITH THE SEED: THE CARDS: each row of YtcdjoaepciegnaaGreatDoorRows.lean that lists a variable, with what it lists TIED to the program's text (the seventh form; the later family's looks); each row that meets fmt, with fmt's text TOLD by the authors' own Lean function (tested against real Go, not proved from fmt's source: count such statements apart). THE CARD IS WHAT COUNTS. Prove the row's statement (the work); the ties are given (YtcdjoaepciegnaaGreatDoorTie.lean); close each card by the builder's one call (the guide's Derived/Test/ToyasCard.lean, 'card_holds'). Laid BY PROGRAM, IN A SANDBOX (cutbox-door.mjs). By AI agents, Wed Nov 11 2026. No macro, syntax, notation, axiom, sorry.
-/
import Derived.Test.YtcdjoaepciegnaaGreatDoorRows
import GoSem.ClaimSeven
namespace Go.Proofs.YtcdjoaepciegnaaGreatDoor
namespace Rows

/-- THE TIED CARD OF 'covalentlaw12.MiddleTables'. -/
def middleTablesCard : Claim7 := { stood := { row := middleTablesRow, standIns := [], harness := (true, "da271ebc8ab6f301a18247fb4a2f73b36556ea0464b5fd010ce39a132e5b79b9"), looks := false }, kinds := [], alts := [], laidByText := true, laidKinds := [.data, .data, .data], laidTests := true, laidLooks := .later }
def MiddleTablesCardSaid : Prop := Claim7.holds Tryz.pinned (.plain (OpenSpec.ofChange middleTablesSpec)) middleTablesCard

/-- THE TIED CARD OF 'covalentlaw12.MiddleUses'. -/
def middleUsesCard : Claim7 := { stood := { row := middleUsesRow, standIns := [], harness := (true, "da271ebc8ab6f301a18247fb4a2f73b36556ea0464b5fd010ce39a132e5b79b9"), looks := false }, kinds := [], alts := [], laidByText := true, laidKinds := [.data, .data, .data], laidTests := true, laidLooks := .later }
def MiddleUsesCardSaid : Prop := Claim7.holds Tryz.pinned (.plain (OpenSpec.ofChange middleUsesSpec)) middleUsesCard

/-- THE TIED CARD OF 'covalentlaw12.MiddleSame'. -/
def middleSameCard : Claim7 := { stood := { row := middleSameRow, standIns := [], harness := (true, "da271ebc8ab6f301a18247fb4a2f73b36556ea0464b5fd010ce39a132e5b79b9"), looks := false }, kinds := [], alts := [], laidByText := true, laidKinds := [.data, .data, .data], laidTests := true, laidLooks := .later }
def MiddleSameCardSaid : Prop := Claim7.holds Tryz.pinned (.plain (OpenSpec.ofChange middleSameSpec)) middleSameCard

/-- THE TIED CARD OF 'covalentlaw12.MiddleTypes'. -/
def middleTypesCard : Claim7 := { stood := { row := middleTypesRow, standIns := [], harness := (true, "da271ebc8ab6f301a18247fb4a2f73b36556ea0464b5fd010ce39a132e5b79b9"), looks := false }, kinds := [], alts := [], laidByText := true, laidKinds := [.data, .data, .data], laidTests := true, laidLooks := .later }
def MiddleTypesCardSaid : Prop := Claim7.holds Tryz.pinned (.plain (OpenSpec.ofChange middleTypesSpec)) middleTypesCard

/-- THE SECOND FORM's CARD OF 'covalentlaw12.MiddleTables'. -/
def middleTablesUptoCard : Claim7 := { stood := { row := middleTablesUptoRow, standIns := [], harness := (true, "da271ebc8ab6f301a18247fb4a2f73b36556ea0464b5fd010ce39a132e5b79b9"), looks := false }, kinds := [], alts := [], laidByText := true, laidKinds := [.data, .data, .data], laidTests := true, laidLooks := .later }
def MiddleTablesUptoCardSaid : Prop := Claim7.holds Tryz.pinned (.plain (OpenSpec.upto middleTablesSpec)) middleTablesUptoCard

/-- THE SECOND FORM's CARD OF 'covalentlaw12.MiddleUses'. -/
def middleUsesUptoCard : Claim7 := { stood := { row := middleUsesUptoRow, standIns := [], harness := (true, "da271ebc8ab6f301a18247fb4a2f73b36556ea0464b5fd010ce39a132e5b79b9"), looks := false }, kinds := [], alts := [], laidByText := true, laidKinds := [.data, .data, .data], laidTests := true, laidLooks := .later }
def MiddleUsesUptoCardSaid : Prop := Claim7.holds Tryz.pinned (.plain (OpenSpec.upto middleUsesSpec)) middleUsesUptoCard

/-- THE SECOND FORM's CARD OF 'covalentlaw12.MiddleSame'. -/
def middleSameUptoCard : Claim7 := { stood := { row := middleSameUptoRow, standIns := [], harness := (true, "da271ebc8ab6f301a18247fb4a2f73b36556ea0464b5fd010ce39a132e5b79b9"), looks := false }, kinds := [], alts := [], laidByText := true, laidKinds := [.data, .data, .data], laidTests := true, laidLooks := .later }
def MiddleSameUptoCardSaid : Prop := Claim7.holds Tryz.pinned (.plain (OpenSpec.upto middleSameSpec)) middleSameUptoCard

/-- THE SECOND FORM's CARD OF 'covalentlaw12.MiddleTypes'. -/
def middleTypesUptoCard : Claim7 := { stood := { row := middleTypesUptoRow, standIns := [], harness := (true, "da271ebc8ab6f301a18247fb4a2f73b36556ea0464b5fd010ce39a132e5b79b9"), looks := false }, kinds := [], alts := [], laidByText := true, laidKinds := [.data, .data, .data], laidTests := true, laidLooks := .later }
def MiddleTypesUptoCardSaid : Prop := Claim7.holds Tryz.pinned (.plain (OpenSpec.upto middleTypesSpec)) middleTypesUptoCard
end Rows
end Go.Proofs.YtcdjoaepciegnaaGreatDoor

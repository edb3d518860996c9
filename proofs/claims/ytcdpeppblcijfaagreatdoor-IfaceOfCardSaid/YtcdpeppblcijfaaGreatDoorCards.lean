/-
  DERIVED. GIVEN WITH THE SEED: THE CARDS: each row of YtcdpeppblcijfaaGreatDoorRows.lean that lists a variable, with what it lists TIED to the program's text (the seventh form; the later family's looks); each row that meets fmt, with fmt's text TOLD by the authors' own Lean function (tested against real Go, not proved from fmt's source: count such statements apart). THE CARD IS WHAT COUNTS. Prove the row's statement (the work); the ties are given (YtcdpeppblcijfaaGreatDoorTie.lean); close each card by the builder's one call (the guide's Derived/Test/ToyasCard.lean, 'card_holds'). Laid BY PROGRAM, IN A SANDBOX (cutbox-door.mjs). By AI agents, Wed Nov 11 2026. No macro, syntax, notation, axiom, sorry.
-/
import Derived.Test.YtcdpeppblcijfaaGreatDoorRows
import GoSem.ClaimSeven
namespace Go.Proofs.YtcdpeppblcijfaaGreatDoor
namespace Rows

/-- THE TIED CARD OF 'covalentlaw20.IfaceGrows'. -/
def ifaceGrowsCard : Claim7 := { stood := { row := ifaceGrowsRow, standIns := [], harness := (true, "5698a7958253c1dad40e24f70ac40fb9bc205645309c7a2002401ad15117b147"), looks := false }, kinds := [], alts := [], laidByText := true, laidKinds := [.data, .data, .data], laidTests := true, laidLooks := .later }
def IfaceGrowsCardSaid : Prop := Claim7.holds Tryz.pinned (.plain (OpenSpec.ofChange ifaceGrowsSpec)) ifaceGrowsCard

/-- THE TIED CARD OF 'covalentlaw20.IfaceChains'. -/
def ifaceChainsCard : Claim7 := { stood := { row := ifaceChainsRow, standIns := [], harness := (true, "5698a7958253c1dad40e24f70ac40fb9bc205645309c7a2002401ad15117b147"), looks := false }, kinds := [], alts := [], laidByText := true, laidKinds := [.data, .data, .data], laidTests := true, laidLooks := .later }
def IfaceChainsCardSaid : Prop := Claim7.holds Tryz.pinned (.plain (OpenSpec.ofChange ifaceChainsSpec)) ifaceChainsCard

/-- THE TIED CARD OF 'covalentlaw20.IfaceOrder'. -/
def ifaceOrderCard : Claim7 := { stood := { row := ifaceOrderRow, standIns := [], harness := (true, "5698a7958253c1dad40e24f70ac40fb9bc205645309c7a2002401ad15117b147"), looks := false }, kinds := [], alts := [], laidByText := true, laidKinds := [.data, .data, .data], laidTests := true, laidLooks := .later }
def IfaceOrderCardSaid : Prop := Claim7.holds Tryz.pinned (.plain (OpenSpec.ofChange ifaceOrderSpec)) ifaceOrderCard

/-- THE TIED CARD OF 'covalentlaw20.IfaceReasons'. -/
def ifaceReasonsCard : Claim7 := { stood := { row := ifaceReasonsRow, standIns := [], harness := (true, "5698a7958253c1dad40e24f70ac40fb9bc205645309c7a2002401ad15117b147"), looks := false }, kinds := [], alts := [], laidByText := true, laidKinds := [.data, .data, .data], laidTests := true, laidLooks := .later }
def IfaceReasonsCardSaid : Prop := Claim7.holds Tryz.pinned (.plain (OpenSpec.ofChange ifaceReasonsSpec)) ifaceReasonsCard

/-- THE TIED CARD OF 'covalentlaw20.IfaceEntries'. -/
def ifaceEntriesCard : Claim7 := { stood := { row := ifaceEntriesRow, standIns := [], harness := (true, "5698a7958253c1dad40e24f70ac40fb9bc205645309c7a2002401ad15117b147"), looks := false }, kinds := [], alts := [], laidByText := true, laidKinds := [.data, .data, .data], laidTests := true, laidLooks := .later }
def IfaceEntriesCardSaid : Prop := Claim7.holds Tryz.pinned (.plain (OpenSpec.ofChange ifaceEntriesSpec)) ifaceEntriesCard

/-- THE TIED CARD OF 'covalentlaw20.IfaceOpaque'. -/
def ifaceOpaqueCard : Claim7 := { stood := { row := ifaceOpaqueRow, standIns := [], harness := (true, "5698a7958253c1dad40e24f70ac40fb9bc205645309c7a2002401ad15117b147"), looks := false }, kinds := [], alts := [], laidByText := true, laidKinds := [.data, .data, .data], laidTests := true, laidLooks := .later }
def IfaceOpaqueCardSaid : Prop := Claim7.holds Tryz.pinned (.plain (OpenSpec.ofChange ifaceOpaqueSpec)) ifaceOpaqueCard

/-- THE TIED CARD OF 'covalentlaw20.IfaceSelf'. -/
def ifaceSelfCard : Claim7 := { stood := { row := ifaceSelfRow, standIns := [], harness := (true, "5698a7958253c1dad40e24f70ac40fb9bc205645309c7a2002401ad15117b147"), looks := false }, kinds := [], alts := [], laidByText := true, laidKinds := [.data, .data, .data], laidTests := true, laidLooks := .later }
def IfaceSelfCardSaid : Prop := Claim7.holds Tryz.pinned (.plain (OpenSpec.ofChange ifaceSelfSpec)) ifaceSelfCard

/-- THE TIED CARD OF 'covalentlaw20.IfaceOf'. -/
def ifaceOfCard : Claim7 := { stood := { row := ifaceOfRow, standIns := [], harness := (true, "5698a7958253c1dad40e24f70ac40fb9bc205645309c7a2002401ad15117b147"), looks := false }, kinds := [], alts := [], laidByText := true, laidKinds := [.data, .data, .data], laidTests := true, laidLooks := .later }
def IfaceOfCardSaid : Prop := Claim7.holds Tryz.pinned (.plain (OpenSpec.ofChange ifaceOfSpec)) ifaceOfCard

/-- THE SECOND FORM's CARD OF 'covalentlaw20.IfaceGrows'. -/
def ifaceGrowsUptoCard : Claim7 := { stood := { row := ifaceGrowsUptoRow, standIns := [], harness := (true, "5698a7958253c1dad40e24f70ac40fb9bc205645309c7a2002401ad15117b147"), looks := false }, kinds := [], alts := [], laidByText := true, laidKinds := [.data, .data, .data], laidTests := true, laidLooks := .later }
def IfaceGrowsUptoCardSaid : Prop := Claim7.holds Tryz.pinned (.plain (OpenSpec.upto ifaceGrowsSpec)) ifaceGrowsUptoCard

/-- THE SECOND FORM's CARD OF 'covalentlaw20.IfaceChains'. -/
def ifaceChainsUptoCard : Claim7 := { stood := { row := ifaceChainsUptoRow, standIns := [], harness := (true, "5698a7958253c1dad40e24f70ac40fb9bc205645309c7a2002401ad15117b147"), looks := false }, kinds := [], alts := [], laidByText := true, laidKinds := [.data, .data, .data], laidTests := true, laidLooks := .later }
def IfaceChainsUptoCardSaid : Prop := Claim7.holds Tryz.pinned (.plain (OpenSpec.upto ifaceChainsSpec)) ifaceChainsUptoCard

/-- THE SECOND FORM's CARD OF 'covalentlaw20.IfaceOrder'. -/
def ifaceOrderUptoCard : Claim7 := { stood := { row := ifaceOrderUptoRow, standIns := [], harness := (true, "5698a7958253c1dad40e24f70ac40fb9bc205645309c7a2002401ad15117b147"), looks := false }, kinds := [], alts := [], laidByText := true, laidKinds := [.data, .data, .data], laidTests := true, laidLooks := .later }
def IfaceOrderUptoCardSaid : Prop := Claim7.holds Tryz.pinned (.plain (OpenSpec.upto ifaceOrderSpec)) ifaceOrderUptoCard

/-- THE SECOND FORM's CARD OF 'covalentlaw20.IfaceReasons'. -/
def ifaceReasonsUptoCard : Claim7 := { stood := { row := ifaceReasonsUptoRow, standIns := [], harness := (true, "5698a7958253c1dad40e24f70ac40fb9bc205645309c7a2002401ad15117b147"), looks := false }, kinds := [], alts := [], laidByText := true, laidKinds := [.data, .data, .data], laidTests := true, laidLooks := .later }
def IfaceReasonsUptoCardSaid : Prop := Claim7.holds Tryz.pinned (.plain (OpenSpec.upto ifaceReasonsSpec)) ifaceReasonsUptoCard

/-- THE SECOND FORM's CARD OF 'covalentlaw20.IfaceEntries'. -/
def ifaceEntriesUptoCard : Claim7 := { stood := { row := ifaceEntriesUptoRow, standIns := [], harness := (true, "5698a7958253c1dad40e24f70ac40fb9bc205645309c7a2002401ad15117b147"), looks := false }, kinds := [], alts := [], laidByText := true, laidKinds := [.data, .data, .data], laidTests := true, laidLooks := .later }
def IfaceEntriesUptoCardSaid : Prop := Claim7.holds Tryz.pinned (.plain (OpenSpec.upto ifaceEntriesSpec)) ifaceEntriesUptoCard

/-- THE SECOND FORM's CARD OF 'covalentlaw20.IfaceOpaque'. -/
def ifaceOpaqueUptoCard : Claim7 := { stood := { row := ifaceOpaqueUptoRow, standIns := [], harness := (true, "5698a7958253c1dad40e24f70ac40fb9bc205645309c7a2002401ad15117b147"), looks := false }, kinds := [], alts := [], laidByText := true, laidKinds := [.data, .data, .data], laidTests := true, laidLooks := .later }
def IfaceOpaqueUptoCardSaid : Prop := Claim7.holds Tryz.pinned (.plain (OpenSpec.upto ifaceOpaqueSpec)) ifaceOpaqueUptoCard

/-- THE SECOND FORM's CARD OF 'covalentlaw20.IfaceSelf'. -/
def ifaceSelfUptoCard : Claim7 := { stood := { row := ifaceSelfUptoRow, standIns := [], harness := (true, "5698a7958253c1dad40e24f70ac40fb9bc205645309c7a2002401ad15117b147"), looks := false }, kinds := [], alts := [], laidByText := true, laidKinds := [.data, .data, .data], laidTests := true, laidLooks := .later }
def IfaceSelfUptoCardSaid : Prop := Claim7.holds Tryz.pinned (.plain (OpenSpec.upto ifaceSelfSpec)) ifaceSelfUptoCard

/-- THE SECOND FORM's CARD OF 'covalentlaw20.IfaceOf'. -/
def ifaceOfUptoCard : Claim7 := { stood := { row := ifaceOfUptoRow, standIns := [], harness := (true, "5698a7958253c1dad40e24f70ac40fb9bc205645309c7a2002401ad15117b147"), looks := false }, kinds := [], alts := [], laidByText := true, laidKinds := [.data, .data, .data], laidTests := true, laidLooks := .later }
def IfaceOfUptoCardSaid : Prop := Claim7.holds Tryz.pinned (.plain (OpenSpec.upto ifaceOfSpec)) ifaceOfUptoCard
end Rows
end Go.Proofs.YtcdpeppblcijfaaGreatDoor

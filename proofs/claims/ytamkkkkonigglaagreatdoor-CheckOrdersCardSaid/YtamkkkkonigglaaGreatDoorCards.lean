/-
  DERIVED. GIVEN WITH THE SEED: THE CARDS: each row of YtamkkkkonigglaaGreatDoorRows.lean that lists a variable, with what it lists TIED to the program's text (the seventh form; the later family's looks); each row that meets fmt, with fmt's text TOLD by the authors' own Lean function (tested against real Go, not proved from fmt's source: count such statements apart). THE CARD IS WHAT COUNTS. Prove the row's statement (the work); the ties are given (YtamkkkkonigglaaGreatDoorTie.lean); close each card by the builder's one call (the guide's Derived/Test/ToyasCard.lean, 'card_holds'). Laid BY PROGRAM, IN A SANDBOX (cutbox-door.mjs). By AI agents, Wed Nov 11 2026. No macro, syntax, notation, axiom, sorry.
-/
import Derived.Test.YtamkkkkonigglaaGreatDoorRows
import GoSem.ClaimSeven
namespace Go.Proofs.YtamkkkkonigglaaGreatDoor
namespace Rows

/-- THE TIED CARD OF 'casuistlaw26.CheckTables'. -/
def checkTablesCard : Claim7 := { stood := { row := checkTablesRow, standIns := [], harness := (true, "a4665fd90d72b480ae3e322ad789f1cc5cb046c0c152fbdac59a5c103959d92a"), looks := true }, kinds := [], alts := [], laidByText := true, laidKinds := [.data, .data, .data, .data, .sentinel, .sentinel, .pinned], laidTests := true, laidLooks := .later }
def CheckTablesCardSaid : Prop := Claim7.holds Tryz.pinned (.plain (OpenSpec.ofChange checkTablesSpec)) checkTablesCard

/-- THE TIED CARD OF 'casuistlaw26.CheckOrders'. -/
def checkOrdersCard : Claim7 := { stood := { row := checkOrdersRow, standIns := [], harness := (true, "a4665fd90d72b480ae3e322ad789f1cc5cb046c0c152fbdac59a5c103959d92a"), looks := true }, kinds := [], alts := [], laidByText := true, laidKinds := [.data, .data, .data, .data, .sentinel, .sentinel, .pinned], laidTests := true, laidLooks := .later }
def CheckOrdersCardSaid : Prop := Claim7.holds Tryz.pinned (.plain (OpenSpec.ofChange checkOrdersSpec)) checkOrdersCard

/-- THE TIED CARD OF 'casuistlaw26.CheckLoose'. -/
def checkLooseCard : Claim7 := { stood := { row := checkLooseRow, standIns := [], harness := (true, "a4665fd90d72b480ae3e322ad789f1cc5cb046c0c152fbdac59a5c103959d92a"), looks := true }, kinds := [], alts := [], laidByText := true, laidKinds := [.data, .data, .data, .data, .sentinel, .sentinel, .pinned], laidTests := true, laidLooks := .later }
def CheckLooseCardSaid : Prop := Claim7.holds Tryz.pinned (.plain (OpenSpec.ofChange checkLooseSpec)) checkLooseCard

/-- THE SECOND FORM's CARD OF 'casuistlaw26.CheckTables'. -/
def checkTablesUptoCard : Claim7 := { stood := { row := checkTablesUptoRow, standIns := [], harness := (true, "a4665fd90d72b480ae3e322ad789f1cc5cb046c0c152fbdac59a5c103959d92a"), looks := true }, kinds := [], alts := [], laidByText := true, laidKinds := [.data, .data, .data, .data, .sentinel, .sentinel, .pinned], laidTests := true, laidLooks := .later }
def CheckTablesUptoCardSaid : Prop := Claim7.holds Tryz.pinned (.plain (OpenSpec.upto checkTablesSpec)) checkTablesUptoCard

/-- THE SECOND FORM's CARD OF 'casuistlaw26.CheckOrders'. -/
def checkOrdersUptoCard : Claim7 := { stood := { row := checkOrdersUptoRow, standIns := [], harness := (true, "a4665fd90d72b480ae3e322ad789f1cc5cb046c0c152fbdac59a5c103959d92a"), looks := true }, kinds := [], alts := [], laidByText := true, laidKinds := [.data, .data, .data, .data, .sentinel, .sentinel, .pinned], laidTests := true, laidLooks := .later }
def CheckOrdersUptoCardSaid : Prop := Claim7.holds Tryz.pinned (.plain (OpenSpec.upto checkOrdersSpec)) checkOrdersUptoCard

/-- THE SECOND FORM's CARD OF 'casuistlaw26.CheckLoose'. -/
def checkLooseUptoCard : Claim7 := { stood := { row := checkLooseUptoRow, standIns := [], harness := (true, "a4665fd90d72b480ae3e322ad789f1cc5cb046c0c152fbdac59a5c103959d92a"), looks := true }, kinds := [], alts := [], laidByText := true, laidKinds := [.data, .data, .data, .data, .sentinel, .sentinel, .pinned], laidTests := true, laidLooks := .later }
def CheckLooseUptoCardSaid : Prop := Claim7.holds Tryz.pinned (.plain (OpenSpec.upto checkLooseSpec)) checkLooseUptoCard
end Rows
end Go.Proofs.YtamkkkkonigglaaGreatDoor

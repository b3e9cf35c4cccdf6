/-
  DERIVED. GIVEN WITH THE SEED: THE CARDS: each row of YtolniekeocnanaaGreatDoorRows.lean that lists a variable, with what it lists TIED to the program's text (the seventh form; the later family's looks); each row that meets fmt, with fmt's text TOLD by the authors' own Lean function (tested against real Go, not proved from fmt's source: count such statements apart). THE CARD IS WHAT COUNTS. Prove the row's statement (the work); the ties are given (YtolniekeocnanaaGreatDoorTie.lean); close each card by the builder's one call (the guide's Derived/Test/ToyasCard.lean, 'card_holds'). Laid BY PROGRAM, IN A SANDBOX (cutbox-door.mjs). By AI agents, Wed Nov 11 2026. No macro, syntax, notation, axiom, sorry.
-/
import Derived.Test.YtolniekeocnanaaGreatDoorRows
import GoSem.ClaimSeven
namespace Go.Proofs.YtolniekeocnanaaGreatDoor
namespace Rows

/-- THE TIED CARD OF 'casuistlaw24.TimefunSpans'. -/
def timefunSpansCard : Claim7 := { stood := { row := timefunSpansRow, standIns := [], harness := (true, "ee2194ad05d452853725bb9874309f10c9ea2af30dc67c24591540c6f2405445"), looks := true }, kinds := [], alts := [], laidByText := true, laidKinds := [.data, .data, .data, .data, .pinned], laidTests := true, laidLooks := .later }
def TimefunSpansCardSaid : Prop := Claim7.holds Tryz.pinned (.plain (OpenSpec.ofChange timefunSpansSpec)) timefunSpansCard

/-- THE TIED CARD OF 'casuistlaw11.ValueMakes'. -/
def valueMakesCard : Claim7 := { stood := { row := valueMakesRow, standIns := [], harness := (true, "ee2194ad05d452853725bb9874309f10c9ea2af30dc67c24591540c6f2405445"), looks := true }, kinds := [], alts := [], laidByText := true, laidKinds := [.data, .data, .data, .data, .sentinel, .sentinel, .pinned], laidTests := true, laidLooks := .later }
def ValueMakesCardSaid : Prop := Claim7.holds Tryz.pinned (.plain (OpenSpec.ofChange valueMakesSpec)) valueMakesCard

/-- THE TIED CARD OF 'casuistlaw11.ValueApart'. -/
def valueApartCard : Claim7 := { stood := { row := valueApartRow, standIns := [], harness := (true, "ee2194ad05d452853725bb9874309f10c9ea2af30dc67c24591540c6f2405445"), looks := true }, kinds := [], alts := [], laidByText := true, laidKinds := [.data, .data, .data, .data, .sentinel, .sentinel, .pinned], laidTests := true, laidLooks := .later }
def ValueApartCardSaid : Prop := Claim7.holds Tryz.pinned (.plain (OpenSpec.ofChange valueApartSpec)) valueApartCard

/-- THE TIED CARD OF 'casuistlaw26.CheckTables'. -/
def checkTablesCard : Claim7 := { stood := { row := checkTablesRow, standIns := [], harness := (true, "ee2194ad05d452853725bb9874309f10c9ea2af30dc67c24591540c6f2405445"), looks := true }, kinds := [], alts := [], laidByText := true, laidKinds := [.data, .data, .data, .data, .sentinel, .sentinel, .pinned], laidTests := true, laidLooks := .later }
def CheckTablesCardSaid : Prop := Claim7.holds Tryz.pinned (.plain (OpenSpec.ofChange checkTablesSpec)) checkTablesCard

/-- THE TIED CARD OF 'casuistlaw19.ParseOperators'. -/
def parseOperatorsCard : Claim7 := { stood := { row := parseOperatorsRow, standIns := [], harness := (true, "ee2194ad05d452853725bb9874309f10c9ea2af30dc67c24591540c6f2405445"), looks := true }, kinds := [], alts := [], laidByText := true, laidKinds := [.data, .data, .data, .data, .sentinel, .sentinel, .pinned], laidTests := true, laidLooks := .later }
def ParseOperatorsCardSaid : Prop := Claim7.holds Tryz.pinned (.plain (OpenSpec.ofChange parseOperatorsSpec)) parseOperatorsCard

/-- THE TIED CARD OF 'casuistlaw19.ParseNames'. -/
def parseNamesCard : Claim7 := { stood := { row := parseNamesRow, standIns := [], harness := (true, "ee2194ad05d452853725bb9874309f10c9ea2af30dc67c24591540c6f2405445"), looks := true }, kinds := [], alts := [], laidByText := true, laidKinds := [.data, .data, .data, .data, .sentinel, .sentinel, .pinned], laidTests := true, laidLooks := .later }
def ParseNamesCardSaid : Prop := Claim7.holds Tryz.pinned (.plain (OpenSpec.ofChange parseNamesSpec)) parseNamesCard

/-- THE SECOND FORM's CARD OF 'casuistlaw24.TimefunSpans'. -/
def timefunSpansUptoCard : Claim7 := { stood := { row := timefunSpansUptoRow, standIns := [], harness := (true, "ee2194ad05d452853725bb9874309f10c9ea2af30dc67c24591540c6f2405445"), looks := true }, kinds := [], alts := [], laidByText := true, laidKinds := [.data, .data, .data, .data, .pinned], laidTests := true, laidLooks := .later }
def TimefunSpansUptoCardSaid : Prop := Claim7.holds Tryz.pinned (.plain (OpenSpec.upto timefunSpansSpec)) timefunSpansUptoCard

/-- THE SECOND FORM's CARD OF 'casuistlaw11.ValueMakes'. -/
def valueMakesUptoCard : Claim7 := { stood := { row := valueMakesUptoRow, standIns := [], harness := (true, "ee2194ad05d452853725bb9874309f10c9ea2af30dc67c24591540c6f2405445"), looks := true }, kinds := [], alts := [], laidByText := true, laidKinds := [.data, .data, .data, .data, .sentinel, .sentinel, .pinned], laidTests := true, laidLooks := .later }
def ValueMakesUptoCardSaid : Prop := Claim7.holds Tryz.pinned (.plain (OpenSpec.upto valueMakesSpec)) valueMakesUptoCard

/-- THE SECOND FORM's CARD OF 'casuistlaw11.ValueApart'. -/
def valueApartUptoCard : Claim7 := { stood := { row := valueApartUptoRow, standIns := [], harness := (true, "ee2194ad05d452853725bb9874309f10c9ea2af30dc67c24591540c6f2405445"), looks := true }, kinds := [], alts := [], laidByText := true, laidKinds := [.data, .data, .data, .data, .sentinel, .sentinel, .pinned], laidTests := true, laidLooks := .later }
def ValueApartUptoCardSaid : Prop := Claim7.holds Tryz.pinned (.plain (OpenSpec.upto valueApartSpec)) valueApartUptoCard

/-- THE SECOND FORM's CARD OF 'casuistlaw26.CheckTables'. -/
def checkTablesUptoCard : Claim7 := { stood := { row := checkTablesUptoRow, standIns := [], harness := (true, "ee2194ad05d452853725bb9874309f10c9ea2af30dc67c24591540c6f2405445"), looks := true }, kinds := [], alts := [], laidByText := true, laidKinds := [.data, .data, .data, .data, .sentinel, .sentinel, .pinned], laidTests := true, laidLooks := .later }
def CheckTablesUptoCardSaid : Prop := Claim7.holds Tryz.pinned (.plain (OpenSpec.upto checkTablesSpec)) checkTablesUptoCard

/-- THE SECOND FORM's CARD OF 'casuistlaw19.ParseOperators'. -/
def parseOperatorsUptoCard : Claim7 := { stood := { row := parseOperatorsUptoRow, standIns := [], harness := (true, "ee2194ad05d452853725bb9874309f10c9ea2af30dc67c24591540c6f2405445"), looks := true }, kinds := [], alts := [], laidByText := true, laidKinds := [.data, .data, .data, .data, .sentinel, .sentinel, .pinned], laidTests := true, laidLooks := .later }
def ParseOperatorsUptoCardSaid : Prop := Claim7.holds Tryz.pinned (.plain (OpenSpec.upto parseOperatorsSpec)) parseOperatorsUptoCard

/-- THE SECOND FORM's CARD OF 'casuistlaw19.ParseNames'. -/
def parseNamesUptoCard : Claim7 := { stood := { row := parseNamesUptoRow, standIns := [], harness := (true, "ee2194ad05d452853725bb9874309f10c9ea2af30dc67c24591540c6f2405445"), looks := true }, kinds := [], alts := [], laidByText := true, laidKinds := [.data, .data, .data, .data, .sentinel, .sentinel, .pinned], laidTests := true, laidLooks := .later }
def ParseNamesUptoCardSaid : Prop := Claim7.holds Tryz.pinned (.plain (OpenSpec.upto parseNamesSpec)) parseNamesUptoCard
end Rows
end Go.Proofs.YtolniekeocnanaaGreatDoor

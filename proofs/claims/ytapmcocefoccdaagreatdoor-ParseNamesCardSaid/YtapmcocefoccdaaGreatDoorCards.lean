/-
  DERIVED. GIVEN WITH THE SEED: THE CARDS: each row of YtapmcocefoccdaaGreatDoorRows.lean that lists a variable, with what it lists TIED to the program's text (the seventh form; the later family's looks); each row that meets fmt, with fmt's text TOLD by the authors' own Lean function (tested against real Go, not proved from fmt's source: count such statements apart). THE CARD IS WHAT COUNTS. Prove the row's statement (the work); the ties are given (YtapmcocefoccdaaGreatDoorTie.lean); close each card by the builder's one call (the guide's Derived/Test/ToyasCard.lean, 'card_holds'). Laid BY PROGRAM, IN A SANDBOX (cutbox-door.mjs). By AI agents, Wed Nov 11 2026. No macro, syntax, notation, axiom, sorry.
-/
import Derived.Test.YtapmcocefoccdaaGreatDoorRows
import GoSem.ClaimSeven
namespace Go.Proofs.YtapmcocefoccdaaGreatDoor
namespace Rows

/-- THE TIED CARD OF 'casuistlaw19.ParseOperators'. -/
def parseOperatorsCard : Claim7 := { stood := { row := parseOperatorsRow, standIns := [], harness := (true, "e6bea396be776fb54cd71c378fdb92447d776a1e00264a3b887a173e64910625"), looks := true }, kinds := [], alts := [], laidByText := true, laidKinds := [.data, .data, .data, .data, .sentinel, .sentinel, .pinned], laidTests := true, laidLooks := .later }
def ParseOperatorsCardSaid : Prop := Claim7.holds Tryz.pinned (.plain (OpenSpec.ofChange parseOperatorsSpec)) parseOperatorsCard

/-- THE TIED CARD OF 'casuistlaw19.ParseNames'. -/
def parseNamesCard : Claim7 := { stood := { row := parseNamesRow, standIns := [], harness := (true, "e6bea396be776fb54cd71c378fdb92447d776a1e00264a3b887a173e64910625"), looks := true }, kinds := [], alts := [], laidByText := true, laidKinds := [.data, .data, .data, .data, .sentinel, .sentinel, .pinned], laidTests := true, laidLooks := .later }
def ParseNamesCardSaid : Prop := Claim7.holds Tryz.pinned (.plain (OpenSpec.ofChange parseNamesSpec)) parseNamesCard

/-- THE TIED CARD OF 'casuistlaw19.ParseDeep'. -/
def parseDeepCard : Claim7 := { stood := { row := parseDeepRow, standIns := [], harness := (true, "e6bea396be776fb54cd71c378fdb92447d776a1e00264a3b887a173e64910625"), looks := true }, kinds := [], alts := [], laidByText := true, laidKinds := [.data, .data, .data, .data, .sentinel, .sentinel, .pinned], laidTests := true, laidLooks := .later }
def ParseDeepCardSaid : Prop := Claim7.holds Tryz.pinned (.plain (OpenSpec.ofChange parseDeepSpec)) parseDeepCard

/-- THE TIED CARD OF 'casuistlaw19.ParseTypes'. -/
def parseTypesCard : Claim7 := { stood := { row := parseTypesRow, standIns := [], harness := (true, "e6bea396be776fb54cd71c378fdb92447d776a1e00264a3b887a173e64910625"), looks := true }, kinds := [], alts := [], laidByText := true, laidKinds := [.data, .data, .data, .data, .sentinel, .sentinel, .pinned], laidTests := true, laidLooks := .later }
def ParseTypesCardSaid : Prop := Claim7.holds Tryz.pinned (.plain (OpenSpec.ofChange parseTypesSpec)) parseTypesCard

/-- THE SECOND FORM's CARD OF 'casuistlaw19.ParseOperators'. -/
def parseOperatorsUptoCard : Claim7 := { stood := { row := parseOperatorsUptoRow, standIns := [], harness := (true, "e6bea396be776fb54cd71c378fdb92447d776a1e00264a3b887a173e64910625"), looks := true }, kinds := [], alts := [], laidByText := true, laidKinds := [.data, .data, .data, .data, .sentinel, .sentinel, .pinned], laidTests := true, laidLooks := .later }
def ParseOperatorsUptoCardSaid : Prop := Claim7.holds Tryz.pinned (.plain (OpenSpec.upto parseOperatorsSpec)) parseOperatorsUptoCard

/-- THE SECOND FORM's CARD OF 'casuistlaw19.ParseNames'. -/
def parseNamesUptoCard : Claim7 := { stood := { row := parseNamesUptoRow, standIns := [], harness := (true, "e6bea396be776fb54cd71c378fdb92447d776a1e00264a3b887a173e64910625"), looks := true }, kinds := [], alts := [], laidByText := true, laidKinds := [.data, .data, .data, .data, .sentinel, .sentinel, .pinned], laidTests := true, laidLooks := .later }
def ParseNamesUptoCardSaid : Prop := Claim7.holds Tryz.pinned (.plain (OpenSpec.upto parseNamesSpec)) parseNamesUptoCard

/-- THE SECOND FORM's CARD OF 'casuistlaw19.ParseDeep'. -/
def parseDeepUptoCard : Claim7 := { stood := { row := parseDeepUptoRow, standIns := [], harness := (true, "e6bea396be776fb54cd71c378fdb92447d776a1e00264a3b887a173e64910625"), looks := true }, kinds := [], alts := [], laidByText := true, laidKinds := [.data, .data, .data, .data, .sentinel, .sentinel, .pinned], laidTests := true, laidLooks := .later }
def ParseDeepUptoCardSaid : Prop := Claim7.holds Tryz.pinned (.plain (OpenSpec.upto parseDeepSpec)) parseDeepUptoCard

/-- THE SECOND FORM's CARD OF 'casuistlaw19.ParseTypes'. -/
def parseTypesUptoCard : Claim7 := { stood := { row := parseTypesUptoRow, standIns := [], harness := (true, "e6bea396be776fb54cd71c378fdb92447d776a1e00264a3b887a173e64910625"), looks := true }, kinds := [], alts := [], laidByText := true, laidKinds := [.data, .data, .data, .data, .sentinel, .sentinel, .pinned], laidTests := true, laidLooks := .later }
def ParseTypesUptoCardSaid : Prop := Claim7.holds Tryz.pinned (.plain (OpenSpec.upto parseTypesSpec)) parseTypesUptoCard
end Rows
end Go.Proofs.YtapmcocefoccdaaGreatDoor

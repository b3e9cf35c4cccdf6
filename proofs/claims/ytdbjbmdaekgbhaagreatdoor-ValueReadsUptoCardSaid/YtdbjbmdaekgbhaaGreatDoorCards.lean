/-
  DERIVED. GIVEN WITH THE SEED: THE CARDS: each row of YtdbjbmdaekgbhaaGreatDoorRows.lean that lists a variable, with what it lists TIED to the program's text (the seventh form; the later family's looks); each row that meets fmt, with fmt's text TOLD by the authors' own Lean function (tested against real Go, not proved from fmt's source: count such statements apart). THE CARD IS WHAT COUNTS. Prove the row's statement (the work); the ties are given (YtdbjbmdaekgbhaaGreatDoorTie.lean); close each card by the builder's one call (the guide's Derived/Test/ToyasCard.lean, 'card_holds'). Laid BY PROGRAM, IN A SANDBOX (cutbox-door.mjs). By AI agents, Wed Nov 11 2026. No macro, syntax, notation, axiom, sorry.
-/
import Derived.Test.YtdbjbmdaekgbhaaGreatDoorRows
import GoSem.ClaimSeven
namespace Go.Proofs.YtdbjbmdaekgbhaaGreatDoor
namespace Rows

/-- THE TIED CARD OF 'casuistlaw24.TimefunSpans'. -/
def timefunSpansCard : Claim7 := { stood := { row := timefunSpansRow, standIns := [], harness := (true, "688189823ac15295779ea24d10ae705d4917236db1dfc0b01897d2cbafa513ff"), looks := true }, kinds := [], alts := [], laidByText := true, laidKinds := [.data, .data, .data, .data, .pinned], laidTests := true, laidLooks := .later }
def TimefunSpansCardSaid : Prop := Claim7.holds Tryz.pinned (.plain (OpenSpec.ofChange timefunSpansSpec)) timefunSpansCard

/-- THE TIED CARD OF 'casuistlaw21.TextfunJoins'. -/
def textfunJoinsCard : Claim7 := { stood := { row := textfunJoinsRow, standIns := [], harness := (true, "688189823ac15295779ea24d10ae705d4917236db1dfc0b01897d2cbafa513ff"), looks := true }, kinds := [], alts := [], laidByText := true, laidKinds := [.data, .data, .data, .data, .sentinel, .sentinel, .pinned], laidTests := true, laidLooks := .later }
def TextfunJoinsCardSaid : Prop := Claim7.holds Tryz.pinned (.plain (OpenSpec.ofChange textfunJoinsSpec)) textfunJoinsCard

/-- THE TIED CARD OF 'casuistlaw24.TimefunLiterals'. -/
def timefunLiteralsCard : Claim7 := { stood := { row := timefunLiteralsRow, standIns := [], harness := (true, "688189823ac15295779ea24d10ae705d4917236db1dfc0b01897d2cbafa513ff"), looks := true }, kinds := [], alts := [], laidByText := true, laidKinds := [.data, .data, .data, .data, .pinned], laidTests := true, laidLooks := .later }
def TimefunLiteralsCardSaid : Prop := Claim7.holds Tryz.pinned (.plain (OpenSpec.ofChange timefunLiteralsSpec)) timefunLiteralsCard

/-- THE TIED CARD OF 'casuistlaw11.ValueReads'. -/
def valueReadsCard : Claim7 := { stood := { row := valueReadsRow, standIns := [], harness := (true, "688189823ac15295779ea24d10ae705d4917236db1dfc0b01897d2cbafa513ff"), looks := true }, kinds := [], alts := [], laidByText := true, laidKinds := [.data, .data, .data, .data, .sentinel, .sentinel, .pinned], laidTests := true, laidLooks := .later }
def ValueReadsCardSaid : Prop := Claim7.holds Tryz.pinned (.plain (OpenSpec.ofChange valueReadsSpec)) valueReadsCard

/-- THE TIED CARD OF 'casuistlaw11.ValueApart'. -/
def valueApartCard : Claim7 := { stood := { row := valueApartRow, standIns := [], harness := (true, "688189823ac15295779ea24d10ae705d4917236db1dfc0b01897d2cbafa513ff"), looks := true }, kinds := [], alts := [], laidByText := true, laidKinds := [.data, .data, .data, .data, .sentinel, .sentinel, .pinned], laidTests := true, laidLooks := .later }
def ValueApartCardSaid : Prop := Claim7.holds Tryz.pinned (.plain (OpenSpec.ofChange valueApartSpec)) valueApartCard

/-- THE TIED CARD OF 'casuistlaw21.TextfunTexts'. -/
def textfunTextsCard : Claim7 := { stood := { row := textfunTextsRow, standIns := [], harness := (true, "688189823ac15295779ea24d10ae705d4917236db1dfc0b01897d2cbafa513ff"), looks := true }, kinds := [], alts := [], laidByText := true, laidKinds := [.data, .data, .data, .data, .sentinel, .sentinel, .pinned], laidTests := true, laidLooks := .later }
def TextfunTextsCardSaid : Prop := Claim7.holds Tryz.pinned (.plain (OpenSpec.ofChange textfunTextsSpec)) textfunTextsCard

/-- THE TIED CARD OF 'casuistlaw21.TextfunParts'. -/
def textfunPartsCard : Claim7 := { stood := { row := textfunPartsRow, standIns := [], harness := (true, "688189823ac15295779ea24d10ae705d4917236db1dfc0b01897d2cbafa513ff"), looks := true }, kinds := [], alts := [], laidByText := true, laidKinds := [.data, .data, .data, .data, .sentinel, .sentinel, .pinned], laidTests := true, laidLooks := .later }
def TextfunPartsCardSaid : Prop := Claim7.holds Tryz.pinned (.plain (OpenSpec.ofChange textfunPartsSpec)) textfunPartsCard

/-- THE SECOND FORM's CARD OF 'casuistlaw24.TimefunSpans'. -/
def timefunSpansUptoCard : Claim7 := { stood := { row := timefunSpansUptoRow, standIns := [], harness := (true, "688189823ac15295779ea24d10ae705d4917236db1dfc0b01897d2cbafa513ff"), looks := true }, kinds := [], alts := [], laidByText := true, laidKinds := [.data, .data, .data, .data, .pinned], laidTests := true, laidLooks := .later }
def TimefunSpansUptoCardSaid : Prop := Claim7.holds Tryz.pinned (.plain (OpenSpec.upto timefunSpansSpec)) timefunSpansUptoCard

/-- THE SECOND FORM's CARD OF 'casuistlaw21.TextfunJoins'. -/
def textfunJoinsUptoCard : Claim7 := { stood := { row := textfunJoinsUptoRow, standIns := [], harness := (true, "688189823ac15295779ea24d10ae705d4917236db1dfc0b01897d2cbafa513ff"), looks := true }, kinds := [], alts := [], laidByText := true, laidKinds := [.data, .data, .data, .data, .sentinel, .sentinel, .pinned], laidTests := true, laidLooks := .later }
def TextfunJoinsUptoCardSaid : Prop := Claim7.holds Tryz.pinned (.plain (OpenSpec.upto textfunJoinsSpec)) textfunJoinsUptoCard

/-- THE SECOND FORM's CARD OF 'casuistlaw24.TimefunLiterals'. -/
def timefunLiteralsUptoCard : Claim7 := { stood := { row := timefunLiteralsUptoRow, standIns := [], harness := (true, "688189823ac15295779ea24d10ae705d4917236db1dfc0b01897d2cbafa513ff"), looks := true }, kinds := [], alts := [], laidByText := true, laidKinds := [.data, .data, .data, .data, .pinned], laidTests := true, laidLooks := .later }
def TimefunLiteralsUptoCardSaid : Prop := Claim7.holds Tryz.pinned (.plain (OpenSpec.upto timefunLiteralsSpec)) timefunLiteralsUptoCard

/-- THE SECOND FORM's CARD OF 'casuistlaw11.ValueReads'. -/
def valueReadsUptoCard : Claim7 := { stood := { row := valueReadsUptoRow, standIns := [], harness := (true, "688189823ac15295779ea24d10ae705d4917236db1dfc0b01897d2cbafa513ff"), looks := true }, kinds := [], alts := [], laidByText := true, laidKinds := [.data, .data, .data, .data, .sentinel, .sentinel, .pinned], laidTests := true, laidLooks := .later }
def ValueReadsUptoCardSaid : Prop := Claim7.holds Tryz.pinned (.plain (OpenSpec.upto valueReadsSpec)) valueReadsUptoCard

/-- THE SECOND FORM's CARD OF 'casuistlaw11.ValueApart'. -/
def valueApartUptoCard : Claim7 := { stood := { row := valueApartUptoRow, standIns := [], harness := (true, "688189823ac15295779ea24d10ae705d4917236db1dfc0b01897d2cbafa513ff"), looks := true }, kinds := [], alts := [], laidByText := true, laidKinds := [.data, .data, .data, .data, .sentinel, .sentinel, .pinned], laidTests := true, laidLooks := .later }
def ValueApartUptoCardSaid : Prop := Claim7.holds Tryz.pinned (.plain (OpenSpec.upto valueApartSpec)) valueApartUptoCard

/-- THE SECOND FORM's CARD OF 'casuistlaw21.TextfunTexts'. -/
def textfunTextsUptoCard : Claim7 := { stood := { row := textfunTextsUptoRow, standIns := [], harness := (true, "688189823ac15295779ea24d10ae705d4917236db1dfc0b01897d2cbafa513ff"), looks := true }, kinds := [], alts := [], laidByText := true, laidKinds := [.data, .data, .data, .data, .sentinel, .sentinel, .pinned], laidTests := true, laidLooks := .later }
def TextfunTextsUptoCardSaid : Prop := Claim7.holds Tryz.pinned (.plain (OpenSpec.upto textfunTextsSpec)) textfunTextsUptoCard

/-- THE SECOND FORM's CARD OF 'casuistlaw21.TextfunParts'. -/
def textfunPartsUptoCard : Claim7 := { stood := { row := textfunPartsUptoRow, standIns := [], harness := (true, "688189823ac15295779ea24d10ae705d4917236db1dfc0b01897d2cbafa513ff"), looks := true }, kinds := [], alts := [], laidByText := true, laidKinds := [.data, .data, .data, .data, .sentinel, .sentinel, .pinned], laidTests := true, laidLooks := .later }
def TextfunPartsUptoCardSaid : Prop := Claim7.holds Tryz.pinned (.plain (OpenSpec.upto textfunPartsSpec)) textfunPartsUptoCard
end Rows
end Go.Proofs.YtdbjbmdaekgbhaaGreatDoor

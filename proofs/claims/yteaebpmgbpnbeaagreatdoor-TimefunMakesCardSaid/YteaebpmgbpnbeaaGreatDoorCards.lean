/-
  DERIVED. GIVEN WITH THE SEED: THE CARDS: each row of YteaebpmgbpnbeaaGreatDoorRows.lean that lists a variable, with what it lists TIED to the program's text (the seventh form; the later family's looks); each row that meets fmt, with fmt's text TOLD by the authors' own Lean function (tested against real Go, not proved from fmt's source: count such statements apart). THE CARD IS WHAT COUNTS. Prove the row's statement (the work); the ties are given (YteaebpmgbpnbeaaGreatDoorTie.lean); close each card by the builder's one call (the guide's Derived/Test/ToyasCard.lean, 'card_holds'). Laid BY PROGRAM, IN A SANDBOX (cutbox-door.mjs). By AI agents, Wed Nov 11 2026. No macro, syntax, notation, axiom, sorry.
-/
import Derived.Test.YteaebpmgbpnbeaaGreatDoorRows
import GoSem.ClaimSeven
namespace Go.Proofs.YteaebpmgbpnbeaaGreatDoor
namespace Rows

/-- THE TIED CARD OF 'casuistlaw24.TimefunSpans'. -/
def timefunSpansCard : Claim7 := { stood := { row := timefunSpansRow, standIns := [], harness := (true, "ccfd117e2ba3c4514acabe7dd5d05c292cf2f01b24d797fe84c61c78fdae3713"), looks := true }, kinds := [], alts := [], laidByText := true, laidKinds := [.data, .data, .data, .data, .pinned], laidTests := true, laidLooks := .later }
def TimefunSpansCardSaid : Prop := Claim7.holds Tryz.pinned (.plain (OpenSpec.ofChange timefunSpansSpec)) timefunSpansCard

/-- THE TIED CARD OF 'casuistlaw24.TimefunLater'. -/
def timefunLaterCard : Claim7 := { stood := { row := timefunLaterRow, standIns := [], harness := (true, "ccfd117e2ba3c4514acabe7dd5d05c292cf2f01b24d797fe84c61c78fdae3713"), looks := true }, kinds := [], alts := [], laidByText := true, laidKinds := [.data, .data, .data, .data, .pinned], laidTests := true, laidLooks := .later }
def TimefunLaterCardSaid : Prop := Claim7.holds Tryz.pinned (.plain (OpenSpec.ofChange timefunLaterSpec)) timefunLaterCard

/-- THE TIED CARD OF 'casuistlaw24.TimefunLiterals'. -/
def timefunLiteralsCard : Claim7 := { stood := { row := timefunLiteralsRow, standIns := [], harness := (true, "ccfd117e2ba3c4514acabe7dd5d05c292cf2f01b24d797fe84c61c78fdae3713"), looks := true }, kinds := [], alts := [], laidByText := true, laidKinds := [.data, .data, .data, .data, .pinned], laidTests := true, laidLooks := .later }
def TimefunLiteralsCardSaid : Prop := Claim7.holds Tryz.pinned (.plain (OpenSpec.ofChange timefunLiteralsSpec)) timefunLiteralsCard

/-- THE TIED CARD OF 'casuistlaw11.ValueReads'. -/
def valueReadsCard : Claim7 := { stood := { row := valueReadsRow, standIns := [], harness := (true, "ccfd117e2ba3c4514acabe7dd5d05c292cf2f01b24d797fe84c61c78fdae3713"), looks := true }, kinds := [], alts := [], laidByText := true, laidKinds := [.data, .data, .data, .data, .sentinel, .sentinel, .pinned], laidTests := true, laidLooks := .later }
def ValueReadsCardSaid : Prop := Claim7.holds Tryz.pinned (.plain (OpenSpec.ofChange valueReadsSpec)) valueReadsCard

/-- THE TIED CARD OF 'casuistlaw24.TimefunMakes'. -/
def timefunMakesCard : Claim7 := { stood := { row := timefunMakesRow, standIns := [], harness := (true, "ccfd117e2ba3c4514acabe7dd5d05c292cf2f01b24d797fe84c61c78fdae3713"), looks := true }, kinds := [], alts := [], laidByText := true, laidKinds := [.data, .data, .data, .data, .pinned], laidTests := true, laidLooks := .later }
def TimefunMakesCardSaid : Prop := Claim7.holds Tryz.pinned (.plain (OpenSpec.ofChange timefunMakesSpec)) timefunMakesCard

/-- THE TIED CARD OF 'casuistlaw11.ValueApart'. -/
def valueApartCard : Claim7 := { stood := { row := valueApartRow, standIns := [], harness := (true, "ccfd117e2ba3c4514acabe7dd5d05c292cf2f01b24d797fe84c61c78fdae3713"), looks := true }, kinds := [], alts := [], laidByText := true, laidKinds := [.data, .data, .data, .data, .sentinel, .sentinel, .pinned], laidTests := true, laidLooks := .later }
def ValueApartCardSaid : Prop := Claim7.holds Tryz.pinned (.plain (OpenSpec.ofChange valueApartSpec)) valueApartCard

/-- THE TIED CARD OF 'casuistlaw11.ValueMakes'. -/
def valueMakesCard : Claim7 := { stood := { row := valueMakesRow, standIns := [], harness := (true, "ccfd117e2ba3c4514acabe7dd5d05c292cf2f01b24d797fe84c61c78fdae3713"), looks := true }, kinds := [], alts := [], laidByText := true, laidKinds := [.data, .data, .data, .data, .sentinel, .sentinel, .pinned], laidTests := true, laidLooks := .later }
def ValueMakesCardSaid : Prop := Claim7.holds Tryz.pinned (.plain (OpenSpec.ofChange valueMakesSpec)) valueMakesCard

/-- THE SECOND FORM's CARD OF 'casuistlaw24.TimefunSpans'. -/
def timefunSpansUptoCard : Claim7 := { stood := { row := timefunSpansUptoRow, standIns := [], harness := (true, "ccfd117e2ba3c4514acabe7dd5d05c292cf2f01b24d797fe84c61c78fdae3713"), looks := true }, kinds := [], alts := [], laidByText := true, laidKinds := [.data, .data, .data, .data, .pinned], laidTests := true, laidLooks := .later }
def TimefunSpansUptoCardSaid : Prop := Claim7.holds Tryz.pinned (.plain (OpenSpec.upto timefunSpansSpec)) timefunSpansUptoCard

/-- THE SECOND FORM's CARD OF 'casuistlaw24.TimefunLater'. -/
def timefunLaterUptoCard : Claim7 := { stood := { row := timefunLaterUptoRow, standIns := [], harness := (true, "ccfd117e2ba3c4514acabe7dd5d05c292cf2f01b24d797fe84c61c78fdae3713"), looks := true }, kinds := [], alts := [], laidByText := true, laidKinds := [.data, .data, .data, .data, .pinned], laidTests := true, laidLooks := .later }
def TimefunLaterUptoCardSaid : Prop := Claim7.holds Tryz.pinned (.plain (OpenSpec.upto timefunLaterSpec)) timefunLaterUptoCard

/-- THE SECOND FORM's CARD OF 'casuistlaw24.TimefunLiterals'. -/
def timefunLiteralsUptoCard : Claim7 := { stood := { row := timefunLiteralsUptoRow, standIns := [], harness := (true, "ccfd117e2ba3c4514acabe7dd5d05c292cf2f01b24d797fe84c61c78fdae3713"), looks := true }, kinds := [], alts := [], laidByText := true, laidKinds := [.data, .data, .data, .data, .pinned], laidTests := true, laidLooks := .later }
def TimefunLiteralsUptoCardSaid : Prop := Claim7.holds Tryz.pinned (.plain (OpenSpec.upto timefunLiteralsSpec)) timefunLiteralsUptoCard

/-- THE SECOND FORM's CARD OF 'casuistlaw11.ValueReads'. -/
def valueReadsUptoCard : Claim7 := { stood := { row := valueReadsUptoRow, standIns := [], harness := (true, "ccfd117e2ba3c4514acabe7dd5d05c292cf2f01b24d797fe84c61c78fdae3713"), looks := true }, kinds := [], alts := [], laidByText := true, laidKinds := [.data, .data, .data, .data, .sentinel, .sentinel, .pinned], laidTests := true, laidLooks := .later }
def ValueReadsUptoCardSaid : Prop := Claim7.holds Tryz.pinned (.plain (OpenSpec.upto valueReadsSpec)) valueReadsUptoCard

/-- THE SECOND FORM's CARD OF 'casuistlaw24.TimefunMakes'. -/
def timefunMakesUptoCard : Claim7 := { stood := { row := timefunMakesUptoRow, standIns := [], harness := (true, "ccfd117e2ba3c4514acabe7dd5d05c292cf2f01b24d797fe84c61c78fdae3713"), looks := true }, kinds := [], alts := [], laidByText := true, laidKinds := [.data, .data, .data, .data, .pinned], laidTests := true, laidLooks := .later }
def TimefunMakesUptoCardSaid : Prop := Claim7.holds Tryz.pinned (.plain (OpenSpec.upto timefunMakesSpec)) timefunMakesUptoCard

/-- THE SECOND FORM's CARD OF 'casuistlaw11.ValueApart'. -/
def valueApartUptoCard : Claim7 := { stood := { row := valueApartUptoRow, standIns := [], harness := (true, "ccfd117e2ba3c4514acabe7dd5d05c292cf2f01b24d797fe84c61c78fdae3713"), looks := true }, kinds := [], alts := [], laidByText := true, laidKinds := [.data, .data, .data, .data, .sentinel, .sentinel, .pinned], laidTests := true, laidLooks := .later }
def ValueApartUptoCardSaid : Prop := Claim7.holds Tryz.pinned (.plain (OpenSpec.upto valueApartSpec)) valueApartUptoCard

/-- THE SECOND FORM's CARD OF 'casuistlaw11.ValueMakes'. -/
def valueMakesUptoCard : Claim7 := { stood := { row := valueMakesUptoRow, standIns := [], harness := (true, "ccfd117e2ba3c4514acabe7dd5d05c292cf2f01b24d797fe84c61c78fdae3713"), looks := true }, kinds := [], alts := [], laidByText := true, laidKinds := [.data, .data, .data, .data, .sentinel, .sentinel, .pinned], laidTests := true, laidLooks := .later }
def ValueMakesUptoCardSaid : Prop := Claim7.holds Tryz.pinned (.plain (OpenSpec.upto valueMakesSpec)) valueMakesUptoCard
end Rows
end Go.Proofs.YteaebpmgbpnbeaaGreatDoor

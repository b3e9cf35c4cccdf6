/-
  DERIVED. GIVEN WITH THE SEED: THE CARDS: each row of YthcjocelokjifaaGreatDoorRows.lean that lists a variable, with what it lists TIED to the program's text (the seventh form; the later family's looks); each row that meets fmt, with fmt's text TOLD by the authors' own Lean function (tested against real Go, not proved from fmt's source: count such statements apart). THE CARD IS WHAT COUNTS. Prove the row's statement (the work); the ties are given (YthcjocelokjifaaGreatDoorTie.lean); close each card by the builder's one call (the guide's Derived/Test/ToyasCard.lean, 'card_holds'). Laid BY PROGRAM, IN A SANDBOX (cutbox-door.mjs). By AI agents, Wed Nov 11 2026. No macro, syntax, notation, axiom, sorry.
-/
import Derived.Test.YthcjocelokjifaaGreatDoorRows
import GoSem.ClaimSeven
namespace Go.Proofs.YthcjocelokjifaaGreatDoor
namespace Rows

/-- THE TIED CARD OF 'casuistlaw24.TimefunParts'. -/
def timefunPartsCard : Claim7 := { stood := { row := timefunPartsRow, standIns := [], harness := (true, "20478d1a08c40933d523032da27af57adfeb81fb0210e28beb2dfc6f0869dee4"), looks := true }, kinds := [], alts := [], laidByText := true, laidKinds := [.data, .data, .data, .data, .pinned], laidTests := true, laidLooks := .later }
def TimefunPartsCardSaid : Prop := Claim7.holds Tryz.pinned (.plain (OpenSpec.ofChange timefunPartsSpec)) timefunPartsCard

/-- THE TIED CARD OF 'casuistlaw24.TimefunSpans'. -/
def timefunSpansCard : Claim7 := { stood := { row := timefunSpansRow, standIns := [], harness := (true, "20478d1a08c40933d523032da27af57adfeb81fb0210e28beb2dfc6f0869dee4"), looks := true }, kinds := [], alts := [], laidByText := true, laidKinds := [.data, .data, .data, .data, .pinned], laidTests := true, laidLooks := .later }
def TimefunSpansCardSaid : Prop := Claim7.holds Tryz.pinned (.plain (OpenSpec.ofChange timefunSpansSpec)) timefunSpansCard

/-- THE TIED CARD OF 'casuistlaw21.TextfunJoins'. -/
def textfunJoinsCard : Claim7 := { stood := { row := textfunJoinsRow, standIns := [], harness := (true, "20478d1a08c40933d523032da27af57adfeb81fb0210e28beb2dfc6f0869dee4"), looks := true }, kinds := [], alts := [], laidByText := true, laidKinds := [.data, .data, .data, .data, .sentinel, .sentinel, .pinned], laidTests := true, laidLooks := .later }
def TextfunJoinsCardSaid : Prop := Claim7.holds Tryz.pinned (.plain (OpenSpec.ofChange textfunJoinsSpec)) textfunJoinsCard

/-- THE TIED CARD OF 'casuistlaw24.TimefunLater'. -/
def timefunLaterCard : Claim7 := { stood := { row := timefunLaterRow, standIns := [], harness := (true, "20478d1a08c40933d523032da27af57adfeb81fb0210e28beb2dfc6f0869dee4"), looks := true }, kinds := [], alts := [], laidByText := true, laidKinds := [.data, .data, .data, .data, .pinned], laidTests := true, laidLooks := .later }
def TimefunLaterCardSaid : Prop := Claim7.holds Tryz.pinned (.plain (OpenSpec.ofChange timefunLaterSpec)) timefunLaterCard

/-- THE TIED CARD OF 'casuistlaw24.TimefunLiterals'. -/
def timefunLiteralsCard : Claim7 := { stood := { row := timefunLiteralsRow, standIns := [], harness := (true, "20478d1a08c40933d523032da27af57adfeb81fb0210e28beb2dfc6f0869dee4"), looks := true }, kinds := [], alts := [], laidByText := true, laidKinds := [.data, .data, .data, .data, .pinned], laidTests := true, laidLooks := .later }
def TimefunLiteralsCardSaid : Prop := Claim7.holds Tryz.pinned (.plain (OpenSpec.ofChange timefunLiteralsSpec)) timefunLiteralsCard

/-- THE SECOND FORM's CARD OF 'casuistlaw24.TimefunParts'. -/
def timefunPartsUptoCard : Claim7 := { stood := { row := timefunPartsUptoRow, standIns := [], harness := (true, "20478d1a08c40933d523032da27af57adfeb81fb0210e28beb2dfc6f0869dee4"), looks := true }, kinds := [], alts := [], laidByText := true, laidKinds := [.data, .data, .data, .data, .pinned], laidTests := true, laidLooks := .later }
def TimefunPartsUptoCardSaid : Prop := Claim7.holds Tryz.pinned (.plain (OpenSpec.upto timefunPartsSpec)) timefunPartsUptoCard

/-- THE SECOND FORM's CARD OF 'casuistlaw24.TimefunSpans'. -/
def timefunSpansUptoCard : Claim7 := { stood := { row := timefunSpansUptoRow, standIns := [], harness := (true, "20478d1a08c40933d523032da27af57adfeb81fb0210e28beb2dfc6f0869dee4"), looks := true }, kinds := [], alts := [], laidByText := true, laidKinds := [.data, .data, .data, .data, .pinned], laidTests := true, laidLooks := .later }
def TimefunSpansUptoCardSaid : Prop := Claim7.holds Tryz.pinned (.plain (OpenSpec.upto timefunSpansSpec)) timefunSpansUptoCard

/-- THE SECOND FORM's CARD OF 'casuistlaw21.TextfunJoins'. -/
def textfunJoinsUptoCard : Claim7 := { stood := { row := textfunJoinsUptoRow, standIns := [], harness := (true, "20478d1a08c40933d523032da27af57adfeb81fb0210e28beb2dfc6f0869dee4"), looks := true }, kinds := [], alts := [], laidByText := true, laidKinds := [.data, .data, .data, .data, .sentinel, .sentinel, .pinned], laidTests := true, laidLooks := .later }
def TextfunJoinsUptoCardSaid : Prop := Claim7.holds Tryz.pinned (.plain (OpenSpec.upto textfunJoinsSpec)) textfunJoinsUptoCard

/-- THE SECOND FORM's CARD OF 'casuistlaw24.TimefunLater'. -/
def timefunLaterUptoCard : Claim7 := { stood := { row := timefunLaterUptoRow, standIns := [], harness := (true, "20478d1a08c40933d523032da27af57adfeb81fb0210e28beb2dfc6f0869dee4"), looks := true }, kinds := [], alts := [], laidByText := true, laidKinds := [.data, .data, .data, .data, .pinned], laidTests := true, laidLooks := .later }
def TimefunLaterUptoCardSaid : Prop := Claim7.holds Tryz.pinned (.plain (OpenSpec.upto timefunLaterSpec)) timefunLaterUptoCard

/-- THE SECOND FORM's CARD OF 'casuistlaw24.TimefunLiterals'. -/
def timefunLiteralsUptoCard : Claim7 := { stood := { row := timefunLiteralsUptoRow, standIns := [], harness := (true, "20478d1a08c40933d523032da27af57adfeb81fb0210e28beb2dfc6f0869dee4"), looks := true }, kinds := [], alts := [], laidByText := true, laidKinds := [.data, .data, .data, .data, .pinned], laidTests := true, laidLooks := .later }
def TimefunLiteralsUptoCardSaid : Prop := Claim7.holds Tryz.pinned (.plain (OpenSpec.upto timefunLiteralsSpec)) timefunLiteralsUptoCard
end Rows
end Go.Proofs.YthcjocelokjifaaGreatDoor

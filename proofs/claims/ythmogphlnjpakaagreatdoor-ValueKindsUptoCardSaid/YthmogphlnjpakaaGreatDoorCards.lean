/-
  DERIVED. GIVEN WITH THE SEED: THE CARDS: each row of YthmogphlnjpakaaGreatDoorRows.lean that lists a variable, with what it lists TIED to the program's text (the seventh form; the later family's looks); each row that meets fmt, with fmt's text TOLD by the authors' own Lean function (tested against real Go, not proved from fmt's source: count such statements apart). THE CARD IS WHAT COUNTS. Prove the row's statement (the work); the ties are given (YthmogphlnjpakaaGreatDoorTie.lean); close each card by the builder's one call (the guide's Derived/Test/ToyasCard.lean, 'card_holds'). Laid BY PROGRAM, IN A SANDBOX (cutbox-door.mjs). By AI agents, Wed Nov 11 2026. No macro, syntax, notation, axiom, sorry.
-/
import Derived.Test.YthmogphlnjpakaaGreatDoorRows
import GoSem.ClaimSeven
namespace Go.Proofs.YthmogphlnjpakaaGreatDoor
namespace Rows

/-- THE TIED CARD OF 'casuistlaw11.ValueNests'. -/
def valueNestsCard : Claim7 := { stood := { row := valueNestsRow, standIns := [], harness := (true, "d88775366d4244bf977d6c60f22c61a4feaaa27666177413860cee9e68d523c9"), looks := true }, kinds := [], alts := [], laidByText := true, laidKinds := [.data, .data, .data, .data, .sentinel, .sentinel, .pinned], laidTests := true, laidLooks := .later }
def ValueNestsCardSaid : Prop := Claim7.holds Tryz.pinned (.plain (OpenSpec.ofChange valueNestsSpec)) valueNestsCard

/-- THE TIED CARD OF 'casuistlaw14.MemberUp'. -/
def memberUpCard : Claim7 := { stood := { row := memberUpRow, standIns := [], harness := (true, "d88775366d4244bf977d6c60f22c61a4feaaa27666177413860cee9e68d523c9"), looks := true }, kinds := [], alts := [], laidByText := true, laidKinds := [.data, .data, .data, .data, .sentinel, .sentinel, .pinned], laidTests := true, laidLooks := .later }
def MemberUpCardSaid : Prop := Claim7.holds Tryz.pinned (.plain (OpenSpec.ofChange memberUpSpec)) memberUpCard

/-- THE TIED CARD OF 'casuistlaw11.ValueKinds'. -/
def valueKindsCard : Claim7 := { stood := { row := valueKindsRow, standIns := [], harness := (true, "d88775366d4244bf977d6c60f22c61a4feaaa27666177413860cee9e68d523c9"), looks := true }, kinds := [], alts := [], laidByText := true, laidKinds := [.data, .data, .data, .data, .sentinel, .sentinel, .pinned], laidTests := true, laidLooks := .later }
def ValueKindsCardSaid : Prop := Claim7.holds Tryz.pinned (.plain (OpenSpec.ofChange valueKindsSpec)) valueKindsCard

/-- THE TIED CARD OF 'casuistlaw14.MemberOf'. -/
def memberOfCard : Claim7 := { stood := { row := memberOfRow, standIns := [], harness := (true, "d88775366d4244bf977d6c60f22c61a4feaaa27666177413860cee9e68d523c9"), looks := true }, kinds := [], alts := [], laidByText := true, laidKinds := [.data, .data, .data, .data, .sentinel, .sentinel, .pinned], laidTests := true, laidLooks := .later }
def MemberOfCardSaid : Prop := Claim7.holds Tryz.pinned (.plain (OpenSpec.ofChange memberOfSpec)) memberOfCard

/-- THE TIED CARD OF 'casuistlaw14.MemberIs'. -/
def memberIsCard : Claim7 := { stood := { row := memberIsRow, standIns := [], harness := (true, "d88775366d4244bf977d6c60f22c61a4feaaa27666177413860cee9e68d523c9"), looks := true }, kinds := [], alts := [], laidByText := true, laidKinds := [.data, .data, .data, .data, .sentinel, .sentinel, .pinned], laidTests := true, laidLooks := .later }
def MemberIsCardSaid : Prop := Claim7.holds Tryz.pinned (.plain (OpenSpec.ofChange memberIsSpec)) memberIsCard

/-- THE TIED CARD OF 'casuistlaw21.TextfunOthers'. -/
def textfunOthersCard : Claim7 := { stood := { row := textfunOthersRow, standIns := [], harness := (true, "d88775366d4244bf977d6c60f22c61a4feaaa27666177413860cee9e68d523c9"), looks := true }, kinds := [], alts := [], laidByText := true, laidKinds := [.data, .data, .data, .data, .sentinel, .sentinel, .pinned], laidTests := true, laidLooks := .later }
def TextfunOthersCardSaid : Prop := Claim7.holds Tryz.pinned (.plain (OpenSpec.ofChange textfunOthersSpec)) textfunOthersCard

/-- THE TIED CARD OF 'casuistlaw24.TimefunOthers'. -/
def timefunOthersCard : Claim7 := { stood := { row := timefunOthersRow, standIns := [], harness := (true, "d88775366d4244bf977d6c60f22c61a4feaaa27666177413860cee9e68d523c9"), looks := true }, kinds := [], alts := [], laidByText := true, laidKinds := [.data, .data, .data, .data, .sentinel, .sentinel, .pinned], laidTests := true, laidLooks := .later }
def TimefunOthersCardSaid : Prop := Claim7.holds Tryz.pinned (.plain (OpenSpec.ofChange timefunOthersSpec)) timefunOthersCard

/-- THE SECOND FORM's CARD OF 'casuistlaw11.ValueNests'. -/
def valueNestsUptoCard : Claim7 := { stood := { row := valueNestsUptoRow, standIns := [], harness := (true, "d88775366d4244bf977d6c60f22c61a4feaaa27666177413860cee9e68d523c9"), looks := true }, kinds := [], alts := [], laidByText := true, laidKinds := [.data, .data, .data, .data, .sentinel, .sentinel, .pinned], laidTests := true, laidLooks := .later }
def ValueNestsUptoCardSaid : Prop := Claim7.holds Tryz.pinned (.plain (OpenSpec.upto valueNestsSpec)) valueNestsUptoCard

/-- THE SECOND FORM's CARD OF 'casuistlaw14.MemberUp'. -/
def memberUpUptoCard : Claim7 := { stood := { row := memberUpUptoRow, standIns := [], harness := (true, "d88775366d4244bf977d6c60f22c61a4feaaa27666177413860cee9e68d523c9"), looks := true }, kinds := [], alts := [], laidByText := true, laidKinds := [.data, .data, .data, .data, .sentinel, .sentinel, .pinned], laidTests := true, laidLooks := .later }
def MemberUpUptoCardSaid : Prop := Claim7.holds Tryz.pinned (.plain (OpenSpec.upto memberUpSpec)) memberUpUptoCard

/-- THE SECOND FORM's CARD OF 'casuistlaw11.ValueKinds'. -/
def valueKindsUptoCard : Claim7 := { stood := { row := valueKindsUptoRow, standIns := [], harness := (true, "d88775366d4244bf977d6c60f22c61a4feaaa27666177413860cee9e68d523c9"), looks := true }, kinds := [], alts := [], laidByText := true, laidKinds := [.data, .data, .data, .data, .sentinel, .sentinel, .pinned], laidTests := true, laidLooks := .later }
def ValueKindsUptoCardSaid : Prop := Claim7.holds Tryz.pinned (.plain (OpenSpec.upto valueKindsSpec)) valueKindsUptoCard

/-- THE SECOND FORM's CARD OF 'casuistlaw14.MemberOf'. -/
def memberOfUptoCard : Claim7 := { stood := { row := memberOfUptoRow, standIns := [], harness := (true, "d88775366d4244bf977d6c60f22c61a4feaaa27666177413860cee9e68d523c9"), looks := true }, kinds := [], alts := [], laidByText := true, laidKinds := [.data, .data, .data, .data, .sentinel, .sentinel, .pinned], laidTests := true, laidLooks := .later }
def MemberOfUptoCardSaid : Prop := Claim7.holds Tryz.pinned (.plain (OpenSpec.upto memberOfSpec)) memberOfUptoCard

/-- THE SECOND FORM's CARD OF 'casuistlaw14.MemberIs'. -/
def memberIsUptoCard : Claim7 := { stood := { row := memberIsUptoRow, standIns := [], harness := (true, "d88775366d4244bf977d6c60f22c61a4feaaa27666177413860cee9e68d523c9"), looks := true }, kinds := [], alts := [], laidByText := true, laidKinds := [.data, .data, .data, .data, .sentinel, .sentinel, .pinned], laidTests := true, laidLooks := .later }
def MemberIsUptoCardSaid : Prop := Claim7.holds Tryz.pinned (.plain (OpenSpec.upto memberIsSpec)) memberIsUptoCard

/-- THE SECOND FORM's CARD OF 'casuistlaw21.TextfunOthers'. -/
def textfunOthersUptoCard : Claim7 := { stood := { row := textfunOthersUptoRow, standIns := [], harness := (true, "d88775366d4244bf977d6c60f22c61a4feaaa27666177413860cee9e68d523c9"), looks := true }, kinds := [], alts := [], laidByText := true, laidKinds := [.data, .data, .data, .data, .sentinel, .sentinel, .pinned], laidTests := true, laidLooks := .later }
def TextfunOthersUptoCardSaid : Prop := Claim7.holds Tryz.pinned (.plain (OpenSpec.upto textfunOthersSpec)) textfunOthersUptoCard

/-- THE SECOND FORM's CARD OF 'casuistlaw24.TimefunOthers'. -/
def timefunOthersUptoCard : Claim7 := { stood := { row := timefunOthersUptoRow, standIns := [], harness := (true, "d88775366d4244bf977d6c60f22c61a4feaaa27666177413860cee9e68d523c9"), looks := true }, kinds := [], alts := [], laidByText := true, laidKinds := [.data, .data, .data, .data, .sentinel, .sentinel, .pinned], laidTests := true, laidLooks := .later }
def TimefunOthersUptoCardSaid : Prop := Claim7.holds Tryz.pinned (.plain (OpenSpec.upto timefunOthersSpec)) timefunOthersUptoCard
end Rows
end Go.Proofs.YthmogphlnjpakaaGreatDoor

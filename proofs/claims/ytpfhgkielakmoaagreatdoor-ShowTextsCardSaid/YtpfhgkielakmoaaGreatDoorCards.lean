/-
  DERIVED. GIVEN WITH THE SEED: THE CARDS: each row of YtpfhgkielakmoaaGreatDoorRows.lean that lists a variable, with what it lists TIED to the program's text (the seventh form; the later family's looks); each row that meets fmt, with fmt's text TOLD by the authors' own Lean function (tested against real Go, not proved from fmt's source: count such statements apart). THE CARD IS WHAT COUNTS. Prove the row's statement (the work); the ties are given (YtpfhgkielakmoaaGreatDoorTie.lean); close each card by the builder's one call (the guide's Derived/Test/ToyasCard.lean, 'card_holds'). Laid BY PROGRAM, IN A SANDBOX (cutbox-door.mjs). By AI agents, Wed Nov 11 2026. No macro, syntax, notation, axiom, sorry.
-/
import Derived.Test.YtpfhgkielakmoaaGreatDoorRows
import GoSem.ClaimSeven
namespace Go.Proofs.YtpfhgkielakmoaaGreatDoor
namespace Rows

/-- THE TIED CARD OF 'touchstonelaw07.ShowTexts'. -/
def showTextsCard : Claim7 := { stood := { row := showTextsRow, standIns := [], harness := (true, "3b0e10dcef98540ddf5b06908f8114142608d5842892048c6a30bf6ade52c8c5"), looks := true }, kinds := [], alts := [], laidByText := true, laidKinds := [.data, .data, .data, .sentinel, .sentinel], laidTests := true, laidLooks := .later }
def ShowTextsCardSaid : Prop := Claim7.holds Tryz.pinned (.plain (OpenSpec.ofChange showTextsSpec)) showTextsCard

/-- THE TIED CARD OF 'touchstonelaw07.ShowBack'. -/
def showBackCard : Claim7 := { stood := { row := showBackRow, standIns := [], harness := (true, "3b0e10dcef98540ddf5b06908f8114142608d5842892048c6a30bf6ade52c8c5"), looks := true }, kinds := [], alts := [], laidByText := true, laidKinds := [.data, .data, .data, .sentinel, .sentinel], laidTests := true, laidLooks := .later }
def ShowBackCardSaid : Prop := Claim7.holds Tryz.pinned (.plain (OpenSpec.ofChange showBackSpec)) showBackCard

/-- THE TIED CARD OF 'touchstonelaw07.ShowOnce'. -/
def showOnceCard : Claim7 := { stood := { row := showOnceRow, standIns := [], harness := (true, "3b0e10dcef98540ddf5b06908f8114142608d5842892048c6a30bf6ade52c8c5"), looks := true }, kinds := [], alts := [], laidByText := true, laidKinds := [.data, .data, .data, .sentinel, .sentinel], laidTests := true, laidLooks := .later }
def ShowOnceCardSaid : Prop := Claim7.holds Tryz.pinned (.plain (OpenSpec.ofChange showOnceSpec)) showOnceCard

/-- THE TIED CARD OF 'touchstonelaw07.ShowBoth'. -/
def showBothCard : Claim7 := { stood := { row := showBothRow, standIns := [], harness := (true, "3b0e10dcef98540ddf5b06908f8114142608d5842892048c6a30bf6ade52c8c5"), looks := true }, kinds := [], alts := [], laidByText := true, laidKinds := [.data, .data, .data, .sentinel, .sentinel], laidTests := true, laidLooks := .later }
def ShowBothCardSaid : Prop := Claim7.holds Tryz.pinned (.plain (OpenSpec.ofChange showBothSpec)) showBothCard

/-- THE SECOND FORM's CARD OF 'touchstonelaw07.ShowTexts'. -/
def showTextsUptoCard : Claim7 := { stood := { row := showTextsUptoRow, standIns := [], harness := (true, "3b0e10dcef98540ddf5b06908f8114142608d5842892048c6a30bf6ade52c8c5"), looks := true }, kinds := [], alts := [], laidByText := true, laidKinds := [.data, .data, .data, .sentinel, .sentinel], laidTests := true, laidLooks := .later }
def ShowTextsUptoCardSaid : Prop := Claim7.holds Tryz.pinned (.plain (OpenSpec.upto showTextsSpec)) showTextsUptoCard

/-- THE SECOND FORM's CARD OF 'touchstonelaw07.ShowBack'. -/
def showBackUptoCard : Claim7 := { stood := { row := showBackUptoRow, standIns := [], harness := (true, "3b0e10dcef98540ddf5b06908f8114142608d5842892048c6a30bf6ade52c8c5"), looks := true }, kinds := [], alts := [], laidByText := true, laidKinds := [.data, .data, .data, .sentinel, .sentinel], laidTests := true, laidLooks := .later }
def ShowBackUptoCardSaid : Prop := Claim7.holds Tryz.pinned (.plain (OpenSpec.upto showBackSpec)) showBackUptoCard

/-- THE SECOND FORM's CARD OF 'touchstonelaw07.ShowOnce'. -/
def showOnceUptoCard : Claim7 := { stood := { row := showOnceUptoRow, standIns := [], harness := (true, "3b0e10dcef98540ddf5b06908f8114142608d5842892048c6a30bf6ade52c8c5"), looks := true }, kinds := [], alts := [], laidByText := true, laidKinds := [.data, .data, .data, .sentinel, .sentinel], laidTests := true, laidLooks := .later }
def ShowOnceUptoCardSaid : Prop := Claim7.holds Tryz.pinned (.plain (OpenSpec.upto showOnceSpec)) showOnceUptoCard

/-- THE SECOND FORM's CARD OF 'touchstonelaw07.ShowBoth'. -/
def showBothUptoCard : Claim7 := { stood := { row := showBothUptoRow, standIns := [], harness := (true, "3b0e10dcef98540ddf5b06908f8114142608d5842892048c6a30bf6ade52c8c5"), looks := true }, kinds := [], alts := [], laidByText := true, laidKinds := [.data, .data, .data, .sentinel, .sentinel], laidTests := true, laidLooks := .later }
def ShowBothUptoCardSaid : Prop := Claim7.holds Tryz.pinned (.plain (OpenSpec.upto showBothSpec)) showBothUptoCard
end Rows
end Go.Proofs.YtpfhgkielakmoaaGreatDoor

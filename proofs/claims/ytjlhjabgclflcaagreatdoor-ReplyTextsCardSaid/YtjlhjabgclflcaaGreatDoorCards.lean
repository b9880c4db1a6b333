/-
  DERIVED. GIVEN WITH THE SEED: THE CARDS: each row of YtjlhjabgclflcaaGreatDoorRows.lean that lists a variable, with what it lists TIED to the program's text (the seventh form; the later family's looks); each row that meets fmt, with fmt's text TOLD by the authors' own Lean function (tested against real Go, not proved from fmt's source: count such statements apart). THE CARD IS WHAT COUNTS. Prove the row's statement (the work); the ties are given (YtjlhjabgclflcaaGreatDoorTie.lean); close each card by the builder's one call (the guide's Derived/Test/ToyasCard.lean, 'card_holds'). Laid BY PROGRAM, IN A SANDBOX (cutbox-door.mjs). By AI agents, Wed Nov 11 2026. No macro, syntax, notation, axiom, sorry.
-/
import Derived.Test.YtjlhjabgclflcaaGreatDoorRows
import GoSem.ClaimSeven
namespace Go.Proofs.YtjlhjabgclflcaaGreatDoor
namespace Rows

/-- THE TIED CARD OF 'touchstonelaw23.ReplyTexts'. -/
def replyTextsCard : Claim7 := { stood := { row := replyTextsRow, standIns := [], harness := (true, "b6580d768ae35292297e9735a34afbb8fa36708b951c995c6b8c30d41a318831"), looks := true }, kinds := [], alts := [], laidByText := true, laidKinds := [.data, .data, .data, .data, .sentinel, .sentinel, .pinned], laidTests := true, laidLooks := .later }
def ReplyTextsCardSaid : Prop := Claim7.holds Tryz.pinned (.plain (OpenSpec.ofChange replyTextsSpec)) replyTextsCard

/-- THE TIED CARD OF 'touchstonelaw23.ReplyBack'. -/
def replyBackCard : Claim7 := { stood := { row := replyBackRow, standIns := [], harness := (true, "b6580d768ae35292297e9735a34afbb8fa36708b951c995c6b8c30d41a318831"), looks := true }, kinds := [], alts := [], laidByText := true, laidKinds := [.data, .data, .data, .data, .sentinel, .sentinel, .pinned], laidTests := true, laidLooks := .later }
def ReplyBackCardSaid : Prop := Claim7.holds Tryz.pinned (.plain (OpenSpec.ofChange replyBackSpec)) replyBackCard

/-- THE TIED CARD OF 'touchstonelaw23.ReplyOnce'. -/
def replyOnceCard : Claim7 := { stood := { row := replyOnceRow, standIns := [], harness := (true, "b6580d768ae35292297e9735a34afbb8fa36708b951c995c6b8c30d41a318831"), looks := true }, kinds := [], alts := [], laidByText := true, laidKinds := [.data, .data, .data, .data, .sentinel, .sentinel, .pinned], laidTests := true, laidLooks := .later }
def ReplyOnceCardSaid : Prop := Claim7.holds Tryz.pinned (.plain (OpenSpec.ofChange replyOnceSpec)) replyOnceCard

/-- THE SECOND FORM's CARD OF 'touchstonelaw23.ReplyTexts'. -/
def replyTextsUptoCard : Claim7 := { stood := { row := replyTextsUptoRow, standIns := [], harness := (true, "b6580d768ae35292297e9735a34afbb8fa36708b951c995c6b8c30d41a318831"), looks := true }, kinds := [], alts := [], laidByText := true, laidKinds := [.data, .data, .data, .data, .sentinel, .sentinel, .pinned], laidTests := true, laidLooks := .later }
def ReplyTextsUptoCardSaid : Prop := Claim7.holds Tryz.pinned (.plain (OpenSpec.upto replyTextsSpec)) replyTextsUptoCard

/-- THE SECOND FORM's CARD OF 'touchstonelaw23.ReplyBack'. -/
def replyBackUptoCard : Claim7 := { stood := { row := replyBackUptoRow, standIns := [], harness := (true, "b6580d768ae35292297e9735a34afbb8fa36708b951c995c6b8c30d41a318831"), looks := true }, kinds := [], alts := [], laidByText := true, laidKinds := [.data, .data, .data, .data, .sentinel, .sentinel, .pinned], laidTests := true, laidLooks := .later }
def ReplyBackUptoCardSaid : Prop := Claim7.holds Tryz.pinned (.plain (OpenSpec.upto replyBackSpec)) replyBackUptoCard

/-- THE SECOND FORM's CARD OF 'touchstonelaw23.ReplyOnce'. -/
def replyOnceUptoCard : Claim7 := { stood := { row := replyOnceUptoRow, standIns := [], harness := (true, "b6580d768ae35292297e9735a34afbb8fa36708b951c995c6b8c30d41a318831"), looks := true }, kinds := [], alts := [], laidByText := true, laidKinds := [.data, .data, .data, .data, .sentinel, .sentinel, .pinned], laidTests := true, laidLooks := .later }
def ReplyOnceUptoCardSaid : Prop := Claim7.holds Tryz.pinned (.plain (OpenSpec.upto replyOnceSpec)) replyOnceUptoCard
end Rows
end Go.Proofs.YtjlhjabgclflcaaGreatDoor

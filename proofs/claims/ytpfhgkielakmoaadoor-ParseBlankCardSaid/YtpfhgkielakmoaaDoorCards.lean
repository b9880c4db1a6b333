/-
  DERIVED. GIVEN WITH THE SEED: THE CARDS: each row of YtpfhgkielakmoaaDoorRows.lean that lists a variable, with what it lists TIED to the program's text (the seventh form; the later family's looks); each row that meets fmt, with fmt's text TOLD by the authors' own Lean function (tested against real Go, not proved from fmt's source: count such statements apart). THE CARD IS WHAT COUNTS. Prove the row's statement (the work); the ties are given (YtpfhgkielakmoaaDoorTie.lean); close each card by the builder's one call (the guide's Derived/Test/ToyasCard.lean, 'card_holds'). Laid BY PROGRAM, IN A SANDBOX (cutbox-door.mjs). By AI agents, Wed Nov 11 2026. No macro, syntax, notation, axiom, sorry.
-/
import Derived.Test.YtpfhgkielakmoaaDoorRows
import GoSem.ClaimSeven
namespace Go.Proofs.YtpfhgkielakmoaaDoor
namespace Rows

/-- THE TIED CARD OF 'touchstonelaw06.ParsePlaces'. -/
def parsePlacesCard : Claim7 := { stood := { row := parsePlacesRow, standIns := [], harness := (true, "ab23647ebd64379510a8d56e9f3d7a48df3c314996f9a1c81cd12de8bc15cb4b"), looks := true }, kinds := [], alts := [], laidByText := true, laidKinds := [.data, .data, .data, .sentinel, .sentinel], laidTests := true, laidLooks := .later }
def ParsePlacesCardSaid : Prop := Claim7.holds Tryd.pinned (.plain (OpenSpec.ofChange parsePlacesSpec)) parsePlacesCard

/-- THE TIED CARD OF 'touchstonelaw06.ParseBoth'. -/
def parseBothCard : Claim7 := { stood := { row := parseBothRow, standIns := [], harness := (true, "ab23647ebd64379510a8d56e9f3d7a48df3c314996f9a1c81cd12de8bc15cb4b"), looks := true }, kinds := [], alts := [], laidByText := true, laidKinds := [.data, .data, .data, .sentinel, .sentinel], laidTests := true, laidLooks := .later }
def ParseBothCardSaid : Prop := Claim7.holds Tryd.pinned (.plain (OpenSpec.ofChange parseBothSpec)) parseBothCard

/-- THE TIED CARD OF 'touchstonelaw06.ParseEnds'. -/
def parseEndsCard : Claim7 := { stood := { row := parseEndsRow, standIns := [], harness := (true, "ab23647ebd64379510a8d56e9f3d7a48df3c314996f9a1c81cd12de8bc15cb4b"), looks := true }, kinds := [], alts := [], laidByText := true, laidKinds := [.data, .data, .data, .sentinel, .sentinel], laidTests := true, laidLooks := .later }
def ParseEndsCardSaid : Prop := Claim7.holds Tryd.pinned (.plain (OpenSpec.ofChange parseEndsSpec)) parseEndsCard

/-- THE TIED CARD OF 'touchstonelaw06.ParseBlank'. -/
def parseBlankCard : Claim7 := { stood := { row := parseBlankRow, standIns := [], harness := (true, "ab23647ebd64379510a8d56e9f3d7a48df3c314996f9a1c81cd12de8bc15cb4b"), looks := true }, kinds := [], alts := [], laidByText := true, laidKinds := [.data, .data, .data, .sentinel, .sentinel], laidTests := true, laidLooks := .later }
def ParseBlankCardSaid : Prop := Claim7.holds Tryd.pinned (.plain (OpenSpec.ofChange parseBlankSpec)) parseBlankCard

/-- THE SECOND FORM's CARD OF 'touchstonelaw06.ParsePlaces'. -/
def parsePlacesUptoCard : Claim7 := { stood := { row := parsePlacesUptoRow, standIns := [], harness := (true, "ab23647ebd64379510a8d56e9f3d7a48df3c314996f9a1c81cd12de8bc15cb4b"), looks := true }, kinds := [], alts := [], laidByText := true, laidKinds := [.data, .data, .data, .sentinel, .sentinel], laidTests := true, laidLooks := .later }
def ParsePlacesUptoCardSaid : Prop := Claim7.holds Tryd.pinned (.plain (OpenSpec.upto parsePlacesSpec)) parsePlacesUptoCard

/-- THE SECOND FORM's CARD OF 'touchstonelaw06.ParseBoth'. -/
def parseBothUptoCard : Claim7 := { stood := { row := parseBothUptoRow, standIns := [], harness := (true, "ab23647ebd64379510a8d56e9f3d7a48df3c314996f9a1c81cd12de8bc15cb4b"), looks := true }, kinds := [], alts := [], laidByText := true, laidKinds := [.data, .data, .data, .sentinel, .sentinel], laidTests := true, laidLooks := .later }
def ParseBothUptoCardSaid : Prop := Claim7.holds Tryd.pinned (.plain (OpenSpec.upto parseBothSpec)) parseBothUptoCard

/-- THE SECOND FORM's CARD OF 'touchstonelaw06.ParseEnds'. -/
def parseEndsUptoCard : Claim7 := { stood := { row := parseEndsUptoRow, standIns := [], harness := (true, "ab23647ebd64379510a8d56e9f3d7a48df3c314996f9a1c81cd12de8bc15cb4b"), looks := true }, kinds := [], alts := [], laidByText := true, laidKinds := [.data, .data, .data, .sentinel, .sentinel], laidTests := true, laidLooks := .later }
def ParseEndsUptoCardSaid : Prop := Claim7.holds Tryd.pinned (.plain (OpenSpec.upto parseEndsSpec)) parseEndsUptoCard

/-- THE SECOND FORM's CARD OF 'touchstonelaw06.ParseBlank'. -/
def parseBlankUptoCard : Claim7 := { stood := { row := parseBlankUptoRow, standIns := [], harness := (true, "ab23647ebd64379510a8d56e9f3d7a48df3c314996f9a1c81cd12de8bc15cb4b"), looks := true }, kinds := [], alts := [], laidByText := true, laidKinds := [.data, .data, .data, .sentinel, .sentinel], laidTests := true, laidLooks := .later }
def ParseBlankUptoCardSaid : Prop := Claim7.holds Tryd.pinned (.plain (OpenSpec.upto parseBlankSpec)) parseBlankUptoCard
end Rows
end Go.Proofs.YtpfhgkielakmoaaDoor

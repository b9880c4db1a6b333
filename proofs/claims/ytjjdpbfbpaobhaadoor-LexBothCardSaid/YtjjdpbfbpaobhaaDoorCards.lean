/-
  DERIVED. GIVEN WITH THE SEED: THE CARDS: each row of YtjjdpbfbpaobhaaDoorRows.lean that lists a variable, with what it lists TIED to the program's text (the seventh form; the later family's looks); each row that meets fmt, with fmt's text TOLD by the authors' own Lean function (tested against real Go, not proved from fmt's source: count such statements apart). THE CARD IS WHAT COUNTS. Prove the row's statement (the work); the ties are given (YtjjdpbfbpaobhaaDoorTie.lean); close each card by the builder's one call (the guide's Derived/Test/ToyasCard.lean, 'card_holds'). Laid BY PROGRAM, IN A SANDBOX (cutbox-door.mjs). By AI agents, Wed Nov 11 2026. No macro, syntax, notation, axiom, sorry.
-/
import Derived.Test.YtjjdpbfbpaobhaaDoorRows
import GoSem.ClaimSeven
namespace Go.Proofs.YtjjdpbfbpaobhaaDoor
namespace Rows

/-- THE TIED CARD OF 'touchstonelaw05.LexSplits'. -/
def lexSplitsCard : Claim7 := { stood := { row := lexSplitsRow, standIns := [], harness := (true, "dbd470a3563dd18897debae69c8dfc1fbbabd20bd965b7dee10f08748fc588d5"), looks := true }, kinds := [], alts := [], laidByText := true, laidKinds := [.data, .data, .data, .sentinel, .sentinel], laidTests := true, laidLooks := .later }
def LexSplitsCardSaid : Prop := Claim7.holds Tryd.pinned (.plain (OpenSpec.ofChange lexSplitsSpec)) lexSplitsCard

/-- THE TIED CARD OF 'touchstonelaw05.LexJoins'. -/
def lexJoinsCard : Claim7 := { stood := { row := lexJoinsRow, standIns := [], harness := (true, "dbd470a3563dd18897debae69c8dfc1fbbabd20bd965b7dee10f08748fc588d5"), looks := true }, kinds := [], alts := [], laidByText := true, laidKinds := [.data, .data, .data, .sentinel, .sentinel], laidTests := true, laidLooks := .later }
def LexJoinsCardSaid : Prop := Claim7.holds Tryd.pinned (.plain (OpenSpec.ofChange lexJoinsSpec)) lexJoinsCard

/-- THE TIED CARD OF 'touchstonelaw05.LexPlaces'. -/
def lexPlacesCard : Claim7 := { stood := { row := lexPlacesRow, standIns := [], harness := (true, "dbd470a3563dd18897debae69c8dfc1fbbabd20bd965b7dee10f08748fc588d5"), looks := true }, kinds := [], alts := [], laidByText := true, laidKinds := [.data, .data, .data, .sentinel, .sentinel], laidTests := true, laidLooks := .later }
def LexPlacesCardSaid : Prop := Claim7.holds Tryd.pinned (.plain (OpenSpec.ofChange lexPlacesSpec)) lexPlacesCard

/-- THE TIED CARD OF 'touchstonelaw05.LexBoth'. -/
def lexBothCard : Claim7 := { stood := { row := lexBothRow, standIns := [], harness := (true, "dbd470a3563dd18897debae69c8dfc1fbbabd20bd965b7dee10f08748fc588d5"), looks := true }, kinds := [], alts := [], laidByText := true, laidKinds := [.data, .data, .data, .sentinel, .sentinel], laidTests := true, laidLooks := .later }
def LexBothCardSaid : Prop := Claim7.holds Tryd.pinned (.plain (OpenSpec.ofChange lexBothSpec)) lexBothCard

/-- THE SECOND FORM's CARD OF 'touchstonelaw05.LexSplits'. -/
def lexSplitsUptoCard : Claim7 := { stood := { row := lexSplitsUptoRow, standIns := [], harness := (true, "dbd470a3563dd18897debae69c8dfc1fbbabd20bd965b7dee10f08748fc588d5"), looks := true }, kinds := [], alts := [], laidByText := true, laidKinds := [.data, .data, .data, .sentinel, .sentinel], laidTests := true, laidLooks := .later }
def LexSplitsUptoCardSaid : Prop := Claim7.holds Tryd.pinned (.plain (OpenSpec.upto lexSplitsSpec)) lexSplitsUptoCard

/-- THE SECOND FORM's CARD OF 'touchstonelaw05.LexJoins'. -/
def lexJoinsUptoCard : Claim7 := { stood := { row := lexJoinsUptoRow, standIns := [], harness := (true, "dbd470a3563dd18897debae69c8dfc1fbbabd20bd965b7dee10f08748fc588d5"), looks := true }, kinds := [], alts := [], laidByText := true, laidKinds := [.data, .data, .data, .sentinel, .sentinel], laidTests := true, laidLooks := .later }
def LexJoinsUptoCardSaid : Prop := Claim7.holds Tryd.pinned (.plain (OpenSpec.upto lexJoinsSpec)) lexJoinsUptoCard

/-- THE SECOND FORM's CARD OF 'touchstonelaw05.LexPlaces'. -/
def lexPlacesUptoCard : Claim7 := { stood := { row := lexPlacesUptoRow, standIns := [], harness := (true, "dbd470a3563dd18897debae69c8dfc1fbbabd20bd965b7dee10f08748fc588d5"), looks := true }, kinds := [], alts := [], laidByText := true, laidKinds := [.data, .data, .data, .sentinel, .sentinel], laidTests := true, laidLooks := .later }
def LexPlacesUptoCardSaid : Prop := Claim7.holds Tryd.pinned (.plain (OpenSpec.upto lexPlacesSpec)) lexPlacesUptoCard

/-- THE SECOND FORM's CARD OF 'touchstonelaw05.LexBoth'. -/
def lexBothUptoCard : Claim7 := { stood := { row := lexBothUptoRow, standIns := [], harness := (true, "dbd470a3563dd18897debae69c8dfc1fbbabd20bd965b7dee10f08748fc588d5"), looks := true }, kinds := [], alts := [], laidByText := true, laidKinds := [.data, .data, .data, .sentinel, .sentinel], laidTests := true, laidLooks := .later }
def LexBothUptoCardSaid : Prop := Claim7.holds Tryd.pinned (.plain (OpenSpec.upto lexBothSpec)) lexBothUptoCard
end Rows
end Go.Proofs.YtjjdpbfbpaobhaaDoor

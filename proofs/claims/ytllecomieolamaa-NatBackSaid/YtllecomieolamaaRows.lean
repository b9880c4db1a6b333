/-
  No cell of these rows narrows 'for every input' (looked for: loops, veiled, ifaces, maps, wideKeys, modest, calm, conditions, laid).
  DERIVED. THE GIVEN ROWS OF THIS SEAT. 23 by the template 'for every input the law returns true; each argument reads behind the call as it read before'; 0 by the template 'total and deterministic' (their statements: YtllecomieolamaaTotals.lean).
  GIVEN WITH THE SEED: the statements are not yours to turn. If you find one false, say at which input.
  Laid BY PROGRAM, IN A SANDBOX (cutbox-rows.mjs): the forced cells as the released guide's own fill.sh prints them over the translation 527f52173679ad68… (all of the seat's roots in one cut). By AI agents, Wed Nov 11 2026. No macro, syntax, notation, axiom, sorry.
-/
import Derived.Test.YtllecomieolamaaChecked
import GoSem.Claim
import GoSem.ClaimJoined
import GoSem.ClaimMapViews
import Derived.JoinedTies
import Derived.KernelRfl
namespace Go.Proofs.Ytllecomieolamaa
/- THE CELL 'sum', in the pinned program and in every row, IS THE sha256 OF THE DUMP (.gsa) THAT YtllecomieolamaaProg.lean LOADS. Nothing in Lean hashes anything: it is a label: what it is worth is what the hold of that sum in a sandbox is worth. -/
noncomputable def Try.pinned : Pinned := { name := "ytllecomieolamaa", sum := "527f52173679ad68648758ab30afd7e01f7dae98e91cf689a36041818cdd429a", checked := Try.checked }
namespace Rows
def none {H : Type} : Left H := { results := [], args := [] }

/-- 'touchstonelaw02.NatDivs': WHATEVER THE INPUT: true; the input reads as it did. -/
def natDivsSpec : ChangeSpec := { name := "natDivs", fn := fun _ => fun
  | [d1, d2] => { results := [.lit (.bool true)], args := [d1, d2] }
  | _ => none }
def natDivsRow : OpenClaim := { program := "ytllecomieolamaa", sum := "527f52173679ad68648758ab30afd7e01f7dae98e91cf689a36041818cdd429a", func := "touchstone/touchstonelaw02.NatDivs", spec := "natDivs", named := ["math/bits.overflowError"], apart := false }
def NatDivsSaid : Prop := natDivsRow.holds Try.pinned (OpenSpec.ofChange natDivsSpec)

/-- ITS FALSE NEIGHBOUR: 'it returns false'. Refute it at one input. -/
def natDivsWrong : ChangeSpec := { name := "natDivs", fn := fun _ => fun
  | [d1, d2] => { results := [.lit (.bool false)], args := [d1, d2] }
  | _ => none }
def NatDivsWrongFalsely : Prop := natDivsRow.holds Try.pinned (OpenSpec.ofChange natDivsWrong)

/-- 'touchstonelaw02.NatSums': WHATEVER THE INPUT: true; the input reads as it did. -/
def natSumsSpec : ChangeSpec := { name := "natSums", fn := fun _ => fun
  | [d1, d2] => { results := [.lit (.bool true)], args := [d1, d2] }
  | _ => none }
def natSumsRow : OpenClaim := { program := "ytllecomieolamaa", sum := "527f52173679ad68648758ab30afd7e01f7dae98e91cf689a36041818cdd429a", func := "touchstone/touchstonelaw02.NatSums", spec := "natSums", named := ["math/bits.overflowError"], apart := false }
def NatSumsSaid : Prop := natSumsRow.holds Try.pinned (OpenSpec.ofChange natSumsSpec)

/-- ITS FALSE NEIGHBOUR: 'it returns false'. Refute it at one input. -/
def natSumsWrong : ChangeSpec := { name := "natSums", fn := fun _ => fun
  | [d1, d2] => { results := [.lit (.bool false)], args := [d1, d2] }
  | _ => none }
def NatSumsWrongFalsely : Prop := natSumsRow.holds Try.pinned (OpenSpec.ofChange natSumsWrong)

/-- 'touchstonelaw02.NatMuls': WHATEVER THE INPUT: true; the input reads as it did. -/
def natMulsSpec : ChangeSpec := { name := "natMuls", fn := fun _ => fun
  | [d1, d2] => { results := [.lit (.bool true)], args := [d1, d2] }
  | _ => none }
def natMulsRow : OpenClaim := { program := "ytllecomieolamaa", sum := "527f52173679ad68648758ab30afd7e01f7dae98e91cf689a36041818cdd429a", func := "touchstone/touchstonelaw02.NatMuls", spec := "natMuls", named := ["math/bits.overflowError"], apart := false }
def NatMulsSaid : Prop := natMulsRow.holds Try.pinned (OpenSpec.ofChange natMulsSpec)

/-- ITS FALSE NEIGHBOUR: 'it returns false'. Refute it at one input. -/
def natMulsWrong : ChangeSpec := { name := "natMuls", fn := fun _ => fun
  | [d1, d2] => { results := [.lit (.bool false)], args := [d1, d2] }
  | _ => none }
def NatMulsWrongFalsely : Prop := natMulsRow.holds Try.pinned (OpenSpec.ofChange natMulsWrong)

/-- 'touchstonelaw02.NatLaws': WHATEVER THE INPUT: true; the input reads as it did. -/
def natLawsSpec : ChangeSpec := { name := "natLaws", fn := fun _ => fun
  | [d1, d2, d3] => { results := [.lit (.bool true)], args := [d1, d2, d3] }
  | _ => none }
def natLawsRow : OpenClaim := { program := "ytllecomieolamaa", sum := "527f52173679ad68648758ab30afd7e01f7dae98e91cf689a36041818cdd429a", func := "touchstone/touchstonelaw02.NatLaws", spec := "natLaws", named := ["math/bits.overflowError"], apart := false }
def NatLawsSaid : Prop := natLawsRow.holds Try.pinned (OpenSpec.ofChange natLawsSpec)

/-- ITS FALSE NEIGHBOUR: 'it returns false'. Refute it at one input. -/
def natLawsWrong : ChangeSpec := { name := "natLaws", fn := fun _ => fun
  | [d1, d2, d3] => { results := [.lit (.bool false)], args := [d1, d2, d3] }
  | _ => none }
def NatLawsWrongFalsely : Prop := natLawsRow.holds Try.pinned (OpenSpec.ofChange natLawsWrong)

/-- 'touchstonelaw02.NatMakes': WHATEVER THE INPUT: true; the input reads as it did. -/
def natMakesSpec : ChangeSpec := { name := "natMakes", fn := fun _ => fun
  | [d1, d2, d3] => { results := [.lit (.bool true)], args := [d1, d2, d3] }
  | _ => none }
def natMakesRow : OpenClaim := { program := "ytllecomieolamaa", sum := "527f52173679ad68648758ab30afd7e01f7dae98e91cf689a36041818cdd429a", func := "touchstone/touchstonelaw02.NatMakes", spec := "natMakes", named := ["math/bits.overflowError"], apart := false }
def NatMakesSaid : Prop := natMakesRow.holds Try.pinned (OpenSpec.ofChange natMakesSpec)

/-- ITS FALSE NEIGHBOUR: 'it returns false'. Refute it at one input. -/
def natMakesWrong : ChangeSpec := { name := "natMakes", fn := fun _ => fun
  | [d1, d2, d3] => { results := [.lit (.bool false)], args := [d1, d2, d3] }
  | _ => none }
def NatMakesWrongFalsely : Prop := natMakesRow.holds Try.pinned (OpenSpec.ofChange natMakesWrong)

/-- 'touchstonelaw02.NatOrder': WHATEVER THE INPUT: true; the input reads as it did. -/
def natOrderSpec : ChangeSpec := { name := "natOrder", fn := fun _ => fun
  | [d1, d2] => { results := [.lit (.bool true)], args := [d1, d2] }
  | _ => none }
def natOrderRow : OpenClaim := { program := "ytllecomieolamaa", sum := "527f52173679ad68648758ab30afd7e01f7dae98e91cf689a36041818cdd429a", func := "touchstone/touchstonelaw02.NatOrder", spec := "natOrder", named := ["math/bits.overflowError"], apart := false }
def NatOrderSaid : Prop := natOrderRow.holds Try.pinned (OpenSpec.ofChange natOrderSpec)

/-- ITS FALSE NEIGHBOUR: 'it returns false'. Refute it at one input. -/
def natOrderWrong : ChangeSpec := { name := "natOrder", fn := fun _ => fun
  | [d1, d2] => { results := [.lit (.bool false)], args := [d1, d2] }
  | _ => none }
def NatOrderWrongFalsely : Prop := natOrderRow.holds Try.pinned (OpenSpec.ofChange natOrderWrong)

/-- 'touchstonelaw02.NatBack': WHATEVER THE INPUT: true; the input reads as it did. -/
def natBackSpec : ChangeSpec := { name := "natBack", fn := fun _ => fun
  | [d1, d2, d3] => { results := [.lit (.bool true)], args := [d1, d2, d3] }
  | _ => none }
def natBackRow : OpenClaim := { program := "ytllecomieolamaa", sum := "527f52173679ad68648758ab30afd7e01f7dae98e91cf689a36041818cdd429a", func := "touchstone/touchstonelaw02.NatBack", spec := "natBack", named := ["math/bits.overflowError"], apart := false }
def NatBackSaid : Prop := natBackRow.holds Try.pinned (OpenSpec.ofChange natBackSpec)

/-- ITS FALSE NEIGHBOUR: 'it returns false'. Refute it at one input. -/
def natBackWrong : ChangeSpec := { name := "natBack", fn := fun _ => fun
  | [d1, d2, d3] => { results := [.lit (.bool false)], args := [d1, d2, d3] }
  | _ => none }
def NatBackWrongFalsely : Prop := natBackRow.holds Try.pinned (OpenSpec.ofChange natBackWrong)

/-- 'touchstonelaw03.SignedDivs': WHATEVER THE INPUT: true; the input reads as it did. -/
def signedDivsSpec : ChangeSpec := { name := "signedDivs", fn := fun _ => fun
  | [d1, d2] => { results := [.lit (.bool true)], args := [d1, d2] }
  | _ => none }
def signedDivsRow : OpenClaim := { program := "ytllecomieolamaa", sum := "527f52173679ad68648758ab30afd7e01f7dae98e91cf689a36041818cdd429a", func := "touchstone/touchstonelaw03.SignedDivs", spec := "signedDivs", named := ["math/bits.overflowError"], apart := false }
def SignedDivsSaid : Prop := signedDivsRow.holds Try.pinned (OpenSpec.ofChange signedDivsSpec)

/-- ITS FALSE NEIGHBOUR: 'it returns false'. Refute it at one input. -/
def signedDivsWrong : ChangeSpec := { name := "signedDivs", fn := fun _ => fun
  | [d1, d2] => { results := [.lit (.bool false)], args := [d1, d2] }
  | _ => none }
def SignedDivsWrongFalsely : Prop := signedDivsRow.holds Try.pinned (OpenSpec.ofChange signedDivsWrong)

/-- 'touchstonelaw03.SignedGcd': WHATEVER THE INPUT: true; the input reads as it did. -/
def signedGcdSpec : ChangeSpec := { name := "signedGcd", fn := fun _ => fun
  | [d1, d2, d3] => { results := [.lit (.bool true)], args := [d1, d2, d3] }
  | _ => none }
def signedGcdRow : OpenClaim := { program := "ytllecomieolamaa", sum := "527f52173679ad68648758ab30afd7e01f7dae98e91cf689a36041818cdd429a", func := "touchstone/touchstonelaw03.SignedGcd", spec := "signedGcd", unfollowed := true, recurses := true, named := ["math/bits.overflowError"], apart := false }
def SignedGcdSaid : Prop := signedGcdRow.holds Try.pinned (OpenSpec.ofChange signedGcdSpec)

/-- ITS FALSE NEIGHBOUR: 'it returns false'. Refute it at one input. -/
def signedGcdWrong : ChangeSpec := { name := "signedGcd", fn := fun _ => fun
  | [d1, d2, d3] => { results := [.lit (.bool false)], args := [d1, d2, d3] }
  | _ => none }
def SignedGcdWrongFalsely : Prop := signedGcdRow.holds Try.pinned (OpenSpec.ofChange signedGcdWrong)

/-- 'touchstonelaw03.SignedMakes': WHATEVER THE INPUT: true; the input reads as it did. -/
def signedMakesSpec : ChangeSpec := { name := "signedMakes", fn := fun _ => fun
  | [d1, d2, d3] => { results := [.lit (.bool true)], args := [d1, d2, d3] }
  | _ => none }
def signedMakesRow : OpenClaim := { program := "ytllecomieolamaa", sum := "527f52173679ad68648758ab30afd7e01f7dae98e91cf689a36041818cdd429a", func := "touchstone/touchstonelaw03.SignedMakes", spec := "signedMakes", named := ["math/bits.overflowError"], apart := false }
def SignedMakesSaid : Prop := signedMakesRow.holds Try.pinned (OpenSpec.ofChange signedMakesSpec)

/-- ITS FALSE NEIGHBOUR: 'it returns false'. Refute it at one input. -/
def signedMakesWrong : ChangeSpec := { name := "signedMakes", fn := fun _ => fun
  | [d1, d2, d3] => { results := [.lit (.bool false)], args := [d1, d2, d3] }
  | _ => none }
def SignedMakesWrongFalsely : Prop := signedMakesRow.holds Try.pinned (OpenSpec.ofChange signedMakesWrong)

/-- 'touchstonelaw03.SignedSums': WHATEVER THE INPUT: true; the input reads as it did. -/
def signedSumsSpec : ChangeSpec := { name := "signedSums", fn := fun _ => fun
  | [d1, d2] => { results := [.lit (.bool true)], args := [d1, d2] }
  | _ => none }
def signedSumsRow : OpenClaim := { program := "ytllecomieolamaa", sum := "527f52173679ad68648758ab30afd7e01f7dae98e91cf689a36041818cdd429a", func := "touchstone/touchstonelaw03.SignedSums", spec := "signedSums", named := ["math/bits.overflowError"], apart := false }
def SignedSumsSaid : Prop := signedSumsRow.holds Try.pinned (OpenSpec.ofChange signedSumsSpec)

/-- ITS FALSE NEIGHBOUR: 'it returns false'. Refute it at one input. -/
def signedSumsWrong : ChangeSpec := { name := "signedSums", fn := fun _ => fun
  | [d1, d2] => { results := [.lit (.bool false)], args := [d1, d2] }
  | _ => none }
def SignedSumsWrongFalsely : Prop := signedSumsRow.holds Try.pinned (OpenSpec.ofChange signedSumsWrong)

/-- 'touchstonelaw03.SignedLaws': WHATEVER THE INPUT: true; the input reads as it did. -/
def signedLawsSpec : ChangeSpec := { name := "signedLaws", fn := fun _ => fun
  | [d1, d2, d3] => { results := [.lit (.bool true)], args := [d1, d2, d3] }
  | _ => none }
def signedLawsRow : OpenClaim := { program := "ytllecomieolamaa", sum := "527f52173679ad68648758ab30afd7e01f7dae98e91cf689a36041818cdd429a", func := "touchstone/touchstonelaw03.SignedLaws", spec := "signedLaws", unfollowed := true, recurses := true, named := ["math/bits.overflowError"], apart := false }
def SignedLawsSaid : Prop := signedLawsRow.holds Try.pinned (OpenSpec.ofChange signedLawsSpec)

/-- ITS FALSE NEIGHBOUR: 'it returns false'. Refute it at one input. -/
def signedLawsWrong : ChangeSpec := { name := "signedLaws", fn := fun _ => fun
  | [d1, d2, d3] => { results := [.lit (.bool false)], args := [d1, d2, d3] }
  | _ => none }
def SignedLawsWrongFalsely : Prop := signedLawsRow.holds Try.pinned (OpenSpec.ofChange signedLawsWrong)

/-- 'touchstonelaw03.SignedSmall': WHATEVER THE INPUT: true; the input reads as it did. -/
def signedSmallSpec : ChangeSpec := { name := "signedSmall", fn := fun _ => fun
  | [d1, d2] => { results := [.lit (.bool true)], args := [d1, d2] }
  | _ => none }
def signedSmallRow : OpenClaim := { program := "ytllecomieolamaa", sum := "527f52173679ad68648758ab30afd7e01f7dae98e91cf689a36041818cdd429a", func := "touchstone/touchstonelaw03.SignedSmall", spec := "signedSmall", named := ["math/bits.overflowError"], apart := false }
def SignedSmallSaid : Prop := signedSmallRow.holds Try.pinned (OpenSpec.ofChange signedSmallSpec)

/-- ITS FALSE NEIGHBOUR: 'it returns false'. Refute it at one input. -/
def signedSmallWrong : ChangeSpec := { name := "signedSmall", fn := fun _ => fun
  | [d1, d2] => { results := [.lit (.bool false)], args := [d1, d2] }
  | _ => none }
def SignedSmallWrongFalsely : Prop := signedSmallRow.holds Try.pinned (OpenSpec.ofChange signedSmallWrong)

/-- 'touchstonelaw03.SignedTexts': WHATEVER THE INPUT: true; the input reads as it did. -/
def signedTextsSpec : ChangeSpec := { name := "signedTexts", fn := fun _ => fun
  | [d1, d2] => { results := [.lit (.bool true)], args := [d1, d2] }
  | _ => none }
def signedTextsRow : OpenClaim := { program := "ytllecomieolamaa", sum := "527f52173679ad68648758ab30afd7e01f7dae98e91cf689a36041818cdd429a", func := "touchstone/touchstonelaw03.SignedTexts", spec := "signedTexts", named := ["math/bits.overflowError"], apart := false }
def SignedTextsSaid : Prop := signedTextsRow.holds Try.pinned (OpenSpec.ofChange signedTextsSpec)

/-- ITS FALSE NEIGHBOUR: 'it returns false'. Refute it at one input. -/
def signedTextsWrong : ChangeSpec := { name := "signedTexts", fn := fun _ => fun
  | [d1, d2] => { results := [.lit (.bool false)], args := [d1, d2] }
  | _ => none }
def SignedTextsWrongFalsely : Prop := signedTextsRow.holds Try.pinned (OpenSpec.ofChange signedTextsWrong)

/-- 'touchstonelaw03.SignedBack': WHATEVER THE INPUT: true; the input reads as it did. -/
def signedBackSpec : ChangeSpec := { name := "signedBack", fn := fun _ => fun
  | [d1, d2, d3] => { results := [.lit (.bool true)], args := [d1, d2, d3] }
  | _ => none }
def signedBackRow : OpenClaim := { program := "ytllecomieolamaa", sum := "527f52173679ad68648758ab30afd7e01f7dae98e91cf689a36041818cdd429a", func := "touchstone/touchstonelaw03.SignedBack", spec := "signedBack", named := ["math/bits.overflowError"], apart := false }
def SignedBackSaid : Prop := signedBackRow.holds Try.pinned (OpenSpec.ofChange signedBackSpec)

/-- ITS FALSE NEIGHBOUR: 'it returns false'. Refute it at one input. -/
def signedBackWrong : ChangeSpec := { name := "signedBack", fn := fun _ => fun
  | [d1, d2, d3] => { results := [.lit (.bool false)], args := [d1, d2, d3] }
  | _ => none }
def SignedBackWrongFalsely : Prop := signedBackRow.holds Try.pinned (OpenSpec.ofChange signedBackWrong)

/-- 'touchstonelaw04.RatioMakes': WHATEVER THE INPUT: true; the input reads as it did. -/
def ratioMakesSpec : ChangeSpec := { name := "ratioMakes", fn := fun _ => fun
  | [d1, d2] => { results := [.lit (.bool true)], args := [d1, d2] }
  | _ => none }
def ratioMakesRow : OpenClaim := { program := "ytllecomieolamaa", sum := "527f52173679ad68648758ab30afd7e01f7dae98e91cf689a36041818cdd429a", func := "touchstone/touchstonelaw04.RatioMakes", spec := "ratioMakes", named := ["math/bits.overflowError"], apart := false }
def RatioMakesSaid : Prop := ratioMakesRow.holds Try.pinned (OpenSpec.ofChange ratioMakesSpec)

/-- ITS FALSE NEIGHBOUR: 'it returns false'. Refute it at one input. -/
def ratioMakesWrong : ChangeSpec := { name := "ratioMakes", fn := fun _ => fun
  | [d1, d2] => { results := [.lit (.bool false)], args := [d1, d2] }
  | _ => none }
def RatioMakesWrongFalsely : Prop := ratioMakesRow.holds Try.pinned (OpenSpec.ofChange ratioMakesWrong)

/-- 'touchstonelaw04.RatioRounds': WHATEVER THE INPUT: true; the input reads as it did. -/
def ratioRoundsSpec : ChangeSpec := { name := "ratioRounds", fn := fun _ => fun
  | [d] => { results := [.lit (.bool true)], args := [d] }
  | _ => none }
def ratioRoundsRow : OpenClaim := { program := "ytllecomieolamaa", sum := "527f52173679ad68648758ab30afd7e01f7dae98e91cf689a36041818cdd429a", func := "touchstone/touchstonelaw04.RatioRounds", spec := "ratioRounds", named := ["math/bits.overflowError"], apart := false }
def RatioRoundsSaid : Prop := ratioRoundsRow.holds Try.pinned (OpenSpec.ofChange ratioRoundsSpec)

/-- ITS FALSE NEIGHBOUR: 'it returns false'. Refute it at one input. -/
def ratioRoundsWrong : ChangeSpec := { name := "ratioRounds", fn := fun _ => fun
  | [d] => { results := [.lit (.bool false)], args := [d] }
  | _ => none }
def RatioRoundsWrongFalsely : Prop := ratioRoundsRow.holds Try.pinned (OpenSpec.ofChange ratioRoundsWrong)

/-- 'touchstonelaw04.RatioMuls': WHATEVER THE INPUT: true; the input reads as it did. -/
def ratioMulsSpec : ChangeSpec := { name := "ratioMuls", fn := fun _ => fun
  | [d1, d2] => { results := [.lit (.bool true)], args := [d1, d2] }
  | _ => none }
def ratioMulsRow : OpenClaim := { program := "ytllecomieolamaa", sum := "527f52173679ad68648758ab30afd7e01f7dae98e91cf689a36041818cdd429a", func := "touchstone/touchstonelaw04.RatioMuls", spec := "ratioMuls", named := ["math/bits.overflowError"], apart := false }
def RatioMulsSaid : Prop := ratioMulsRow.holds Try.pinned (OpenSpec.ofChange ratioMulsSpec)

/-- ITS FALSE NEIGHBOUR: 'it returns false'. Refute it at one input. -/
def ratioMulsWrong : ChangeSpec := { name := "ratioMuls", fn := fun _ => fun
  | [d1, d2] => { results := [.lit (.bool false)], args := [d1, d2] }
  | _ => none }
def RatioMulsWrongFalsely : Prop := ratioMulsRow.holds Try.pinned (OpenSpec.ofChange ratioMulsWrong)

/-- 'touchstonelaw04.RatioLaws': WHATEVER THE INPUT: true; the input reads as it did. -/
def ratioLawsSpec : ChangeSpec := { name := "ratioLaws", fn := fun _ => fun
  | [d1, d2, d3] => { results := [.lit (.bool true)], args := [d1, d2, d3] }
  | _ => none }
def ratioLawsRow : OpenClaim := { program := "ytllecomieolamaa", sum := "527f52173679ad68648758ab30afd7e01f7dae98e91cf689a36041818cdd429a", func := "touchstone/touchstonelaw04.RatioLaws", spec := "ratioLaws", unfollowed := true, recurses := true, named := ["math/bits.overflowError"], apart := false }
def RatioLawsSaid : Prop := ratioLawsRow.holds Try.pinned (OpenSpec.ofChange ratioLawsSpec)

/-- ITS FALSE NEIGHBOUR: 'it returns false'. Refute it at one input. -/
def ratioLawsWrong : ChangeSpec := { name := "ratioLaws", fn := fun _ => fun
  | [d1, d2, d3] => { results := [.lit (.bool false)], args := [d1, d2, d3] }
  | _ => none }
def RatioLawsWrongFalsely : Prop := ratioLawsRow.holds Try.pinned (OpenSpec.ofChange ratioLawsWrong)

/-- 'touchstonelaw04.RatioOrder': WHATEVER THE INPUT: true; the input reads as it did. -/
def ratioOrderSpec : ChangeSpec := { name := "ratioOrder", fn := fun _ => fun
  | [d1, d2, d3] => { results := [.lit (.bool true)], args := [d1, d2, d3] }
  | _ => none }
def ratioOrderRow : OpenClaim := { program := "ytllecomieolamaa", sum := "527f52173679ad68648758ab30afd7e01f7dae98e91cf689a36041818cdd429a", func := "touchstone/touchstonelaw04.RatioOrder", spec := "ratioOrder", named := ["math/bits.overflowError"], apart := false }
def RatioOrderSaid : Prop := ratioOrderRow.holds Try.pinned (OpenSpec.ofChange ratioOrderSpec)

/-- ITS FALSE NEIGHBOUR: 'it returns false'. Refute it at one input. -/
def ratioOrderWrong : ChangeSpec := { name := "ratioOrder", fn := fun _ => fun
  | [d1, d2, d3] => { results := [.lit (.bool false)], args := [d1, d2, d3] }
  | _ => none }
def RatioOrderWrongFalsely : Prop := ratioOrderRow.holds Try.pinned (OpenSpec.ofChange ratioOrderWrong)

/-- 'touchstonelaw04.RatioSums': WHATEVER THE INPUT: true; the input reads as it did. -/
def ratioSumsSpec : ChangeSpec := { name := "ratioSums", fn := fun _ => fun
  | [d1, d2] => { results := [.lit (.bool true)], args := [d1, d2] }
  | _ => none }
def ratioSumsRow : OpenClaim := { program := "ytllecomieolamaa", sum := "527f52173679ad68648758ab30afd7e01f7dae98e91cf689a36041818cdd429a", func := "touchstone/touchstonelaw04.RatioSums", spec := "ratioSums", named := ["math/bits.overflowError"], apart := false }
def RatioSumsSaid : Prop := ratioSumsRow.holds Try.pinned (OpenSpec.ofChange ratioSumsSpec)

/-- ITS FALSE NEIGHBOUR: 'it returns false'. Refute it at one input. -/
def ratioSumsWrong : ChangeSpec := { name := "ratioSums", fn := fun _ => fun
  | [d1, d2] => { results := [.lit (.bool false)], args := [d1, d2] }
  | _ => none }
def RatioSumsWrongFalsely : Prop := ratioSumsRow.holds Try.pinned (OpenSpec.ofChange ratioSumsWrong)

/-- 'touchstonelaw04.RatioBetween': WHATEVER THE INPUT: true; the input reads as it did. -/
def ratioBetweenSpec : ChangeSpec := { name := "ratioBetween", fn := fun _ => fun
  | [d] => { results := [.lit (.bool true)], args := [d] }
  | _ => none }
def ratioBetweenRow : OpenClaim := { program := "ytllecomieolamaa", sum := "527f52173679ad68648758ab30afd7e01f7dae98e91cf689a36041818cdd429a", func := "touchstone/touchstonelaw04.RatioBetween", spec := "ratioBetween", named := ["math/bits.overflowError"], apart := false }
def RatioBetweenSaid : Prop := ratioBetweenRow.holds Try.pinned (OpenSpec.ofChange ratioBetweenSpec)

/-- ITS FALSE NEIGHBOUR: 'it returns false'. Refute it at one input. -/
def ratioBetweenWrong : ChangeSpec := { name := "ratioBetween", fn := fun _ => fun
  | [d] => { results := [.lit (.bool false)], args := [d] }
  | _ => none }
def RatioBetweenWrongFalsely : Prop := ratioBetweenRow.holds Try.pinned (OpenSpec.ofChange ratioBetweenWrong)

/-- 'touchstonelaw04.RatioWhole': WHATEVER THE INPUT: true; the input reads as it did. -/
def ratioWholeSpec : ChangeSpec := { name := "ratioWhole", fn := fun _ => fun
  | [d1, d2] => { results := [.lit (.bool true)], args := [d1, d2] }
  | _ => none }
def ratioWholeRow : OpenClaim := { program := "ytllecomieolamaa", sum := "527f52173679ad68648758ab30afd7e01f7dae98e91cf689a36041818cdd429a", func := "touchstone/touchstonelaw04.RatioWhole", spec := "ratioWhole", named := ["math/bits.overflowError"], apart := false }
def RatioWholeSaid : Prop := ratioWholeRow.holds Try.pinned (OpenSpec.ofChange ratioWholeSpec)

/-- ITS FALSE NEIGHBOUR: 'it returns false'. Refute it at one input. -/
def ratioWholeWrong : ChangeSpec := { name := "ratioWhole", fn := fun _ => fun
  | [d1, d2] => { results := [.lit (.bool false)], args := [d1, d2] }
  | _ => none }
def RatioWholeWrongFalsely : Prop := ratioWholeRow.holds Try.pinned (OpenSpec.ofChange ratioWholeWrong)

/- THE SECOND FORM. 'bulk': how many values and letters a reading holds, each counted each time it is reached (what is shared counts as often as it is met; a slice's spare places count too). A statement '..UptoSaid' is the law's where the arguments, and the package variables that the reading takes, are together of bulk at most 1048576: NARROWER than '..Said'. Prove '..Said' where nothing that the law and all that it calls make is longer than what came in: it says more and counts as full. Else prove '..UptoSaid'. A law counts once. -/
mutual
def uptoBulk {H : Type} : DataW H → Nat
  | .lit (.string bytes) => bytes.length + 1
  | .lit _ => 1
  | .nil => 1
  | .ptr d => uptoBulk d + 1
  | .slice elems spare => uptoBulkAll elems + uptoBulkAll spare + 1
  | .agg parts => uptoBulkAll parts + 1
  | .iface _ d => uptoBulk d + 1
  | .map entries => uptoBulkEntries entries + 1
  | .held _ => 1
def uptoBulkAll {H : Type} : List (DataW H) → Nat
  | [] => 0
  | d :: r => uptoBulk d + uptoBulkAll r
def uptoBulkEntries {H : Type} : List (Lit × DataW H) → Nat
  | [] => 0
  | x :: r => uptoBulkEntry x + uptoBulkEntries r
def uptoBulkEntry {H : Type} : Lit × DataW H → Nat
  | (.string bytes, d) => bytes.length + uptoBulk d + 1
  | (_, d) => uptoBulk d + 1
 end
def uptoSmall : (H : Type) → List (DataW H) → Bool := fun _ ds => decide (uptoBulkAll ds ≤ 1048576)
def OpenSpec.upto (s : _root_.Go.ChangeSpec) : _root_.Go.OpenSpec := { _root_.Go.OpenSpec.ofChange s with cond := some uptoSmall }

/-- 'touchstonelaw02.NatDivs', WHERE WHAT IT READS IS OF BULK AT MOST 1048576: true; the input reads as it did. -/
def natDivsUptoRow : OpenClaim := { program := "ytllecomieolamaa", sum := "527f52173679ad68648758ab30afd7e01f7dae98e91cf689a36041818cdd429a", func := "touchstone/touchstonelaw02.NatDivs", spec := "natDivs", named := ["math/bits.overflowError"], apart := false, narrowed := true }
def NatDivsUptoSaid : Prop := natDivsUptoRow.holds Try.pinned (OpenSpec.upto natDivsSpec)

/-- 'touchstonelaw02.NatSums', WHERE WHAT IT READS IS OF BULK AT MOST 1048576: true; the input reads as it did. -/
def natSumsUptoRow : OpenClaim := { program := "ytllecomieolamaa", sum := "527f52173679ad68648758ab30afd7e01f7dae98e91cf689a36041818cdd429a", func := "touchstone/touchstonelaw02.NatSums", spec := "natSums", named := ["math/bits.overflowError"], apart := false, narrowed := true }
def NatSumsUptoSaid : Prop := natSumsUptoRow.holds Try.pinned (OpenSpec.upto natSumsSpec)

/-- 'touchstonelaw02.NatMuls', WHERE WHAT IT READS IS OF BULK AT MOST 1048576: true; the input reads as it did. -/
def natMulsUptoRow : OpenClaim := { program := "ytllecomieolamaa", sum := "527f52173679ad68648758ab30afd7e01f7dae98e91cf689a36041818cdd429a", func := "touchstone/touchstonelaw02.NatMuls", spec := "natMuls", named := ["math/bits.overflowError"], apart := false, narrowed := true }
def NatMulsUptoSaid : Prop := natMulsUptoRow.holds Try.pinned (OpenSpec.upto natMulsSpec)

/-- 'touchstonelaw02.NatLaws', WHERE WHAT IT READS IS OF BULK AT MOST 1048576: true; the input reads as it did. -/
def natLawsUptoRow : OpenClaim := { program := "ytllecomieolamaa", sum := "527f52173679ad68648758ab30afd7e01f7dae98e91cf689a36041818cdd429a", func := "touchstone/touchstonelaw02.NatLaws", spec := "natLaws", named := ["math/bits.overflowError"], apart := false, narrowed := true }
def NatLawsUptoSaid : Prop := natLawsUptoRow.holds Try.pinned (OpenSpec.upto natLawsSpec)

/-- 'touchstonelaw02.NatMakes', WHERE WHAT IT READS IS OF BULK AT MOST 1048576: true; the input reads as it did. -/
def natMakesUptoRow : OpenClaim := { program := "ytllecomieolamaa", sum := "527f52173679ad68648758ab30afd7e01f7dae98e91cf689a36041818cdd429a", func := "touchstone/touchstonelaw02.NatMakes", spec := "natMakes", named := ["math/bits.overflowError"], apart := false, narrowed := true }
def NatMakesUptoSaid : Prop := natMakesUptoRow.holds Try.pinned (OpenSpec.upto natMakesSpec)

/-- 'touchstonelaw02.NatOrder', WHERE WHAT IT READS IS OF BULK AT MOST 1048576: true; the input reads as it did. -/
def natOrderUptoRow : OpenClaim := { program := "ytllecomieolamaa", sum := "527f52173679ad68648758ab30afd7e01f7dae98e91cf689a36041818cdd429a", func := "touchstone/touchstonelaw02.NatOrder", spec := "natOrder", named := ["math/bits.overflowError"], apart := false, narrowed := true }
def NatOrderUptoSaid : Prop := natOrderUptoRow.holds Try.pinned (OpenSpec.upto natOrderSpec)

/-- 'touchstonelaw02.NatBack', WHERE WHAT IT READS IS OF BULK AT MOST 1048576: true; the input reads as it did. -/
def natBackUptoRow : OpenClaim := { program := "ytllecomieolamaa", sum := "527f52173679ad68648758ab30afd7e01f7dae98e91cf689a36041818cdd429a", func := "touchstone/touchstonelaw02.NatBack", spec := "natBack", named := ["math/bits.overflowError"], apart := false, narrowed := true }
def NatBackUptoSaid : Prop := natBackUptoRow.holds Try.pinned (OpenSpec.upto natBackSpec)

/-- 'touchstonelaw03.SignedDivs', WHERE WHAT IT READS IS OF BULK AT MOST 1048576: true; the input reads as it did. -/
def signedDivsUptoRow : OpenClaim := { program := "ytllecomieolamaa", sum := "527f52173679ad68648758ab30afd7e01f7dae98e91cf689a36041818cdd429a", func := "touchstone/touchstonelaw03.SignedDivs", spec := "signedDivs", named := ["math/bits.overflowError"], apart := false, narrowed := true }
def SignedDivsUptoSaid : Prop := signedDivsUptoRow.holds Try.pinned (OpenSpec.upto signedDivsSpec)

/-- 'touchstonelaw03.SignedGcd', WHERE WHAT IT READS IS OF BULK AT MOST 1048576: true; the input reads as it did. -/
def signedGcdUptoRow : OpenClaim := { program := "ytllecomieolamaa", sum := "527f52173679ad68648758ab30afd7e01f7dae98e91cf689a36041818cdd429a", func := "touchstone/touchstonelaw03.SignedGcd", spec := "signedGcd", unfollowed := true, recurses := true, named := ["math/bits.overflowError"], apart := false, narrowed := true }
def SignedGcdUptoSaid : Prop := signedGcdUptoRow.holds Try.pinned (OpenSpec.upto signedGcdSpec)

/-- 'touchstonelaw03.SignedMakes', WHERE WHAT IT READS IS OF BULK AT MOST 1048576: true; the input reads as it did. -/
def signedMakesUptoRow : OpenClaim := { program := "ytllecomieolamaa", sum := "527f52173679ad68648758ab30afd7e01f7dae98e91cf689a36041818cdd429a", func := "touchstone/touchstonelaw03.SignedMakes", spec := "signedMakes", named := ["math/bits.overflowError"], apart := false, narrowed := true }
def SignedMakesUptoSaid : Prop := signedMakesUptoRow.holds Try.pinned (OpenSpec.upto signedMakesSpec)

/-- 'touchstonelaw03.SignedSums', WHERE WHAT IT READS IS OF BULK AT MOST 1048576: true; the input reads as it did. -/
def signedSumsUptoRow : OpenClaim := { program := "ytllecomieolamaa", sum := "527f52173679ad68648758ab30afd7e01f7dae98e91cf689a36041818cdd429a", func := "touchstone/touchstonelaw03.SignedSums", spec := "signedSums", named := ["math/bits.overflowError"], apart := false, narrowed := true }
def SignedSumsUptoSaid : Prop := signedSumsUptoRow.holds Try.pinned (OpenSpec.upto signedSumsSpec)

/-- 'touchstonelaw03.SignedLaws', WHERE WHAT IT READS IS OF BULK AT MOST 1048576: true; the input reads as it did. -/
def signedLawsUptoRow : OpenClaim := { program := "ytllecomieolamaa", sum := "527f52173679ad68648758ab30afd7e01f7dae98e91cf689a36041818cdd429a", func := "touchstone/touchstonelaw03.SignedLaws", spec := "signedLaws", unfollowed := true, recurses := true, named := ["math/bits.overflowError"], apart := false, narrowed := true }
def SignedLawsUptoSaid : Prop := signedLawsUptoRow.holds Try.pinned (OpenSpec.upto signedLawsSpec)

/-- 'touchstonelaw03.SignedSmall', WHERE WHAT IT READS IS OF BULK AT MOST 1048576: true; the input reads as it did. -/
def signedSmallUptoRow : OpenClaim := { program := "ytllecomieolamaa", sum := "527f52173679ad68648758ab30afd7e01f7dae98e91cf689a36041818cdd429a", func := "touchstone/touchstonelaw03.SignedSmall", spec := "signedSmall", named := ["math/bits.overflowError"], apart := false, narrowed := true }
def SignedSmallUptoSaid : Prop := signedSmallUptoRow.holds Try.pinned (OpenSpec.upto signedSmallSpec)

/-- 'touchstonelaw03.SignedTexts', WHERE WHAT IT READS IS OF BULK AT MOST 1048576: true; the input reads as it did. -/
def signedTextsUptoRow : OpenClaim := { program := "ytllecomieolamaa", sum := "527f52173679ad68648758ab30afd7e01f7dae98e91cf689a36041818cdd429a", func := "touchstone/touchstonelaw03.SignedTexts", spec := "signedTexts", named := ["math/bits.overflowError"], apart := false, narrowed := true }
def SignedTextsUptoSaid : Prop := signedTextsUptoRow.holds Try.pinned (OpenSpec.upto signedTextsSpec)

/-- 'touchstonelaw03.SignedBack', WHERE WHAT IT READS IS OF BULK AT MOST 1048576: true; the input reads as it did. -/
def signedBackUptoRow : OpenClaim := { program := "ytllecomieolamaa", sum := "527f52173679ad68648758ab30afd7e01f7dae98e91cf689a36041818cdd429a", func := "touchstone/touchstonelaw03.SignedBack", spec := "signedBack", named := ["math/bits.overflowError"], apart := false, narrowed := true }
def SignedBackUptoSaid : Prop := signedBackUptoRow.holds Try.pinned (OpenSpec.upto signedBackSpec)

/-- 'touchstonelaw04.RatioMakes', WHERE WHAT IT READS IS OF BULK AT MOST 1048576: true; the input reads as it did. -/
def ratioMakesUptoRow : OpenClaim := { program := "ytllecomieolamaa", sum := "527f52173679ad68648758ab30afd7e01f7dae98e91cf689a36041818cdd429a", func := "touchstone/touchstonelaw04.RatioMakes", spec := "ratioMakes", named := ["math/bits.overflowError"], apart := false, narrowed := true }
def RatioMakesUptoSaid : Prop := ratioMakesUptoRow.holds Try.pinned (OpenSpec.upto ratioMakesSpec)

/-- 'touchstonelaw04.RatioRounds', WHERE WHAT IT READS IS OF BULK AT MOST 1048576: true; the input reads as it did. -/
def ratioRoundsUptoRow : OpenClaim := { program := "ytllecomieolamaa", sum := "527f52173679ad68648758ab30afd7e01f7dae98e91cf689a36041818cdd429a", func := "touchstone/touchstonelaw04.RatioRounds", spec := "ratioRounds", named := ["math/bits.overflowError"], apart := false, narrowed := true }
def RatioRoundsUptoSaid : Prop := ratioRoundsUptoRow.holds Try.pinned (OpenSpec.upto ratioRoundsSpec)

/-- 'touchstonelaw04.RatioMuls', WHERE WHAT IT READS IS OF BULK AT MOST 1048576: true; the input reads as it did. -/
def ratioMulsUptoRow : OpenClaim := { program := "ytllecomieolamaa", sum := "527f52173679ad68648758ab30afd7e01f7dae98e91cf689a36041818cdd429a", func := "touchstone/touchstonelaw04.RatioMuls", spec := "ratioMuls", named := ["math/bits.overflowError"], apart := false, narrowed := true }
def RatioMulsUptoSaid : Prop := ratioMulsUptoRow.holds Try.pinned (OpenSpec.upto ratioMulsSpec)

/-- 'touchstonelaw04.RatioLaws', WHERE WHAT IT READS IS OF BULK AT MOST 1048576: true; the input reads as it did. -/
def ratioLawsUptoRow : OpenClaim := { program := "ytllecomieolamaa", sum := "527f52173679ad68648758ab30afd7e01f7dae98e91cf689a36041818cdd429a", func := "touchstone/touchstonelaw04.RatioLaws", spec := "ratioLaws", unfollowed := true, recurses := true, named := ["math/bits.overflowError"], apart := false, narrowed := true }
def RatioLawsUptoSaid : Prop := ratioLawsUptoRow.holds Try.pinned (OpenSpec.upto ratioLawsSpec)

/-- 'touchstonelaw04.RatioOrder', WHERE WHAT IT READS IS OF BULK AT MOST 1048576: true; the input reads as it did. -/
def ratioOrderUptoRow : OpenClaim := { program := "ytllecomieolamaa", sum := "527f52173679ad68648758ab30afd7e01f7dae98e91cf689a36041818cdd429a", func := "touchstone/touchstonelaw04.RatioOrder", spec := "ratioOrder", named := ["math/bits.overflowError"], apart := false, narrowed := true }
def RatioOrderUptoSaid : Prop := ratioOrderUptoRow.holds Try.pinned (OpenSpec.upto ratioOrderSpec)

/-- 'touchstonelaw04.RatioSums', WHERE WHAT IT READS IS OF BULK AT MOST 1048576: true; the input reads as it did. -/
def ratioSumsUptoRow : OpenClaim := { program := "ytllecomieolamaa", sum := "527f52173679ad68648758ab30afd7e01f7dae98e91cf689a36041818cdd429a", func := "touchstone/touchstonelaw04.RatioSums", spec := "ratioSums", named := ["math/bits.overflowError"], apart := false, narrowed := true }
def RatioSumsUptoSaid : Prop := ratioSumsUptoRow.holds Try.pinned (OpenSpec.upto ratioSumsSpec)

/-- 'touchstonelaw04.RatioBetween', WHERE WHAT IT READS IS OF BULK AT MOST 1048576: true; the input reads as it did. -/
def ratioBetweenUptoRow : OpenClaim := { program := "ytllecomieolamaa", sum := "527f52173679ad68648758ab30afd7e01f7dae98e91cf689a36041818cdd429a", func := "touchstone/touchstonelaw04.RatioBetween", spec := "ratioBetween", named := ["math/bits.overflowError"], apart := false, narrowed := true }
def RatioBetweenUptoSaid : Prop := ratioBetweenUptoRow.holds Try.pinned (OpenSpec.upto ratioBetweenSpec)

/-- 'touchstonelaw04.RatioWhole', WHERE WHAT IT READS IS OF BULK AT MOST 1048576: true; the input reads as it did. -/
def ratioWholeUptoRow : OpenClaim := { program := "ytllecomieolamaa", sum := "527f52173679ad68648758ab30afd7e01f7dae98e91cf689a36041818cdd429a", func := "touchstone/touchstonelaw04.RatioWhole", spec := "ratioWhole", named := ["math/bits.overflowError"], apart := false, narrowed := true }
def RatioWholeUptoSaid : Prop := ratioWholeUptoRow.holds Try.pinned (OpenSpec.upto ratioWholeSpec)

end Rows
end Go.Proofs.Ytllecomieolamaa

/-
  No cell of these rows narrows 'for every input' (looked for: loops, veiled, ifaces, maps, wideKeys, modest, calm, conditions, laid).
  DERIVED. THE GIVEN ROWS OF THIS SEAT. 8 by the template 'for every input the law returns true; each argument reads behind the call as it read before'; 0 by the template 'total and deterministic' (their statements: YtmhjjjffgpdolaaTotals.lean).
  GIVEN WITH THE SEED: the statements are not yours to turn. If you find one false, say at which input.
  Laid BY PROGRAM, IN A SANDBOX (cutbox-rows.mjs): the forced cells as the released guide's own fill.sh prints them over the translation 6cf58fdc2260d12d… (all of the seat's roots in one cut). By AI agents, Wed Nov 11 2026. No macro, syntax, notation, axiom, sorry.
-/
import Derived.Test.YtmhjjjffgpdolaaChecked
import GoSem.Claim
import GoSem.ClaimJoined
import GoSem.ClaimMapViews
import Derived.JoinedTies
import Derived.KernelRfl
namespace Go.Proofs.Ytmhjjjffgpdolaa
/- THE CELL 'sum', in the pinned program and in every row, IS THE sha256 OF THE DUMP (.gsa) THAT YtmhjjjffgpdolaaProg.lean LOADS. Nothing in Lean hashes anything: it is a label: what it is worth is what the hold of that sum in a sandbox is worth. -/
noncomputable def Try.pinned : Pinned := { name := "ytmhjjjffgpdolaa", sum := "6cf58fdc2260d12d1695eecdbb198657c2e5f744cd83c26ffa356b966cdff0c6", checked := Try.checked }
namespace Rows
def none {H : Type} : Left H := { results := [], args := [] }

/-- 'touchstonelaw03.SignedDivs': WHATEVER THE INPUT: true; the input reads as it did. -/
def signedDivsSpec : ChangeSpec := { name := "signedDivs", fn := fun _ => fun
  | [d1, d2] => { results := [.lit (.bool true)], args := [d1, d2] }
  | _ => none }
def signedDivsRow : OpenClaim := { program := "ytmhjjjffgpdolaa", sum := "6cf58fdc2260d12d1695eecdbb198657c2e5f744cd83c26ffa356b966cdff0c6", func := "touchstone/touchstonelaw03.SignedDivs", spec := "signedDivs", named := ["math/bits.overflowError"], apart := false }
def SignedDivsSaid : Prop := signedDivsRow.holds Try.pinned (OpenSpec.ofChange signedDivsSpec)

/-- ITS FALSE NEIGHBOUR: 'it returns false'. Refute it at one input. -/
def signedDivsWrong : ChangeSpec := { name := "signedDivs", fn := fun _ => fun
  | [d1, d2] => { results := [.lit (.bool false)], args := [d1, d2] }
  | _ => none }
def SignedDivsWrongFalsely : Prop := signedDivsRow.holds Try.pinned (OpenSpec.ofChange signedDivsWrong)

/-- 'touchstonelaw03.SignedGcd': WHATEVER THE INPUT: true; the input reads as it did. -/
def signedGcdSpec : ChangeSpec := { name := "signedGcd", fn := fun _ => fun
  | [d1, d2, d3] => { results := [.lit (.bool true)], args := [d1, d2, d3] }
  | _ => none }
def signedGcdRow : OpenClaim := { program := "ytmhjjjffgpdolaa", sum := "6cf58fdc2260d12d1695eecdbb198657c2e5f744cd83c26ffa356b966cdff0c6", func := "touchstone/touchstonelaw03.SignedGcd", spec := "signedGcd", unfollowed := true, recurses := true, named := ["math/bits.overflowError"], apart := false }
def SignedGcdSaid : Prop := signedGcdRow.holds Try.pinned (OpenSpec.ofChange signedGcdSpec)

/-- ITS FALSE NEIGHBOUR: 'it returns false'. Refute it at one input. -/
def signedGcdWrong : ChangeSpec := { name := "signedGcd", fn := fun _ => fun
  | [d1, d2, d3] => { results := [.lit (.bool false)], args := [d1, d2, d3] }
  | _ => none }
def SignedGcdWrongFalsely : Prop := signedGcdRow.holds Try.pinned (OpenSpec.ofChange signedGcdWrong)

/-- 'touchstonelaw03.SignedMakes': WHATEVER THE INPUT: true; the input reads as it did. -/
def signedMakesSpec : ChangeSpec := { name := "signedMakes", fn := fun _ => fun
  | [d1, d2, d3] => { results := [.lit (.bool true)], args := [d1, d2, d3] }
  | _ => none }
def signedMakesRow : OpenClaim := { program := "ytmhjjjffgpdolaa", sum := "6cf58fdc2260d12d1695eecdbb198657c2e5f744cd83c26ffa356b966cdff0c6", func := "touchstone/touchstonelaw03.SignedMakes", spec := "signedMakes", named := ["math/bits.overflowError"], apart := false }
def SignedMakesSaid : Prop := signedMakesRow.holds Try.pinned (OpenSpec.ofChange signedMakesSpec)

/-- ITS FALSE NEIGHBOUR: 'it returns false'. Refute it at one input. -/
def signedMakesWrong : ChangeSpec := { name := "signedMakes", fn := fun _ => fun
  | [d1, d2, d3] => { results := [.lit (.bool false)], args := [d1, d2, d3] }
  | _ => none }
def SignedMakesWrongFalsely : Prop := signedMakesRow.holds Try.pinned (OpenSpec.ofChange signedMakesWrong)

/-- 'touchstonelaw03.SignedSums': WHATEVER THE INPUT: true; the input reads as it did. -/
def signedSumsSpec : ChangeSpec := { name := "signedSums", fn := fun _ => fun
  | [d1, d2] => { results := [.lit (.bool true)], args := [d1, d2] }
  | _ => none }
def signedSumsRow : OpenClaim := { program := "ytmhjjjffgpdolaa", sum := "6cf58fdc2260d12d1695eecdbb198657c2e5f744cd83c26ffa356b966cdff0c6", func := "touchstone/touchstonelaw03.SignedSums", spec := "signedSums", named := ["math/bits.overflowError"], apart := false }
def SignedSumsSaid : Prop := signedSumsRow.holds Try.pinned (OpenSpec.ofChange signedSumsSpec)

/-- ITS FALSE NEIGHBOUR: 'it returns false'. Refute it at one input. -/
def signedSumsWrong : ChangeSpec := { name := "signedSums", fn := fun _ => fun
  | [d1, d2] => { results := [.lit (.bool false)], args := [d1, d2] }
  | _ => none }
def SignedSumsWrongFalsely : Prop := signedSumsRow.holds Try.pinned (OpenSpec.ofChange signedSumsWrong)

/-- 'touchstonelaw03.SignedLaws': WHATEVER THE INPUT: true; the input reads as it did. -/
def signedLawsSpec : ChangeSpec := { name := "signedLaws", fn := fun _ => fun
  | [d1, d2, d3] => { results := [.lit (.bool true)], args := [d1, d2, d3] }
  | _ => none }
def signedLawsRow : OpenClaim := { program := "ytmhjjjffgpdolaa", sum := "6cf58fdc2260d12d1695eecdbb198657c2e5f744cd83c26ffa356b966cdff0c6", func := "touchstone/touchstonelaw03.SignedLaws", spec := "signedLaws", unfollowed := true, recurses := true, named := ["math/bits.overflowError"], apart := false }
def SignedLawsSaid : Prop := signedLawsRow.holds Try.pinned (OpenSpec.ofChange signedLawsSpec)

/-- ITS FALSE NEIGHBOUR: 'it returns false'. Refute it at one input. -/
def signedLawsWrong : ChangeSpec := { name := "signedLaws", fn := fun _ => fun
  | [d1, d2, d3] => { results := [.lit (.bool false)], args := [d1, d2, d3] }
  | _ => none }
def SignedLawsWrongFalsely : Prop := signedLawsRow.holds Try.pinned (OpenSpec.ofChange signedLawsWrong)

/-- 'touchstonelaw03.SignedSmall': WHATEVER THE INPUT: true; the input reads as it did. -/
def signedSmallSpec : ChangeSpec := { name := "signedSmall", fn := fun _ => fun
  | [d1, d2] => { results := [.lit (.bool true)], args := [d1, d2] }
  | _ => none }
def signedSmallRow : OpenClaim := { program := "ytmhjjjffgpdolaa", sum := "6cf58fdc2260d12d1695eecdbb198657c2e5f744cd83c26ffa356b966cdff0c6", func := "touchstone/touchstonelaw03.SignedSmall", spec := "signedSmall", named := ["math/bits.overflowError"], apart := false }
def SignedSmallSaid : Prop := signedSmallRow.holds Try.pinned (OpenSpec.ofChange signedSmallSpec)

/-- ITS FALSE NEIGHBOUR: 'it returns false'. Refute it at one input. -/
def signedSmallWrong : ChangeSpec := { name := "signedSmall", fn := fun _ => fun
  | [d1, d2] => { results := [.lit (.bool false)], args := [d1, d2] }
  | _ => none }
def SignedSmallWrongFalsely : Prop := signedSmallRow.holds Try.pinned (OpenSpec.ofChange signedSmallWrong)

/-- 'touchstonelaw03.SignedTexts': WHATEVER THE INPUT: true; the input reads as it did. -/
def signedTextsSpec : ChangeSpec := { name := "signedTexts", fn := fun _ => fun
  | [d1, d2] => { results := [.lit (.bool true)], args := [d1, d2] }
  | _ => none }
def signedTextsRow : OpenClaim := { program := "ytmhjjjffgpdolaa", sum := "6cf58fdc2260d12d1695eecdbb198657c2e5f744cd83c26ffa356b966cdff0c6", func := "touchstone/touchstonelaw03.SignedTexts", spec := "signedTexts", named := ["math/bits.overflowError"], apart := false }
def SignedTextsSaid : Prop := signedTextsRow.holds Try.pinned (OpenSpec.ofChange signedTextsSpec)

/-- ITS FALSE NEIGHBOUR: 'it returns false'. Refute it at one input. -/
def signedTextsWrong : ChangeSpec := { name := "signedTexts", fn := fun _ => fun
  | [d1, d2] => { results := [.lit (.bool false)], args := [d1, d2] }
  | _ => none }
def SignedTextsWrongFalsely : Prop := signedTextsRow.holds Try.pinned (OpenSpec.ofChange signedTextsWrong)

/-- 'touchstonelaw03.SignedBack': WHATEVER THE INPUT: true; the input reads as it did. -/
def signedBackSpec : ChangeSpec := { name := "signedBack", fn := fun _ => fun
  | [d1, d2, d3] => { results := [.lit (.bool true)], args := [d1, d2, d3] }
  | _ => none }
def signedBackRow : OpenClaim := { program := "ytmhjjjffgpdolaa", sum := "6cf58fdc2260d12d1695eecdbb198657c2e5f744cd83c26ffa356b966cdff0c6", func := "touchstone/touchstonelaw03.SignedBack", spec := "signedBack", named := ["math/bits.overflowError"], apart := false }
def SignedBackSaid : Prop := signedBackRow.holds Try.pinned (OpenSpec.ofChange signedBackSpec)

/-- ITS FALSE NEIGHBOUR: 'it returns false'. Refute it at one input. -/
def signedBackWrong : ChangeSpec := { name := "signedBack", fn := fun _ => fun
  | [d1, d2, d3] => { results := [.lit (.bool false)], args := [d1, d2, d3] }
  | _ => none }
def SignedBackWrongFalsely : Prop := signedBackRow.holds Try.pinned (OpenSpec.ofChange signedBackWrong)

/- THE SECOND FORM. 'bulk': how many values and letters a reading holds, each counted each time it is reached (what is shared counts as often as it is met; a slice's spare places count too). A statement '..UptoSaid' is the law's where the arguments, and the package variables that the reading takes, are together of bulk at most 1048576: NARROWER than '..Said'. Prove '..Said' where nothing that the law and all that it calls make is longer than what came in: it says more and counts as full. Else prove '..UptoSaid'. A law counts once. -/
mutual
def uptoBulk {H : Type} : DataW H → Nat
  | .lit (.string bytes) => bytes.length + 1
  | .lit _ => 1
  | .nil => 1
  | .ptr d => uptoBulk d + 1
  | .slice elems spare => uptoBulkAll elems + uptoBulkAll spare + 1
  | .agg parts => uptoBulkAll parts + 1
  | .iface _ d => uptoBulk d + 1
  | .map entries => uptoBulkEntries entries + 1
  | .held _ => 1
def uptoBulkAll {H : Type} : List (DataW H) → Nat
  | [] => 0
  | d :: r => uptoBulk d + uptoBulkAll r
def uptoBulkEntries {H : Type} : List (Lit × DataW H) → Nat
  | [] => 0
  | x :: r => uptoBulkEntry x + uptoBulkEntries r
def uptoBulkEntry {H : Type} : Lit × DataW H → Nat
  | (.string bytes, d) => bytes.length + uptoBulk d + 1
  | (_, d) => uptoBulk d + 1
 end
def uptoSmall : (H : Type) → List (DataW H) → Bool := fun _ ds => decide (uptoBulkAll ds ≤ 1048576)
def OpenSpec.upto (s : _root_.Go.ChangeSpec) : _root_.Go.OpenSpec := { _root_.Go.OpenSpec.ofChange s with cond := some uptoSmall }

/-- 'touchstonelaw03.SignedDivs', WHERE WHAT IT READS IS OF BULK AT MOST 1048576: true; the input reads as it did. -/
def signedDivsUptoRow : OpenClaim := { program := "ytmhjjjffgpdolaa", sum := "6cf58fdc2260d12d1695eecdbb198657c2e5f744cd83c26ffa356b966cdff0c6", func := "touchstone/touchstonelaw03.SignedDivs", spec := "signedDivs", named := ["math/bits.overflowError"], apart := false, narrowed := true }
def SignedDivsUptoSaid : Prop := signedDivsUptoRow.holds Try.pinned (OpenSpec.upto signedDivsSpec)

/-- 'touchstonelaw03.SignedGcd', WHERE WHAT IT READS IS OF BULK AT MOST 1048576: true; the input reads as it did. -/
def signedGcdUptoRow : OpenClaim := { program := "ytmhjjjffgpdolaa", sum := "6cf58fdc2260d12d1695eecdbb198657c2e5f744cd83c26ffa356b966cdff0c6", func := "touchstone/touchstonelaw03.SignedGcd", spec := "signedGcd", unfollowed := true, recurses := true, named := ["math/bits.overflowError"], apart := false, narrowed := true }
def SignedGcdUptoSaid : Prop := signedGcdUptoRow.holds Try.pinned (OpenSpec.upto signedGcdSpec)

/-- 'touchstonelaw03.SignedMakes', WHERE WHAT IT READS IS OF BULK AT MOST 1048576: true; the input reads as it did. -/
def signedMakesUptoRow : OpenClaim := { program := "ytmhjjjffgpdolaa", sum := "6cf58fdc2260d12d1695eecdbb198657c2e5f744cd83c26ffa356b966cdff0c6", func := "touchstone/touchstonelaw03.SignedMakes", spec := "signedMakes", named := ["math/bits.overflowError"], apart := false, narrowed := true }
def SignedMakesUptoSaid : Prop := signedMakesUptoRow.holds Try.pinned (OpenSpec.upto signedMakesSpec)

/-- 'touchstonelaw03.SignedSums', WHERE WHAT IT READS IS OF BULK AT MOST 1048576: true; the input reads as it did. -/
def signedSumsUptoRow : OpenClaim := { program := "ytmhjjjffgpdolaa", sum := "6cf58fdc2260d12d1695eecdbb198657c2e5f744cd83c26ffa356b966cdff0c6", func := "touchstone/touchstonelaw03.SignedSums", spec := "signedSums", named := ["math/bits.overflowError"], apart := false, narrowed := true }
def SignedSumsUptoSaid : Prop := signedSumsUptoRow.holds Try.pinned (OpenSpec.upto signedSumsSpec)

/-- 'touchstonelaw03.SignedLaws', WHERE WHAT IT READS IS OF BULK AT MOST 1048576: true; the input reads as it did. -/
def signedLawsUptoRow : OpenClaim := { program := "ytmhjjjffgpdolaa", sum := "6cf58fdc2260d12d1695eecdbb198657c2e5f744cd83c26ffa356b966cdff0c6", func := "touchstone/touchstonelaw03.SignedLaws", spec := "signedLaws", unfollowed := true, recurses := true, named := ["math/bits.overflowError"], apart := false, narrowed := true }
def SignedLawsUptoSaid : Prop := signedLawsUptoRow.holds Try.pinned (OpenSpec.upto signedLawsSpec)

/-- 'touchstonelaw03.SignedSmall', WHERE WHAT IT READS IS OF BULK AT MOST 1048576: true; the input reads as it did. -/
def signedSmallUptoRow : OpenClaim := { program := "ytmhjjjffgpdolaa", sum := "6cf58fdc2260d12d1695eecdbb198657c2e5f744cd83c26ffa356b966cdff0c6", func := "touchstone/touchstonelaw03.SignedSmall", spec := "signedSmall", named := ["math/bits.overflowError"], apart := false, narrowed := true }
def SignedSmallUptoSaid : Prop := signedSmallUptoRow.holds Try.pinned (OpenSpec.upto signedSmallSpec)

/-- 'touchstonelaw03.SignedTexts', WHERE WHAT IT READS IS OF BULK AT MOST 1048576: true; the input reads as it did. -/
def signedTextsUptoRow : OpenClaim := { program := "ytmhjjjffgpdolaa", sum := "6cf58fdc2260d12d1695eecdbb198657c2e5f744cd83c26ffa356b966cdff0c6", func := "touchstone/touchstonelaw03.SignedTexts", spec := "signedTexts", named := ["math/bits.overflowError"], apart := false, narrowed := true }
def SignedTextsUptoSaid : Prop := signedTextsUptoRow.holds Try.pinned (OpenSpec.upto signedTextsSpec)

/-- 'touchstonelaw03.SignedBack', WHERE WHAT IT READS IS OF BULK AT MOST 1048576: true; the input reads as it did. -/
def signedBackUptoRow : OpenClaim := { program := "ytmhjjjffgpdolaa", sum := "6cf58fdc2260d12d1695eecdbb198657c2e5f744cd83c26ffa356b966cdff0c6", func := "touchstone/touchstonelaw03.SignedBack", spec := "signedBack", named := ["math/bits.overflowError"], apart := false, narrowed := true }
def SignedBackUptoSaid : Prop := signedBackUptoRow.holds Try.pinned (OpenSpec.upto signedBackSpec)

end Rows
end Go.Proofs.Ytmhjjjffgpdolaa

/-
  No cell of these rows narrows 'for every input' (looked for: loops, veiled, ifaces, maps, wideKeys, modest, calm, conditions, laid).
  DERIVED. THE GIVEN ROWS OF THIS SEAT. 8 by the template 'for every input the law returns true; each argument reads behind the call as it read before'; 0 by the template 'total and deterministic' (their statements: YtdhikpfppbcjkaaTotals.lean).
  GIVEN WITH THE SEED: the statements are not yours to turn. If you find one false, say at which input.
  Laid BY PROGRAM, IN A SANDBOX (cutbox-rows.mjs): the forced cells as the released guide's own fill.sh prints them over the translation facade634eb75ffa… (all of the seat's roots in one cut). By AI agents, Wed Nov 11 2026. No macro, syntax, notation, axiom, sorry.
-/
import Derived.Test.YtdhikpfppbcjkaaChecked
import GoSem.Claim
import GoSem.ClaimJoined
import GoSem.ClaimMapViews
import Derived.JoinedTies
import Derived.KernelRfl
namespace Go.Proofs.Ytdhikpfppbcjkaa
/- THE CELL 'sum', in the pinned program and in every row, IS THE sha256 OF THE DUMP (.gsa) THAT YtdhikpfppbcjkaaProg.lean LOADS. Nothing in Lean hashes anything: it is a label: what it is worth is what the hold of that sum in a sandbox is worth. -/
noncomputable def Try.pinned : Pinned := { name := "ytdhikpfppbcjkaa", sum := "facade634eb75ffaf87b3a26c070deff5382d0ecbadcecab5a5f3ebd69a351f1", checked := Try.checked }
namespace Rows
def none {H : Type} : Left H := { results := [], args := [] }

/-- 'touchstonelaw04.RatioMakes': WHATEVER THE INPUT: true; the input reads as it did. -/
def ratioMakesSpec : ChangeSpec := { name := "ratioMakes", fn := fun _ => fun
  | [d1, d2] => { results := [.lit (.bool true)], args := [d1, d2] }
  | _ => none }
def ratioMakesRow : OpenClaim := { program := "ytdhikpfppbcjkaa", sum := "facade634eb75ffaf87b3a26c070deff5382d0ecbadcecab5a5f3ebd69a351f1", func := "touchstone/touchstonelaw04.RatioMakes", spec := "ratioMakes", named := ["math/bits.overflowError"], apart := false }
def RatioMakesSaid : Prop := ratioMakesRow.holds Try.pinned (OpenSpec.ofChange ratioMakesSpec)

/-- ITS FALSE NEIGHBOUR: 'it returns false'. Refute it at one input. -/
def ratioMakesWrong : ChangeSpec := { name := "ratioMakes", fn := fun _ => fun
  | [d1, d2] => { results := [.lit (.bool false)], args := [d1, d2] }
  | _ => none }
def RatioMakesWrongFalsely : Prop := ratioMakesRow.holds Try.pinned (OpenSpec.ofChange ratioMakesWrong)

/-- 'touchstonelaw04.RatioRounds': WHATEVER THE INPUT: true; the input reads as it did. -/
def ratioRoundsSpec : ChangeSpec := { name := "ratioRounds", fn := fun _ => fun
  | [d] => { results := [.lit (.bool true)], args := [d] }
  | _ => none }
def ratioRoundsRow : OpenClaim := { program := "ytdhikpfppbcjkaa", sum := "facade634eb75ffaf87b3a26c070deff5382d0ecbadcecab5a5f3ebd69a351f1", func := "touchstone/touchstonelaw04.RatioRounds", spec := "ratioRounds", named := ["math/bits.overflowError"], apart := false }
def RatioRoundsSaid : Prop := ratioRoundsRow.holds Try.pinned (OpenSpec.ofChange ratioRoundsSpec)

/-- ITS FALSE NEIGHBOUR: 'it returns false'. Refute it at one input. -/
def ratioRoundsWrong : ChangeSpec := { name := "ratioRounds", fn := fun _ => fun
  | [d] => { results := [.lit (.bool false)], args := [d] }
  | _ => none }
def RatioRoundsWrongFalsely : Prop := ratioRoundsRow.holds Try.pinned (OpenSpec.ofChange ratioRoundsWrong)

/-- 'touchstonelaw04.RatioMuls': WHATEVER THE INPUT: true; the input reads as it did. -/
def ratioMulsSpec : ChangeSpec := { name := "ratioMuls", fn := fun _ => fun
  | [d1, d2] => { results := [.lit (.bool true)], args := [d1, d2] }
  | _ => none }
def ratioMulsRow : OpenClaim := { program := "ytdhikpfppbcjkaa", sum := "facade634eb75ffaf87b3a26c070deff5382d0ecbadcecab5a5f3ebd69a351f1", func := "touchstone/touchstonelaw04.RatioMuls", spec := "ratioMuls", named := ["math/bits.overflowError"], apart := false }
def RatioMulsSaid : Prop := ratioMulsRow.holds Try.pinned (OpenSpec.ofChange ratioMulsSpec)

/-- ITS FALSE NEIGHBOUR: 'it returns false'. Refute it at one input. -/
def ratioMulsWrong : ChangeSpec := { name := "ratioMuls", fn := fun _ => fun
  | [d1, d2] => { results := [.lit (.bool false)], args := [d1, d2] }
  | _ => none }
def RatioMulsWrongFalsely : Prop := ratioMulsRow.holds Try.pinned (OpenSpec.ofChange ratioMulsWrong)

/-- 'touchstonelaw04.RatioLaws': WHATEVER THE INPUT: true; the input reads as it did. -/
def ratioLawsSpec : ChangeSpec := { name := "ratioLaws", fn := fun _ => fun
  | [d1, d2, d3] => { results := [.lit (.bool true)], args := [d1, d2, d3] }
  | _ => none }
def ratioLawsRow : OpenClaim := { program := "ytdhikpfppbcjkaa", sum := "facade634eb75ffaf87b3a26c070deff5382d0ecbadcecab5a5f3ebd69a351f1", func := "touchstone/touchstonelaw04.RatioLaws", spec := "ratioLaws", unfollowed := true, recurses := true, named := ["math/bits.overflowError"], apart := false }
def RatioLawsSaid : Prop := ratioLawsRow.holds Try.pinned (OpenSpec.ofChange ratioLawsSpec)

/-- ITS FALSE NEIGHBOUR: 'it returns false'. Refute it at one input. -/
def ratioLawsWrong : ChangeSpec := { name := "ratioLaws", fn := fun _ => fun
  | [d1, d2, d3] => { results := [.lit (.bool false)], args := [d1, d2, d3] }
  | _ => none }
def RatioLawsWrongFalsely : Prop := ratioLawsRow.holds Try.pinned (OpenSpec.ofChange ratioLawsWrong)

/-- 'touchstonelaw04.RatioOrder': WHATEVER THE INPUT: true; the input reads as it did. -/
def ratioOrderSpec : ChangeSpec := { name := "ratioOrder", fn := fun _ => fun
  | [d1, d2, d3] => { results := [.lit (.bool true)], args := [d1, d2, d3] }
  | _ => none }
def ratioOrderRow : OpenClaim := { program := "ytdhikpfppbcjkaa", sum := "facade634eb75ffaf87b3a26c070deff5382d0ecbadcecab5a5f3ebd69a351f1", func := "touchstone/touchstonelaw04.RatioOrder", spec := "ratioOrder", named := ["math/bits.overflowError"], apart := false }
def RatioOrderSaid : Prop := ratioOrderRow.holds Try.pinned (OpenSpec.ofChange ratioOrderSpec)

/-- ITS FALSE NEIGHBOUR: 'it returns false'. Refute it at one input. -/
def ratioOrderWrong : ChangeSpec := { name := "ratioOrder", fn := fun _ => fun
  | [d1, d2, d3] => { results := [.lit (.bool false)], args := [d1, d2, d3] }
  | _ => none }
def RatioOrderWrongFalsely : Prop := ratioOrderRow.holds Try.pinned (OpenSpec.ofChange ratioOrderWrong)

/-- 'touchstonelaw04.RatioSums': WHATEVER THE INPUT: true; the input reads as it did. -/
def ratioSumsSpec : ChangeSpec := { name := "ratioSums", fn := fun _ => fun
  | [d1, d2] => { results := [.lit (.bool true)], args := [d1, d2] }
  | _ => none }
def ratioSumsRow : OpenClaim := { program := "ytdhikpfppbcjkaa", sum := "facade634eb75ffaf87b3a26c070deff5382d0ecbadcecab5a5f3ebd69a351f1", func := "touchstone/touchstonelaw04.RatioSums", spec := "ratioSums", named := ["math/bits.overflowError"], apart := false }
def RatioSumsSaid : Prop := ratioSumsRow.holds Try.pinned (OpenSpec.ofChange ratioSumsSpec)

/-- ITS FALSE NEIGHBOUR: 'it returns false'. Refute it at one input. -/
def ratioSumsWrong : ChangeSpec := { name := "ratioSums", fn := fun _ => fun
  | [d1, d2] => { results := [.lit (.bool false)], args := [d1, d2] }
  | _ => none }
def RatioSumsWrongFalsely : Prop := ratioSumsRow.holds Try.pinned (OpenSpec.ofChange ratioSumsWrong)

/-- 'touchstonelaw04.RatioBetween': WHATEVER THE INPUT: true; the input reads as it did. -/
def ratioBetweenSpec : ChangeSpec := { name := "ratioBetween", fn := fun _ => fun
  | [d] => { results := [.lit (.bool true)], args := [d] }
  | _ => none }
def ratioBetweenRow : OpenClaim := { program := "ytdhikpfppbcjkaa", sum := "facade634eb75ffaf87b3a26c070deff5382d0ecbadcecab5a5f3ebd69a351f1", func := "touchstone/touchstonelaw04.RatioBetween", spec := "ratioBetween", named := ["math/bits.overflowError"], apart := false }
def RatioBetweenSaid : Prop := ratioBetweenRow.holds Try.pinned (OpenSpec.ofChange ratioBetweenSpec)

/-- ITS FALSE NEIGHBOUR: 'it returns false'. Refute it at one input. -/
def ratioBetweenWrong : ChangeSpec := { name := "ratioBetween", fn := fun _ => fun
  | [d] => { results := [.lit (.bool false)], args := [d] }
  | _ => none }
def RatioBetweenWrongFalsely : Prop := ratioBetweenRow.holds Try.pinned (OpenSpec.ofChange ratioBetweenWrong)

/-- 'touchstonelaw04.RatioWhole': WHATEVER THE INPUT: true; the input reads as it did. -/
def ratioWholeSpec : ChangeSpec := { name := "ratioWhole", fn := fun _ => fun
  | [d1, d2] => { results := [.lit (.bool true)], args := [d1, d2] }
  | _ => none }
def ratioWholeRow : OpenClaim := { program := "ytdhikpfppbcjkaa", sum := "facade634eb75ffaf87b3a26c070deff5382d0ecbadcecab5a5f3ebd69a351f1", func := "touchstone/touchstonelaw04.RatioWhole", spec := "ratioWhole", named := ["math/bits.overflowError"], apart := false }
def RatioWholeSaid : Prop := ratioWholeRow.holds Try.pinned (OpenSpec.ofChange ratioWholeSpec)

/-- ITS FALSE NEIGHBOUR: 'it returns false'. Refute it at one input. -/
def ratioWholeWrong : ChangeSpec := { name := "ratioWhole", fn := fun _ => fun
  | [d1, d2] => { results := [.lit (.bool false)], args := [d1, d2] }
  | _ => none }
def RatioWholeWrongFalsely : Prop := ratioWholeRow.holds Try.pinned (OpenSpec.ofChange ratioWholeWrong)

/- THE SECOND FORM. 'bulk': how many values and letters a reading holds, each counted each time it is reached (what is shared counts as often as it is met; a slice's spare places count too). A statement '..UptoSaid' is the law's where the arguments, and the package variables that the reading takes, are together of bulk at most 1048576: NARROWER than '..Said'. Prove '..Said' where nothing that the law and all that it calls make is longer than what came in: it says more and counts as full. Else prove '..UptoSaid'. A law counts once. -/
mutual
def uptoBulk {H : Type} : DataW H → Nat
  | .lit (.string bytes) => bytes.length + 1
  | .lit _ => 1
  | .nil => 1
  | .ptr d => uptoBulk d + 1
  | .slice elems spare => uptoBulkAll elems + uptoBulkAll spare + 1
  | .agg parts => uptoBulkAll parts + 1
  | .iface _ d => uptoBulk d + 1
  | .map entries => uptoBulkEntries entries + 1
  | .held _ => 1
def uptoBulkAll {H : Type} : List (DataW H) → Nat
  | [] => 0
  | d :: r => uptoBulk d + uptoBulkAll r
def uptoBulkEntries {H : Type} : List (Lit × DataW H) → Nat
  | [] => 0
  | x :: r => uptoBulkEntry x + uptoBulkEntries r
def uptoBulkEntry {H : Type} : Lit × DataW H → Nat
  | (.string bytes, d) => bytes.length + uptoBulk d + 1
  | (_, d) => uptoBulk d + 1
 end
def uptoSmall : (H : Type) → List (DataW H) → Bool := fun _ ds => decide (uptoBulkAll ds ≤ 1048576)
def OpenSpec.upto (s : _root_.Go.ChangeSpec) : _root_.Go.OpenSpec := { _root_.Go.OpenSpec.ofChange s with cond := some uptoSmall }

/-- 'touchstonelaw04.RatioMakes', WHERE WHAT IT READS IS OF BULK AT MOST 1048576: true; the input reads as it did. -/
def ratioMakesUptoRow : OpenClaim := { program := "ytdhikpfppbcjkaa", sum := "facade634eb75ffaf87b3a26c070deff5382d0ecbadcecab5a5f3ebd69a351f1", func := "touchstone/touchstonelaw04.RatioMakes", spec := "ratioMakes", named := ["math/bits.overflowError"], apart := false, narrowed := true }
def RatioMakesUptoSaid : Prop := ratioMakesUptoRow.holds Try.pinned (OpenSpec.upto ratioMakesSpec)

/-- 'touchstonelaw04.RatioRounds', WHERE WHAT IT READS IS OF BULK AT MOST 1048576: true; the input reads as it did. -/
def ratioRoundsUptoRow : OpenClaim := { program := "ytdhikpfppbcjkaa", sum := "facade634eb75ffaf87b3a26c070deff5382d0ecbadcecab5a5f3ebd69a351f1", func := "touchstone/touchstonelaw04.RatioRounds", spec := "ratioRounds", named := ["math/bits.overflowError"], apart := false, narrowed := true }
def RatioRoundsUptoSaid : Prop := ratioRoundsUptoRow.holds Try.pinned (OpenSpec.upto ratioRoundsSpec)

/-- 'touchstonelaw04.RatioMuls', WHERE WHAT IT READS IS OF BULK AT MOST 1048576: true; the input reads as it did. -/
def ratioMulsUptoRow : OpenClaim := { program := "ytdhikpfppbcjkaa", sum := "facade634eb75ffaf87b3a26c070deff5382d0ecbadcecab5a5f3ebd69a351f1", func := "touchstone/touchstonelaw04.RatioMuls", spec := "ratioMuls", named := ["math/bits.overflowError"], apart := false, narrowed := true }
def RatioMulsUptoSaid : Prop := ratioMulsUptoRow.holds Try.pinned (OpenSpec.upto ratioMulsSpec)

/-- 'touchstonelaw04.RatioLaws', WHERE WHAT IT READS IS OF BULK AT MOST 1048576: true; the input reads as it did. -/
def ratioLawsUptoRow : OpenClaim := { program := "ytdhikpfppbcjkaa", sum := "facade634eb75ffaf87b3a26c070deff5382d0ecbadcecab5a5f3ebd69a351f1", func := "touchstone/touchstonelaw04.RatioLaws", spec := "ratioLaws", unfollowed := true, recurses := true, named := ["math/bits.overflowError"], apart := false, narrowed := true }
def RatioLawsUptoSaid : Prop := ratioLawsUptoRow.holds Try.pinned (OpenSpec.upto ratioLawsSpec)

/-- 'touchstonelaw04.RatioOrder', WHERE WHAT IT READS IS OF BULK AT MOST 1048576: true; the input reads as it did. -/
def ratioOrderUptoRow : OpenClaim := { program := "ytdhikpfppbcjkaa", sum := "facade634eb75ffaf87b3a26c070deff5382d0ecbadcecab5a5f3ebd69a351f1", func := "touchstone/touchstonelaw04.RatioOrder", spec := "ratioOrder", named := ["math/bits.overflowError"], apart := false, narrowed := true }
def RatioOrderUptoSaid : Prop := ratioOrderUptoRow.holds Try.pinned (OpenSpec.upto ratioOrderSpec)

/-- 'touchstonelaw04.RatioSums', WHERE WHAT IT READS IS OF BULK AT MOST 1048576: true; the input reads as it did. -/
def ratioSumsUptoRow : OpenClaim := { program := "ytdhikpfppbcjkaa", sum := "facade634eb75ffaf87b3a26c070deff5382d0ecbadcecab5a5f3ebd69a351f1", func := "touchstone/touchstonelaw04.RatioSums", spec := "ratioSums", named := ["math/bits.overflowError"], apart := false, narrowed := true }
def RatioSumsUptoSaid : Prop := ratioSumsUptoRow.holds Try.pinned (OpenSpec.upto ratioSumsSpec)

/-- 'touchstonelaw04.RatioBetween', WHERE WHAT IT READS IS OF BULK AT MOST 1048576: true; the input reads as it did. -/
def ratioBetweenUptoRow : OpenClaim := { program := "ytdhikpfppbcjkaa", sum := "facade634eb75ffaf87b3a26c070deff5382d0ecbadcecab5a5f3ebd69a351f1", func := "touchstone/touchstonelaw04.RatioBetween", spec := "ratioBetween", named := ["math/bits.overflowError"], apart := false, narrowed := true }
def RatioBetweenUptoSaid : Prop := ratioBetweenUptoRow.holds Try.pinned (OpenSpec.upto ratioBetweenSpec)

/-- 'touchstonelaw04.RatioWhole', WHERE WHAT IT READS IS OF BULK AT MOST 1048576: true; the input reads as it did. -/
def ratioWholeUptoRow : OpenClaim := { program := "ytdhikpfppbcjkaa", sum := "facade634eb75ffaf87b3a26c070deff5382d0ecbadcecab5a5f3ebd69a351f1", func := "touchstone/touchstonelaw04.RatioWhole", spec := "ratioWhole", named := ["math/bits.overflowError"], apart := false, narrowed := true }
def RatioWholeUptoSaid : Prop := ratioWholeUptoRow.holds Try.pinned (OpenSpec.upto ratioWholeSpec)

end Rows
end Go.Proofs.Ytdhikpfppbcjkaa

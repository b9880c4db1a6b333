/-
  No cell of these rows narrows 'for every input' (looked for: loops, veiled, ifaces, maps, wideKeys, modest, calm, conditions, laid).
  DERIVED. THE GIVEN ROWS OF THIS SEAT. 6 by the template 'for every input the law returns true; each argument reads behind the call as it read before'; 0 by the template 'total and deterministic' (their statements: YtpnmcacndjkfaaaGreatTotals.lean).
  GIVEN WITH THE SEED: the statements are not yours to turn. If you find one false, say at which input.
  Laid BY PROGRAM, IN A SANDBOX (cutbox-rows.mjs): the forced cells as the released guide's own fill.sh prints them over the translation 13e8f5369d6b841c… (all of the seat's roots in one cut). By AI agents, Wed Nov 11 2026. No macro, syntax, notation, axiom, sorry.
-/
import Derived.Test.YtpnmcacndjkfaaaGreatChecked
import GoSem.Claim
import GoSem.ClaimJoined
import GoSem.ClaimMapViews
import Derived.JoinedTies
import Derived.KernelRfl
namespace Go.Proofs.YtpnmcacndjkfaaaGreat
/- THE CELL 'sum', in the pinned program and in every row, IS THE sha256 OF THE DUMP (.gsa) THAT YtpnmcacndjkfaaaGreatProg.lean LOADS. Nothing in Lean hashes anything: it is a label: what it is worth is what the hold of that sum in a sandbox is worth. -/
noncomputable def Tryz.pinned : Pinned := { name := "ytpnmcacndjkfaaagreat", sum := "13e8f5369d6b841c46f82b753dbcb4c420b64ae9309a4f3b7d401c34dd8eef91", checked := Tryz.checked }
namespace Rows
def none {H : Type} : Left H := { results := [], args := [] }

/-- 'touchstonelaw20.PlexSolves': WHATEVER THE INPUT: true; the input reads as it did. -/
def plexSolvesSpec : ChangeSpec := { name := "plexSolves", fn := fun _ => fun
  | [d1, d2] => { results := [.lit (.bool true)], args := [d1, d2] }
  | _ => none }
def plexSolvesRow : OpenClaim := { program := "ytpnmcacndjkfaaagreat", sum := "13e8f5369d6b841c46f82b753dbcb4c420b64ae9309a4f3b7d401c34dd8eef91", func := "touchstone/touchstonelaw20.PlexSolves", spec := "plexSolves", unfollowed := true, recurses := true, named := ["math/bits.overflowError"], apart := false }
def PlexSolvesSaid : Prop := plexSolvesRow.holds Tryz.pinned (OpenSpec.ofChange plexSolvesSpec)

/-- ITS FALSE NEIGHBOUR: 'it returns false'. Refute it at one input. -/
def plexSolvesWrong : ChangeSpec := { name := "plexSolves", fn := fun _ => fun
  | [d1, d2] => { results := [.lit (.bool false)], args := [d1, d2] }
  | _ => none }
def PlexSolvesWrongFalsely : Prop := plexSolvesRow.holds Tryz.pinned (OpenSpec.ofChange plexSolvesWrong)

/-- 'touchstonelaw20.PlexLeast': WHATEVER THE INPUT: true; the input reads as it did. -/
def plexLeastSpec : ChangeSpec := { name := "plexLeast", fn := fun _ => fun
  | [d1, d2] => { results := [.lit (.bool true)], args := [d1, d2] }
  | _ => none }
def plexLeastRow : OpenClaim := { program := "ytpnmcacndjkfaaagreat", sum := "13e8f5369d6b841c46f82b753dbcb4c420b64ae9309a4f3b7d401c34dd8eef91", func := "touchstone/touchstonelaw20.PlexLeast", spec := "plexLeast", unfollowed := true, recurses := true, named := ["math/bits.overflowError"], apart := false }
def PlexLeastSaid : Prop := plexLeastRow.holds Tryz.pinned (OpenSpec.ofChange plexLeastSpec)

/-- ITS FALSE NEIGHBOUR: 'it returns false'. Refute it at one input. -/
def plexLeastWrong : ChangeSpec := { name := "plexLeast", fn := fun _ => fun
  | [d1, d2] => { results := [.lit (.bool false)], args := [d1, d2] }
  | _ => none }
def PlexLeastWrongFalsely : Prop := plexLeastRow.holds Tryz.pinned (OpenSpec.ofChange plexLeastWrong)

/-- 'touchstonelaw20.PlexEnds': WHATEVER THE INPUT: true; the input reads as it did. -/
def plexEndsSpec : ChangeSpec := { name := "plexEnds", fn := fun _ => fun
  | [d] => { results := [.lit (.bool true)], args := [d] }
  | _ => none }
def plexEndsRow : OpenClaim := { program := "ytpnmcacndjkfaaagreat", sum := "13e8f5369d6b841c46f82b753dbcb4c420b64ae9309a4f3b7d401c34dd8eef91", func := "touchstone/touchstonelaw20.PlexEnds", spec := "plexEnds", unfollowed := true, recurses := true, named := ["math/bits.overflowError"], apart := false }
def PlexEndsSaid : Prop := plexEndsRow.holds Tryz.pinned (OpenSpec.ofChange plexEndsSpec)

/-- ITS FALSE NEIGHBOUR: 'it returns false'. Refute it at one input. -/
def plexEndsWrong : ChangeSpec := { name := "plexEnds", fn := fun _ => fun
  | [d] => { results := [.lit (.bool false)], args := [d] }
  | _ => none }
def PlexEndsWrongFalsely : Prop := plexEndsRow.holds Tryz.pinned (OpenSpec.ofChange plexEndsWrong)

/-- 'touchstonelaw20.PlexBounds': WHATEVER THE INPUT: true; the input reads as it did. -/
def plexBoundsSpec : ChangeSpec := { name := "plexBounds", fn := fun _ => fun
  | [d1, d2] => { results := [.lit (.bool true)], args := [d1, d2] }
  | _ => none }
def plexBoundsRow : OpenClaim := { program := "ytpnmcacndjkfaaagreat", sum := "13e8f5369d6b841c46f82b753dbcb4c420b64ae9309a4f3b7d401c34dd8eef91", func := "touchstone/touchstonelaw20.PlexBounds", spec := "plexBounds", unfollowed := true, recurses := true, named := ["math/bits.overflowError"], apart := false }
def PlexBoundsSaid : Prop := plexBoundsRow.holds Tryz.pinned (OpenSpec.ofChange plexBoundsSpec)

/-- ITS FALSE NEIGHBOUR: 'it returns false'. Refute it at one input. -/
def plexBoundsWrong : ChangeSpec := { name := "plexBounds", fn := fun _ => fun
  | [d1, d2] => { results := [.lit (.bool false)], args := [d1, d2] }
  | _ => none }
def PlexBoundsWrongFalsely : Prop := plexBoundsRow.holds Tryz.pinned (OpenSpec.ofChange plexBoundsWrong)

/-- 'touchstonelaw20.PlexUnder': WHATEVER THE INPUT: true; the input reads as it did. -/
def plexUnderSpec : ChangeSpec := { name := "plexUnder", fn := fun _ => fun
  | [d1, d2, d3] => { results := [.lit (.bool true)], args := [d1, d2, d3] }
  | _ => none }
def plexUnderRow : OpenClaim := { program := "ytpnmcacndjkfaaagreat", sum := "13e8f5369d6b841c46f82b753dbcb4c420b64ae9309a4f3b7d401c34dd8eef91", func := "touchstone/touchstonelaw20.PlexUnder", spec := "plexUnder", unfollowed := true, recurses := true, named := ["math/bits.overflowError"], apart := false }
def PlexUnderSaid : Prop := plexUnderRow.holds Tryz.pinned (OpenSpec.ofChange plexUnderSpec)

/-- ITS FALSE NEIGHBOUR: 'it returns false'. Refute it at one input. -/
def plexUnderWrong : ChangeSpec := { name := "plexUnder", fn := fun _ => fun
  | [d1, d2, d3] => { results := [.lit (.bool false)], args := [d1, d2, d3] }
  | _ => none }
def PlexUnderWrongFalsely : Prop := plexUnderRow.holds Tryz.pinned (OpenSpec.ofChange plexUnderWrong)

/-- 'touchstonelaw20.PlexWeak': WHATEVER THE INPUT: true; the input reads as it did. -/
def plexWeakSpec : ChangeSpec := { name := "plexWeak", fn := fun _ => fun
  | [d1, d2] => { results := [.lit (.bool true)], args := [d1, d2] }
  | _ => none }
def plexWeakRow : OpenClaim := { program := "ytpnmcacndjkfaaagreat", sum := "13e8f5369d6b841c46f82b753dbcb4c420b64ae9309a4f3b7d401c34dd8eef91", func := "touchstone/touchstonelaw20.PlexWeak", spec := "plexWeak", unfollowed := true, recurses := true, named := ["math/bits.overflowError"], apart := false }
def PlexWeakSaid : Prop := plexWeakRow.holds Tryz.pinned (OpenSpec.ofChange plexWeakSpec)

/-- ITS FALSE NEIGHBOUR: 'it returns false'. Refute it at one input. -/
def plexWeakWrong : ChangeSpec := { name := "plexWeak", fn := fun _ => fun
  | [d1, d2] => { results := [.lit (.bool false)], args := [d1, d2] }
  | _ => none }
def PlexWeakWrongFalsely : Prop := plexWeakRow.holds Tryz.pinned (OpenSpec.ofChange plexWeakWrong)

/- THE SECOND FORM. 'bulk': how many values and letters a reading holds, each counted each time it is reached (what is shared counts as often as it is met; a slice's spare places count too). A statement '..UptoSaid' is the law's where the arguments, and the package variables that the reading takes, are together of bulk at most 1048576: NARROWER than '..Said'. Prove '..Said' where nothing that the law and all that it calls make is longer than what came in: it says more and counts as full. Else prove '..UptoSaid'. A law counts once. -/
mutual
def uptoBulk {H : Type} : DataW H → Nat
  | .lit (.string bytes) => bytes.length + 1
  | .lit _ => 1
  | .nil => 1
  | .ptr d => uptoBulk d + 1
  | .slice elems spare => uptoBulkAll elems + uptoBulkAll spare + 1
  | .agg parts => uptoBulkAll parts + 1
  | .iface _ d => uptoBulk d + 1
  | .map entries => uptoBulkEntries entries + 1
  | .held _ => 1
def uptoBulkAll {H : Type} : List (DataW H) → Nat
  | [] => 0
  | d :: r => uptoBulk d + uptoBulkAll r
def uptoBulkEntries {H : Type} : List (Lit × DataW H) → Nat
  | [] => 0
  | x :: r => uptoBulkEntry x + uptoBulkEntries r
def uptoBulkEntry {H : Type} : Lit × DataW H → Nat
  | (.string bytes, d) => bytes.length + uptoBulk d + 1
  | (_, d) => uptoBulk d + 1
 end
def uptoSmall : (H : Type) → List (DataW H) → Bool := fun _ ds => decide (uptoBulkAll ds ≤ 1048576)
def OpenSpec.upto (s : _root_.Go.ChangeSpec) : _root_.Go.OpenSpec := { _root_.Go.OpenSpec.ofChange s with cond := some uptoSmall }

/-- 'touchstonelaw20.PlexSolves', WHERE WHAT IT READS IS OF BULK AT MOST 1048576: true; the input reads as it did. -/
def plexSolvesUptoRow : OpenClaim := { program := "ytpnmcacndjkfaaagreat", sum := "13e8f5369d6b841c46f82b753dbcb4c420b64ae9309a4f3b7d401c34dd8eef91", func := "touchstone/touchstonelaw20.PlexSolves", spec := "plexSolves", unfollowed := true, recurses := true, named := ["math/bits.overflowError"], apart := false, narrowed := true }
def PlexSolvesUptoSaid : Prop := plexSolvesUptoRow.holds Tryz.pinned (OpenSpec.upto plexSolvesSpec)

/-- 'touchstonelaw20.PlexLeast', WHERE WHAT IT READS IS OF BULK AT MOST 1048576: true; the input reads as it did. -/
def plexLeastUptoRow : OpenClaim := { program := "ytpnmcacndjkfaaagreat", sum := "13e8f5369d6b841c46f82b753dbcb4c420b64ae9309a4f3b7d401c34dd8eef91", func := "touchstone/touchstonelaw20.PlexLeast", spec := "plexLeast", unfollowed := true, recurses := true, named := ["math/bits.overflowError"], apart := false, narrowed := true }
def PlexLeastUptoSaid : Prop := plexLeastUptoRow.holds Tryz.pinned (OpenSpec.upto plexLeastSpec)

/-- 'touchstonelaw20.PlexEnds', WHERE WHAT IT READS IS OF BULK AT MOST 1048576: true; the input reads as it did. -/
def plexEndsUptoRow : OpenClaim := { program := "ytpnmcacndjkfaaagreat", sum := "13e8f5369d6b841c46f82b753dbcb4c420b64ae9309a4f3b7d401c34dd8eef91", func := "touchstone/touchstonelaw20.PlexEnds", spec := "plexEnds", unfollowed := true, recurses := true, named := ["math/bits.overflowError"], apart := false, narrowed := true }
def PlexEndsUptoSaid : Prop := plexEndsUptoRow.holds Tryz.pinned (OpenSpec.upto plexEndsSpec)

/-- 'touchstonelaw20.PlexBounds', WHERE WHAT IT READS IS OF BULK AT MOST 1048576: true; the input reads as it did. -/
def plexBoundsUptoRow : OpenClaim := { program := "ytpnmcacndjkfaaagreat", sum := "13e8f5369d6b841c46f82b753dbcb4c420b64ae9309a4f3b7d401c34dd8eef91", func := "touchstone/touchstonelaw20.PlexBounds", spec := "plexBounds", unfollowed := true, recurses := true, named := ["math/bits.overflowError"], apart := false, narrowed := true }
def PlexBoundsUptoSaid : Prop := plexBoundsUptoRow.holds Tryz.pinned (OpenSpec.upto plexBoundsSpec)

/-- 'touchstonelaw20.PlexUnder', WHERE WHAT IT READS IS OF BULK AT MOST 1048576: true; the input reads as it did. -/
def plexUnderUptoRow : OpenClaim := { program := "ytpnmcacndjkfaaagreat", sum := "13e8f5369d6b841c46f82b753dbcb4c420b64ae9309a4f3b7d401c34dd8eef91", func := "touchstone/touchstonelaw20.PlexUnder", spec := "plexUnder", unfollowed := true, recurses := true, named := ["math/bits.overflowError"], apart := false, narrowed := true }
def PlexUnderUptoSaid : Prop := plexUnderUptoRow.holds Tryz.pinned (OpenSpec.upto plexUnderSpec)

/-- 'touchstonelaw20.PlexWeak', WHERE WHAT IT READS IS OF BULK AT MOST 1048576: true; the input reads as it did. -/
def plexWeakUptoRow : OpenClaim := { program := "ytpnmcacndjkfaaagreat", sum := "13e8f5369d6b841c46f82b753dbcb4c420b64ae9309a4f3b7d401c34dd8eef91", func := "touchstone/touchstonelaw20.PlexWeak", spec := "plexWeak", unfollowed := true, recurses := true, named := ["math/bits.overflowError"], apart := false, narrowed := true }
def PlexWeakUptoSaid : Prop := plexWeakUptoRow.holds Tryz.pinned (OpenSpec.upto plexWeakSpec)

end Rows
end Go.Proofs.YtpnmcacndjkfaaaGreat

/-
  No cell of these rows narrows 'for every input' (looked for: loops, veiled, ifaces, maps, wideKeys, modest, calm, conditions, laid).
  DERIVED. THE GIVEN ROWS OF THIS SEAT. 5 by the template 'for every input the law returns true; each argument reads behind the call as it read before'; 0 by the template 'total and deterministic' (their statements: YtecfcjdgmpopjaaGreatTotals.lean).
  GIVEN WITH THE SEED: the statements are not yours to turn. If you find one false, say at which input.
  Laid BY PROGRAM, IN A SANDBOX (cutbox-rows.mjs): the forced cells as the released guide's own fill.sh prints them over the translation 482ed3efb28e0821… (all of the seat's roots in one cut). By AI agents, Wed Nov 11 2026. No macro, syntax, notation, axiom, sorry.
-/
import Derived.Test.YtecfcjdgmpopjaaGreatChecked
import GoSem.Claim
import GoSem.ClaimJoined
import GoSem.ClaimMapViews
import Derived.JoinedTies
import Derived.KernelRfl
namespace Go.Proofs.YtecfcjdgmpopjaaGreat
/- THE CELL 'sum', in the pinned program and in every row, IS THE sha256 OF THE DUMP (.gsa) THAT YtecfcjdgmpopjaaGreatProg.lean LOADS. Nothing in Lean hashes anything: it is a label: what it is worth is what the hold of that sum in a sandbox is worth. -/
noncomputable def Tryz.pinned : Pinned := { name := "ytecfcjdgmpopjaagreat", sum := "482ed3efb28e0821ed4bee802e3a1b4aff416577f3f88db809bd200231f3a9d8", checked := Tryz.checked }
namespace Rows
def none {H : Type} : Left H := { results := [], args := [] }

/-- 'touchstonelaw21.RelaxPrograms': WHATEVER THE INPUT: true; the input reads as it did. -/
def relaxProgramsSpec : ChangeSpec := { name := "relaxPrograms", fn := fun _ => fun
  | [d1, d2] => { results := [.lit (.bool true)], args := [d1, d2] }
  | _ => none }
def relaxProgramsRow : OpenClaim := { program := "ytecfcjdgmpopjaagreat", sum := "482ed3efb28e0821ed4bee802e3a1b4aff416577f3f88db809bd200231f3a9d8", func := "touchstone/touchstonelaw21.RelaxPrograms", spec := "relaxPrograms", unfollowed := true, recurses := true, named := ["math/bits.overflowError"], apart := false }
def RelaxProgramsSaid : Prop := relaxProgramsRow.holds Tryz.pinned (OpenSpec.ofChange relaxProgramsSpec)

/-- ITS FALSE NEIGHBOUR: 'it returns false'. Refute it at one input. -/
def relaxProgramsWrong : ChangeSpec := { name := "relaxPrograms", fn := fun _ => fun
  | [d1, d2] => { results := [.lit (.bool false)], args := [d1, d2] }
  | _ => none }
def RelaxProgramsWrongFalsely : Prop := relaxProgramsRow.holds Tryz.pinned (OpenSpec.ofChange relaxProgramsWrong)

/-- 'touchstonelaw21.RelaxKeeps': WHATEVER THE INPUT: true; the input reads as it did. -/
def relaxKeepsSpec : ChangeSpec := { name := "relaxKeeps", fn := fun _ => fun
  | [d1, d2, d3] => { results := [.lit (.bool true)], args := [d1, d2, d3] }
  | _ => none }
def relaxKeepsRow : OpenClaim := { program := "ytecfcjdgmpopjaagreat", sum := "482ed3efb28e0821ed4bee802e3a1b4aff416577f3f88db809bd200231f3a9d8", func := "touchstone/touchstonelaw21.RelaxKeeps", spec := "relaxKeeps", unfollowed := true, recurses := true, named := ["math/bits.overflowError"], apart := false }
def RelaxKeepsSaid : Prop := relaxKeepsRow.holds Tryz.pinned (OpenSpec.ofChange relaxKeepsSpec)

/-- ITS FALSE NEIGHBOUR: 'it returns false'. Refute it at one input. -/
def relaxKeepsWrong : ChangeSpec := { name := "relaxKeeps", fn := fun _ => fun
  | [d1, d2, d3] => { results := [.lit (.bool false)], args := [d1, d2, d3] }
  | _ => none }
def RelaxKeepsWrongFalsely : Prop := relaxKeepsRow.holds Tryz.pinned (OpenSpec.ofChange relaxKeepsWrong)

/-- 'touchstonelaw21.RelaxPrunes': WHATEVER THE INPUT: true; the input reads as it did. -/
def relaxPrunesSpec : ChangeSpec := { name := "relaxPrunes", fn := fun _ => fun
  | [d1, d2, d3] => { results := [.lit (.bool true)], args := [d1, d2, d3] }
  | _ => none }
def relaxPrunesRow : OpenClaim := { program := "ytecfcjdgmpopjaagreat", sum := "482ed3efb28e0821ed4bee802e3a1b4aff416577f3f88db809bd200231f3a9d8", func := "touchstone/touchstonelaw21.RelaxPrunes", spec := "relaxPrunes", unfollowed := true, recurses := true, named := ["math/bits.overflowError"], apart := false }
def RelaxPrunesSaid : Prop := relaxPrunesRow.holds Tryz.pinned (OpenSpec.ofChange relaxPrunesSpec)

/-- ITS FALSE NEIGHBOUR: 'it returns false'. Refute it at one input. -/
def relaxPrunesWrong : ChangeSpec := { name := "relaxPrunes", fn := fun _ => fun
  | [d1, d2, d3] => { results := [.lit (.bool false)], args := [d1, d2, d3] }
  | _ => none }
def RelaxPrunesWrongFalsely : Prop := relaxPrunesRow.holds Tryz.pinned (OpenSpec.ofChange relaxPrunesWrong)

/-- 'touchstonelaw21.RelaxRows': WHATEVER THE INPUT: true; the input reads as it did. -/
def relaxRowsSpec : ChangeSpec := { name := "relaxRows", fn := fun _ => fun
  | [d] => { results := [.lit (.bool true)], args := [d] }
  | _ => none }
def relaxRowsRow : OpenClaim := { program := "ytecfcjdgmpopjaagreat", sum := "482ed3efb28e0821ed4bee802e3a1b4aff416577f3f88db809bd200231f3a9d8", func := "touchstone/touchstonelaw21.RelaxRows", spec := "relaxRows", unfollowed := true, recurses := true, named := ["math/bits.overflowError"], apart := false }
def RelaxRowsSaid : Prop := relaxRowsRow.holds Tryz.pinned (OpenSpec.ofChange relaxRowsSpec)

/-- ITS FALSE NEIGHBOUR: 'it returns false'. Refute it at one input. -/
def relaxRowsWrong : ChangeSpec := { name := "relaxRows", fn := fun _ => fun
  | [d] => { results := [.lit (.bool false)], args := [d] }
  | _ => none }
def RelaxRowsWrongFalsely : Prop := relaxRowsRow.holds Tryz.pinned (OpenSpec.ofChange relaxRowsWrong)

/-- 'touchstonelaw21.RelaxMore': WHATEVER THE INPUT: true; the input reads as it did. -/
def relaxMoreSpec : ChangeSpec := { name := "relaxMore", fn := fun _ => fun
  | [d1, d2, d3] => { results := [.lit (.bool true)], args := [d1, d2, d3] }
  | _ => none }
def relaxMoreRow : OpenClaim := { program := "ytecfcjdgmpopjaagreat", sum := "482ed3efb28e0821ed4bee802e3a1b4aff416577f3f88db809bd200231f3a9d8", func := "touchstone/touchstonelaw21.RelaxMore", spec := "relaxMore", unfollowed := true, recurses := true, named := ["math/bits.overflowError"], apart := false }
def RelaxMoreSaid : Prop := relaxMoreRow.holds Tryz.pinned (OpenSpec.ofChange relaxMoreSpec)

/-- ITS FALSE NEIGHBOUR: 'it returns false'. Refute it at one input. -/
def relaxMoreWrong : ChangeSpec := { name := "relaxMore", fn := fun _ => fun
  | [d1, d2, d3] => { results := [.lit (.bool false)], args := [d1, d2, d3] }
  | _ => none }
def RelaxMoreWrongFalsely : Prop := relaxMoreRow.holds Tryz.pinned (OpenSpec.ofChange relaxMoreWrong)

/- THE SECOND FORM. 'bulk': how many values and letters a reading holds, each counted each time it is reached (what is shared counts as often as it is met; a slice's spare places count too). A statement '..UptoSaid' is the law's where the arguments, and the package variables that the reading takes, are together of bulk at most 1048576: NARROWER than '..Said'. Prove '..Said' where nothing that the law and all that it calls make is longer than what came in: it says more and counts as full. Else prove '..UptoSaid'. A law counts once. -/
mutual
def uptoBulk {H : Type} : DataW H → Nat
  | .lit (.string bytes) => bytes.length + 1
  | .lit _ => 1
  | .nil => 1
  | .ptr d => uptoBulk d + 1
  | .slice elems spare => uptoBulkAll elems + uptoBulkAll spare + 1
  | .agg parts => uptoBulkAll parts + 1
  | .iface _ d => uptoBulk d + 1
  | .map entries => uptoBulkEntries entries + 1
  | .held _ => 1
def uptoBulkAll {H : Type} : List (DataW H) → Nat
  | [] => 0
  | d :: r => uptoBulk d + uptoBulkAll r
def uptoBulkEntries {H : Type} : List (Lit × DataW H) → Nat
  | [] => 0
  | x :: r => uptoBulkEntry x + uptoBulkEntries r
def uptoBulkEntry {H : Type} : Lit × DataW H → Nat
  | (.string bytes, d) => bytes.length + uptoBulk d + 1
  | (_, d) => uptoBulk d + 1
 end
def uptoSmall : (H : Type) → List (DataW H) → Bool := fun _ ds => decide (uptoBulkAll ds ≤ 1048576)
def OpenSpec.upto (s : _root_.Go.ChangeSpec) : _root_.Go.OpenSpec := { _root_.Go.OpenSpec.ofChange s with cond := some uptoSmall }

/-- 'touchstonelaw21.RelaxPrograms', WHERE WHAT IT READS IS OF BULK AT MOST 1048576: true; the input reads as it did. -/
def relaxProgramsUptoRow : OpenClaim := { program := "ytecfcjdgmpopjaagreat", sum := "482ed3efb28e0821ed4bee802e3a1b4aff416577f3f88db809bd200231f3a9d8", func := "touchstone/touchstonelaw21.RelaxPrograms", spec := "relaxPrograms", unfollowed := true, recurses := true, named := ["math/bits.overflowError"], apart := false, narrowed := true }
def RelaxProgramsUptoSaid : Prop := relaxProgramsUptoRow.holds Tryz.pinned (OpenSpec.upto relaxProgramsSpec)

/-- 'touchstonelaw21.RelaxKeeps', WHERE WHAT IT READS IS OF BULK AT MOST 1048576: true; the input reads as it did. -/
def relaxKeepsUptoRow : OpenClaim := { program := "ytecfcjdgmpopjaagreat", sum := "482ed3efb28e0821ed4bee802e3a1b4aff416577f3f88db809bd200231f3a9d8", func := "touchstone/touchstonelaw21.RelaxKeeps", spec := "relaxKeeps", unfollowed := true, recurses := true, named := ["math/bits.overflowError"], apart := false, narrowed := true }
def RelaxKeepsUptoSaid : Prop := relaxKeepsUptoRow.holds Tryz.pinned (OpenSpec.upto relaxKeepsSpec)

/-- 'touchstonelaw21.RelaxPrunes', WHERE WHAT IT READS IS OF BULK AT MOST 1048576: true; the input reads as it did. -/
def relaxPrunesUptoRow : OpenClaim := { program := "ytecfcjdgmpopjaagreat", sum := "482ed3efb28e0821ed4bee802e3a1b4aff416577f3f88db809bd200231f3a9d8", func := "touchstone/touchstonelaw21.RelaxPrunes", spec := "relaxPrunes", unfollowed := true, recurses := true, named := ["math/bits.overflowError"], apart := false, narrowed := true }
def RelaxPrunesUptoSaid : Prop := relaxPrunesUptoRow.holds Tryz.pinned (OpenSpec.upto relaxPrunesSpec)

/-- 'touchstonelaw21.RelaxRows', WHERE WHAT IT READS IS OF BULK AT MOST 1048576: true; the input reads as it did. -/
def relaxRowsUptoRow : OpenClaim := { program := "ytecfcjdgmpopjaagreat", sum := "482ed3efb28e0821ed4bee802e3a1b4aff416577f3f88db809bd200231f3a9d8", func := "touchstone/touchstonelaw21.RelaxRows", spec := "relaxRows", unfollowed := true, recurses := true, named := ["math/bits.overflowError"], apart := false, narrowed := true }
def RelaxRowsUptoSaid : Prop := relaxRowsUptoRow.holds Tryz.pinned (OpenSpec.upto relaxRowsSpec)

/-- 'touchstonelaw21.RelaxMore', WHERE WHAT IT READS IS OF BULK AT MOST 1048576: true; the input reads as it did. -/
def relaxMoreUptoRow : OpenClaim := { program := "ytecfcjdgmpopjaagreat", sum := "482ed3efb28e0821ed4bee802e3a1b4aff416577f3f88db809bd200231f3a9d8", func := "touchstone/touchstonelaw21.RelaxMore", spec := "relaxMore", unfollowed := true, recurses := true, named := ["math/bits.overflowError"], apart := false, narrowed := true }
def RelaxMoreUptoSaid : Prop := relaxMoreUptoRow.holds Tryz.pinned (OpenSpec.upto relaxMoreSpec)

end Rows
end Go.Proofs.YtecfcjdgmpopjaaGreat

/-
  LexSplits: the closed facts of its row, one by one.
-/
import Derived.Test.YtjjdpbfbpaobhaaDoorRows
import Derived.JoinedOf
import Derived.KernelRfl
import Derived.Test.YtjjdpbfbpaobhaaDoorOrder
namespace Go.Proofs.YtjjdpbfbpaobhaaDoor.lexSplits
theorem c0 : (Rows.lexSplitsRow.wf (OpenSpec.ofChange Rows.lexSplitsSpec)) = true := by kernel_rfl
theorem c1 : (laidOutB Tryd.prog) = true := by kernel_rfl
theorem c2 : (mapsRowed Tryd.prog) = true := by kernel_rfl
theorem c3 : (Tryd.f3.params.all (Tryd.prog.readableRec ·)) = true := by kernel_rfl
theorem c4 : (namedTie Tryd.prog Rows.lexSplitsRow.named Rows.lexSplitsSpec.vars) = true := by kernel_rfl
theorem c5 : ((Rows.lexSplitsRow.stops == [])) = true := by kernel_rfl
theorem c6 : ((Tryd.prog.stops == [])) = true := by kernel_rfl
theorem c7 : ((Rows.lexSplitsRow.knobs == [])) = true := by kernel_rfl
theorem c8 : ((Tryd.prog.stopKnobs == [])) = true := by kernel_rfl
theorem c9 : ((Rows.lexSplitsRow.inPlace == Tryd.prog.inPlace 3)) = true := by kernel_rfl
theorem c10 : ((Rows.lexSplitsRow.unfollowed == Tryd.prog.unfollowed 3)) = true := by kernel_rfl
theorem c11 : ((Rows.lexSplitsRow.recurses == Tryd.prog.recurses 3)) = true := by kernel_rfl
theorem c12 : ((Rows.lexSplitsRow.named == Tryd.prog.varsNamed 3)) = true := by kernel_rfl
theorem c13 : ((Rows.lexSplitsRow.maps == (Tryd.f3.params.toList ++ Rows.lexSplitsSpec.plain.varTypes Tryd.prog).any (Tryd.prog.mapsRec ·))) = true := by kernel_rfl
theorem c14 : ((Rows.lexSplitsRow.ifaces == (Tryd.f3.params.toList ++ Rows.lexSplitsSpec.plain.varTypes Tryd.prog).any (Tryd.prog.ifacesRec ·))) = true := by kernel_rfl
theorem c15 : ((Rows.lexSplitsRow.mapsOut == Tryd.prog.mapsAmong Tryd.f3.resultTypes.toList)) = true := by kernel_rfl
theorem c16 : ((Rows.lexSplitsRow.loops == (Tryd.f3.params.toList ++ Rows.lexSplitsSpec.plain.varTypes Tryd.prog).any (Tryd.prog.loopsFrom ·))) = true := by kernel_rfl
theorem c17 : ((Rows.lexSplitsRow.wideKeys == (Tryd.f3.params.toList ++ Rows.lexSplitsSpec.plain.varTypes Tryd.prog ++ Tryd.f3.resultTypes.toList).any (Tryd.prog.wideKeysFrom ·))) = true := by kernel_rfl
theorem c18 : (Rows.lexSplitsSpec.vars.all (Tryd.prog.varReadable ·)) = true := by kernel_rfl
theorem c19 : (Tryd.f3.resultTypes.all (fun t => Tryd.prog.readableRec t && decide (t < Tryd.prog.types.size))) = true := by kernel_rfl
theorem c20 : ((Rows.lexSplitsRow.ifacesOut == Tryd.f3.resultTypes.toList.any (Tryd.prog.ifacesRec ·))) = true := by kernel_rfl
theorem c21 : ((Rows.lexSplitsRow.loopsOut == Tryd.f3.resultTypes.toList.any (Tryd.prog.loopsFrom ·))) = true := by kernel_rfl
theorem c22 : ((Rows.lexSplitsRow.plainKeys == Tryd.prog.plainKeys)) = true := by kernel_rfl
theorem c23 : (Rows.lexSplitsRow.shortTexts.isNone) = true := by kernel_rfl
theorem c24 : (Tryd.prog.stopsHeard) = true := by kernel_rfl
theorem c25 : (Tryd.prog.mayEnter) = true := mayEnter_is
theorem c26 : ((Rows.lexSplitsRow.lifted == Tryd.prog.liftsFinal)) = true := by rw [liftsFinal_is]; rfl
theorem c27 : ((Tryd.prog.make == some Rows.lexSplitsRow.make)) = true := by rw [make_is]; rfl
theorem c28 : ((Rows.lexSplitsRow.kinds == (if Rows.lexSplitsRow.domain.isEmpty then [] else Tryd.f3.params.toList.map fun t => match Tryd.prog.underlying t with | some (.int k) => some k | _ => none))) = true := by kernel_rfl
theorem c29 : ((Rows.lexSplitsRow.pinned == Rows.lexSplitsRow.pinnedBy)) = true := by kernel_rfl
theorem c30 : ((Rows.lexSplitsRow.veiled == (Tryd.f3.params.toList ++ Rows.lexSplitsSpec.plain.varTypes Tryd.prog ++ Tryd.f3.resultTypes.toList).any (Tryd.prog.veiledRec ·))) = true := by kernel_rfl
theorem c31 : (Rows.lexSplitsRow.veiledFits Tryd.prog Tryd.f3.params.toList (Tryd.f3.params.toList ++ Rows.lexSplitsSpec.plain.varTypes Tryd.prog ++ Tryd.f3.resultTypes.toList)) = true := by kernel_rfl
theorem andT {a b : Bool} (h : a = true) (h' : b = true) : (a && b) = true := by rw [h, h']; rfl
set_option maxRecDepth 100000 in
theorem closed : joinedFacts Tryd.prog 3 Tryd.f3 Rows.lexSplitsSpec Rows.lexSplitsRow = true := (andT (andT (andT (andT (andT (andT (andT (andT (andT (andT (andT (andT (andT (andT (andT (andT (andT (andT (andT (andT (andT (andT (andT (andT (andT (andT (andT (andT (andT (andT (andT c0 c1) c2) c3) c4) c5) c6) c7) c8) c9) c10) c11) c12) c13) c14) c15) c16) c17) c18) c19) c20) c21) c22) c23) c24) c25) c26) c27) c28) c29) c30) c31)
end Go.Proofs.YtjjdpbfbpaobhaaDoor.lexSplits

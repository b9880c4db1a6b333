/-
  RatioWhole: the closed facts of its row, one by one.
-/
import Derived.Test.YtdhikpfppbcjkaaRows
import Derived.JoinedOf
import Derived.KernelRfl
import Derived.Test.YtdhikpfppbcjkaaOrder
namespace Go.Proofs.Ytdhikpfppbcjkaa.ratioWhole
theorem c0 : (Rows.ratioWholeRow.wf (OpenSpec.ofChange Rows.ratioWholeSpec)) = true := by kernel_rfl
theorem c1 : (laidOutB Try.prog) = true := by kernel_rfl
theorem c2 : (mapsRowed Try.prog) = true := by kernel_rfl
theorem c3 : (Try.f10.params.all (Try.prog.readableRec ·)) = true := by kernel_rfl
theorem c4 : (namedTie Try.prog Rows.ratioWholeRow.named Rows.ratioWholeSpec.vars) = true := by kernel_rfl
theorem c5 : ((Rows.ratioWholeRow.stops == [])) = true := by kernel_rfl
theorem c6 : ((Try.prog.stops == [])) = true := by kernel_rfl
theorem c7 : ((Rows.ratioWholeRow.knobs == [])) = true := by kernel_rfl
theorem c8 : ((Try.prog.stopKnobs == [])) = true := by kernel_rfl
theorem c9 : ((Rows.ratioWholeRow.inPlace == Try.prog.inPlace 10)) = true := by kernel_rfl
theorem c10 : ((Rows.ratioWholeRow.unfollowed == Try.prog.unfollowed 10)) = true := by kernel_rfl
theorem c11 : ((Rows.ratioWholeRow.recurses == Try.prog.recurses 10)) = true := by kernel_rfl
theorem c12 : ((Rows.ratioWholeRow.named == Try.prog.varsNamed 10)) = true := by kernel_rfl
theorem c13 : ((Rows.ratioWholeRow.maps == (Try.f10.params.toList ++ Rows.ratioWholeSpec.plain.varTypes Try.prog).any (Try.prog.mapsRec ·))) = true := by kernel_rfl
theorem c14 : ((Rows.ratioWholeRow.ifaces == (Try.f10.params.toList ++ Rows.ratioWholeSpec.plain.varTypes Try.prog).any (Try.prog.ifacesRec ·))) = true := by kernel_rfl
theorem c15 : ((Rows.ratioWholeRow.mapsOut == Try.prog.mapsAmong Try.f10.resultTypes.toList)) = true := by kernel_rfl
theorem c16 : ((Rows.ratioWholeRow.loops == (Try.f10.params.toList ++ Rows.ratioWholeSpec.plain.varTypes Try.prog).any (Try.prog.loopsFrom ·))) = true := by kernel_rfl
theorem c17 : ((Rows.ratioWholeRow.wideKeys == (Try.f10.params.toList ++ Rows.ratioWholeSpec.plain.varTypes Try.prog ++ Try.f10.resultTypes.toList).any (Try.prog.wideKeysFrom ·))) = true := by kernel_rfl
theorem c18 : (Rows.ratioWholeSpec.vars.all (Try.prog.varReadable ·)) = true := by kernel_rfl
theorem c19 : (Try.f10.resultTypes.all (fun t => Try.prog.readableRec t && decide (t < Try.prog.types.size))) = true := by kernel_rfl
theorem c20 : ((Rows.ratioWholeRow.ifacesOut == Try.f10.resultTypes.toList.any (Try.prog.ifacesRec ·))) = true := by kernel_rfl
theorem c21 : ((Rows.ratioWholeRow.loopsOut == Try.f10.resultTypes.toList.any (Try.prog.loopsFrom ·))) = true := by kernel_rfl
theorem c22 : ((Rows.ratioWholeRow.plainKeys == Try.prog.plainKeys)) = true := by kernel_rfl
theorem c23 : (Rows.ratioWholeRow.shortTexts.isNone) = true := by kernel_rfl
theorem c24 : (Try.prog.stopsHeard) = true := by kernel_rfl
theorem c25 : (Try.prog.mayEnter) = true := mayEnter_is
theorem c26 : ((Rows.ratioWholeRow.lifted == Try.prog.liftsFinal)) = true := by rw [liftsFinal_is]; rfl
theorem c27 : ((Try.prog.make == some Rows.ratioWholeRow.make)) = true := by rw [make_is]; rfl
theorem c28 : ((Rows.ratioWholeRow.kinds == (if Rows.ratioWholeRow.domain.isEmpty then [] else Try.f10.params.toList.map fun t => match Try.prog.underlying t with | some (.int k) => some k | _ => none))) = true := by kernel_rfl
theorem c29 : ((Rows.ratioWholeRow.pinned == Rows.ratioWholeRow.pinnedBy)) = true := by kernel_rfl
theorem c30 : ((Rows.ratioWholeRow.veiled == (Try.f10.params.toList ++ Rows.ratioWholeSpec.plain.varTypes Try.prog ++ Try.f10.resultTypes.toList).any (Try.prog.veiledRec ·))) = true := by kernel_rfl
theorem c31 : (Rows.ratioWholeRow.veiledFits Try.prog Try.f10.params.toList (Try.f10.params.toList ++ Rows.ratioWholeSpec.plain.varTypes Try.prog ++ Try.f10.resultTypes.toList)) = true := by kernel_rfl
theorem andT {a b : Bool} (h : a = true) (h' : b = true) : (a && b) = true := by rw [h, h']; rfl
set_option maxRecDepth 100000 in
theorem closed : joinedFacts Try.prog 10 Try.f10 Rows.ratioWholeSpec Rows.ratioWholeRow = true := (andT (andT (andT (andT (andT (andT (andT (andT (andT (andT (andT (andT (andT (andT (andT (andT (andT (andT (andT (andT (andT (andT (andT (andT (andT (andT (andT (andT (andT (andT (andT c0 c1) c2) c3) c4) c5) c6) c7) c8) c9) c10) c11) c12) c13) c14) c15) c16) c17) c18) c19) c20) c21) c22) c23) c24) c25) c26) c27) c28) c29) c30) c31)
end Go.Proofs.Ytdhikpfppbcjkaa.ratioWhole

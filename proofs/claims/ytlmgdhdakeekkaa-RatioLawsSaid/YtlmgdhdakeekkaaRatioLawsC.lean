/-
  RatioLaws: the closed facts of its row, one by one.
-/
import Derived.Test.YtlmgdhdakeekkaaRows
import Derived.JoinedOf
import Derived.KernelRfl
import Derived.Test.YtlmgdhdakeekkaaOrder
namespace Go.Proofs.Ytlmgdhdakeekkaa.ratioLaws
theorem c0 : (Rows.ratioLawsRow.wf (OpenSpec.ofChange Rows.ratioLawsSpec)) = true := by kernel_rfl
theorem c1 : (laidOutB Try.prog) = true := by kernel_rfl
theorem c2 : (mapsRowed Try.prog) = true := by kernel_rfl
theorem c3 : (Try.f3.params.all (Try.prog.readableRec ·)) = true := by kernel_rfl
theorem c4 : (namedTie Try.prog Rows.ratioLawsRow.named Rows.ratioLawsSpec.vars) = true := by kernel_rfl
theorem c5 : ((Rows.ratioLawsRow.stops == [])) = true := by kernel_rfl
theorem c6 : ((Try.prog.stops == [])) = true := by kernel_rfl
theorem c7 : ((Rows.ratioLawsRow.knobs == [])) = true := by kernel_rfl
theorem c8 : ((Try.prog.stopKnobs == [])) = true := by kernel_rfl
theorem c9 : ((Rows.ratioLawsRow.inPlace == Try.prog.inPlace 3)) = true := by kernel_rfl
theorem c10 : ((Rows.ratioLawsRow.unfollowed == Try.prog.unfollowed 3)) = true := by kernel_rfl
theorem c11 : ((Rows.ratioLawsRow.recurses == Try.prog.recurses 3)) = true := by kernel_rfl
theorem c12 : ((Rows.ratioLawsRow.named == Try.prog.varsNamed 3)) = true := by kernel_rfl
theorem c13 : ((Rows.ratioLawsRow.maps == (Try.f3.params.toList ++ Rows.ratioLawsSpec.plain.varTypes Try.prog).any (Try.prog.mapsRec ·))) = true := by kernel_rfl
theorem c14 : ((Rows.ratioLawsRow.ifaces == (Try.f3.params.toList ++ Rows.ratioLawsSpec.plain.varTypes Try.prog).any (Try.prog.ifacesRec ·))) = true := by kernel_rfl
theorem c15 : ((Rows.ratioLawsRow.mapsOut == Try.prog.mapsAmong Try.f3.resultTypes.toList)) = true := by kernel_rfl
theorem c16 : ((Rows.ratioLawsRow.loops == (Try.f3.params.toList ++ Rows.ratioLawsSpec.plain.varTypes Try.prog).any (Try.prog.loopsFrom ·))) = true := by kernel_rfl
theorem c17 : ((Rows.ratioLawsRow.wideKeys == (Try.f3.params.toList ++ Rows.ratioLawsSpec.plain.varTypes Try.prog ++ Try.f3.resultTypes.toList).any (Try.prog.wideKeysFrom ·))) = true := by kernel_rfl
theorem c18 : (Rows.ratioLawsSpec.vars.all (Try.prog.varReadable ·)) = true := by kernel_rfl
theorem c19 : (Try.f3.resultTypes.all (fun t => Try.prog.readableRec t && decide (t < Try.prog.types.size))) = true := by kernel_rfl
theorem c20 : ((Rows.ratioLawsRow.ifacesOut == Try.f3.resultTypes.toList.any (Try.prog.ifacesRec ·))) = true := by kernel_rfl
theorem c21 : ((Rows.ratioLawsRow.loopsOut == Try.f3.resultTypes.toList.any (Try.prog.loopsFrom ·))) = true := by kernel_rfl
theorem c22 : ((Rows.ratioLawsRow.plainKeys == Try.prog.plainKeys)) = true := by kernel_rfl
theorem c23 : (Rows.ratioLawsRow.shortTexts.isNone) = true := by kernel_rfl
theorem c24 : (Try.prog.stopsHeard) = true := by kernel_rfl
theorem c25 : (Try.prog.mayEnter) = true := mayEnter_is
theorem c26 : ((Rows.ratioLawsRow.lifted == Try.prog.liftsFinal)) = true := by rw [liftsFinal_is]; rfl
theorem c27 : ((Try.prog.make == some Rows.ratioLawsRow.make)) = true := by rw [make_is]; rfl
theorem c28 : ((Rows.ratioLawsRow.kinds == (if Rows.ratioLawsRow.domain.isEmpty then [] else Try.f3.params.toList.map fun t => match Try.prog.underlying t with | some (.int k) => some k | _ => none))) = true := by kernel_rfl
theorem c29 : ((Rows.ratioLawsRow.pinned == Rows.ratioLawsRow.pinnedBy)) = true := by kernel_rfl
theorem c30 : ((Rows.ratioLawsRow.veiled == (Try.f3.params.toList ++ Rows.ratioLawsSpec.plain.varTypes Try.prog ++ Try.f3.resultTypes.toList).any (Try.prog.veiledRec ·))) = true := by kernel_rfl
theorem c31 : (Rows.ratioLawsRow.veiledFits Try.prog Try.f3.params.toList (Try.f3.params.toList ++ Rows.ratioLawsSpec.plain.varTypes Try.prog ++ Try.f3.resultTypes.toList)) = true := by kernel_rfl
theorem andT {a b : Bool} (h : a = true) (h' : b = true) : (a && b) = true := by rw [h, h']; rfl
set_option maxRecDepth 100000 in
theorem closed : joinedFacts Try.prog 3 Try.f3 Rows.ratioLawsSpec Rows.ratioLawsRow = true := (andT (andT (andT (andT (andT (andT (andT (andT (andT (andT (andT (andT (andT (andT (andT (andT (andT (andT (andT (andT (andT (andT (andT (andT (andT (andT (andT (andT (andT (andT (andT c0 c1) c2) c3) c4) c5) c6) c7) c8) c9) c10) c11) c12) c13) c14) c15) c16) c17) c18) c19) c20) c21) c22) c23) c24) c25) c26) c27) c28) c29) c30) c31)
end Go.Proofs.Ytlmgdhdakeekkaa.ratioLaws

/-
  SignedLaws: the closed facts of its row, one by one.
-/
import Derived.Test.YtmhjjjffgpdolaaRows
import Derived.JoinedOf
import Derived.KernelRfl
import Derived.Test.YtmhjjjffgpdolaaOrder
namespace Go.Proofs.Ytmhjjjffgpdolaa.signedLaws
theorem c0 : (Rows.signedLawsRow.wf (OpenSpec.ofChange Rows.signedLawsSpec)) = true := by kernel_rfl
theorem c1 : (laidOutB Try.prog) = true := by kernel_rfl
theorem c2 : (mapsRowed Try.prog) = true := by kernel_rfl
theorem c3 : (Try.f7.params.all (Try.prog.readableRec ·)) = true := by kernel_rfl
theorem c4 : (namedTie Try.prog Rows.signedLawsRow.named Rows.signedLawsSpec.vars) = true := by kernel_rfl
theorem c5 : ((Rows.signedLawsRow.stops == [])) = true := by kernel_rfl
theorem c6 : ((Try.prog.stops == [])) = true := by kernel_rfl
theorem c7 : ((Rows.signedLawsRow.knobs == [])) = true := by kernel_rfl
theorem c8 : ((Try.prog.stopKnobs == [])) = true := by kernel_rfl
theorem c9 : ((Rows.signedLawsRow.inPlace == Try.prog.inPlace 7)) = true := by kernel_rfl
theorem c10 : ((Rows.signedLawsRow.unfollowed == Try.prog.unfollowed 7)) = true := by kernel_rfl
theorem c11 : ((Rows.signedLawsRow.recurses == Try.prog.recurses 7)) = true := by kernel_rfl
theorem c12 : ((Rows.signedLawsRow.named == Try.prog.varsNamed 7)) = true := by kernel_rfl
theorem c13 : ((Rows.signedLawsRow.maps == (Try.f7.params.toList ++ Rows.signedLawsSpec.plain.varTypes Try.prog).any (Try.prog.mapsRec ·))) = true := by kernel_rfl
theorem c14 : ((Rows.signedLawsRow.ifaces == (Try.f7.params.toList ++ Rows.signedLawsSpec.plain.varTypes Try.prog).any (Try.prog.ifacesRec ·))) = true := by kernel_rfl
theorem c15 : ((Rows.signedLawsRow.mapsOut == Try.prog.mapsAmong Try.f7.resultTypes.toList)) = true := by kernel_rfl
theorem c16 : ((Rows.signedLawsRow.loops == (Try.f7.params.toList ++ Rows.signedLawsSpec.plain.varTypes Try.prog).any (Try.prog.loopsFrom ·))) = true := by kernel_rfl
theorem c17 : ((Rows.signedLawsRow.wideKeys == (Try.f7.params.toList ++ Rows.signedLawsSpec.plain.varTypes Try.prog ++ Try.f7.resultTypes.toList).any (Try.prog.wideKeysFrom ·))) = true := by kernel_rfl
theorem c18 : (Rows.signedLawsSpec.vars.all (Try.prog.varReadable ·)) = true := by kernel_rfl
theorem c19 : (Try.f7.resultTypes.all (fun t => Try.prog.readableRec t && decide (t < Try.prog.types.size))) = true := by kernel_rfl
theorem c20 : ((Rows.signedLawsRow.ifacesOut == Try.f7.resultTypes.toList.any (Try.prog.ifacesRec ·))) = true := by kernel_rfl
theorem c21 : ((Rows.signedLawsRow.loopsOut == Try.f7.resultTypes.toList.any (Try.prog.loopsFrom ·))) = true := by kernel_rfl
theorem c22 : ((Rows.signedLawsRow.plainKeys == Try.prog.plainKeys)) = true := by kernel_rfl
theorem c23 : (Rows.signedLawsRow.shortTexts.isNone) = true := by kernel_rfl
theorem c24 : (Try.prog.stopsHeard) = true := by kernel_rfl
theorem c25 : (Try.prog.mayEnter) = true := mayEnter_is
theorem c26 : ((Rows.signedLawsRow.lifted == Try.prog.liftsFinal)) = true := by rw [liftsFinal_is]; rfl
theorem c27 : ((Try.prog.make == some Rows.signedLawsRow.make)) = true := by rw [make_is]; rfl
theorem c28 : ((Rows.signedLawsRow.kinds == (if Rows.signedLawsRow.domain.isEmpty then [] else Try.f7.params.toList.map fun t => match Try.prog.underlying t with | some (.int k) => some k | _ => none))) = true := by kernel_rfl
theorem c29 : ((Rows.signedLawsRow.pinned == Rows.signedLawsRow.pinnedBy)) = true := by kernel_rfl
theorem c30 : ((Rows.signedLawsRow.veiled == (Try.f7.params.toList ++ Rows.signedLawsSpec.plain.varTypes Try.prog ++ Try.f7.resultTypes.toList).any (Try.prog.veiledRec ·))) = true := by kernel_rfl
theorem c31 : (Rows.signedLawsRow.veiledFits Try.prog Try.f7.params.toList (Try.f7.params.toList ++ Rows.signedLawsSpec.plain.varTypes Try.prog ++ Try.f7.resultTypes.toList)) = true := by kernel_rfl
theorem andT {a b : Bool} (h : a = true) (h' : b = true) : (a && b) = true := by rw [h, h']; rfl
set_option maxRecDepth 100000 in
theorem closed : joinedFacts Try.prog 7 Try.f7 Rows.signedLawsSpec Rows.signedLawsRow = true := (andT (andT (andT (andT (andT (andT (andT (andT (andT (andT (andT (andT (andT (andT (andT (andT (andT (andT (andT (andT (andT (andT (andT (andT (andT (andT (andT (andT (andT (andT (andT c0 c1) c2) c3) c4) c5) c6) c7) c8) c9) c10) c11) c12) c13) c14) c15) c16) c17) c18) c19) c20) c21) c22) c23) c24) c25) c26) c27) c28) c29) c30) c31)
end Go.Proofs.Ytmhjjjffgpdolaa.signedLaws

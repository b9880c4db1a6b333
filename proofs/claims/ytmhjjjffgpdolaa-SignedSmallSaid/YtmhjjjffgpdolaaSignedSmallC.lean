/-
  SignedSmall: the closed facts of its row, one by one.
-/
import Derived.Test.YtmhjjjffgpdolaaRows
import Derived.JoinedOf
import Derived.KernelRfl
import Derived.Test.YtmhjjjffgpdolaaOrder
namespace Go.Proofs.Ytmhjjjffgpdolaa.signedSmall
theorem c0 : (Rows.signedSmallRow.wf (OpenSpec.ofChange Rows.signedSmallSpec)) = true := by kernel_rfl
theorem c1 : (laidOutB Try.prog) = true := by kernel_rfl
theorem c2 : (mapsRowed Try.prog) = true := by kernel_rfl
theorem c3 : (Try.f8.params.all (Try.prog.readableRec ·)) = true := by kernel_rfl
theorem c4 : (namedTie Try.prog Rows.signedSmallRow.named Rows.signedSmallSpec.vars) = true := by kernel_rfl
theorem c5 : ((Rows.signedSmallRow.stops == [])) = true := by kernel_rfl
theorem c6 : ((Try.prog.stops == [])) = true := by kernel_rfl
theorem c7 : ((Rows.signedSmallRow.knobs == [])) = true := by kernel_rfl
theorem c8 : ((Try.prog.stopKnobs == [])) = true := by kernel_rfl
theorem c9 : ((Rows.signedSmallRow.inPlace == Try.prog.inPlace 8)) = true := by kernel_rfl
theorem c10 : ((Rows.signedSmallRow.unfollowed == Try.prog.unfollowed 8)) = true := by kernel_rfl
theorem c11 : ((Rows.signedSmallRow.recurses == Try.prog.recurses 8)) = true := by kernel_rfl
theorem c12 : ((Rows.signedSmallRow.named == Try.prog.varsNamed 8)) = true := by kernel_rfl
theorem c13 : ((Rows.signedSmallRow.maps == (Try.f8.params.toList ++ Rows.signedSmallSpec.plain.varTypes Try.prog).any (Try.prog.mapsRec ·))) = true := by kernel_rfl
theorem c14 : ((Rows.signedSmallRow.ifaces == (Try.f8.params.toList ++ Rows.signedSmallSpec.plain.varTypes Try.prog).any (Try.prog.ifacesRec ·))) = true := by kernel_rfl
theorem c15 : ((Rows.signedSmallRow.mapsOut == Try.prog.mapsAmong Try.f8.resultTypes.toList)) = true := by kernel_rfl
theorem c16 : ((Rows.signedSmallRow.loops == (Try.f8.params.toList ++ Rows.signedSmallSpec.plain.varTypes Try.prog).any (Try.prog.loopsFrom ·))) = true := by kernel_rfl
theorem c17 : ((Rows.signedSmallRow.wideKeys == (Try.f8.params.toList ++ Rows.signedSmallSpec.plain.varTypes Try.prog ++ Try.f8.resultTypes.toList).any (Try.prog.wideKeysFrom ·))) = true := by kernel_rfl
theorem c18 : (Rows.signedSmallSpec.vars.all (Try.prog.varReadable ·)) = true := by kernel_rfl
theorem c19 : (Try.f8.resultTypes.all (fun t => Try.prog.readableRec t && decide (t < Try.prog.types.size))) = true := by kernel_rfl
theorem c20 : ((Rows.signedSmallRow.ifacesOut == Try.f8.resultTypes.toList.any (Try.prog.ifacesRec ·))) = true := by kernel_rfl
theorem c21 : ((Rows.signedSmallRow.loopsOut == Try.f8.resultTypes.toList.any (Try.prog.loopsFrom ·))) = true := by kernel_rfl
theorem c22 : ((Rows.signedSmallRow.plainKeys == Try.prog.plainKeys)) = true := by kernel_rfl
theorem c23 : (Rows.signedSmallRow.shortTexts.isNone) = true := by kernel_rfl
theorem c24 : (Try.prog.stopsHeard) = true := by kernel_rfl
theorem c25 : (Try.prog.mayEnter) = true := mayEnter_is
theorem c26 : ((Rows.signedSmallRow.lifted == Try.prog.liftsFinal)) = true := by rw [liftsFinal_is]; rfl
theorem c27 : ((Try.prog.make == some Rows.signedSmallRow.make)) = true := by rw [make_is]; rfl
theorem c28 : ((Rows.signedSmallRow.kinds == (if Rows.signedSmallRow.domain.isEmpty then [] else Try.f8.params.toList.map fun t => match Try.prog.underlying t with | some (.int k) => some k | _ => none))) = true := by kernel_rfl
theorem c29 : ((Rows.signedSmallRow.pinned == Rows.signedSmallRow.pinnedBy)) = true := by kernel_rfl
theorem c30 : ((Rows.signedSmallRow.veiled == (Try.f8.params.toList ++ Rows.signedSmallSpec.plain.varTypes Try.prog ++ Try.f8.resultTypes.toList).any (Try.prog.veiledRec ·))) = true := by kernel_rfl
theorem c31 : (Rows.signedSmallRow.veiledFits Try.prog Try.f8.params.toList (Try.f8.params.toList ++ Rows.signedSmallSpec.plain.varTypes Try.prog ++ Try.f8.resultTypes.toList)) = true := by kernel_rfl
theorem andT {a b : Bool} (h : a = true) (h' : b = true) : (a && b) = true := by rw [h, h']; rfl
set_option maxRecDepth 100000 in
theorem closed : joinedFacts Try.prog 8 Try.f8 Rows.signedSmallSpec Rows.signedSmallRow = true := (andT (andT (andT (andT (andT (andT (andT (andT (andT (andT (andT (andT (andT (andT (andT (andT (andT (andT (andT (andT (andT (andT (andT (andT (andT (andT (andT (andT (andT (andT (andT c0 c1) c2) c3) c4) c5) c6) c7) c8) c9) c10) c11) c12) c13) c14) c15) c16) c17) c18) c19) c20) c21) c22) c23) c24) c25) c26) c27) c28) c29) c30) c31)
end Go.Proofs.Ytmhjjjffgpdolaa.signedSmall

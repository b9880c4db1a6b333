/-
  SignedBack: the closed facts of its row, one by one.
-/
import Derived.Test.YtmhjjjffgpdolaaRows
import Derived.JoinedOf
import Derived.KernelRfl
import Derived.Test.YtmhjjjffgpdolaaOrder
namespace Go.Proofs.Ytmhjjjffgpdolaa.signedBack
theorem c0 : (Rows.signedBackRow.wf (OpenSpec.ofChange Rows.signedBackSpec)) = true := by kernel_rfl
theorem c1 : (laidOutB Try.prog) = true := by kernel_rfl
theorem c2 : (mapsRowed Try.prog) = true := by kernel_rfl
theorem c3 : (Try.f10.params.all (Try.prog.readableRec ·)) = true := by kernel_rfl
theorem c4 : (namedTie Try.prog Rows.signedBackRow.named Rows.signedBackSpec.vars) = true := by kernel_rfl
theorem c5 : ((Rows.signedBackRow.stops == [])) = true := by kernel_rfl
theorem c6 : ((Try.prog.stops == [])) = true := by kernel_rfl
theorem c7 : ((Rows.signedBackRow.knobs == [])) = true := by kernel_rfl
theorem c8 : ((Try.prog.stopKnobs == [])) = true := by kernel_rfl
theorem c9 : ((Rows.signedBackRow.inPlace == Try.prog.inPlace 10)) = true := by kernel_rfl
theorem c10 : ((Rows.signedBackRow.unfollowed == Try.prog.unfollowed 10)) = true := by kernel_rfl
theorem c11 : ((Rows.signedBackRow.recurses == Try.prog.recurses 10)) = true := by kernel_rfl
theorem c12 : ((Rows.signedBackRow.named == Try.prog.varsNamed 10)) = true := by kernel_rfl
theorem c13 : ((Rows.signedBackRow.maps == (Try.f10.params.toList ++ Rows.signedBackSpec.plain.varTypes Try.prog).any (Try.prog.mapsRec ·))) = true := by kernel_rfl
theorem c14 : ((Rows.signedBackRow.ifaces == (Try.f10.params.toList ++ Rows.signedBackSpec.plain.varTypes Try.prog).any (Try.prog.ifacesRec ·))) = true := by kernel_rfl
theorem c15 : ((Rows.signedBackRow.mapsOut == Try.prog.mapsAmong Try.f10.resultTypes.toList)) = true := by kernel_rfl
theorem c16 : ((Rows.signedBackRow.loops == (Try.f10.params.toList ++ Rows.signedBackSpec.plain.varTypes Try.prog).any (Try.prog.loopsFrom ·))) = true := by kernel_rfl
theorem c17 : ((Rows.signedBackRow.wideKeys == (Try.f10.params.toList ++ Rows.signedBackSpec.plain.varTypes Try.prog ++ Try.f10.resultTypes.toList).any (Try.prog.wideKeysFrom ·))) = true := by kernel_rfl
theorem c18 : (Rows.signedBackSpec.vars.all (Try.prog.varReadable ·)) = true := by kernel_rfl
theorem c19 : (Try.f10.resultTypes.all (fun t => Try.prog.readableRec t && decide (t < Try.prog.types.size))) = true := by kernel_rfl
theorem c20 : ((Rows.signedBackRow.ifacesOut == Try.f10.resultTypes.toList.any (Try.prog.ifacesRec ·))) = true := by kernel_rfl
theorem c21 : ((Rows.signedBackRow.loopsOut == Try.f10.resultTypes.toList.any (Try.prog.loopsFrom ·))) = true := by kernel_rfl
theorem c22 : ((Rows.signedBackRow.plainKeys == Try.prog.plainKeys)) = true := by kernel_rfl
theorem c23 : (Rows.signedBackRow.shortTexts.isNone) = true := by kernel_rfl
theorem c24 : (Try.prog.stopsHeard) = true := by kernel_rfl
theorem c25 : (Try.prog.mayEnter) = true := mayEnter_is
theorem c26 : ((Rows.signedBackRow.lifted == Try.prog.liftsFinal)) = true := by rw [liftsFinal_is]; rfl
theorem c27 : ((Try.prog.make == some Rows.signedBackRow.make)) = true := by rw [make_is]; rfl
theorem c28 : ((Rows.signedBackRow.kinds == (if Rows.signedBackRow.domain.isEmpty then [] else Try.f10.params.toList.map fun t => match Try.prog.underlying t with | some (.int k) => some k | _ => none))) = true := by kernel_rfl
theorem c29 : ((Rows.signedBackRow.pinned == Rows.signedBackRow.pinnedBy)) = true := by kernel_rfl
theorem c30 : ((Rows.signedBackRow.veiled == (Try.f10.params.toList ++ Rows.signedBackSpec.plain.varTypes Try.prog ++ Try.f10.resultTypes.toList).any (Try.prog.veiledRec ·))) = true := by kernel_rfl
theorem c31 : (Rows.signedBackRow.veiledFits Try.prog Try.f10.params.toList (Try.f10.params.toList ++ Rows.signedBackSpec.plain.varTypes Try.prog ++ Try.f10.resultTypes.toList)) = true := by kernel_rfl
theorem andT {a b : Bool} (h : a = true) (h' : b = true) : (a && b) = true := by rw [h, h']; rfl
set_option maxRecDepth 100000 in
theorem closed : joinedFacts Try.prog 10 Try.f10 Rows.signedBackSpec Rows.signedBackRow = true := (andT (andT (andT (andT (andT (andT (andT (andT (andT (andT (andT (andT (andT (andT (andT (andT (andT (andT (andT (andT (andT (andT (andT (andT (andT (andT (andT (andT (andT (andT (andT c0 c1) c2) c3) c4) c5) c6) c7) c8) c9) c10) c11) c12) c13) c14) c15) c16) c17) c18) c19) c20) c21) c22) c23) c24) c25) c26) c27) c28) c29) c30) c31)
end Go.Proofs.Ytmhjjjffgpdolaa.signedBack

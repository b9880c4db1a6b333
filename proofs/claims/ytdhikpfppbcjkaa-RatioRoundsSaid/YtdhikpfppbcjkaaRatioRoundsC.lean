/-
  RatioRounds: the closed facts of its row, one by one.
-/
import Derived.Test.YtdhikpfppbcjkaaRows
import Derived.JoinedOf
import Derived.KernelRfl
import Derived.Test.YtdhikpfppbcjkaaOrder
namespace Go.Proofs.Ytdhikpfppbcjkaa.ratioRounds
theorem c0 : (Rows.ratioRoundsRow.wf (OpenSpec.ofChange Rows.ratioRoundsSpec)) = true := by kernel_rfl
theorem c1 : (laidOutB Try.prog) = true := by kernel_rfl
theorem c2 : (mapsRowed Try.prog) = true := by kernel_rfl
theorem c3 : (Try.f4.params.all (Try.prog.readableRec ·)) = true := by kernel_rfl
theorem c4 : (namedTie Try.prog Rows.ratioRoundsRow.named Rows.ratioRoundsSpec.vars) = true := by kernel_rfl
theorem c5 : ((Rows.ratioRoundsRow.stops == [])) = true := by kernel_rfl
theorem c6 : ((Try.prog.stops == [])) = true := by kernel_rfl
theorem c7 : ((Rows.ratioRoundsRow.knobs == [])) = true := by kernel_rfl
theorem c8 : ((Try.prog.stopKnobs == [])) = true := by kernel_rfl
theorem c9 : ((Rows.ratioRoundsRow.inPlace == Try.prog.inPlace 4)) = true := by kernel_rfl
theorem c10 : ((Rows.ratioRoundsRow.unfollowed == Try.prog.unfollowed 4)) = true := by kernel_rfl
theorem c11 : ((Rows.ratioRoundsRow.recurses == Try.prog.recurses 4)) = true := by kernel_rfl
theorem c12 : ((Rows.ratioRoundsRow.named == Try.prog.varsNamed 4)) = true := by kernel_rfl
theorem c13 : ((Rows.ratioRoundsRow.maps == (Try.f4.params.toList ++ Rows.ratioRoundsSpec.plain.varTypes Try.prog).any (Try.prog.mapsRec ·))) = true := by kernel_rfl
theorem c14 : ((Rows.ratioRoundsRow.ifaces == (Try.f4.params.toList ++ Rows.ratioRoundsSpec.plain.varTypes Try.prog).any (Try.prog.ifacesRec ·))) = true := by kernel_rfl
theorem c15 : ((Rows.ratioRoundsRow.mapsOut == Try.prog.mapsAmong Try.f4.resultTypes.toList)) = true := by kernel_rfl
theorem c16 : ((Rows.ratioRoundsRow.loops == (Try.f4.params.toList ++ Rows.ratioRoundsSpec.plain.varTypes Try.prog).any (Try.prog.loopsFrom ·))) = true := by kernel_rfl
theorem c17 : ((Rows.ratioRoundsRow.wideKeys == (Try.f4.params.toList ++ Rows.ratioRoundsSpec.plain.varTypes Try.prog ++ Try.f4.resultTypes.toList).any (Try.prog.wideKeysFrom ·))) = true := by kernel_rfl
theorem c18 : (Rows.ratioRoundsSpec.vars.all (Try.prog.varReadable ·)) = true := by kernel_rfl
theorem c19 : (Try.f4.resultTypes.all (fun t => Try.prog.readableRec t && decide (t < Try.prog.types.size))) = true := by kernel_rfl
theorem c20 : ((Rows.ratioRoundsRow.ifacesOut == Try.f4.resultTypes.toList.any (Try.prog.ifacesRec ·))) = true := by kernel_rfl
theorem c21 : ((Rows.ratioRoundsRow.loopsOut == Try.f4.resultTypes.toList.any (Try.prog.loopsFrom ·))) = true := by kernel_rfl
theorem c22 : ((Rows.ratioRoundsRow.plainKeys == Try.prog.plainKeys)) = true := by kernel_rfl
theorem c23 : (Rows.ratioRoundsRow.shortTexts.isNone) = true := by kernel_rfl
theorem c24 : (Try.prog.stopsHeard) = true := by kernel_rfl
theorem c25 : (Try.prog.mayEnter) = true := mayEnter_is
theorem c26 : ((Rows.ratioRoundsRow.lifted == Try.prog.liftsFinal)) = true := by rw [liftsFinal_is]; rfl
theorem c27 : ((Try.prog.make == some Rows.ratioRoundsRow.make)) = true := by rw [make_is]; rfl
theorem c28 : ((Rows.ratioRoundsRow.kinds == (if Rows.ratioRoundsRow.domain.isEmpty then [] else Try.f4.params.toList.map fun t => match Try.prog.underlying t with | some (.int k) => some k | _ => none))) = true := by kernel_rfl
theorem c29 : ((Rows.ratioRoundsRow.pinned == Rows.ratioRoundsRow.pinnedBy)) = true := by kernel_rfl
theorem c30 : ((Rows.ratioRoundsRow.veiled == (Try.f4.params.toList ++ Rows.ratioRoundsSpec.plain.varTypes Try.prog ++ Try.f4.resultTypes.toList).any (Try.prog.veiledRec ·))) = true := by kernel_rfl
theorem c31 : (Rows.ratioRoundsRow.veiledFits Try.prog Try.f4.params.toList (Try.f4.params.toList ++ Rows.ratioRoundsSpec.plain.varTypes Try.prog ++ Try.f4.resultTypes.toList)) = true := by kernel_rfl
theorem andT {a b : Bool} (h : a = true) (h' : b = true) : (a && b) = true := by rw [h, h']; rfl
set_option maxRecDepth 100000 in
theorem closed : joinedFacts Try.prog 4 Try.f4 Rows.ratioRoundsSpec Rows.ratioRoundsRow = true := (andT (andT (andT (andT (andT (andT (andT (andT (andT (andT (andT (andT (andT (andT (andT (andT (andT (andT (andT (andT (andT (andT (andT (andT (andT (andT (andT (andT (andT (andT (andT c0 c1) c2) c3) c4) c5) c6) c7) c8) c9) c10) c11) c12) c13) c14) c15) c16) c17) c18) c19) c20) c21) c22) c23) c24) c25) c26) c27) c28) c29) c30) c31)
end Go.Proofs.Ytdhikpfppbcjkaa.ratioRounds

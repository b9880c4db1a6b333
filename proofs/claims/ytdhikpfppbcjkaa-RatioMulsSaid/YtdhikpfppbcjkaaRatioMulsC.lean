/-
  RatioMuls: the closed facts of its row, one by one.
-/
import Derived.Test.YtdhikpfppbcjkaaRows
import Derived.JoinedOf
import Derived.KernelRfl
import Derived.Test.YtdhikpfppbcjkaaOrder
namespace Go.Proofs.Ytdhikpfppbcjkaa.ratioMuls
theorem c0 : (Rows.ratioMulsRow.wf (OpenSpec.ofChange Rows.ratioMulsSpec)) = true := by kernel_rfl
theorem c1 : (laidOutB Try.prog) = true := by kernel_rfl
theorem c2 : (mapsRowed Try.prog) = true := by kernel_rfl
theorem c3 : (Try.f5.params.all (Try.prog.readableRec ·)) = true := by kernel_rfl
theorem c4 : (namedTie Try.prog Rows.ratioMulsRow.named Rows.ratioMulsSpec.vars) = true := by kernel_rfl
theorem c5 : ((Rows.ratioMulsRow.stops == [])) = true := by kernel_rfl
theorem c6 : ((Try.prog.stops == [])) = true := by kernel_rfl
theorem c7 : ((Rows.ratioMulsRow.knobs == [])) = true := by kernel_rfl
theorem c8 : ((Try.prog.stopKnobs == [])) = true := by kernel_rfl
theorem c9 : ((Rows.ratioMulsRow.inPlace == Try.prog.inPlace 5)) = true := by kernel_rfl
theorem c10 : ((Rows.ratioMulsRow.unfollowed == Try.prog.unfollowed 5)) = true := by kernel_rfl
theorem c11 : ((Rows.ratioMulsRow.recurses == Try.prog.recurses 5)) = true := by kernel_rfl
theorem c12 : ((Rows.ratioMulsRow.named == Try.prog.varsNamed 5)) = true := by kernel_rfl
theorem c13 : ((Rows.ratioMulsRow.maps == (Try.f5.params.toList ++ Rows.ratioMulsSpec.plain.varTypes Try.prog).any (Try.prog.mapsRec ·))) = true := by kernel_rfl
theorem c14 : ((Rows.ratioMulsRow.ifaces == (Try.f5.params.toList ++ Rows.ratioMulsSpec.plain.varTypes Try.prog).any (Try.prog.ifacesRec ·))) = true := by kernel_rfl
theorem c15 : ((Rows.ratioMulsRow.mapsOut == Try.prog.mapsAmong Try.f5.resultTypes.toList)) = true := by kernel_rfl
theorem c16 : ((Rows.ratioMulsRow.loops == (Try.f5.params.toList ++ Rows.ratioMulsSpec.plain.varTypes Try.prog).any (Try.prog.loopsFrom ·))) = true := by kernel_rfl
theorem c17 : ((Rows.ratioMulsRow.wideKeys == (Try.f5.params.toList ++ Rows.ratioMulsSpec.plain.varTypes Try.prog ++ Try.f5.resultTypes.toList).any (Try.prog.wideKeysFrom ·))) = true := by kernel_rfl
theorem c18 : (Rows.ratioMulsSpec.vars.all (Try.prog.varReadable ·)) = true := by kernel_rfl
theorem c19 : (Try.f5.resultTypes.all (fun t => Try.prog.readableRec t && decide (t < Try.prog.types.size))) = true := by kernel_rfl
theorem c20 : ((Rows.ratioMulsRow.ifacesOut == Try.f5.resultTypes.toList.any (Try.prog.ifacesRec ·))) = true := by kernel_rfl
theorem c21 : ((Rows.ratioMulsRow.loopsOut == Try.f5.resultTypes.toList.any (Try.prog.loopsFrom ·))) = true := by kernel_rfl
theorem c22 : ((Rows.ratioMulsRow.plainKeys == Try.prog.plainKeys)) = true := by kernel_rfl
theorem c23 : (Rows.ratioMulsRow.shortTexts.isNone) = true := by kernel_rfl
theorem c24 : (Try.prog.stopsHeard) = true := by kernel_rfl
theorem c25 : (Try.prog.mayEnter) = true := mayEnter_is
theorem c26 : ((Rows.ratioMulsRow.lifted == Try.prog.liftsFinal)) = true := by rw [liftsFinal_is]; rfl
theorem c27 : ((Try.prog.make == some Rows.ratioMulsRow.make)) = true := by rw [make_is]; rfl
theorem c28 : ((Rows.ratioMulsRow.kinds == (if Rows.ratioMulsRow.domain.isEmpty then [] else Try.f5.params.toList.map fun t => match Try.prog.underlying t with | some (.int k) => some k | _ => none))) = true := by kernel_rfl
theorem c29 : ((Rows.ratioMulsRow.pinned == Rows.ratioMulsRow.pinnedBy)) = true := by kernel_rfl
theorem c30 : ((Rows.ratioMulsRow.veiled == (Try.f5.params.toList ++ Rows.ratioMulsSpec.plain.varTypes Try.prog ++ Try.f5.resultTypes.toList).any (Try.prog.veiledRec ·))) = true := by kernel_rfl
theorem c31 : (Rows.ratioMulsRow.veiledFits Try.prog Try.f5.params.toList (Try.f5.params.toList ++ Rows.ratioMulsSpec.plain.varTypes Try.prog ++ Try.f5.resultTypes.toList)) = true := by kernel_rfl
theorem andT {a b : Bool} (h : a = true) (h' : b = true) : (a && b) = true := by rw [h, h']; rfl
set_option maxRecDepth 100000 in
theorem closed : joinedFacts Try.prog 5 Try.f5 Rows.ratioMulsSpec Rows.ratioMulsRow = true := (andT (andT (andT (andT (andT (andT (andT (andT (andT (andT (andT (andT (andT (andT (andT (andT (andT (andT (andT (andT (andT (andT (andT (andT (andT (andT (andT (andT (andT (andT (andT c0 c1) c2) c3) c4) c5) c6) c7) c8) c9) c10) c11) c12) c13) c14) c15) c16) c17) c18) c19) c20) c21) c22) c23) c24) c25) c26) c27) c28) c29) c30) c31)
end Go.Proofs.Ytdhikpfppbcjkaa.ratioMuls

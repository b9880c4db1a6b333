/-
  RatioBetween: the closed facts of its row, one by one.
-/
import Derived.Test.YtdhikpfppbcjkaaRows
import Derived.JoinedOf
import Derived.KernelRfl
import Derived.Test.YtdhikpfppbcjkaaOrder
namespace Go.Proofs.Ytdhikpfppbcjkaa.ratioBetween
theorem c0 : (Rows.ratioBetweenRow.wf (OpenSpec.ofChange Rows.ratioBetweenSpec)) = true := by kernel_rfl
theorem c1 : (laidOutB Try.prog) = true := by kernel_rfl
theorem c2 : (mapsRowed Try.prog) = true := by kernel_rfl
theorem c3 : (Try.f9.params.all (Try.prog.readableRec ·)) = true := by kernel_rfl
theorem c4 : (namedTie Try.prog Rows.ratioBetweenRow.named Rows.ratioBetweenSpec.vars) = true := by kernel_rfl
theorem c5 : ((Rows.ratioBetweenRow.stops == [])) = true := by kernel_rfl
theorem c6 : ((Try.prog.stops == [])) = true := by kernel_rfl
theorem c7 : ((Rows.ratioBetweenRow.knobs == [])) = true := by kernel_rfl
theorem c8 : ((Try.prog.stopKnobs == [])) = true := by kernel_rfl
theorem c9 : ((Rows.ratioBetweenRow.inPlace == Try.prog.inPlace 9)) = true := by kernel_rfl
theorem c10 : ((Rows.ratioBetweenRow.unfollowed == Try.prog.unfollowed 9)) = true := by kernel_rfl
theorem c11 : ((Rows.ratioBetweenRow.recurses == Try.prog.recurses 9)) = true := by kernel_rfl
theorem c12 : ((Rows.ratioBetweenRow.named == Try.prog.varsNamed 9)) = true := by kernel_rfl
theorem c13 : ((Rows.ratioBetweenRow.maps == (Try.f9.params.toList ++ Rows.ratioBetweenSpec.plain.varTypes Try.prog).any (Try.prog.mapsRec ·))) = true := by kernel_rfl
theorem c14 : ((Rows.ratioBetweenRow.ifaces == (Try.f9.params.toList ++ Rows.ratioBetweenSpec.plain.varTypes Try.prog).any (Try.prog.ifacesRec ·))) = true := by kernel_rfl
theorem c15 : ((Rows.ratioBetweenRow.mapsOut == Try.prog.mapsAmong Try.f9.resultTypes.toList)) = true := by kernel_rfl
theorem c16 : ((Rows.ratioBetweenRow.loops == (Try.f9.params.toList ++ Rows.ratioBetweenSpec.plain.varTypes Try.prog).any (Try.prog.loopsFrom ·))) = true := by kernel_rfl
theorem c17 : ((Rows.ratioBetweenRow.wideKeys == (Try.f9.params.toList ++ Rows.ratioBetweenSpec.plain.varTypes Try.prog ++ Try.f9.resultTypes.toList).any (Try.prog.wideKeysFrom ·))) = true := by kernel_rfl
theorem c18 : (Rows.ratioBetweenSpec.vars.all (Try.prog.varReadable ·)) = true := by kernel_rfl
theorem c19 : (Try.f9.resultTypes.all (fun t => Try.prog.readableRec t && decide (t < Try.prog.types.size))) = true := by kernel_rfl
theorem c20 : ((Rows.ratioBetweenRow.ifacesOut == Try.f9.resultTypes.toList.any (Try.prog.ifacesRec ·))) = true := by kernel_rfl
theorem c21 : ((Rows.ratioBetweenRow.loopsOut == Try.f9.resultTypes.toList.any (Try.prog.loopsFrom ·))) = true := by kernel_rfl
theorem c22 : ((Rows.ratioBetweenRow.plainKeys == Try.prog.plainKeys)) = true := by kernel_rfl
theorem c23 : (Rows.ratioBetweenRow.shortTexts.isNone) = true := by kernel_rfl
theorem c24 : (Try.prog.stopsHeard) = true := by kernel_rfl
theorem c25 : (Try.prog.mayEnter) = true := mayEnter_is
theorem c26 : ((Rows.ratioBetweenRow.lifted == Try.prog.liftsFinal)) = true := by rw [liftsFinal_is]; rfl
theorem c27 : ((Try.prog.make == some Rows.ratioBetweenRow.make)) = true := by rw [make_is]; rfl
theorem c28 : ((Rows.ratioBetweenRow.kinds == (if Rows.ratioBetweenRow.domain.isEmpty then [] else Try.f9.params.toList.map fun t => match Try.prog.underlying t with | some (.int k) => some k | _ => none))) = true := by kernel_rfl
theorem c29 : ((Rows.ratioBetweenRow.pinned == Rows.ratioBetweenRow.pinnedBy)) = true := by kernel_rfl
theorem c30 : ((Rows.ratioBetweenRow.veiled == (Try.f9.params.toList ++ Rows.ratioBetweenSpec.plain.varTypes Try.prog ++ Try.f9.resultTypes.toList).any (Try.prog.veiledRec ·))) = true := by kernel_rfl
theorem c31 : (Rows.ratioBetweenRow.veiledFits Try.prog Try.f9.params.toList (Try.f9.params.toList ++ Rows.ratioBetweenSpec.plain.varTypes Try.prog ++ Try.f9.resultTypes.toList)) = true := by kernel_rfl
theorem andT {a b : Bool} (h : a = true) (h' : b = true) : (a && b) = true := by rw [h, h']; rfl
set_option maxRecDepth 100000 in
theorem closed : joinedFacts Try.prog 9 Try.f9 Rows.ratioBetweenSpec Rows.ratioBetweenRow = true := (andT (andT (andT (andT (andT (andT (andT (andT (andT (andT (andT (andT (andT (andT (andT (andT (andT (andT (andT (andT (andT (andT (andT (andT (andT (andT (andT (andT (andT (andT (andT c0 c1) c2) c3) c4) c5) c6) c7) c8) c9) c10) c11) c12) c13) c14) c15) c16) c17) c18) c19) c20) c21) c22) c23) c24) c25) c26) c27) c28) c29) c30) c31)
end Go.Proofs.Ytdhikpfppbcjkaa.ratioBetween

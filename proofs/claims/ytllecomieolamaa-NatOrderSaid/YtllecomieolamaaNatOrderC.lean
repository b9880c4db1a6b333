/-
  NatOrder: the closed facts of its row, one by one.
-/
import Derived.Test.YtllecomieolamaaRows
import Derived.JoinedOf
import Derived.KernelRfl
import Derived.Test.YtllecomieolamaaOrder
namespace Go.Proofs.Ytllecomieolamaa.natOrder
theorem c0 : (Rows.natOrderRow.wf (OpenSpec.ofChange Rows.natOrderSpec)) = true := by kernel_rfl
theorem c1 : (laidOutB Try.prog) = true := by kernel_rfl
theorem c2 : (mapsRowed Try.prog) = true := by kernel_rfl
theorem c3 : (Try.f8.params.all (Try.prog.readableRec ·)) = true := by kernel_rfl
theorem c4 : (namedTie Try.prog Rows.natOrderRow.named Rows.natOrderSpec.vars) = true := by kernel_rfl
theorem c5 : ((Rows.natOrderRow.stops == [])) = true := by kernel_rfl
theorem c6 : ((Try.prog.stops == [])) = true := by kernel_rfl
theorem c7 : ((Rows.natOrderRow.knobs == [])) = true := by kernel_rfl
theorem c8 : ((Try.prog.stopKnobs == [])) = true := by kernel_rfl
theorem c9 : ((Rows.natOrderRow.inPlace == Try.prog.inPlace 8)) = true := by kernel_rfl
theorem c10 : ((Rows.natOrderRow.unfollowed == Try.prog.unfollowed 8)) = true := by kernel_rfl
theorem c11 : ((Rows.natOrderRow.recurses == Try.prog.recurses 8)) = true := by kernel_rfl
theorem c12 : ((Rows.natOrderRow.named == Try.prog.varsNamed 8)) = true := by kernel_rfl
theorem c13 : ((Rows.natOrderRow.maps == (Try.f8.params.toList ++ Rows.natOrderSpec.plain.varTypes Try.prog).any (Try.prog.mapsRec ·))) = true := by kernel_rfl
theorem c14 : ((Rows.natOrderRow.ifaces == (Try.f8.params.toList ++ Rows.natOrderSpec.plain.varTypes Try.prog).any (Try.prog.ifacesRec ·))) = true := by kernel_rfl
theorem c15 : ((Rows.natOrderRow.mapsOut == Try.prog.mapsAmong Try.f8.resultTypes.toList)) = true := by kernel_rfl
theorem c16 : ((Rows.natOrderRow.loops == (Try.f8.params.toList ++ Rows.natOrderSpec.plain.varTypes Try.prog).any (Try.prog.loopsFrom ·))) = true := by kernel_rfl
theorem c17 : ((Rows.natOrderRow.wideKeys == (Try.f8.params.toList ++ Rows.natOrderSpec.plain.varTypes Try.prog ++ Try.f8.resultTypes.toList).any (Try.prog.wideKeysFrom ·))) = true := by kernel_rfl
theorem c18 : (Rows.natOrderSpec.vars.all (Try.prog.varReadable ·)) = true := by kernel_rfl
theorem c19 : (Try.f8.resultTypes.all (fun t => Try.prog.readableRec t && decide (t < Try.prog.types.size))) = true := by kernel_rfl
theorem c20 : ((Rows.natOrderRow.ifacesOut == Try.f8.resultTypes.toList.any (Try.prog.ifacesRec ·))) = true := by kernel_rfl
theorem c21 : ((Rows.natOrderRow.loopsOut == Try.f8.resultTypes.toList.any (Try.prog.loopsFrom ·))) = true := by kernel_rfl
theorem c22 : ((Rows.natOrderRow.plainKeys == Try.prog.plainKeys)) = true := by kernel_rfl
theorem c23 : (Rows.natOrderRow.shortTexts.isNone) = true := by kernel_rfl
theorem c24 : (Try.prog.stopsHeard) = true := by kernel_rfl
theorem c25 : (Try.prog.mayEnter) = true := mayEnter_is
theorem c26 : ((Rows.natOrderRow.lifted == Try.prog.liftsFinal)) = true := by rw [liftsFinal_is]; rfl
theorem c27 : ((Try.prog.make == some Rows.natOrderRow.make)) = true := by rw [make_is]; rfl
theorem c28 : ((Rows.natOrderRow.kinds == (if Rows.natOrderRow.domain.isEmpty then [] else Try.f8.params.toList.map fun t => match Try.prog.underlying t with | some (.int k) => some k | _ => none))) = true := by kernel_rfl
theorem c29 : ((Rows.natOrderRow.pinned == Rows.natOrderRow.pinnedBy)) = true := by kernel_rfl
theorem c30 : ((Rows.natOrderRow.veiled == (Try.f8.params.toList ++ Rows.natOrderSpec.plain.varTypes Try.prog ++ Try.f8.resultTypes.toList).any (Try.prog.veiledRec ·))) = true := by kernel_rfl
theorem c31 : (Rows.natOrderRow.veiledFits Try.prog Try.f8.params.toList (Try.f8.params.toList ++ Rows.natOrderSpec.plain.varTypes Try.prog ++ Try.f8.resultTypes.toList)) = true := by kernel_rfl
theorem andT {a b : Bool} (h : a = true) (h' : b = true) : (a && b) = true := by rw [h, h']; rfl
set_option maxRecDepth 100000 in
theorem closed : joinedFacts Try.prog 8 Try.f8 Rows.natOrderSpec Rows.natOrderRow = true := (andT (andT (andT (andT (andT (andT (andT (andT (andT (andT (andT (andT (andT (andT (andT (andT (andT (andT (andT (andT (andT (andT (andT (andT (andT (andT (andT (andT (andT (andT (andT c0 c1) c2) c3) c4) c5) c6) c7) c8) c9) c10) c11) c12) c13) c14) c15) c16) c17) c18) c19) c20) c21) c22) c23) c24) c25) c26) c27) c28) c29) c30) c31)
end Go.Proofs.Ytllecomieolamaa.natOrder

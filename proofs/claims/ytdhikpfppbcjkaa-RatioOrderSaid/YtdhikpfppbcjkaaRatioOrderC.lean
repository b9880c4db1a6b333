/-
  RatioOrder: the closed facts of its row, one by one.
-/
import Derived.Test.YtdhikpfppbcjkaaRows
import Derived.JoinedOf
import Derived.KernelRfl
import Derived.Test.YtdhikpfppbcjkaaOrder
namespace Go.Proofs.Ytdhikpfppbcjkaa.ratioOrder
theorem c0 : (Rows.ratioOrderRow.wf (OpenSpec.ofChange Rows.ratioOrderSpec)) = true := by kernel_rfl
theorem c1 : (laidOutB Try.prog) = true := by kernel_rfl
theorem c2 : (mapsRowed Try.prog) = true := by kernel_rfl
theorem c3 : (Try.f7.params.all (Try.prog.readableRec ·)) = true := by kernel_rfl
theorem c4 : (namedTie Try.prog Rows.ratioOrderRow.named Rows.ratioOrderSpec.vars) = true := by kernel_rfl
theorem c5 : ((Rows.ratioOrderRow.stops == [])) = true := by kernel_rfl
theorem c6 : ((Try.prog.stops == [])) = true := by kernel_rfl
theorem c7 : ((Rows.ratioOrderRow.knobs == [])) = true := by kernel_rfl
theorem c8 : ((Try.prog.stopKnobs == [])) = true := by kernel_rfl
theorem c9 : ((Rows.ratioOrderRow.inPlace == Try.prog.inPlace 7)) = true := by kernel_rfl
theorem c10 : ((Rows.ratioOrderRow.unfollowed == Try.prog.unfollowed 7)) = true := by kernel_rfl
theorem c11 : ((Rows.ratioOrderRow.recurses == Try.prog.recurses 7)) = true := by kernel_rfl
theorem c12 : ((Rows.ratioOrderRow.named == Try.prog.varsNamed 7)) = true := by kernel_rfl
theorem c13 : ((Rows.ratioOrderRow.maps == (Try.f7.params.toList ++ Rows.ratioOrderSpec.plain.varTypes Try.prog).any (Try.prog.mapsRec ·))) = true := by kernel_rfl
theorem c14 : ((Rows.ratioOrderRow.ifaces == (Try.f7.params.toList ++ Rows.ratioOrderSpec.plain.varTypes Try.prog).any (Try.prog.ifacesRec ·))) = true := by kernel_rfl
theorem c15 : ((Rows.ratioOrderRow.mapsOut == Try.prog.mapsAmong Try.f7.resultTypes.toList)) = true := by kernel_rfl
theorem c16 : ((Rows.ratioOrderRow.loops == (Try.f7.params.toList ++ Rows.ratioOrderSpec.plain.varTypes Try.prog).any (Try.prog.loopsFrom ·))) = true := by kernel_rfl
theorem c17 : ((Rows.ratioOrderRow.wideKeys == (Try.f7.params.toList ++ Rows.ratioOrderSpec.plain.varTypes Try.prog ++ Try.f7.resultTypes.toList).any (Try.prog.wideKeysFrom ·))) = true := by kernel_rfl
theorem c18 : (Rows.ratioOrderSpec.vars.all (Try.prog.varReadable ·)) = true := by kernel_rfl
theorem c19 : (Try.f7.resultTypes.all (fun t => Try.prog.readableRec t && decide (t < Try.prog.types.size))) = true := by kernel_rfl
theorem c20 : ((Rows.ratioOrderRow.ifacesOut == Try.f7.resultTypes.toList.any (Try.prog.ifacesRec ·))) = true := by kernel_rfl
theorem c21 : ((Rows.ratioOrderRow.loopsOut == Try.f7.resultTypes.toList.any (Try.prog.loopsFrom ·))) = true := by kernel_rfl
theorem c22 : ((Rows.ratioOrderRow.plainKeys == Try.prog.plainKeys)) = true := by kernel_rfl
theorem c23 : (Rows.ratioOrderRow.shortTexts.isNone) = true := by kernel_rfl
theorem c24 : (Try.prog.stopsHeard) = true := by kernel_rfl
theorem c25 : (Try.prog.mayEnter) = true := mayEnter_is
theorem c26 : ((Rows.ratioOrderRow.lifted == Try.prog.liftsFinal)) = true := by rw [liftsFinal_is]; rfl
theorem c27 : ((Try.prog.make == some Rows.ratioOrderRow.make)) = true := by rw [make_is]; rfl
theorem c28 : ((Rows.ratioOrderRow.kinds == (if Rows.ratioOrderRow.domain.isEmpty then [] else Try.f7.params.toList.map fun t => match Try.prog.underlying t with | some (.int k) => some k | _ => none))) = true := by kernel_rfl
theorem c29 : ((Rows.ratioOrderRow.pinned == Rows.ratioOrderRow.pinnedBy)) = true := by kernel_rfl
theorem c30 : ((Rows.ratioOrderRow.veiled == (Try.f7.params.toList ++ Rows.ratioOrderSpec.plain.varTypes Try.prog ++ Try.f7.resultTypes.toList).any (Try.prog.veiledRec ·))) = true := by kernel_rfl
theorem c31 : (Rows.ratioOrderRow.veiledFits Try.prog Try.f7.params.toList (Try.f7.params.toList ++ Rows.ratioOrderSpec.plain.varTypes Try.prog ++ Try.f7.resultTypes.toList)) = true := by kernel_rfl
theorem andT {a b : Bool} (h : a = true) (h' : b = true) : (a && b) = true := by rw [h, h']; rfl
set_option maxRecDepth 100000 in
theorem closed : joinedFacts Try.prog 7 Try.f7 Rows.ratioOrderSpec Rows.ratioOrderRow = true := (andT (andT (andT (andT (andT (andT (andT (andT (andT (andT (andT (andT (andT (andT (andT (andT (andT (andT (andT (andT (andT (andT (andT (andT (andT (andT (andT (andT (andT (andT (andT c0 c1) c2) c3) c4) c5) c6) c7) c8) c9) c10) c11) c12) c13) c14) c15) c16) c17) c18) c19) c20) c21) c22) c23) c24) c25) c26) c27) c28) c29) c30) c31)
end Go.Proofs.Ytdhikpfppbcjkaa.ratioOrder

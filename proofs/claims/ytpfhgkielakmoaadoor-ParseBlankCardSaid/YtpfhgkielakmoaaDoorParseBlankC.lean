/-
  ParseBlank: the closed facts of its row, one by one.
-/
import Derived.Test.YtpfhgkielakmoaaDoorRows
import Derived.JoinedOf
import Derived.KernelRfl
import Derived.Test.YtpfhgkielakmoaaDoorOrder
namespace Go.Proofs.YtpfhgkielakmoaaDoor.parseBlank
theorem c0 : (Rows.parseBlankRow.wf (OpenSpec.ofChange Rows.parseBlankSpec)) = true := by kernel_rfl
theorem c1 : (laidOutB Tryd.prog) = true := by kernel_rfl
theorem c2 : (mapsRowed Tryd.prog) = true := by kernel_rfl
theorem c3 : (Tryd.f6.params.all (Tryd.prog.readableRec ·)) = true := by kernel_rfl
theorem c4 : (namedTie Tryd.prog Rows.parseBlankRow.named Rows.parseBlankSpec.vars) = true := by kernel_rfl
theorem c5 : ((Rows.parseBlankRow.stops == [])) = true := by kernel_rfl
theorem c6 : ((Tryd.prog.stops == [])) = true := by kernel_rfl
theorem c7 : ((Rows.parseBlankRow.knobs == [])) = true := by kernel_rfl
theorem c8 : ((Tryd.prog.stopKnobs == [])) = true := by kernel_rfl
theorem c9 : ((Rows.parseBlankRow.inPlace == Tryd.prog.inPlace 6)) = true := by kernel_rfl
theorem c10 : ((Rows.parseBlankRow.unfollowed == Tryd.prog.unfollowed 6)) = true := by kernel_rfl
theorem c11 : ((Rows.parseBlankRow.recurses == Tryd.prog.recurses 6)) = true := by kernel_rfl
theorem c12 : ((Rows.parseBlankRow.named == Tryd.prog.varsNamed 6)) = true := by kernel_rfl
theorem c13 : ((Rows.parseBlankRow.maps == (Tryd.f6.params.toList ++ Rows.parseBlankSpec.plain.varTypes Tryd.prog).any (Tryd.prog.mapsRec ·))) = true := by kernel_rfl
theorem c14 : ((Rows.parseBlankRow.ifaces == (Tryd.f6.params.toList ++ Rows.parseBlankSpec.plain.varTypes Tryd.prog).any (Tryd.prog.ifacesRec ·))) = true := by kernel_rfl
theorem c15 : ((Rows.parseBlankRow.mapsOut == Tryd.prog.mapsAmong Tryd.f6.resultTypes.toList)) = true := by kernel_rfl
theorem c16 : ((Rows.parseBlankRow.loops == (Tryd.f6.params.toList ++ Rows.parseBlankSpec.plain.varTypes Tryd.prog).any (Tryd.prog.loopsFrom ·))) = true := by kernel_rfl
theorem c17 : ((Rows.parseBlankRow.wideKeys == (Tryd.f6.params.toList ++ Rows.parseBlankSpec.plain.varTypes Tryd.prog ++ Tryd.f6.resultTypes.toList).any (Tryd.prog.wideKeysFrom ·))) = true := by kernel_rfl
theorem c18 : (Rows.parseBlankSpec.vars.all (Tryd.prog.varReadable ·)) = true := by kernel_rfl
theorem c19 : (Tryd.f6.resultTypes.all (fun t => Tryd.prog.readableRec t && decide (t < Tryd.prog.types.size))) = true := by kernel_rfl
theorem c20 : ((Rows.parseBlankRow.ifacesOut == Tryd.f6.resultTypes.toList.any (Tryd.prog.ifacesRec ·))) = true := by kernel_rfl
theorem c21 : ((Rows.parseBlankRow.loopsOut == Tryd.f6.resultTypes.toList.any (Tryd.prog.loopsFrom ·))) = true := by kernel_rfl
theorem c22 : ((Rows.parseBlankRow.plainKeys == Tryd.prog.plainKeys)) = true := by kernel_rfl
theorem c23 : (Rows.parseBlankRow.shortTexts.isNone) = true := by kernel_rfl
theorem c24 : (Tryd.prog.stopsHeard) = true := by kernel_rfl
theorem c25 : (Tryd.prog.mayEnter) = true := mayEnter_is
theorem c26 : ((Rows.parseBlankRow.lifted == Tryd.prog.liftsFinal)) = true := by rw [liftsFinal_is]; rfl
theorem c27 : ((Tryd.prog.make == some Rows.parseBlankRow.make)) = true := by rw [make_is]; rfl
theorem c28 : ((Rows.parseBlankRow.kinds == (if Rows.parseBlankRow.domain.isEmpty then [] else Tryd.f6.params.toList.map fun t => match Tryd.prog.underlying t with | some (.int k) => some k | _ => none))) = true := by kernel_rfl
theorem c29 : ((Rows.parseBlankRow.pinned == Rows.parseBlankRow.pinnedBy)) = true := by kernel_rfl
theorem c30 : ((Rows.parseBlankRow.veiled == (Tryd.f6.params.toList ++ Rows.parseBlankSpec.plain.varTypes Tryd.prog ++ Tryd.f6.resultTypes.toList).any (Tryd.prog.veiledRec ·))) = true := by kernel_rfl
theorem c31 : (Rows.parseBlankRow.veiledFits Tryd.prog Tryd.f6.params.toList (Tryd.f6.params.toList ++ Rows.parseBlankSpec.plain.varTypes Tryd.prog ++ Tryd.f6.resultTypes.toList)) = true := by kernel_rfl
theorem andT {a b : Bool} (h : a = true) (h' : b = true) : (a && b) = true := by rw [h, h']; rfl
set_option maxRecDepth 100000 in
theorem closed : joinedFacts Tryd.prog 6 Tryd.f6 Rows.parseBlankSpec Rows.parseBlankRow = true := (andT (andT (andT (andT (andT (andT (andT (andT (andT (andT (andT (andT (andT (andT (andT (andT (andT (andT (andT (andT (andT (andT (andT (andT (andT (andT (andT (andT (andT (andT (andT c0 c1) c2) c3) c4) c5) c6) c7) c8) c9) c10) c11) c12) c13) c14) c15) c16) c17) c18) c19) c20) c21) c22) c23) c24) c25) c26) c27) c28) c29) c30) c31)
end Go.Proofs.YtpfhgkielakmoaaDoor.parseBlank

/-
  ShowBoth: the closed facts of its row, one by one.
-/
import Derived.Test.YtpfhgkielakmoaaGreatDoorRows
import Derived.JoinedOf
import Derived.KernelRfl
import Derived.Test.YtpfhgkielakmoaaGreatDoorOrder
namespace Go.Proofs.YtpfhgkielakmoaaGreatDoor.showBoth
theorem c0 : (Rows.showBothRow.wf (OpenSpec.ofChange Rows.showBothSpec)) = true := by kernel_rfl
theorem c1 : (laidOutB Tryz.prog) = true := by kernel_rfl
theorem c2 : (mapsRowed Tryz.prog) = true := by kernel_rfl
theorem c3 : (Tryz.f6.params.all (Tryz.prog.readableRec ·)) = true := by kernel_rfl
theorem c4 : (namedTie Tryz.prog Rows.showBothRow.named Rows.showBothSpec.vars) = true := by kernel_rfl
theorem c5 : ((Rows.showBothRow.stops == [])) = true := by kernel_rfl
theorem c6 : ((Tryz.prog.stops == [])) = true := by kernel_rfl
theorem c7 : ((Rows.showBothRow.knobs == [])) = true := by kernel_rfl
theorem c8 : ((Tryz.prog.stopKnobs == [])) = true := by kernel_rfl
theorem c9 : ((Rows.showBothRow.inPlace == Tryz.prog.inPlace 6)) = true := by kernel_rfl
theorem c10 : ((Rows.showBothRow.unfollowed == Tryz.prog.unfollowed 6)) = true := by kernel_rfl
theorem c11 : ((Rows.showBothRow.recurses == Tryz.prog.recurses 6)) = true := by kernel_rfl
theorem c12 : ((Rows.showBothRow.named == Tryz.prog.varsNamed 6)) = true := by kernel_rfl
theorem c13 : ((Rows.showBothRow.maps == (Tryz.f6.params.toList ++ Rows.showBothSpec.plain.varTypes Tryz.prog).any (Tryz.prog.mapsRec ·))) = true := by kernel_rfl
theorem c14 : ((Rows.showBothRow.ifaces == (Tryz.f6.params.toList ++ Rows.showBothSpec.plain.varTypes Tryz.prog).any (Tryz.prog.ifacesRec ·))) = true := by kernel_rfl
theorem c15 : ((Rows.showBothRow.mapsOut == Tryz.prog.mapsAmong Tryz.f6.resultTypes.toList)) = true := by kernel_rfl
theorem c16 : ((Rows.showBothRow.loops == (Tryz.f6.params.toList ++ Rows.showBothSpec.plain.varTypes Tryz.prog).any (Tryz.prog.loopsFrom ·))) = true := by kernel_rfl
theorem c17 : ((Rows.showBothRow.wideKeys == (Tryz.f6.params.toList ++ Rows.showBothSpec.plain.varTypes Tryz.prog ++ Tryz.f6.resultTypes.toList).any (Tryz.prog.wideKeysFrom ·))) = true := by kernel_rfl
theorem c18 : (Rows.showBothSpec.vars.all (Tryz.prog.varReadable ·)) = true := by kernel_rfl
theorem c19 : (Tryz.f6.resultTypes.all (fun t => Tryz.prog.readableRec t && decide (t < Tryz.prog.types.size))) = true := by kernel_rfl
theorem c20 : ((Rows.showBothRow.ifacesOut == Tryz.f6.resultTypes.toList.any (Tryz.prog.ifacesRec ·))) = true := by kernel_rfl
theorem c21 : ((Rows.showBothRow.loopsOut == Tryz.f6.resultTypes.toList.any (Tryz.prog.loopsFrom ·))) = true := by kernel_rfl
theorem c22 : ((Rows.showBothRow.plainKeys == Tryz.prog.plainKeys)) = true := by kernel_rfl
theorem c23 : (Rows.showBothRow.shortTexts.isNone) = true := by kernel_rfl
theorem c24 : (Tryz.prog.stopsHeard) = true := by kernel_rfl
theorem c25 : (Tryz.prog.mayEnter) = true := mayEnter_is
theorem c26 : ((Rows.showBothRow.lifted == Tryz.prog.liftsFinal)) = true := by rw [liftsFinal_is]; rfl
theorem c27 : ((Tryz.prog.make == some Rows.showBothRow.make)) = true := by rw [make_is]; rfl
theorem c28 : ((Rows.showBothRow.kinds == (if Rows.showBothRow.domain.isEmpty then [] else Tryz.f6.params.toList.map fun t => match Tryz.prog.underlying t with | some (.int k) => some k | _ => none))) = true := by kernel_rfl
theorem c29 : ((Rows.showBothRow.pinned == Rows.showBothRow.pinnedBy)) = true := by kernel_rfl
theorem c30 : ((Rows.showBothRow.veiled == (Tryz.f6.params.toList ++ Rows.showBothSpec.plain.varTypes Tryz.prog ++ Tryz.f6.resultTypes.toList).any (Tryz.prog.veiledRec ·))) = true := by kernel_rfl
theorem c31 : (Rows.showBothRow.veiledFits Tryz.prog Tryz.f6.params.toList (Tryz.f6.params.toList ++ Rows.showBothSpec.plain.varTypes Tryz.prog ++ Tryz.f6.resultTypes.toList)) = true := by kernel_rfl
theorem andT {a b : Bool} (h : a = true) (h' : b = true) : (a && b) = true := by rw [h, h']; rfl
set_option maxRecDepth 100000 in
theorem closed : joinedFacts Tryz.prog 6 Tryz.f6 Rows.showBothSpec Rows.showBothRow = true := (andT (andT (andT (andT (andT (andT (andT (andT (andT (andT (andT (andT (andT (andT (andT (andT (andT (andT (andT (andT (andT (andT (andT (andT (andT (andT (andT (andT (andT (andT (andT c0 c1) c2) c3) c4) c5) c6) c7) c8) c9) c10) c11) c12) c13) c14) c15) c16) c17) c18) c19) c20) c21) c22) c23) c24) c25) c26) c27) c28) c29) c30) c31)
end Go.Proofs.YtpfhgkielakmoaaGreatDoor.showBoth

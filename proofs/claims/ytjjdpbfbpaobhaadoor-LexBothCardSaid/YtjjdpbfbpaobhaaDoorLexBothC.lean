/-
  LexBoth: the closed facts of its row, one by one.
-/
import Derived.Test.YtjjdpbfbpaobhaaDoorRows
import Derived.JoinedOf
import Derived.KernelRfl
import Derived.Test.YtjjdpbfbpaobhaaDoorOrder
namespace Go.Proofs.YtjjdpbfbpaobhaaDoor.lexBoth
theorem c0 : (Rows.lexBothRow.wf (OpenSpec.ofChange Rows.lexBothSpec)) = true := by kernel_rfl
theorem c1 : (laidOutB Tryd.prog) = true := by kernel_rfl
theorem c2 : (mapsRowed Tryd.prog) = true := by kernel_rfl
theorem c3 : (Tryd.f6.params.all (Tryd.prog.readableRec ·)) = true := by kernel_rfl
theorem c4 : (namedTie Tryd.prog Rows.lexBothRow.named Rows.lexBothSpec.vars) = true := by kernel_rfl
theorem c5 : ((Rows.lexBothRow.stops == [])) = true := by kernel_rfl
theorem c6 : ((Tryd.prog.stops == [])) = true := by kernel_rfl
theorem c7 : ((Rows.lexBothRow.knobs == [])) = true := by kernel_rfl
theorem c8 : ((Tryd.prog.stopKnobs == [])) = true := by kernel_rfl
theorem c9 : ((Rows.lexBothRow.inPlace == Tryd.prog.inPlace 6)) = true := by kernel_rfl
theorem c10 : ((Rows.lexBothRow.unfollowed == Tryd.prog.unfollowed 6)) = true := by kernel_rfl
theorem c11 : ((Rows.lexBothRow.recurses == Tryd.prog.recurses 6)) = true := by kernel_rfl
theorem c12 : ((Rows.lexBothRow.named == Tryd.prog.varsNamed 6)) = true := by kernel_rfl
theorem c13 : ((Rows.lexBothRow.maps == (Tryd.f6.params.toList ++ Rows.lexBothSpec.plain.varTypes Tryd.prog).any (Tryd.prog.mapsRec ·))) = true := by kernel_rfl
theorem c14 : ((Rows.lexBothRow.ifaces == (Tryd.f6.params.toList ++ Rows.lexBothSpec.plain.varTypes Tryd.prog).any (Tryd.prog.ifacesRec ·))) = true := by kernel_rfl
theorem c15 : ((Rows.lexBothRow.mapsOut == Tryd.prog.mapsAmong Tryd.f6.resultTypes.toList)) = true := by kernel_rfl
theorem c16 : ((Rows.lexBothRow.loops == (Tryd.f6.params.toList ++ Rows.lexBothSpec.plain.varTypes Tryd.prog).any (Tryd.prog.loopsFrom ·))) = true := by kernel_rfl
theorem c17 : ((Rows.lexBothRow.wideKeys == (Tryd.f6.params.toList ++ Rows.lexBothSpec.plain.varTypes Tryd.prog ++ Tryd.f6.resultTypes.toList).any (Tryd.prog.wideKeysFrom ·))) = true := by kernel_rfl
theorem c18 : (Rows.lexBothSpec.vars.all (Tryd.prog.varReadable ·)) = true := by kernel_rfl
theorem c19 : (Tryd.f6.resultTypes.all (fun t => Tryd.prog.readableRec t && decide (t < Tryd.prog.types.size))) = true := by kernel_rfl
theorem c20 : ((Rows.lexBothRow.ifacesOut == Tryd.f6.resultTypes.toList.any (Tryd.prog.ifacesRec ·))) = true := by kernel_rfl
theorem c21 : ((Rows.lexBothRow.loopsOut == Tryd.f6.resultTypes.toList.any (Tryd.prog.loopsFrom ·))) = true := by kernel_rfl
theorem c22 : ((Rows.lexBothRow.plainKeys == Tryd.prog.plainKeys)) = true := by kernel_rfl
theorem c23 : (Rows.lexBothRow.shortTexts.isNone) = true := by kernel_rfl
theorem c24 : (Tryd.prog.stopsHeard) = true := by kernel_rfl
theorem c25 : (Tryd.prog.mayEnter) = true := mayEnter_is
theorem c26 : ((Rows.lexBothRow.lifted == Tryd.prog.liftsFinal)) = true := by rw [liftsFinal_is]; rfl
theorem c27 : ((Tryd.prog.make == some Rows.lexBothRow.make)) = true := by rw [make_is]; rfl
theorem c28 : ((Rows.lexBothRow.kinds == (if Rows.lexBothRow.domain.isEmpty then [] else Tryd.f6.params.toList.map fun t => match Tryd.prog.underlying t with | some (.int k) => some k | _ => none))) = true := by kernel_rfl
theorem c29 : ((Rows.lexBothRow.pinned == Rows.lexBothRow.pinnedBy)) = true := by kernel_rfl
theorem c30 : ((Rows.lexBothRow.veiled == (Tryd.f6.params.toList ++ Rows.lexBothSpec.plain.varTypes Tryd.prog ++ Tryd.f6.resultTypes.toList).any (Tryd.prog.veiledRec ·))) = true := by kernel_rfl
theorem c31 : (Rows.lexBothRow.veiledFits Tryd.prog Tryd.f6.params.toList (Tryd.f6.params.toList ++ Rows.lexBothSpec.plain.varTypes Tryd.prog ++ Tryd.f6.resultTypes.toList)) = true := by kernel_rfl
theorem andT {a b : Bool} (h : a = true) (h' : b = true) : (a && b) = true := by rw [h, h']; rfl
set_option maxRecDepth 100000 in
theorem closed : joinedFacts Tryd.prog 6 Tryd.f6 Rows.lexBothSpec Rows.lexBothRow = true := (andT (andT (andT (andT (andT (andT (andT (andT (andT (andT (andT (andT (andT (andT (andT (andT (andT (andT (andT (andT (andT (andT (andT (andT (andT (andT (andT (andT (andT (andT (andT c0 c1) c2) c3) c4) c5) c6) c7) c8) c9) c10) c11) c12) c13) c14) c15) c16) c17) c18) c19) c20) c21) c22) c23) c24) c25) c26) c27) c28) c29) c30) c31)
end Go.Proofs.YtjjdpbfbpaobhaaDoor.lexBoth

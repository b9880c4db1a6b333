import Derived.Test.YtecfcjdgmpopjaaGreatRows
import Derived.JoinedOf
import Derived.KernelRfl
import Derived.Test.YtecfcjdgmpopjaaGreatOrder
set_option maxRecDepth 100000
namespace Go.Proofs.YtecfcjdgmpopjaaGreat.relaxMore
theorem c0:(Rows.relaxMoreRow.wf (OpenSpec.ofChange Rows.relaxMoreSpec))=true:=by kernel_rfl
theorem c1:(laidOutB Tryz.prog)=true:=by kernel_rfl
theorem c2:(mapsRowed Tryz.prog)=true:=by kernel_rfl
theorem c3:(Tryz.f7.params.all (Tryz.prog.readableRec ·))=true:=by kernel_rfl
theorem c4:(namedTie Tryz.prog Rows.relaxMoreRow.named Rows.relaxMoreSpec.vars)=true:=by kernel_rfl
theorem c5:((Rows.relaxMoreRow.stops==[]))=true:=by kernel_rfl
theorem c6:((Tryz.prog.stops==[]))=true:=by kernel_rfl
theorem c7:((Rows.relaxMoreRow.knobs==[]))=true:=by kernel_rfl
theorem c8:((Tryz.prog.stopKnobs==[]))=true:=by kernel_rfl
theorem c9:((Rows.relaxMoreRow.inPlace==Tryz.prog.inPlace 7))=true:=by kernel_rfl
theorem c10:((Rows.relaxMoreRow.unfollowed==Tryz.prog.unfollowed 7))=true:=by kernel_rfl
theorem c11:((Rows.relaxMoreRow.recurses==Tryz.prog.recurses 7))=true:=by kernel_rfl
theorem c12:((Rows.relaxMoreRow.named==Tryz.prog.varsNamed 7))=true:=by kernel_rfl
theorem c13:((Rows.relaxMoreRow.maps==(Tryz.f7.params.toList++Rows.relaxMoreSpec.plain.varTypes Tryz.prog).any (Tryz.prog.mapsRec ·)))=true:=by kernel_rfl
theorem c14:((Rows.relaxMoreRow.ifaces==(Tryz.f7.params.toList++Rows.relaxMoreSpec.plain.varTypes Tryz.prog).any (Tryz.prog.ifacesRec ·)))=true:=by kernel_rfl
theorem c15:((Rows.relaxMoreRow.mapsOut==Tryz.prog.mapsAmong Tryz.f7.resultTypes.toList))=true:=by kernel_rfl
theorem c16:((Rows.relaxMoreRow.loops==(Tryz.f7.params.toList++Rows.relaxMoreSpec.plain.varTypes Tryz.prog).any (Tryz.prog.loopsFrom ·)))=true:=by kernel_rfl
theorem c17:((Rows.relaxMoreRow.wideKeys==(Tryz.f7.params.toList++Rows.relaxMoreSpec.plain.varTypes Tryz.prog++Tryz.f7.resultTypes.toList).any (Tryz.prog.wideKeysFrom ·)))=true:=by kernel_rfl
theorem c18:(Rows.relaxMoreSpec.vars.all (Tryz.prog.varReadable ·))=true:=by kernel_rfl
theorem c19:(Tryz.f7.resultTypes.all (fun t=>Tryz.prog.readableRec t&&decide (t<Tryz.prog.types.size)))=true:=by kernel_rfl
theorem c20:((Rows.relaxMoreRow.ifacesOut==Tryz.f7.resultTypes.toList.any (Tryz.prog.ifacesRec ·)))=true:=by kernel_rfl
theorem c21:((Rows.relaxMoreRow.loopsOut==Tryz.f7.resultTypes.toList.any (Tryz.prog.loopsFrom ·)))=true:=by kernel_rfl
theorem c22:((Rows.relaxMoreRow.plainKeys==Tryz.prog.plainKeys))=true:=by kernel_rfl
theorem c23:(Rows.relaxMoreRow.shortTexts.isNone)=true:=by kernel_rfl
theorem c24:(Tryz.prog.stopsHeard)=true:=by kernel_rfl
theorem c25:(Tryz.prog.mayEnter)=true:=mayEnter_is
theorem c26:((Rows.relaxMoreRow.lifted==Tryz.prog.liftsFinal))=true:=by rw[liftsFinal_is];rfl
theorem c27:((Tryz.prog.make==some Rows.relaxMoreRow.make))=true:=by rw[make_is];rfl
theorem c28:((Rows.relaxMoreRow.kinds==(if Rows.relaxMoreRow.domain.isEmpty then[] else Tryz.f7.params.toList.map fun t=>match Tryz.prog.underlying t with|some (.int k)=>some k|_=>none)))=true:=by kernel_rfl
theorem c29:((Rows.relaxMoreRow.pinned==Rows.relaxMoreRow.pinnedBy))=true:=by kernel_rfl
theorem c30:((Rows.relaxMoreRow.veiled==(Tryz.f7.params.toList++Rows.relaxMoreSpec.plain.varTypes Tryz.prog++Tryz.f7.resultTypes.toList).any (Tryz.prog.veiledRec ·)))=true:=by kernel_rfl
theorem c31:(Rows.relaxMoreRow.veiledFits Tryz.prog Tryz.f7.params.toList (Tryz.f7.params.toList++Rows.relaxMoreSpec.plain.varTypes Tryz.prog++Tryz.f7.resultTypes.toList))=true:=by kernel_rfl
theorem andT {a b:Bool}(h:a=true)(h':b=true):(a&&b)=true:=by rw[h,h'];rfl
theorem closed:joinedFacts Tryz.prog 7 Tryz.f7 Rows.relaxMoreSpec Rows.relaxMoreRow=true:=(andT (andT (andT (andT (andT (andT (andT (andT (andT (andT (andT (andT (andT (andT (andT (andT (andT (andT (andT (andT (andT (andT (andT (andT (andT (andT (andT (andT (andT (andT (andT c0 c1) c2) c3) c4) c5) c6) c7) c8) c9) c10) c11) c12) c13) c14) c15) c16) c17) c18) c19) c20) c21) c22) c23) c24) c25) c26) c27) c28) c29) c30) c31)
end Go.Proofs.YtecfcjdgmpopjaaGreat.relaxMore

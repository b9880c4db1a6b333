import Derived.Test.YtjlhjabgclflcaaGreatDoorRows
import Derived.JoinedOf
import Derived.KernelRfl
import Derived.Test.YtjlhjabgclflcaaGreatDoorOrder
set_option maxRecDepth 100000
namespace Go.Proofs.YtjlhjabgclflcaaGreatDoor.replyOnce
theorem c0:(Rows.replyOnceRow.wf (OpenSpec.ofChange Rows.replyOnceSpec))=true:=by kernel_rfl
theorem c1:(laidOutB Tryz.prog)=true:=by kernel_rfl
theorem c2:(mapsRowed Tryz.prog)=true:=by kernel_rfl
theorem c3:(Tryz.f5.params.all (Tryz.prog.readableRec ·))=true:=by kernel_rfl
theorem c4:(namedTie Tryz.prog Rows.replyOnceRow.named Rows.replyOnceSpec.vars)=true:=by kernel_rfl
theorem c5:((Rows.replyOnceRow.stops==[]))=true:=by kernel_rfl
theorem c6:((Tryz.prog.stops==[]))=true:=by kernel_rfl
theorem c7:((Rows.replyOnceRow.knobs==[]))=true:=by kernel_rfl
theorem c8:((Tryz.prog.stopKnobs==[]))=true:=by kernel_rfl
theorem c9:((Rows.replyOnceRow.inPlace==Tryz.prog.inPlace 5))=true:=by kernel_rfl
theorem c10:((Rows.replyOnceRow.unfollowed==Tryz.prog.unfollowed 5))=true:=by kernel_rfl
theorem c11:((Rows.replyOnceRow.recurses==Tryz.prog.recurses 5))=true:=by kernel_rfl
theorem c12:((Rows.replyOnceRow.named==Tryz.prog.varsNamed 5))=true:=by kernel_rfl
theorem c13:((Rows.replyOnceRow.maps==(Tryz.f5.params.toList++Rows.replyOnceSpec.plain.varTypes Tryz.prog).any (Tryz.prog.mapsRec ·)))=true:=by kernel_rfl
theorem c14:((Rows.replyOnceRow.ifaces==(Tryz.f5.params.toList++Rows.replyOnceSpec.plain.varTypes Tryz.prog).any (Tryz.prog.ifacesRec ·)))=true:=by kernel_rfl
theorem c15:((Rows.replyOnceRow.mapsOut==Tryz.prog.mapsAmong Tryz.f5.resultTypes.toList))=true:=by kernel_rfl
theorem c16:((Rows.replyOnceRow.loops==(Tryz.f5.params.toList++Rows.replyOnceSpec.plain.varTypes Tryz.prog).any (Tryz.prog.loopsFrom ·)))=true:=by kernel_rfl
theorem c17:((Rows.replyOnceRow.wideKeys==(Tryz.f5.params.toList++Rows.replyOnceSpec.plain.varTypes Tryz.prog++Tryz.f5.resultTypes.toList).any (Tryz.prog.wideKeysFrom ·)))=true:=by kernel_rfl
theorem c18:(Rows.replyOnceSpec.vars.all (Tryz.prog.varReadable ·))=true:=by kernel_rfl
theorem c19:(Tryz.f5.resultTypes.all (fun t=>Tryz.prog.readableRec t&&decide (t<Tryz.prog.types.size)))=true:=by kernel_rfl
theorem c20:((Rows.replyOnceRow.ifacesOut==Tryz.f5.resultTypes.toList.any (Tryz.prog.ifacesRec ·)))=true:=by kernel_rfl
theorem c21:((Rows.replyOnceRow.loopsOut==Tryz.f5.resultTypes.toList.any (Tryz.prog.loopsFrom ·)))=true:=by kernel_rfl
theorem c22:((Rows.replyOnceRow.plainKeys==Tryz.prog.plainKeys))=true:=by kernel_rfl
theorem c23:(Rows.replyOnceRow.shortTexts.isNone)=true:=by kernel_rfl
theorem c24:(Tryz.prog.stopsHeard)=true:=by kernel_rfl
theorem c25:(Tryz.prog.mayEnter)=true:=mayEnter_is
theorem c26:((Rows.replyOnceRow.lifted==Tryz.prog.liftsFinal))=true:=by rw[liftsFinal_is];rfl
theorem c27:((Tryz.prog.make==some Rows.replyOnceRow.make))=true:=by rw[make_is];rfl
theorem c28:((Rows.replyOnceRow.kinds==(if Rows.replyOnceRow.domain.isEmpty then [] else Tryz.f5.params.toList.map fun t=>match Tryz.prog.underlying t with|some (.int k)=>some k|_=>none)))=true:=by kernel_rfl
theorem c29:((Rows.replyOnceRow.pinned==Rows.replyOnceRow.pinnedBy))=true:=by kernel_rfl
theorem c30:((Rows.replyOnceRow.veiled==(Tryz.f5.params.toList++Rows.replyOnceSpec.plain.varTypes Tryz.prog++Tryz.f5.resultTypes.toList).any (Tryz.prog.veiledRec ·)))=true:=by kernel_rfl
theorem c31:(Rows.replyOnceRow.veiledFits Tryz.prog Tryz.f5.params.toList (Tryz.f5.params.toList++Rows.replyOnceSpec.plain.varTypes Tryz.prog++Tryz.f5.resultTypes.toList))=true:=by kernel_rfl
theorem andT {a b:Bool} (h:a=true) (h':b=true):(a&&b)=true:=by rw[h,h'];rfl
theorem closed:joinedFacts Tryz.prog 5 Tryz.f5 Rows.replyOnceSpec Rows.replyOnceRow=true:=(andT (andT (andT (andT (andT (andT (andT (andT (andT (andT (andT (andT (andT (andT (andT (andT (andT (andT (andT (andT (andT (andT (andT (andT (andT (andT (andT (andT (andT (andT (andT c0 c1) c2) c3) c4) c5) c6) c7) c8) c9) c10) c11) c12) c13) c14) c15) c16) c17) c18) c19) c20) c21) c22) c23) c24) c25) c26) c27) c28) c29) c30) c31)
end Go.Proofs.YtjlhjabgclflcaaGreatDoor.replyOnce

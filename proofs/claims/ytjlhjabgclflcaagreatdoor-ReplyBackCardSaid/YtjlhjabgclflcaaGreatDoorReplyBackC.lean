import Derived.Test.YtjlhjabgclflcaaGreatDoorRows
import Derived.JoinedOf
import Derived.KernelRfl
import Derived.Test.YtjlhjabgclflcaaGreatDoorOrder
set_option maxRecDepth 100000
namespace Go.Proofs.YtjlhjabgclflcaaGreatDoor.replyBack
theorem c0:(Rows.replyBackRow.wf (OpenSpec.ofChange Rows.replyBackSpec))=true:=by kernel_rfl
theorem c1:(laidOutB Tryz.prog)=true:=by kernel_rfl
theorem c2:(mapsRowed Tryz.prog)=true:=by kernel_rfl
theorem c3:(Tryz.f4.params.all (Tryz.prog.readableRec ·))=true:=by kernel_rfl
theorem c4:(namedTie Tryz.prog Rows.replyBackRow.named Rows.replyBackSpec.vars)=true:=by kernel_rfl
theorem c5:((Rows.replyBackRow.stops==[]))=true:=by kernel_rfl
theorem c6:((Tryz.prog.stops==[]))=true:=by kernel_rfl
theorem c7:((Rows.replyBackRow.knobs==[]))=true:=by kernel_rfl
theorem c8:((Tryz.prog.stopKnobs==[]))=true:=by kernel_rfl
theorem c9:((Rows.replyBackRow.inPlace==Tryz.prog.inPlace 4))=true:=by kernel_rfl
theorem c10:((Rows.replyBackRow.unfollowed==Tryz.prog.unfollowed 4))=true:=by kernel_rfl
theorem c11:((Rows.replyBackRow.recurses==Tryz.prog.recurses 4))=true:=by kernel_rfl
theorem c12:((Rows.replyBackRow.named==Tryz.prog.varsNamed 4))=true:=by kernel_rfl
theorem c13:((Rows.replyBackRow.maps==(Tryz.f4.params.toList++Rows.replyBackSpec.plain.varTypes Tryz.prog).any (Tryz.prog.mapsRec ·)))=true:=by kernel_rfl
theorem c14:((Rows.replyBackRow.ifaces==(Tryz.f4.params.toList++Rows.replyBackSpec.plain.varTypes Tryz.prog).any (Tryz.prog.ifacesRec ·)))=true:=by kernel_rfl
theorem c15:((Rows.replyBackRow.mapsOut==Tryz.prog.mapsAmong Tryz.f4.resultTypes.toList))=true:=by kernel_rfl
theorem c16:((Rows.replyBackRow.loops==(Tryz.f4.params.toList++Rows.replyBackSpec.plain.varTypes Tryz.prog).any (Tryz.prog.loopsFrom ·)))=true:=by kernel_rfl
theorem c17:((Rows.replyBackRow.wideKeys==(Tryz.f4.params.toList++Rows.replyBackSpec.plain.varTypes Tryz.prog++Tryz.f4.resultTypes.toList).any (Tryz.prog.wideKeysFrom ·)))=true:=by kernel_rfl
theorem c18:(Rows.replyBackSpec.vars.all (Tryz.prog.varReadable ·))=true:=by kernel_rfl
theorem c19:(Tryz.f4.resultTypes.all (fun t=>Tryz.prog.readableRec t&&decide (t<Tryz.prog.types.size)))=true:=by kernel_rfl
theorem c20:((Rows.replyBackRow.ifacesOut==Tryz.f4.resultTypes.toList.any (Tryz.prog.ifacesRec ·)))=true:=by kernel_rfl
theorem c21:((Rows.replyBackRow.loopsOut==Tryz.f4.resultTypes.toList.any (Tryz.prog.loopsFrom ·)))=true:=by kernel_rfl
theorem c22:((Rows.replyBackRow.plainKeys==Tryz.prog.plainKeys))=true:=by kernel_rfl
theorem c23:(Rows.replyBackRow.shortTexts.isNone)=true:=by kernel_rfl
theorem c24:(Tryz.prog.stopsHeard)=true:=by kernel_rfl
theorem c25:(Tryz.prog.mayEnter)=true:=mayEnter_is
theorem c26:((Rows.replyBackRow.lifted==Tryz.prog.liftsFinal))=true:=by rw[liftsFinal_is];rfl
theorem c27:((Tryz.prog.make==some Rows.replyBackRow.make))=true:=by rw[make_is];rfl
theorem c28:((Rows.replyBackRow.kinds==(if Rows.replyBackRow.domain.isEmpty then [] else Tryz.f4.params.toList.map fun t=>match Tryz.prog.underlying t with|some (.int k)=>some k|_=>none)))=true:=by kernel_rfl
theorem c29:((Rows.replyBackRow.pinned==Rows.replyBackRow.pinnedBy))=true:=by kernel_rfl
theorem c30:((Rows.replyBackRow.veiled==(Tryz.f4.params.toList++Rows.replyBackSpec.plain.varTypes Tryz.prog++Tryz.f4.resultTypes.toList).any (Tryz.prog.veiledRec ·)))=true:=by kernel_rfl
theorem c31:(Rows.replyBackRow.veiledFits Tryz.prog Tryz.f4.params.toList (Tryz.f4.params.toList++Rows.replyBackSpec.plain.varTypes Tryz.prog++Tryz.f4.resultTypes.toList))=true:=by kernel_rfl
theorem andT {a b:Bool} (h:a=true) (h':b=true):(a&&b)=true:=by rw[h,h'];rfl
theorem closed:joinedFacts Tryz.prog 4 Tryz.f4 Rows.replyBackSpec Rows.replyBackRow=true:=(andT (andT (andT (andT (andT (andT (andT (andT (andT (andT (andT (andT (andT (andT (andT (andT (andT (andT (andT (andT (andT (andT (andT (andT (andT (andT (andT (andT (andT (andT (andT c0 c1) c2) c3) c4) c5) c6) c7) c8) c9) c10) c11) c12) c13) c14) c15) c16) c17) c18) c19) c20) c21) c22) c23) c24) c25) c26) c27) c28) c29) c30) c31)
end Go.Proofs.YtjlhjabgclflcaaGreatDoor.replyBack

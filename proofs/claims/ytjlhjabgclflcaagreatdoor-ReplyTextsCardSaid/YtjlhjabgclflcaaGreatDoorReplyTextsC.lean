import Derived.Test.YtjlhjabgclflcaaGreatDoorRows
import Derived.JoinedOf
import Derived.KernelRfl
import Derived.Test.YtjlhjabgclflcaaGreatDoorOrder
set_option maxRecDepth 100000
namespace Go.Proofs.YtjlhjabgclflcaaGreatDoor.replyTexts
theorem c0:(Rows.replyTextsRow.wf (OpenSpec.ofChange Rows.replyTextsSpec))=true:=by kernel_rfl
theorem c1:(laidOutB Tryz.prog)=true:=by kernel_rfl
theorem c2:(mapsRowed Tryz.prog)=true:=by kernel_rfl
theorem c3:(Tryz.f3.params.all (Tryz.prog.readableRec ·))=true:=by kernel_rfl
theorem c4:(namedTie Tryz.prog Rows.replyTextsRow.named Rows.replyTextsSpec.vars)=true:=by kernel_rfl
theorem c5:((Rows.replyTextsRow.stops==[]))=true:=by kernel_rfl
theorem c6:((Tryz.prog.stops==[]))=true:=by kernel_rfl
theorem c7:((Rows.replyTextsRow.knobs==[]))=true:=by kernel_rfl
theorem c8:((Tryz.prog.stopKnobs==[]))=true:=by kernel_rfl
theorem c9:((Rows.replyTextsRow.inPlace==Tryz.prog.inPlace 3))=true:=by kernel_rfl
theorem c10:((Rows.replyTextsRow.unfollowed==Tryz.prog.unfollowed 3))=true:=by kernel_rfl
theorem c11:((Rows.replyTextsRow.recurses==Tryz.prog.recurses 3))=true:=by kernel_rfl
theorem c12:((Rows.replyTextsRow.named==Tryz.prog.varsNamed 3))=true:=by kernel_rfl
theorem c13:((Rows.replyTextsRow.maps==(Tryz.f3.params.toList++Rows.replyTextsSpec.plain.varTypes Tryz.prog).any (Tryz.prog.mapsRec ·)))=true:=by kernel_rfl
theorem c14:((Rows.replyTextsRow.ifaces==(Tryz.f3.params.toList++Rows.replyTextsSpec.plain.varTypes Tryz.prog).any (Tryz.prog.ifacesRec ·)))=true:=by kernel_rfl
theorem c15:((Rows.replyTextsRow.mapsOut==Tryz.prog.mapsAmong Tryz.f3.resultTypes.toList))=true:=by kernel_rfl
theorem c16:((Rows.replyTextsRow.loops==(Tryz.f3.params.toList++Rows.replyTextsSpec.plain.varTypes Tryz.prog).any (Tryz.prog.loopsFrom ·)))=true:=by kernel_rfl
theorem c17:((Rows.replyTextsRow.wideKeys==(Tryz.f3.params.toList++Rows.replyTextsSpec.plain.varTypes Tryz.prog++Tryz.f3.resultTypes.toList).any (Tryz.prog.wideKeysFrom ·)))=true:=by kernel_rfl
theorem c18:(Rows.replyTextsSpec.vars.all (Tryz.prog.varReadable ·))=true:=by kernel_rfl
theorem c19:(Tryz.f3.resultTypes.all (fun t=>Tryz.prog.readableRec t&&decide (t<Tryz.prog.types.size)))=true:=by kernel_rfl
theorem c20:((Rows.replyTextsRow.ifacesOut==Tryz.f3.resultTypes.toList.any (Tryz.prog.ifacesRec ·)))=true:=by kernel_rfl
theorem c21:((Rows.replyTextsRow.loopsOut==Tryz.f3.resultTypes.toList.any (Tryz.prog.loopsFrom ·)))=true:=by kernel_rfl
theorem c22:((Rows.replyTextsRow.plainKeys==Tryz.prog.plainKeys))=true:=by kernel_rfl
theorem c23:(Rows.replyTextsRow.shortTexts.isNone)=true:=by kernel_rfl
theorem c24:(Tryz.prog.stopsHeard)=true:=by kernel_rfl
theorem c25:(Tryz.prog.mayEnter)=true:=mayEnter_is
theorem c26:((Rows.replyTextsRow.lifted==Tryz.prog.liftsFinal))=true:=by rw[liftsFinal_is];rfl
theorem c27:((Tryz.prog.make==some Rows.replyTextsRow.make))=true:=by rw[make_is];rfl
theorem c28:((Rows.replyTextsRow.kinds==(if Rows.replyTextsRow.domain.isEmpty then [] else Tryz.f3.params.toList.map fun t=>match Tryz.prog.underlying t with|some (.int k)=>some k|_=>none)))=true:=by kernel_rfl
theorem c29:((Rows.replyTextsRow.pinned==Rows.replyTextsRow.pinnedBy))=true:=by kernel_rfl
theorem c30:((Rows.replyTextsRow.veiled==(Tryz.f3.params.toList++Rows.replyTextsSpec.plain.varTypes Tryz.prog++Tryz.f3.resultTypes.toList).any (Tryz.prog.veiledRec ·)))=true:=by kernel_rfl
theorem c31:(Rows.replyTextsRow.veiledFits Tryz.prog Tryz.f3.params.toList (Tryz.f3.params.toList++Rows.replyTextsSpec.plain.varTypes Tryz.prog++Tryz.f3.resultTypes.toList))=true:=by kernel_rfl
theorem andT {a b:Bool} (h:a=true) (h':b=true):(a&&b)=true:=by rw[h,h'];rfl
theorem closed:joinedFacts Tryz.prog 3 Tryz.f3 Rows.replyTextsSpec Rows.replyTextsRow=true:=(andT (andT (andT (andT (andT (andT (andT (andT (andT (andT (andT (andT (andT (andT (andT (andT (andT (andT (andT (andT (andT (andT (andT (andT (andT (andT (andT (andT (andT (andT (andT c0 c1) c2) c3) c4) c5) c6) c7) c8) c9) c10) c11) c12) c13) c14) c15) c16) c17) c18) c19) c20) c21) c22) c23) c24) c25) c26) c27) c28) c29) c30) c31)
end Go.Proofs.YtjlhjabgclflcaaGreatDoor.replyTexts

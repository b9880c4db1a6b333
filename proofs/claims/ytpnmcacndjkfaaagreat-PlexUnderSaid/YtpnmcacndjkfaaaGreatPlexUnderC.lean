import Derived.Test.YtpnmcacndjkfaaaGreatRows
import Derived.JoinedOf
import Derived.KernelRfl
import Derived.Test.YtpnmcacndjkfaaaGreatOrder
set_option maxRecDepth 100000
namespace Go.Proofs.YtpnmcacndjkfaaaGreat.plexUnder
theorem c0:(Rows.plexUnderRow.wf (OpenSpec.ofChange Rows.plexUnderSpec))=true:=by kernel_rfl
theorem c1:(laidOutB Tryz.prog)=true:=by kernel_rfl
theorem c2:(mapsRowed Tryz.prog)=true:=by kernel_rfl
theorem c3:(Tryz.f7.params.all (Tryz.prog.readableRec ·))=true:=by kernel_rfl
theorem c4:(namedTie Tryz.prog Rows.plexUnderRow.named Rows.plexUnderSpec.vars)=true:=by kernel_rfl
theorem c5:((Rows.plexUnderRow.stops==[]))=true:=by kernel_rfl
theorem c6:((Tryz.prog.stops==[]))=true:=by kernel_rfl
theorem c7:((Rows.plexUnderRow.knobs==[]))=true:=by kernel_rfl
theorem c8:((Tryz.prog.stopKnobs==[]))=true:=by kernel_rfl
theorem c9:((Rows.plexUnderRow.inPlace==Tryz.prog.inPlace 7))=true:=by kernel_rfl
theorem c10:((Rows.plexUnderRow.unfollowed==Tryz.prog.unfollowed 7))=true:=by kernel_rfl
theorem c11:((Rows.plexUnderRow.recurses==Tryz.prog.recurses 7))=true:=by kernel_rfl
theorem c12:((Rows.plexUnderRow.named==Tryz.prog.varsNamed 7))=true:=by kernel_rfl
theorem c13:((Rows.plexUnderRow.maps==(Tryz.f7.params.toList++Rows.plexUnderSpec.plain.varTypes Tryz.prog).any (Tryz.prog.mapsRec ·)))=true:=by kernel_rfl
theorem c14:((Rows.plexUnderRow.ifaces==(Tryz.f7.params.toList++Rows.plexUnderSpec.plain.varTypes Tryz.prog).any (Tryz.prog.ifacesRec ·)))=true:=by kernel_rfl
theorem c15:((Rows.plexUnderRow.mapsOut==Tryz.prog.mapsAmong Tryz.f7.resultTypes.toList))=true:=by kernel_rfl
theorem c16:((Rows.plexUnderRow.loops==(Tryz.f7.params.toList++Rows.plexUnderSpec.plain.varTypes Tryz.prog).any (Tryz.prog.loopsFrom ·)))=true:=by kernel_rfl
theorem c17:((Rows.plexUnderRow.wideKeys==(Tryz.f7.params.toList++Rows.plexUnderSpec.plain.varTypes Tryz.prog++Tryz.f7.resultTypes.toList).any (Tryz.prog.wideKeysFrom ·)))=true:=by kernel_rfl
theorem c18:(Rows.plexUnderSpec.vars.all (Tryz.prog.varReadable ·))=true:=by kernel_rfl
theorem c19:(Tryz.f7.resultTypes.all (fun t=>Tryz.prog.readableRec t&&decide (t<Tryz.prog.types.size)))=true:=by kernel_rfl
theorem c20:((Rows.plexUnderRow.ifacesOut==Tryz.f7.resultTypes.toList.any (Tryz.prog.ifacesRec ·)))=true:=by kernel_rfl
theorem c21:((Rows.plexUnderRow.loopsOut==Tryz.f7.resultTypes.toList.any (Tryz.prog.loopsFrom ·)))=true:=by kernel_rfl
theorem c22:((Rows.plexUnderRow.plainKeys==Tryz.prog.plainKeys))=true:=by kernel_rfl
theorem c23:(Rows.plexUnderRow.shortTexts.isNone)=true:=by kernel_rfl
theorem c24:(Tryz.prog.stopsHeard)=true:=by kernel_rfl
theorem c25:(Tryz.prog.mayEnter)=true:=mayEnter_is
theorem c26:((Rows.plexUnderRow.lifted==Tryz.prog.liftsFinal))=true:=by rw[liftsFinal_is];rfl
theorem c27:((Tryz.prog.make==some Rows.plexUnderRow.make))=true:=by rw[make_is];rfl
theorem c28:((Rows.plexUnderRow.kinds==(if Rows.plexUnderRow.domain.isEmpty then [] else Tryz.f7.params.toList.map fun t=>match Tryz.prog.underlying t with|some (.int k)=>some k|_=>none)))=true:=by kernel_rfl
theorem c29:((Rows.plexUnderRow.pinned==Rows.plexUnderRow.pinnedBy))=true:=by kernel_rfl
theorem c30:((Rows.plexUnderRow.veiled==(Tryz.f7.params.toList++Rows.plexUnderSpec.plain.varTypes Tryz.prog++Tryz.f7.resultTypes.toList).any (Tryz.prog.veiledRec ·)))=true:=by kernel_rfl
theorem c31:(Rows.plexUnderRow.veiledFits Tryz.prog Tryz.f7.params.toList (Tryz.f7.params.toList++Rows.plexUnderSpec.plain.varTypes Tryz.prog++Tryz.f7.resultTypes.toList))=true:=by kernel_rfl
theorem andT {a b:Bool} (h:a=true) (h':b=true):(a&&b)=true:=by rw[h,h'];rfl
theorem closed:joinedFacts Tryz.prog 7 Tryz.f7 Rows.plexUnderSpec Rows.plexUnderRow=true:=(andT (andT (andT (andT (andT (andT (andT (andT (andT (andT (andT (andT (andT (andT (andT (andT (andT (andT (andT (andT (andT (andT (andT (andT (andT (andT (andT (andT (andT (andT (andT c0 c1) c2) c3) c4) c5) c6) c7) c8) c9) c10) c11) c12) c13) c14) c15) c16) c17) c18) c19) c20) c21) c22) c23) c24) c25) c26) c27) c28) c29) c30) c31)
end Go.Proofs.YtpnmcacndjkfaaaGreat.plexUnder

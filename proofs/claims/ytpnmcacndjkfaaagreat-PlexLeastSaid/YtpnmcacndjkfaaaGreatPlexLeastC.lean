import Derived.Test.YtpnmcacndjkfaaaGreatRows
import Derived.JoinedOf
import Derived.KernelRfl
import Derived.Test.YtpnmcacndjkfaaaGreatOrder
set_option maxRecDepth 100000
namespace Go.Proofs.YtpnmcacndjkfaaaGreat.plexLeast
theorem c0:(Rows.plexLeastRow.wf (OpenSpec.ofChange Rows.plexLeastSpec))=true:=by kernel_rfl
theorem c1:(laidOutB Tryz.prog)=true:=by kernel_rfl
theorem c2:(mapsRowed Tryz.prog)=true:=by kernel_rfl
theorem c3:(Tryz.f4.params.all (Tryz.prog.readableRec ·))=true:=by kernel_rfl
theorem c4:(namedTie Tryz.prog Rows.plexLeastRow.named Rows.plexLeastSpec.vars)=true:=by kernel_rfl
theorem c5:((Rows.plexLeastRow.stops==[]))=true:=by kernel_rfl
theorem c6:((Tryz.prog.stops==[]))=true:=by kernel_rfl
theorem c7:((Rows.plexLeastRow.knobs==[]))=true:=by kernel_rfl
theorem c8:((Tryz.prog.stopKnobs==[]))=true:=by kernel_rfl
theorem c9:((Rows.plexLeastRow.inPlace==Tryz.prog.inPlace 4))=true:=by kernel_rfl
theorem c10:((Rows.plexLeastRow.unfollowed==Tryz.prog.unfollowed 4))=true:=by kernel_rfl
theorem c11:((Rows.plexLeastRow.recurses==Tryz.prog.recurses 4))=true:=by kernel_rfl
theorem c12:((Rows.plexLeastRow.named==Tryz.prog.varsNamed 4))=true:=by kernel_rfl
theorem c13:((Rows.plexLeastRow.maps==(Tryz.f4.params.toList++Rows.plexLeastSpec.plain.varTypes Tryz.prog).any (Tryz.prog.mapsRec ·)))=true:=by kernel_rfl
theorem c14:((Rows.plexLeastRow.ifaces==(Tryz.f4.params.toList++Rows.plexLeastSpec.plain.varTypes Tryz.prog).any (Tryz.prog.ifacesRec ·)))=true:=by kernel_rfl
theorem c15:((Rows.plexLeastRow.mapsOut==Tryz.prog.mapsAmong Tryz.f4.resultTypes.toList))=true:=by kernel_rfl
theorem c16:((Rows.plexLeastRow.loops==(Tryz.f4.params.toList++Rows.plexLeastSpec.plain.varTypes Tryz.prog).any (Tryz.prog.loopsFrom ·)))=true:=by kernel_rfl
theorem c17:((Rows.plexLeastRow.wideKeys==(Tryz.f4.params.toList++Rows.plexLeastSpec.plain.varTypes Tryz.prog++Tryz.f4.resultTypes.toList).any (Tryz.prog.wideKeysFrom ·)))=true:=by kernel_rfl
theorem c18:(Rows.plexLeastSpec.vars.all (Tryz.prog.varReadable ·))=true:=by kernel_rfl
theorem c19:(Tryz.f4.resultTypes.all (fun t=>Tryz.prog.readableRec t&&decide (t<Tryz.prog.types.size)))=true:=by kernel_rfl
theorem c20:((Rows.plexLeastRow.ifacesOut==Tryz.f4.resultTypes.toList.any (Tryz.prog.ifacesRec ·)))=true:=by kernel_rfl
theorem c21:((Rows.plexLeastRow.loopsOut==Tryz.f4.resultTypes.toList.any (Tryz.prog.loopsFrom ·)))=true:=by kernel_rfl
theorem c22:((Rows.plexLeastRow.plainKeys==Tryz.prog.plainKeys))=true:=by kernel_rfl
theorem c23:(Rows.plexLeastRow.shortTexts.isNone)=true:=by kernel_rfl
theorem c24:(Tryz.prog.stopsHeard)=true:=by kernel_rfl
theorem c25:(Tryz.prog.mayEnter)=true:=mayEnter_is
theorem c26:((Rows.plexLeastRow.lifted==Tryz.prog.liftsFinal))=true:=by rw[liftsFinal_is];rfl
theorem c27:((Tryz.prog.make==some Rows.plexLeastRow.make))=true:=by rw[make_is];rfl
theorem c28:((Rows.plexLeastRow.kinds==(if Rows.plexLeastRow.domain.isEmpty then [] else Tryz.f4.params.toList.map fun t=>match Tryz.prog.underlying t with|some (.int k)=>some k|_=>none)))=true:=by kernel_rfl
theorem c29:((Rows.plexLeastRow.pinned==Rows.plexLeastRow.pinnedBy))=true:=by kernel_rfl
theorem c30:((Rows.plexLeastRow.veiled==(Tryz.f4.params.toList++Rows.plexLeastSpec.plain.varTypes Tryz.prog++Tryz.f4.resultTypes.toList).any (Tryz.prog.veiledRec ·)))=true:=by kernel_rfl
theorem c31:(Rows.plexLeastRow.veiledFits Tryz.prog Tryz.f4.params.toList (Tryz.f4.params.toList++Rows.plexLeastSpec.plain.varTypes Tryz.prog++Tryz.f4.resultTypes.toList))=true:=by kernel_rfl
theorem andT {a b:Bool} (h:a=true) (h':b=true):(a&&b)=true:=by rw[h,h'];rfl
theorem closed:joinedFacts Tryz.prog 4 Tryz.f4 Rows.plexLeastSpec Rows.plexLeastRow=true:=(andT (andT (andT (andT (andT (andT (andT (andT (andT (andT (andT (andT (andT (andT (andT (andT (andT (andT (andT (andT (andT (andT (andT (andT (andT (andT (andT (andT (andT (andT (andT c0 c1) c2) c3) c4) c5) c6) c7) c8) c9) c10) c11) c12) c13) c14) c15) c16) c17) c18) c19) c20) c21) c22) c23) c24) c25) c26) c27) c28) c29) c30) c31)
end Go.Proofs.YtpnmcacndjkfaaaGreat.plexLeast

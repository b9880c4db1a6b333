import Derived.Test.YtpnmcacndjkfaaaGreatRows
import Derived.JoinedOf
import Derived.KernelRfl
import Derived.Test.YtpnmcacndjkfaaaGreatOrder
set_option maxRecDepth 100000
namespace Go.Proofs.YtpnmcacndjkfaaaGreat.plexWeak
theorem c0:(Rows.plexWeakRow.wf (OpenSpec.ofChange Rows.plexWeakSpec))=true:=by kernel_rfl
theorem c1:(laidOutB Tryz.prog)=true:=by kernel_rfl
theorem c2:(mapsRowed Tryz.prog)=true:=by kernel_rfl
theorem c3:(Tryz.f8.params.all (Tryz.prog.readableRec ·))=true:=by kernel_rfl
theorem c4:(namedTie Tryz.prog Rows.plexWeakRow.named Rows.plexWeakSpec.vars)=true:=by kernel_rfl
theorem c5:((Rows.plexWeakRow.stops==[]))=true:=by kernel_rfl
theorem c6:((Tryz.prog.stops==[]))=true:=by kernel_rfl
theorem c7:((Rows.plexWeakRow.knobs==[]))=true:=by kernel_rfl
theorem c8:((Tryz.prog.stopKnobs==[]))=true:=by kernel_rfl
theorem c9:((Rows.plexWeakRow.inPlace==Tryz.prog.inPlace 8))=true:=by kernel_rfl
theorem c10:((Rows.plexWeakRow.unfollowed==Tryz.prog.unfollowed 8))=true:=by kernel_rfl
theorem c11:((Rows.plexWeakRow.recurses==Tryz.prog.recurses 8))=true:=by kernel_rfl
theorem c12:((Rows.plexWeakRow.named==Tryz.prog.varsNamed 8))=true:=by kernel_rfl
theorem c13:((Rows.plexWeakRow.maps==(Tryz.f8.params.toList++Rows.plexWeakSpec.plain.varTypes Tryz.prog).any (Tryz.prog.mapsRec ·)))=true:=by kernel_rfl
theorem c14:((Rows.plexWeakRow.ifaces==(Tryz.f8.params.toList++Rows.plexWeakSpec.plain.varTypes Tryz.prog).any (Tryz.prog.ifacesRec ·)))=true:=by kernel_rfl
theorem c15:((Rows.plexWeakRow.mapsOut==Tryz.prog.mapsAmong Tryz.f8.resultTypes.toList))=true:=by kernel_rfl
theorem c16:((Rows.plexWeakRow.loops==(Tryz.f8.params.toList++Rows.plexWeakSpec.plain.varTypes Tryz.prog).any (Tryz.prog.loopsFrom ·)))=true:=by kernel_rfl
theorem c17:((Rows.plexWeakRow.wideKeys==(Tryz.f8.params.toList++Rows.plexWeakSpec.plain.varTypes Tryz.prog++Tryz.f8.resultTypes.toList).any (Tryz.prog.wideKeysFrom ·)))=true:=by kernel_rfl
theorem c18:(Rows.plexWeakSpec.vars.all (Tryz.prog.varReadable ·))=true:=by kernel_rfl
theorem c19:(Tryz.f8.resultTypes.all (fun t=>Tryz.prog.readableRec t&&decide (t<Tryz.prog.types.size)))=true:=by kernel_rfl
theorem c20:((Rows.plexWeakRow.ifacesOut==Tryz.f8.resultTypes.toList.any (Tryz.prog.ifacesRec ·)))=true:=by kernel_rfl
theorem c21:((Rows.plexWeakRow.loopsOut==Tryz.f8.resultTypes.toList.any (Tryz.prog.loopsFrom ·)))=true:=by kernel_rfl
theorem c22:((Rows.plexWeakRow.plainKeys==Tryz.prog.plainKeys))=true:=by kernel_rfl
theorem c23:(Rows.plexWeakRow.shortTexts.isNone)=true:=by kernel_rfl
theorem c24:(Tryz.prog.stopsHeard)=true:=by kernel_rfl
theorem c25:(Tryz.prog.mayEnter)=true:=mayEnter_is
theorem c26:((Rows.plexWeakRow.lifted==Tryz.prog.liftsFinal))=true:=by rw[liftsFinal_is];rfl
theorem c27:((Tryz.prog.make==some Rows.plexWeakRow.make))=true:=by rw[make_is];rfl
theorem c28:((Rows.plexWeakRow.kinds==(if Rows.plexWeakRow.domain.isEmpty then [] else Tryz.f8.params.toList.map fun t=>match Tryz.prog.underlying t with|some (.int k)=>some k|_=>none)))=true:=by kernel_rfl
theorem c29:((Rows.plexWeakRow.pinned==Rows.plexWeakRow.pinnedBy))=true:=by kernel_rfl
theorem c30:((Rows.plexWeakRow.veiled==(Tryz.f8.params.toList++Rows.plexWeakSpec.plain.varTypes Tryz.prog++Tryz.f8.resultTypes.toList).any (Tryz.prog.veiledRec ·)))=true:=by kernel_rfl
theorem c31:(Rows.plexWeakRow.veiledFits Tryz.prog Tryz.f8.params.toList (Tryz.f8.params.toList++Rows.plexWeakSpec.plain.varTypes Tryz.prog++Tryz.f8.resultTypes.toList))=true:=by kernel_rfl
theorem andT {a b:Bool} (h:a=true) (h':b=true):(a&&b)=true:=by rw[h,h'];rfl
theorem closed:joinedFacts Tryz.prog 8 Tryz.f8 Rows.plexWeakSpec Rows.plexWeakRow=true:=(andT (andT (andT (andT (andT (andT (andT (andT (andT (andT (andT (andT (andT (andT (andT (andT (andT (andT (andT (andT (andT (andT (andT (andT (andT (andT (andT (andT (andT (andT (andT c0 c1) c2) c3) c4) c5) c6) c7) c8) c9) c10) c11) c12) c13) c14) c15) c16) c17) c18) c19) c20) c21) c22) c23) c24) c25) c26) c27) c28) c29) c30) c31)
end Go.Proofs.YtpnmcacndjkfaaaGreat.plexWeak

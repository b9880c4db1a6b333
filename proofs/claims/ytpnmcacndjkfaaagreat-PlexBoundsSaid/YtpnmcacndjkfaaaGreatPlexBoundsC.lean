import Derived.Test.YtpnmcacndjkfaaaGreatRows
import Derived.JoinedOf
import Derived.KernelRfl
import Derived.Test.YtpnmcacndjkfaaaGreatOrder
set_option maxRecDepth 100000
namespace Go.Proofs.YtpnmcacndjkfaaaGreat.plexBounds
theorem c0:(Rows.plexBoundsRow.wf (OpenSpec.ofChange Rows.plexBoundsSpec))=true:=by kernel_rfl
theorem c1:(laidOutB Tryz.prog)=true:=by kernel_rfl
theorem c2:(mapsRowed Tryz.prog)=true:=by kernel_rfl
theorem c3:(Tryz.f6.params.all (Tryz.prog.readableRec ·))=true:=by kernel_rfl
theorem c4:(namedTie Tryz.prog Rows.plexBoundsRow.named Rows.plexBoundsSpec.vars)=true:=by kernel_rfl
theorem c5:((Rows.plexBoundsRow.stops==[]))=true:=by kernel_rfl
theorem c6:((Tryz.prog.stops==[]))=true:=by kernel_rfl
theorem c7:((Rows.plexBoundsRow.knobs==[]))=true:=by kernel_rfl
theorem c8:((Tryz.prog.stopKnobs==[]))=true:=by kernel_rfl
theorem c9:((Rows.plexBoundsRow.inPlace==Tryz.prog.inPlace 6))=true:=by kernel_rfl
theorem c10:((Rows.plexBoundsRow.unfollowed==Tryz.prog.unfollowed 6))=true:=by kernel_rfl
theorem c11:((Rows.plexBoundsRow.recurses==Tryz.prog.recurses 6))=true:=by kernel_rfl
theorem c12:((Rows.plexBoundsRow.named==Tryz.prog.varsNamed 6))=true:=by kernel_rfl
theorem c13:((Rows.plexBoundsRow.maps==(Tryz.f6.params.toList++Rows.plexBoundsSpec.plain.varTypes Tryz.prog).any (Tryz.prog.mapsRec ·)))=true:=by kernel_rfl
theorem c14:((Rows.plexBoundsRow.ifaces==(Tryz.f6.params.toList++Rows.plexBoundsSpec.plain.varTypes Tryz.prog).any (Tryz.prog.ifacesRec ·)))=true:=by kernel_rfl
theorem c15:((Rows.plexBoundsRow.mapsOut==Tryz.prog.mapsAmong Tryz.f6.resultTypes.toList))=true:=by kernel_rfl
theorem c16:((Rows.plexBoundsRow.loops==(Tryz.f6.params.toList++Rows.plexBoundsSpec.plain.varTypes Tryz.prog).any (Tryz.prog.loopsFrom ·)))=true:=by kernel_rfl
theorem c17:((Rows.plexBoundsRow.wideKeys==(Tryz.f6.params.toList++Rows.plexBoundsSpec.plain.varTypes Tryz.prog++Tryz.f6.resultTypes.toList).any (Tryz.prog.wideKeysFrom ·)))=true:=by kernel_rfl
theorem c18:(Rows.plexBoundsSpec.vars.all (Tryz.prog.varReadable ·))=true:=by kernel_rfl
theorem c19:(Tryz.f6.resultTypes.all (fun t=>Tryz.prog.readableRec t&&decide (t<Tryz.prog.types.size)))=true:=by kernel_rfl
theorem c20:((Rows.plexBoundsRow.ifacesOut==Tryz.f6.resultTypes.toList.any (Tryz.prog.ifacesRec ·)))=true:=by kernel_rfl
theorem c21:((Rows.plexBoundsRow.loopsOut==Tryz.f6.resultTypes.toList.any (Tryz.prog.loopsFrom ·)))=true:=by kernel_rfl
theorem c22:((Rows.plexBoundsRow.plainKeys==Tryz.prog.plainKeys))=true:=by kernel_rfl
theorem c23:(Rows.plexBoundsRow.shortTexts.isNone)=true:=by kernel_rfl
theorem c24:(Tryz.prog.stopsHeard)=true:=by kernel_rfl
theorem c25:(Tryz.prog.mayEnter)=true:=mayEnter_is
theorem c26:((Rows.plexBoundsRow.lifted==Tryz.prog.liftsFinal))=true:=by rw[liftsFinal_is];rfl
theorem c27:((Tryz.prog.make==some Rows.plexBoundsRow.make))=true:=by rw[make_is];rfl
theorem c28:((Rows.plexBoundsRow.kinds==(if Rows.plexBoundsRow.domain.isEmpty then [] else Tryz.f6.params.toList.map fun t=>match Tryz.prog.underlying t with|some (.int k)=>some k|_=>none)))=true:=by kernel_rfl
theorem c29:((Rows.plexBoundsRow.pinned==Rows.plexBoundsRow.pinnedBy))=true:=by kernel_rfl
theorem c30:((Rows.plexBoundsRow.veiled==(Tryz.f6.params.toList++Rows.plexBoundsSpec.plain.varTypes Tryz.prog++Tryz.f6.resultTypes.toList).any (Tryz.prog.veiledRec ·)))=true:=by kernel_rfl
theorem c31:(Rows.plexBoundsRow.veiledFits Tryz.prog Tryz.f6.params.toList (Tryz.f6.params.toList++Rows.plexBoundsSpec.plain.varTypes Tryz.prog++Tryz.f6.resultTypes.toList))=true:=by kernel_rfl
theorem andT {a b:Bool} (h:a=true) (h':b=true):(a&&b)=true:=by rw[h,h'];rfl
theorem closed:joinedFacts Tryz.prog 6 Tryz.f6 Rows.plexBoundsSpec Rows.plexBoundsRow=true:=(andT (andT (andT (andT (andT (andT (andT (andT (andT (andT (andT (andT (andT (andT (andT (andT (andT (andT (andT (andT (andT (andT (andT (andT (andT (andT (andT (andT (andT (andT (andT c0 c1) c2) c3) c4) c5) c6) c7) c8) c9) c10) c11) c12) c13) c14) c15) c16) c17) c18) c19) c20) c21) c22) c23) c24) c25) c26) c27) c28) c29) c30) c31)
end Go.Proofs.YtpnmcacndjkfaaaGreat.plexBounds

import Derived.Test.YtpfhgkielakmoaaGreatDoorFrame
import Derived.Test.YtpfhgkielakmoaaGreatDoorTf
import Derived.Test.YtpfhgkielakmoaaGreatDoorVj
import Derived.Lib.LaidTab
import Derived.LaidMore
import Derived.MakeChecks
import Derived.ProofKit
namespace Go.Proofs.YtpfhgkielakmoaaGreatDoor
open Go.ChangeShapes Go.WideShapes Go.ChangeAt Go.RowKit
def laidAll:List (String×DataW Unit):=[("math/bits.deBruijn32tab",Rows.laid_math_bits_deBruijn32tab),("math/bits.deBruijn64tab",Rows.laid_math_bits_deBruijn64tab),("internal/strconv.uint64pow10",Rows.laid_internal_strconv_uint64pow10),("strconv.ErrRange",Rows.laid_strconv_ErrRange),("strconv.ErrSyntax",Rows.laid_strconv_ErrSyntax)]
theorem door_met (os:Os) (args:Array Value):laidMetH Tryz.prog laidAll ((World.doorLaid Tryz.prog 400 os).forCall (fun _ _=>0) ⟨#[],args,[]⟩).memory:=
 laidMetH_of_parts3 (fuel:=8) (laidMet_of_run' 8 (by kernel_rfl) (by kernel_rfl)) (by kernel_rfl) (by kernel_rfl)
theorem errVars_of_laid {W:World} (h:laidMetH Tryz.prog laidAll W):ErrVars W:=by
 rw[MakeChecks.laidMetH_plain _ _ _ (by kernel_rfl)]at h;obtain ⟨ps,⟨g0,t0,cs0,f0,p0,q0,hg0,ht0,hv0,hd0,⟨g1,t1,cs1,f1,p1,q1,hg1,ht1,hv1,hd1,⟨g2,t2,cs2,f2,p2,q2,hg2,ht2,hv2,hd2,⟨g3,t3,cs3,f3,p3,q3,hg3,ht3,hv3,hd3,⟨g4,t4,cs4,f4,p4,q4,hg4,ht4,hv4,hd4,_,_⟩,_⟩,_⟩,_⟩,_⟩,_,_⟩:=h;obtain rfl:=Option.some.inj ((show Tryz.prog.globalNamed "strconv.ErrRange" =some 1 by kernel_rfl).symm.trans hg3);obtain rfl:=Option.some.inj ((show (Tryz.prog.globals[1]?).map (·.type)=some 56 by kernel_rfl).symm.trans ht3);obtain ⟨_,u3,x3,c3,_,_⟩:=iface_of_trod Tryz.underlying56 hd3;have k3:W.cell? ⟨1,0,none⟩=some (.iface u3 x3):=by
  have:=World.var?_cell hg3 hv3 0;rw[Array.eq_one_of_toList c3]at this;simpa using this
 obtain rfl:=Option.some.inj ((show Tryz.prog.globalNamed "strconv.ErrSyntax" =some 0 by kernel_rfl).symm.trans hg4);obtain rfl:=Option.some.inj ((show (Tryz.prog.globals[0]?).map (·.type)=some 56 by kernel_rfl).symm.trans ht4);obtain ⟨_,u4,x4,c4,_,_⟩:=iface_of_trod Tryz.underlying56 hd4;have k4:W.cell? ⟨0,0,none⟩=some (.iface u4 x4):=by
  have:=World.var?_cell hg4 hv4 0;rw[Array.eq_one_of_toList c4]at this;simpa using this
 exact ⟨⟨_,k4,Or.inr ⟨_,_,rfl⟩⟩,⟨_,k3,Or.inr ⟨_,_,rfl⟩⟩,World.block_lt_of_cell? W _ k4,World.block_lt_of_cell? W _ k3⟩
theorem env_of_laid {W:World} (h:laidMetH Tryz.prog laidAll W):Env W:=by
 refine ⟨errVars_of_laid h,?_⟩;rw[MakeChecks.laidMetH_plain _ _ _ (by kernel_rfl)]at h;obtain ⟨ps,⟨g0,t0,cs0,f0,p0,q0,hg0,ht0,hv0,hd0,⟨g1,t1,cs1,f1,p1,q1,hg1,ht1,hv1,hd1,⟨g2,t2,cs2,f2,p2,q2,hg2,ht2,hv2,hd2,⟨g3,t3,cs3,f3,p3,q3,hg3,ht3,hv3,hd3,⟨g4,t4,cs4,f4,p4,q4,hg4,ht4,hv4,hd4,_,_⟩,_⟩,_⟩,_⟩,_⟩,_,_⟩:=h;obtain rfl:=Option.some.inj ((show Tryz.prog.globalNamed "internal/strconv.uint64pow10" =some 3 by kernel_rfl).symm.trans hg2);obtain rfl:=Option.some.inj ((show (Tryz.prog.globals[3]?).map (·.type)=some 203 by kernel_rfl).symm.trans ht2);have hd:DataW.trod (fun _=>()) Tryz.prog W 0 (fun _=>true) false f2 203 cs2.toList=some (Lib.tabData .u64 Lib.pow10Tab,p2):=hd2;unfold Lib.TabIs;rw[hv2,←Lib.cells_of_tab (n:=20) Tryz.underlying203 Tryz.underlying143 (by kernel_rfl) (by kernel_rfl) hd];try simp
end Go.Proofs.YtpfhgkielakmoaaGreatDoor

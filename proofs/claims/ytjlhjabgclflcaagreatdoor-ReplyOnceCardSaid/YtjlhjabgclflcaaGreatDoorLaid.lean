import Derived.Test.YtjlhjabgclflcaaGreatDoorFrame
import Derived.Test.YtjlhjabgclflcaaGreatDoorTf
import Derived.Test.YtjlhjabgclflcaaGreatDoorVj
import Derived.Lib.LaidTab
import Derived.LaidMore
import Derived.MakeChecks
import Derived.ProofKit
import Derived.Lay
namespace Go.Proofs.YtjlhjabgclflcaaGreatDoor
open Go.ChangeShapes Go.WideShapes Go.ChangeAt Go.RowKit
def laidAll:List (String×DataW Unit):=[("math/bits.deBruijn32tab",Rows.laid_math_bits_deBruijn32tab),("math/bits.deBruijn64tab",Rows.laid_math_bits_deBruijn64tab),("internal/strconv.uint64pow10",Rows.laid_internal_strconv_uint64pow10),("unicode/utf8.acceptRanges",Rows.laid_unicode_utf8_acceptRanges),("strconv.ErrRange",Rows.laid_strconv_ErrRange),("strconv.ErrSyntax",Rows.laid_strconv_ErrSyntax),("unicode/utf8.first",Rows.laid_unicode_utf8_first)]
theorem door_met (os:Os) (args:Array Value):laidMetH Tryz.prog laidAll ((World.laidAll Tryz.prog os laidAll).forCall (fun _ _=>0) ⟨#[],args,[]⟩).memory:=by
 rw[MakeChecks.laidMetH_plain _ _ _ (by kernel_rfl)];exact laidMet_laidAll _ (by kernel_rfl) (by kernel_rfl)
theorem errVars_of_laid {W:World} (h:laidMetH Tryz.prog laidAll W):ErrVars W:=by
 rw[MakeChecks.laidMetH_plain _ _ _ (by kernel_rfl)]at h;obtain ⟨ps,⟨g0,t0,cs0,f0,p0,q0,hg0,ht0,hv0,hd0,⟨g1,t1,cs1,f1,p1,q1,hg1,ht1,hv1,hd1,⟨g2,t2,cs2,f2,p2,q2,hg2,ht2,hv2,hd2,⟨g3,t3,cs3,f3,p3,q3,hg3,ht3,hv3,hd3,⟨g4,t4,cs4,f4,p4,q4,hg4,ht4,hv4,hd4,⟨g5,t5,cs5,f5,p5,q5,hg5,ht5,hv5,hd5,⟨g6,t6,cs6,f6,p6,q6,hg6,ht6,hv6,hd6,_,_⟩,_⟩,_⟩,_⟩,_⟩,_⟩,_⟩,_,_⟩:=h;obtain rfl:=Option.some.inj ((show Tryz.prog.globalNamed "strconv.ErrRange" =some 3 by kernel_rfl).symm.trans hg4);obtain rfl:=Option.some.inj ((show (Tryz.prog.globals[3]?).map (·.type)=some 58 by kernel_rfl).symm.trans ht4);obtain ⟨_,u4,x4,c4,_,_⟩:=iface_of_trod Tryz.underlying58 hd4;have k4:W.cell? ⟨3,0,none⟩=some (.iface u4 x4):=by
  have:=World.var?_cell hg4 hv4 0;rw[Array.eq_one_of_toList c4]at this;simpa using this
 obtain rfl:=Option.some.inj ((show Tryz.prog.globalNamed "strconv.ErrSyntax" =some 2 by kernel_rfl).symm.trans hg5);obtain rfl:=Option.some.inj ((show (Tryz.prog.globals[2]?).map (·.type)=some 58 by kernel_rfl).symm.trans ht5);obtain ⟨_,u5,x5,c5,_,_⟩:=iface_of_trod Tryz.underlying58 hd5;have k5:W.cell? ⟨2,0,none⟩=some (.iface u5 x5):=by
  have:=World.var?_cell hg5 hv5 0;rw[Array.eq_one_of_toList c5]at this;simpa using this
 exact ⟨⟨_,k5,Or.inr ⟨_,_,rfl⟩⟩,⟨_,k4,Or.inr ⟨_,_,rfl⟩⟩,World.block_lt_of_cell? W _ k5,World.block_lt_of_cell? W _ k4⟩
theorem env_of_laid {W:World} (h:laidMetH Tryz.prog laidAll W):Env W:=by
 refine ⟨errVars_of_laid h,?_⟩;rw[MakeChecks.laidMetH_plain _ _ _ (by kernel_rfl)]at h;obtain ⟨ps,⟨g0,t0,cs0,f0,p0,q0,hg0,ht0,hv0,hd0,⟨g1,t1,cs1,f1,p1,q1,hg1,ht1,hv1,hd1,⟨g2,t2,cs2,f2,p2,q2,hg2,ht2,hv2,hd2,⟨g3,t3,cs3,f3,p3,q3,hg3,ht3,hv3,hd3,⟨g4,t4,cs4,f4,p4,q4,hg4,ht4,hv4,hd4,⟨g5,t5,cs5,f5,p5,q5,hg5,ht5,hv5,hd5,⟨g6,t6,cs6,f6,p6,q6,hg6,ht6,hv6,hd6,_,_⟩,_⟩,_⟩,_⟩,_⟩,_⟩,_⟩,_,_⟩:=h;obtain rfl:=Option.some.inj ((show Tryz.prog.globalNamed "internal/strconv.uint64pow10" =some 1 by kernel_rfl).symm.trans hg2);obtain rfl:=Option.some.inj ((show (Tryz.prog.globals[1]?).map (·.type)=some 151 by kernel_rfl).symm.trans ht2);have hd:DataW.trod (fun _=>()) Tryz.prog W 0 (fun _=>true) false f2 151 cs2.toList=some (Lib.tabData .u64 Lib.pow10Tab,p2):=hd2;unfold Lib.TabIs;rw[hv2,←Lib.cells_of_tab (n:=20) Tryz.underlying151 Tryz.underlying119 (by kernel_rfl) (by kernel_rfl) hd];try simp
end Go.Proofs.YtjlhjabgclflcaaGreatDoor

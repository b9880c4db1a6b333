import Derived.Test.YtjlhjabgclflcaaGreatDoorCe
import Derived.Test.YtjlhjabgclflcaaGreatDoorZp
import Derived.Test.YtjlhjabgclflcaaGreatDoorZl
set_option maxHeartbeats 8000000
set_option maxRecDepth 100000
set_option linter.unusedSimpArgs false
set_option linter.unusedVariables false
namespace Go.Proofs.YtjlhjabgclflcaaGreatDoor
open Go.RowKit Num Go.Joins
structure RdB (w0 w:World) (B:Option Addr) (d:Nat) (vs:List (List Int)):Prop where
 res:Blk w w0.heap.size 40 #[.int .i64 0,.slice none 0 0]
 blk:Blk w (w0.heap.size+1) 40 #[.int .i64 2,.slice B vs.length d]
 own:(layV 23 2).own (w0.heap.size+2) w (.slice B vs.length d) vs
 size:w0.heap.size+2≤w.heap.size
 bel:Below w0.heap.size w0 w
theorem RdB.start (W:World):RdB W ((W.alloc (.cells #[.int .i64 0,.slice none 0 0] 40)).alloc (.cells #[.int .i64 2,.slice none 0 0] 40)) none 0 [] where
 res:=(Blk.new W _ _).alloc _
 blk:=Blk.at_ (by simp)
 own:=Lay.own_nil _ _ _
 size:=by simp
 bel:=(below_alloc1 W _).alloc (by simp) _
theorem RdB.below {w0 w w1:World} {B:Option Addr} {d:Nat} {vs:List (List Int)} (h:RdB w0 w B d vs) (q:Below w.heap.size w w1):RdB w0 w1 B d vs where
 res:=h.res.below q (Nat.le_refl _)
 blk:=h.blk.below q (Nat.le_refl _)
 own:=Lay.own_below h.own q
 size:=Nat.le_trans h.size q.size
 bel:=h.bel.trans (q.mono (Nat.le_trans (Nat.le_add_right _ 2) h.size))
theorem RdB.far {w0 w:World} {B:Option Addr} {d:Nat} {vs:List (List Int)} (h:RdB w0 w B d vs):∀w7:World,w.grownBy w7 (Value.slice B vs.length d).ownBlock→Blk w7 w0.heap.size 40 #[.int .i64 0,.slice none 0 0]∧Blk w7 (w0.heap.size+1) 40 #[.int .i64 2,.slice B vs.length d]:=by
 intro w7 hg;have hne:∀g,g<w0.heap.size+2→some g≠(Value.slice B vs.length d).ownBlock:=fun g hlt e=>by
  have:=(Lay.own_lt h.own g e.symm).1;omega
 exact ⟨(hg.block _ h.res.lt (hne _ (by omega))).trans h.res,(hg.block _ h.blk.lt (hne _ (by omega))).trans h.blk⟩
theorem RdB.put {w0 w w7:World} {B B7:Option Addr} {d d7:Nat} {vs vs2:List (List Int)} (h:RdB w0 w B d vs) (hg:w.grownBy w7 (Value.slice B vs.length d).ownBlock) (hb:Below (w0.heap.size+2) w w7) (ho:(layV 23 2).own (w0.heap.size+2) w7 (.slice B7 vs2.length d7) vs2):RdB w0 (w7.setCell ⟨w0.heap.size+1,1,none⟩ (.slice B7 vs2.length d7)) B7 d7 vs2 where
 res:=(h.far w7 hg).1.far (by simp) _
 blk:=(h.far w7 hg).2.set_ 1 _
 own:=Lay.own_grown ho (grown_set w7 ⟨w0.heap.size+1,1,none⟩ _) (fun g e=>by injection e with e;subst e;show _+1<_;omega)
 size:=by
  simp;exact Nat.le_trans h.size hg.size
 bel:=by
  have h2:=h.bel.trans (hb.mono (by omega));exact h2.grown (grown_set w7 ⟨w0.heap.size+1,1,none⟩ _) h2.size (fun k e=>by injection e with e;subst e;show _≤_+1;omega)
def RngV (vs:List (List Int)):Prop:=∀v∈vs,RngN v
def ReadAll (w:World) (p:Int×List (List Int)×Int) (e:Ending) (w':World):Prop:=
 ∃V,e= .returned (.tuple #[.agg #[.int .i64 p.1,V],.int .i64 p.2.2])∧(layV 23 2).row.P (since w.heap.size w') w' V p.2.1∧RngV p.2.1
theorem info_blk:(Tryz.prog.info? 40).map (·.size)=some 2:=by kernel_rfl
theorem ReadAll.nil {w w':World} (k e:Int):ReadAll w (k,[],e) (.returned (.tuple #[.agg #[.int .i64 k,.slice none 0 0],.int .i64 e])) w':=
 ⟨_,rfl,Lay.row_nil (Nat.zero_le _),fun v h=>by cases h⟩
theorem grown_bel {B k:Nat} {w w1 w2:World} (h:Below B w w1) (hB:B≤w1.heap.size) (q:w1.grownBy w2 (some k)) (hk:B≤k):Below B w w2:=
 h.grown q hB (fun j e=>by injection e with e;subst e;exact hk)
theorem rreadall_any {F:Nat→Prop} (A:Option Addr) (c:Nat) (l:List Ot) (s:ByteArray) (hs:s.size≤8192) (w:World) (hE:EnvM w) (ho:(layO 46 3).row.P F w (.slice A l.length c) l) (hn:FewO l):Calls Tryz.prog 13 #[.slice A l.length c,.string s] w fun e w'=>ReadAll w (readS l s.data.toList) e w'∧Below w.heap.size w w':=by
 have hR0:=Blk.new w 40 #[.int .i64 0,.slice none 0 0];have q0:=below_alloc1 w (.cells #[.int .i64 0,.slice none 0 0] 40);by_cases h1:s.data.toList=unsatS
 ·have e1:(s.toList==[61,61,61,61,61,85,78,83,65,84,73,83,70,73,65,66,76,69,61,61,61,61,61,10])=true:=by rw[ByteArray.toList_eq,h1];rfl
  rw[h1,readS_1];clear h1;go_enter Tryz.func13,Tryz.ntmps13;go_wp2_with ((with_reducible refine st_ ?_);refine wp_put2 _ _ hR0 rfl rfl rfl rfl info_blk rfl rfl ?_;intro w20 b20 q20;obtain ⟨y0,y1,_,_⟩:=b20.both);refine bodyPost_ret (v:= .tuple #[.agg #[.int .i64 1,.slice none 0 0],.int .i64 0]) (by simp[results,Tryz.results13,go_sem,y0,y1]) rfl ?_;exact ⟨ReadAll.nil _ _,grown_bel q0 q0.size q20 (Nat.le_refl _)⟩
 have e1:(s.toList==[61,61,61,61,61,85,78,83,65,84,73,83,70,73,65,66,76,69,61,61,61,61,61,10])=false:=by rw[ByteArray.toList_eq];exact beq_false_of_ne h1
 by_cases h4:s.data.toList=unknownS
 ·have e2:(s.toList==[61,61,61,61,61,85,78,75,78,79,87,78,61,61,61,61,61,10])=true:=by rw[ByteArray.toList_eq,h4];rfl
  rw[h4,readS_4];clear h1 h4;go_enter Tryz.func13,Tryz.ntmps13;go_wp2_with ((with_reducible refine st_ ?_);refine wp_put2 _ _ hR0 rfl rfl rfl rfl info_blk rfl rfl ?_;intro w20 b20 q20;obtain ⟨y0,y1,_,_⟩:=b20.both);refine bodyPost_ret (v:= .tuple #[.agg #[.int .i64 4,.slice none 0 0],.int .i64 0]) (by simp[results,Tryz.results13,go_sem,y0,y1]) rfl ?_;exact ⟨ReadAll.nil _ _,grown_bel q0 q0.size q20 (Nat.le_refl _)⟩
 have e2:(s.toList==[61,61,61,61,61,85,78,75,78,79,87,78,61,61,61,61,61,10])=false:=by rw[ByteArray.toList_eq];exact beq_false_of_ne h4
 have HNO:=Lib.hid (fun h=>readS_no (l:=l) h1 h4 h);have HSO:=Lib.hid (fun vs r h=>readS_some (l:=l) (vs:=vs) (r:=r) h1 h4 h);have hRA:readA (l.take 0) s.data.toList=some ([],s.data.toList):=rfl;have hsl:s.data.toList.length≤8192:=by simpa using hs
 have hst:(⟨s.data.toList.toArray⟩:ByteArray)=s:=rfl;clear h1 h4;generalize readS l s.data.toList=P at*;generalize hS:s.data.toList=sl at*;have HRD:=Lib.hid (fun j (hj:j<l.length) vs r (h:readA (l.take j) sl=some (vs,r)) h2=>HNO.out (readA_no hj h h2));clear HNO hS;have HFew:=Lib.hid hn;have hnl:=hn.1;clear hn hR0 q0;go_enter Tryz.func13,Tryz.ntmps13;go_wp2_with fail;clear e1 e2;go_loopg [22,1] l.length (fun k p v wr=>∃(j:Nat) (vs:List (List Int)) (r:List UInt8) (B:Option Addr) (d:Nat),k=l.length-j∧j≤l.length∧p= .int .i64 (j:Nat)∧v= .string ⟨r.toArray⟩∧r.length≤8192∧vs.length=j∧readA (l.take j) sl=some (vs,r)∧RngV vs∧RdB w wr B d vs)
 case atStart=>exact ⟨0,[],sl,none,0,rfl,Nat.zero_le _,rfl,by rw[hst],hsl,rfl,hRA,(by intro v h;cases h),RdB.start w⟩
 case round=>
  obtain ⟨j,vs,r,B,d,hk,hj,rfl,rfl,hr,hvl,hra,hrng,hB⟩:=hrel;have hrs:(⟨r.toArray⟩:ByteArray).size≤8192:=hr;have hrl:(⟨r.toArray⟩:ByteArray).data.toList=r:=rfl;have HRA:=Lib.hid hra;have HRG:=Lib.hid hrng;have HVL:=Lib.hid hvl;clear hra hrng hvl;by_cases hlt:j<l.length
  ·have d1:decide ((j:Int)<(l.length:Int))=true:=decide_eq_true (by omega);obtain ⟨b,o,hA,hb1,hc⟩:=row_o (Dt.below _ ho hB.bel (Nat.le_refl _)) (row_ne hlt);obtain ⟨c0,c1,c2,A3,n3,c3,-⟩:=hc j hlt;subst hA;clear hc;obtain ⟨f1,f2⟩:=HFew.out.2 _ (List.getElem_mem hlt);have HT:=Lib.hid (List.take_succ_eq_append_getElem hlt);have HN:=Lib.hid (fun h2=>HRD.out j hlt vs r HRA.out h2);have HSn:=Lib.hid (fun v t (h2:readT (l[j]'hlt) r=some (v,t))=>readA_snoc HRA.out h2);generalize l[j]=x at*;obtain ⟨xn,xb,xa,xx⟩:=x;dsimp only at c0 c1 c2 c3 f1 f2;have q1:=below_alloc1 wr (.cells #[.string ⟨xn.toArray⟩,.bool xb,.bool xa,.slice A3 xx.length n3] 46);have q2:=q1.alloc (by simp) (.cells #[.string ⟨xn.toArray⟩,.bool xb,.bool xa,.slice A3 xx.length n3,.slice none 0 0] 56);have hX:=rread_any ⟨xn,xb,xa,xx⟩ A3 n3 (wr.heap.size+1) ⟨r.toArray⟩ hrs w ((wr.alloc (.cells #[.string ⟨xn.toArray⟩,.bool xb,.bool xa,.slice A3 xx.length n3] 46)).alloc (.cells #[.string ⟨xn.toArray⟩,.bool xb,.bool xa,.slice A3 xx.length n3,.slice none 0 0] 56)) hE (hB.bel.trans (q2.mono (Nat.le_trans (Nat.le_add_right _ 2) hB.size))) (Nat.le_trans (Nat.le_add_right _ 2) (Nat.le_trans hB.size (Nat.le_succ _))) (Blk.at_ (by simp)) f1 (by show xx.length≤_;omega);unfold ReadR at hX;rw[hrl]at hX;dsimp only at hX;have HX:=Lib.hid hX;have HB:=Lib.hid hB;have HR0:=Lib.hid hr;clear hX hB hr hrs hrl f1 f2;generalize (⟨r.toArray⟩:ByteArray)=S at*;go_wp2_with fail;have HQ2:=Lib.hid q2;have hWs:((wr.alloc (.cells #[.string ⟨xn.toArray⟩,.bool xb,.bool xa,.slice A3 xx.length n3] 46)).alloc (.cells #[.string ⟨xn.toArray⟩,.bool xb,.bool xa,.slice A3 xx.length n3,.slice none 0 0] 56)).heap.size=wr.heap.size+2:=by simp
   clear q1 q2 c0 c1 c2 c3;generalize (wr.alloc (.cells #[.string ⟨xn.toArray⟩,.bool xb,.bool xa,.slice A3 xx.length n3] 46)).alloc (.cells #[.string ⟨xn.toArray⟩,.bool xb,.bool xa,.slice A3 xx.length n3,.slice none 0 0] 56)=W1 at*;refine HX.out.mono ?_;rintro e w5 ⟨hR,q5⟩;have hB5:=HB.out.below (HQ2.out.trans (q5.mono (Nat.le_succ _)));clear HX;rcases hR with ⟨hn,t,rfl⟩|⟨v,r2,A4,c4,hv,rfl,hrn,hb5,hrow⟩
   ·have HP:=Lib.hid (HN.out hn);have hres:=hB5.res;have HB5:=Lib.hid hB5;clear hn hB5 q5;go_wp2_with ((with_reducible refine st_ ?_);refine wp_put2 _ _ hres rfl rfl rfl rfl info_blk rfl rfl ?_;intro w20 b20 q20;obtain ⟨y0,y1,_,_⟩:=b20.both);refine bodyPost_ret (v:= .tuple #[.agg #[.int .i64 0,.slice none 0 0],.int .i64 5]) (by simp[results,Tryz.results13,go_sem,y0,y1]) rfl ?_;exact ⟨by rw[HP.out];exact ReadAll.nil _ _,grown_bel HB5.out.bel HB5.out.bel.size q20 (Nat.le_refl _)⟩
   ·have HV:=Lib.hid (HSn.out v r2 hv);obtain ⟨hv1,hv2⟩:=readT_small hv;have HR2:Hid (r2.length≤8192):=Nat.le_trans hv2 HR0.out;have HRG2:Hid (RngV (vs++[v])):=by
     show RngV _;intro u hu;rcases List.mem_append.1 hu with hu|hu
     ·exact HRG.out u hu
     ·rw[List.mem_singleton.1 hu];exact hrn
    have HL2:Hid ((vs++[v]).length=j+1):=by
     show _=_;rw[List.length_append,HVL.out];rfl
    obtain ⟨vs2,hvs2⟩:∃vs2,vs++[v]=vs2:=⟨_,rfl⟩;have HS:=Lib.hid hvs2;rw[hvs2]at HV HRG2 HL2;have hrow2:=(layN 2).row.mono (F':=inF (w.heap.size+2) w5 (.slice B vs.length d)) (fun b hb=>⟨by
     have:=hb.1;have:=HB.out.size;omega,hb.2,fun e=>by
     have:=(Lay.own_lt HB.out.own b e).2;have:=hb.1;omega⟩) hrow
    obtain ⟨k0,k1,k2,k3,k4⟩:=hb5.five;obtain ⟨z0,z1,_,z1f⟩:=hB5.blk.both;have ho5:=hB5.own;have hbs:w.heap.size+2≤w5.heap.size:=hB5.size;have hlen:vs.length≤1000000:=by rw[HVL.out];omega
    have HB5:=Lib.hid hB5;clear hv hv1 hv2 hvs2 hrow hrn hb5 hB5 q5;go_wp2_with (at_builtin;refine Lay.wp_app (layV 23 2) _ _ w5 (w.heap.size+2) (.slice B vs.length d) vs v #[.slice A4 v.length c4] (by first|rfl|simp) Tryz.underlying38 info_vals rfl (by decide) (by decide) ho5 hbs hlen rfl rfl (v_new hrow2) rfl rfl rfl rfl ?_;intro v7 w7 ho7 hg7 hb7 hat7;obtain ⟨_,y2⟩:=HB5.out.far w7 hg7;obtain ⟨_,y3,_,y4⟩:=y2.both;rw[HS.out]at ho7;obtain ⟨B7,d7,rfl⟩:=Lay.own_len ho7);go_roundg (l.length-(j+1))
    case measure=>omega
    case rel=>exact ⟨j+1,vs2,r2,B7,d7,rfl,by omega,by simp,rfl,HR2.out,HL2.out,by rw[HT.out];exact HV.out,HRG2.out,HB5.out.put hg7 hb7 ho7⟩
  ·have d1:decide ((j:Int)<(l.length:Int))=false:=decide_eq_false (by omega);have e1:l.take j=l:=List.take_of_length_le (by omega);have hP:=HRA.out;rw[e1]at hP;replace hP:=HSO.out vs r hP;clear e1 ho;have hres:=hB.res;obtain ⟨z0,z1,z0f,z1f⟩:=hB.blk.both;by_cases hbig:64<l.length
   ·have d2:decide ((64:Int)<(l.length:Int))=true:=decide_eq_true (by omega);have d3:decide (64<l.length)=true:=decide_eq_true hbig;rw[if_pos hbig]at hP;have HP:=Lib.hid hP;have HB:=Lib.hid hB;clear hP hbig hB hr hrs hrl z0 z1 z0f z1f;go_wp2_with ((with_reducible refine st_ ?_);refine wp_put2 _ _ hres rfl rfl rfl rfl info_blk rfl rfl ?_;intro w20 b20 q20;obtain ⟨y0,y1,_,_⟩:=b20.both);refine bodyPost_ret (v:= .tuple #[.agg #[.int .i64 0,.slice none 0 0],.int .i64 5]) (by simp[results,Tryz.results13,go_sem,y0,y1]) rfl ?_;exact ⟨by rw[HP.out];exact ReadAll.nil _ _,grown_bel HB.out.bel HB.out.bel.size q20 (Nat.le_refl _)⟩
   ·have d2:decide ((64:Int)<(l.length:Int))=false:=decide_eq_false (by omega);have d3:decide (64<l.length)=false:=decide_eq_false hbig;rw[if_neg hbig]at hP;clear hbig;by_cases h3:r=dashesS++equalsS
    ·have d4:((⟨r.toArray⟩:ByteArray).toList==[45,45,45,45,45,45,45,45,45,45,10,61,61,61,61,61,61,61,61,61,61,10])=true:=by rw[ByteArray.toList_eq,h3];rfl
     rw[if_pos h3]at hP;have HP:=Lib.hid hP;have b3:Blk (wr.setCell ⟨w.heap.size+1,0,none⟩ (.int .i64 3)) (w.heap.size+1) 40 #[.int .i64 3,.slice B vs.length d]:=hB.blk.set_ 0 _;have hres3:Blk (wr.setCell ⟨w.heap.size+1,0,none⟩ (.int .i64 3)) w.heap.size 40 #[.int .i64 0,.slice none 0 0]:=hB.res.far (by simp) _;have ho3:(layV 23 2).own (w.heap.size+2) (wr.setCell ⟨w.heap.size+1,0,none⟩ (.int .i64 3)) (.slice B vs.length d) vs:=Lay.own_grown hB.own (grown_set wr ⟨w.heap.size+1,0,none⟩ _) (fun g e=>by injection e with e;subst e;show _+1<_;omega);have q3:Below w.heap.size w (wr.setCell ⟨w.heap.size+1,0,none⟩ (.int .i64 3)):=grown_bel hB.bel hB.bel.size (grown_set wr ⟨w.heap.size+1,0,none⟩ _) (Nat.le_succ _);obtain ⟨x0,x1,_,_⟩:=b3.both;have HO3:=Lib.hid ho3;have HQ3:=Lib.hid q3;clear hP h3 hB hr hrs hrl hres b3 ho3 q3;generalize (⟨r.toArray⟩:ByteArray)=S at*;go_wp2_with ((with_reducible refine st_ ?_);refine wp_put2 _ _ hres3 rfl rfl rfl rfl info_blk rfl rfl ?_;intro w20 b20 q20;obtain ⟨y0,y1,_,_⟩:=b20.both);refine bodyPost_ret (v:= .tuple #[.agg #[.int .i64 3,.slice B vs.length d],.int .i64 0]) (by simp[results,Tryz.results13,go_sem,y0,y1]) rfl ?_;refine ⟨by rw[HP.out];exact ⟨_,rfl,(layV 23 2).row.mono (fun b hb=>⟨Nat.le_trans (Nat.le_add_right _ 2) hb.1,hb.2⟩) (Lay.own_row (Lay.own_grown HO3.out q20 (fun g e=>by injection e with e;subst e;omega))),HRG.out⟩,grown_bel HQ3.out HQ3.out.size q20 (Nat.le_refl _)⟩
    ·have d4:((⟨r.toArray⟩:ByteArray).toList==[45,45,45,45,45,45,45,45,45,45,10,61,61,61,61,61,61,61,61,61,61,10])=false:=by rw[ByteArray.toList_eq];exact beq_false_of_ne h3
     rw[if_neg h3]at hP;clear h3;by_cases h2:r=dashesS
     ·have d5:((⟨r.toArray⟩:ByteArray).toList==[45,45,45,45,45,45,45,45,45,45,10])=true:=by rw[ByteArray.toList_eq,h2];rfl
      have d6:((⟨r.toArray⟩:ByteArray).toList !=[45,45,45,45,45,45,45,45,45,45,10])=false:=by unfold bne;rw[d5];rfl
      rw[if_pos h2]at hP;have HP:=Lib.hid hP;have HB:=Lib.hid hB;clear hP h2 hB hr hrs hrl;generalize (⟨r.toArray⟩:ByteArray)=S at*;go_wp2_with ((with_reducible refine st_ ?_);refine wp_put2 _ _ hres rfl rfl rfl rfl info_blk rfl rfl ?_;intro w20 b20 q20;obtain ⟨y0,y1,_,_⟩:=b20.both);refine bodyPost_ret (v:= .tuple #[.agg #[.int .i64 2,.slice B vs.length d],.int .i64 0]) (by simp[results,Tryz.results13,go_sem,y0,y1]) rfl ?_;refine ⟨by rw[HP.out];exact ⟨_,rfl,(layV 23 2).row.mono (fun b hb=>⟨Nat.le_trans (Nat.le_add_right _ 2) hb.1,hb.2⟩) (Lay.own_row (Lay.own_grown HB.out.own q20 (fun g e=>by injection e with e;subst e;omega))),HRG.out⟩,grown_bel HB.out.bel HB.out.bel.size q20 (Nat.le_refl _)⟩
     ·have d5:((⟨r.toArray⟩:ByteArray).toList==[45,45,45,45,45,45,45,45,45,45,10])=false:=by rw[ByteArray.toList_eq];exact beq_false_of_ne h2
      have d6:((⟨r.toArray⟩:ByteArray).toList !=[45,45,45,45,45,45,45,45,45,45,10])=true:=by unfold bne;rw[d5];rfl
      rw[if_neg h2]at hP;have HP:=Lib.hid hP;have HB:=Lib.hid hB;clear hP h2 hB hr hrs hrl z0 z1 z0f z1f;generalize (⟨r.toArray⟩:ByteArray)=S at*;go_wp2_with ((with_reducible refine st_ ?_);refine wp_put2 _ _ hres rfl rfl rfl rfl info_blk rfl rfl ?_;intro w20 b20 q20;obtain ⟨y0,y1,_,_⟩:=b20.both);refine bodyPost_ret (v:= .tuple #[.agg #[.int .i64 0,.slice none 0 0],.int .i64 5]) (by simp[results,Tryz.results13,go_sem,y0,y1]) rfl ?_;exact ⟨by rw[HP.out];exact ReadAll.nil _ _,grown_bel HB.out.bel HB.out.bel.size q20 (Nat.le_refl _)⟩
end Go.Proofs.YtjlhjabgclflcaaGreatDoor

import Derived.Test.YtecfcjdgmpopjaaGreatKC
set_option maxHeartbeats 16000000
set_option maxRecDepth 100000
set_option linter.unusedSimpArgs false
set_option linter.unusedVariables false
namespace Go.Proofs.YtecfcjdgmpopjaaGreat
open Go.RowKit Num
theorem Stp.then {S T:Nat→Prop}{w w1 w2:World}(h:Stp S w w1)(k:Stp T w1 w2)(hk:∀g,T g→w.heap.size≤g∨S g):Stp S w w2:=
 ⟨k.os.trans h.os,k.tape.trans h.tape,k.output.trans h.output,Nat.le_trans h.size k.size,fun i hi hs=>(k.block i (Nat.lt_of_lt_of_le hi h.size) fun ht=>by
  rcases hk i ht with h1|h1
  ·omega
  ·exact hs h1).trans (h.block i hi hs),fun r=>k.num (h.num r)⟩
theorem Stp.grew {w w':World}{g:Nat}(hb:Box w g)(hg:w.grownBy w' (some g)):Stp (fun k=>k=g) w w':=Stp.wrote hb hg rfl
def AnV (w:World)(v:Value)(a:An):Prop:=∃AX cX AY cY,QRow w AX a.x∧QRow w AY a.y∧(match a.value with
 |none=>v= .agg #[.int .i64 a.kind,.slice AX a.x.length cX,.bool false,.slice none 0 0,.bool false,.slice none 0 0,.slice AY a.y.length cY]
 |some q=>∃A c B d,v= .agg #[.int .i64 a.kind,.slice AX a.x.length cX,.bool (sN q.num),.slice A (sD q.num).length c,.bool false,.slice B (dig q.den).length d,.slice AY a.y.length cY]∧QR w A c B d q)
abbrev an0:Array Value:= #[.int .i64 0,.slice none 0 0,.bool false,.slice none 0 0,.bool false,.slice none 0 0,.slice none 0 0]
theorem QRow.none (w:World)(A:Option Addr):QRow w A []:=fun j hj=>absurd hj (Nat.not_lt_zero _)
theorem dualGo_step (n:Nat)(y:List Rat)(a:Rat)(l:List Rat)(v:Nat)(f:List Nat):dualGo n y (a::l) (v::f)=dualGo n (if v<n then y else y.set (v-n) (-a)) l f:=rfl
theorem answerT_bad {p:Pg}{b b':Tb}{i:Nat}(h:feasT b.left b=some (b',some i)):answerT p b=some ⟨2,[],none,proofT b' i⟩:=by
 unfold answerT;rw[h];rfl
theorem answerT_none {p:Pg}{b:Tb}(h:feasT b.left b=none):answerT p b=none:=by
 unfold answerT;rw[h];rfl
theorem answerT_opt {p:Pg}{b b':Tb}(h:feasT b.left b=some (b',none)):answerT p b=(optT b'.left b').bind fun b2=>(dotO 0 ((b2.vars.take b2.n).map (·.v)) p.c).map fun v=>⟨1,(b2.vars.take b2.n).map (·.v),some v,dualGo b2.n (zerosT b2) b2.cost b2.free⟩:=by
 unfold answerT;rw[h];rfl
theorem QOwn.wrote {w w':World}{base:Nat}{v:Value}{l:List Rat}(h:QOwn w base v l)(hg:w.grownBy w' v.ownBlock):Stp (fun k=>base≤k) w w':=by
 cases hb:v.ownBlock with
 |none=>
  rw[hb]at hg;exact⟨hg.os,hg.tape,hg.output,hg.size,fun k hk _=>hg.block k hk (by simp),fun r=>Rd.below r ⟨hg.os,hg.tape,hg.output,hg.size,fun k hk=>hg.block k hk (by simp)⟩ ZL⟩
 |some g=>
  rw[hb]at hg;obtain⟨h1,h2⟩:=h.box g hb;exact Stp.wrote h2 hg h1
theorem take_more {α:Type}{l:List α}{j:Nat}{z:α}(h:j<l.length):l.take (j+1)=l.take j++[l.getD j z]:=by
 rw[List.take_add_one,gE,gG h];rfl
theorem vals_at (b:Tb){j:Nat}(hn:b.n≤b.vars.length)(hj:j<b.n):((b.vars.take b.n).map (·.v)).getD j 0=(b.var j).v:=by
 unfold Tb.var;rw[gE,List.getElem?_map,List.getElem?_take_of_lt hj,gG (by omega),gE,gG (by omega)];rfl
theorem info_ans:(Tryz.prog.info? 98).map (·.size)=some 7:=by kernel_rfl
theorem answer_any {w:World}{d:Ad}{b:Tb}{m:Pa}{p:Pg}(h:TAt tyT w d b)(hw:Wf b)(hh:HasHi b)(hpc:p.c.length=b.n)(hcap:b.vars.length≤d.V.2)(hci:∀j,j<p.c.length→-9223372036854775808≤p.c.getD j 0∧p.c.getD j 0≤9223372036854775807)(hp:∀w',Stp d.S w w'→PgAt w' m p):Calls Tryz.prog 85 #[vptr d.t0,.agg (pgC m p)] w fun e w'=>Stp d.S w w'∧((∃a v,answerT p b=some a∧e= .returned v∧AnV w' v a)∨(answerT p b=none∧ThrewX e)):=by
 have HT:=ZH h;have HW:=ZH hw;have HH:=ZH hh;have HP:=ZH hp;have HPC:=ZH hpc;have HCI:=ZH hci;have HLT:=ZH h.lt;have HCAP:=ZH hcap;have n1:¬d.S w.heap.size:=fun h'=>by have:=h.lt _ h';omega
 have n2:¬d.S (w.heap.size+1):=fun h'=>by have:=h.lt _ h';omega
 have N1:=ZH n1;have N2:=ZH n2;obtain⟨R,hR⟩:∃R,answerT p b=R:=⟨_,rfl⟩;rw[hR];have HR:Hid (R=answerT p b):=hR.symm;clear h hw hh hp hpc hci hcap hR n1 n2;have M:=((Mem.start w).new tyP (pgC m p)).newAt (g:=w.heap.size+1) (by simp) 98 an0;go_enter Tryz.func85,Tryz.ntmps85;go_wp2_with fail;refine(feas_any (HT.out.below M.bel) HW.out HH.out).mono ?_;rintro e w2 ⟨hs2,⟨b2,r,hf,rfl,ht2,hw2,hh2,hnn,hr⟩|⟨hf,v,rfl⟩⟩
 ·have HB1:=ZH ((M.k (i:=1) rfl).stp hs2 N1.out);have HB2:=ZH ((M.k (i:=0) rfl).stp hs2 N2.out);have HS2:Hid (Stp d.S w w2):=(Stp.of M.bel).trans hs2;have HT2:=ZH ht2;have HW2:=ZH hw2;have HNN:=ZH hnn;have hsz2:w.heap.size+2≤w2.heap.size:=by have:=HB2.out.lt;omega
  have HF:=ZH hf;clear hs2 ht2 hw2 hh2 hnn hf M HT HW HH;cases r with
  |some i=>
   have hit:=hr i rfl;have HC:Hid (R=some ⟨2,[],none,proofT b2 i⟩):=HR.out.trans (answerT_bad HF.out);clear hr HF HR;have d1:decide ((0:Int)≤(i:Int))=true:=dT (by omega);go_wp2_with fail;refine(proof_any HT2.out HW2.out hit).mono ?_;rintro e w3 ⟨q3,v,rfl,A,c,rfl,hrow,hbox⟩;have HBX:=ZH hbox;have HROW:=ZH hrow;have HB3:=ZH (HB2.out.below q3 ZL);have HQ3:=ZH (HS2.out.trans (Stp.of q3));clear q3 hrow hbox;go_wp2_with ((with_reducible refine st_ ?_);refine wP2 _ _ HB3.out rfl rfl rfl rfl info_ans rfl rfl ?_;intro w5 b5 g5';obtain⟨f0,f1,f2,f3,f4,f5,f6⟩:=Blk.seven b5);have hbx:=HB3.out.box rfl;refine bodyPost_ret (v:= .agg #[.int .i64 2,.slice none 0 0,.bool false,.slice none 0 0,.bool false,.slice none 0 0,.slice A (proofT b2 i).length c]) (by simp[results,Tryz.results85,go_sem,f0,f1,f2,f3,f4,f5,f6]) rfl ⟨HQ3.out.then (Stp.grew hbx g5') (fun g e=> .inl (by omega)),.inl ⟨_,_,HC.out,rfl,none,0,A,c,QRow.none _ _,HROW.out.stp (Stp.grew hbx g5') ?_,rfl⟩⟩;exact fun g hg e=>by have:=(HBX.out g hg).1;omega
  |none=>
   have HC:Hid (R=(optT b2.left b2).bind fun b3=>(dotO 0 ((b3.vars.take b3.n).map (·.v)) p.c).map fun v=>(⟨1,(b3.vars.take b3.n).map (·.v),some v,dualGo b3.n (zerosT b3) b3.cost b3.free⟩:An)):=HR.out.trans (answerT_opt HF.out);clear hr HF HR;go_wp2_with fail;refine(opt_any HT2.out HW2.out).mono ?_;rintro e w3 ⟨hs3,⟨b3,ho,rfl,ht3,hw3,hnn3⟩|⟨ho,v,rfl⟩⟩
   ·have HC2:Hid (R=(dotO 0 ((b3.vars.take b3.n).map (·.v)) p.c).map fun v=>(⟨1,(b3.vars.take b3.n).map (·.v),some v,dualGo b3.n (zerosT b3) b3.cost b3.free⟩:An)):=HC.out.trans (by rw[ho];rfl);have HB1:=ZH (HB1.out.stp hs3 N1.out);have HB2:=ZH (HB2.out.stp hs3 N2.out);have HS3:=ZH (HS2.out.trans hs3);have hsz3:w.heap.size+2≤w3.heap.size:=by have:=HB2.out.lt;omega
    have HT3:=ZH ht3;have HW3:=ZH hw3;have HN3:Hid (b3.n=b.n∧b3.vars.length=b.vars.length):=⟨hnn3.1.trans HNN.out.1,hnn3.2.trans HNN.out.2⟩;clear hs3 HS2 HT2 HW2 HNN ho HC ht3 hw3 hnn3;go_wp2_with fail;refine(zeros_any HT3.out HW3.out.nv HW3.out.sv).mono ?_;rintro e w4 ⟨q4,v,rfl,hown⟩;obtain⟨AY,cY,rfl,hrow,hbox⟩:=hown.res;have HY4:=ZH hrow;have HYB4:=ZH hbox;have hzl:(zerosT b3).length=b3.vars.length-b3.n:=List.length_replicate;obtain⟨z,hz⟩:∃z,(zerosT b3).length=z:=⟨_,rfl⟩;have hz1:z+b3.n≤b3.vars.length:=by have:=HW3.out.nv;omega
    have hz2:b3.vars.length≤z+b3.n:=by omega
    rw[hz];have HZL:=ZH hz;have HB1:=ZH (HB1.out.below q4 ZL);have HB2:=ZH (HB2.out.below q4 ZL);have HS4:=ZH (HS3.out.trans (Stp.of q4));have HT4:=ZH (HT3.out.below q4);have hsz4:w3.heap.size≤w4.heap.size:=q4.size;clear hown hrow hbox hzl hz q4 HS3 HT3;have M4:=(Mem.start w4).new 98 an0;go_upto_region 6 with ((with_reducible refine st_ ?_);refine wP2 _ _ (M4.k (i:=0) rfl) rfl rfl rfl rfl info_ans rfl rfl ?_;intro w5 b5 g5';replace M4:=M4.row (by omega) (by simp) rfl b5 g5';clear b5 g5');have HB1:=ZH (HB1.out.below M4.bel ZL);have HB2:=ZH (HB2.out.below M4.bel ZL);have HS5:=ZH (HS4.out.trans (Stp.of M4.bel));have HT5:=ZH (HT4.out.below M4.bel);have HG:=ZH (M4.k (i:=0) rfl);have HY5:=ZH (HY4.out.below M4.bel);have HYB5:Hid (∀g,bl AY=some g→w3.heap.size≤g∧g<w4.heap.size∧Box w5 g):=fun g hg=>⟨(HYB4.out g hg).1,(HYB4.out g hg).2.lt,(HYB4.out g hg).2.below M4.bel⟩;have hsz5:w4.heap.size+1≤w5.heap.size:=by have:=HG.out.lt;omega
    clear M4 HS4 HT4 HY4 HYB4;obtain⟨h0,h1,_,_,_,_,_⟩:=HT5.out.head.seven;have V0:=Lk.of h0;have V1:=Lk.of h1;have hncap:b3.n≤d.V.2:=by have:=HCAP.out;have:=HN3.out.2;have:=HW3.out.nv;omega
    have hnv:=HW3.out.nv;have hsv:=HW3.out.sv;obtain⟨VA,hVA⟩:∃VA,d.V.1=VA:=⟨_,rfl⟩;rw[hVA]at V1;have HVA:=ZH hVA;clear h0 h1 hVA;generalize d.V.2=cV at*;have M5:=Mem.start w5;refine region_st (n:=11) (frame:= ?frame1) (fun jK=>[kP d.t0 0,kP d.t0 0,kP d.t0 1,kF (.slice VA b3.vars.length cV),kP d.t0 0,kP d.t0 0,kP d.t0 0,kI ((b3.n:Nat)),kF (.slice VA b3.n cV),kI ((b3.n:Int)),kI 0].getD jK .none) [] (by kernel_rfl) (by kernel_rfl) (by kernel_rfl) rfl M5 (fun _ h=>by cases h) (fun _ h=>by cases h) ?_ ?_ ?_
    case refine_1=>
     intro s;simp only[fr,Act.put,zA,zB,zC,zD,zE,zF,Nat.reduceAdd];rfl
    case refine_2=>
     iterate 11 (refine SN ?_ ?_;rotate_left)
     exact Steps.nil;all_goals (intro L s w9 hN hU hi hS K hK;dsimp only at hK⊢;simp only[Act.put,zD,zE,zF]at hK)
     ·go_simp;exact hS.o hK
     ·simp only[hS.f hN 0]at hK⊢;go_simp;exact hS.o hK
     ·simp only[hS.f hN 1]at hK⊢;go_simp;exact hS.o hK
     ·simp only[hS.f hN 2]at hK⊢;have u0:=V1 _ hS.mem.bel;go_simp;exact hS.o hK
     ·go_simp;exact hS.o hK
     ·simp only[hS.f hN 4]at hK⊢;go_simp;exact hS.o hK
     ·simp only[hS.f hN 5]at hK⊢;go_simp;exact hS.o hK
     ·simp only[hS.f hN 6]at hK⊢;have u0:=V0 _ hS.mem.bel;go_simp;exact hS.o hK
     ·simp only[hS.f hN 3,hS.f hN 7]at hK⊢;go_simp;exact hS.o hK
     ·simp only[hS.f hN 8]at hK⊢;go_simp;exact hS.o hK
     ·go_simp;exact hS.o hK
    intro L s w9 hall hS;have e8:=hS.fx 8 rfl rfl (hall 8 (by decide));have e9:=hS.fx 9 rfl rfl (hall 9 (by decide));have e10:=hS.fx 10 rfl rfl (hall 10 (by decide));have q6:=hS.mem.bel;simp only[e8,e9,e10];clear hS hall e8 e9 e10 V1;obtain⟨xs,hxs⟩:∃xs,(b3.vars.take b3.n).map (·.v)=xs:=⟨_,rfl⟩;rw[hxs]at HC2;have HXV:Hid (∀j,j<b3.n→xs.getD j 0=(b3.var j).v):=fun j hj=>by rw[←hxs];exact vals_at b3 hnv hj
    have hxl:xs.length=b3.n:=by
     rw[←hxs,List.length_map,List.length_take];omega
    have HXL:=ZH hxl;clear hxs hxl;have hG0:Blk w9 w4.heap.size 98 #[.int .i64 1,.slice none 0 0,.bool false,.slice none 0 0,.bool false,.slice none 0 0,.slice AY z cY]:=HG.out.below q6 ZL;have nS6:Hid (¬d.S w4.heap.size):=fun h'=>by have:=HLT.out _ h';omega
    have nP6:w.heap.size≠w4.heap.size:=by omega
    have nR6:w.heap.size+1≠w4.heap.size:=by omega
    have q6':=ZH q6;clear HG q6;generalize w4.heap.size=g6 at*;go_wp2_with fail;go_loopg [34] b3.n (fun k pp wr=>∃(done:List Rat)(AX:Option Addr)(cX:Nat),k=b3.n-done.length∧done.length≤b3.n∧pp= .int .i64 (done.length:Nat)∧Hid (done=xs.take done.length)∧Blk wr g6 98 #[.int .i64 1,.slice AX done.length cX,.bool false,.slice none 0 0,.bool false,.slice none 0 0,.slice AY z cY]∧Hid (QOwn wr w5.heap.size (.slice AX done.length cX) done)∧Hid (Stp (fun k=>k=g6) w5 wr))
    case atStart=>exact⟨[],none,0,rfl,Nat.zero_le _,rfl,rfl,hG0,QOwn.nil _ _,Stp.of q6'.out⟩
    case round=>
     clear hG0 q6';obtain⟨done,AX,cX,hk,hL,rfl,HL,hg,HO,HST⟩:=hrel;have HT6:Hid (TAt tyT wr d b3):=HT5.out.stp HST.out fun g hg e=>nS6.out (e▸hg);by_cases hlt:done.length<b3.n
     ·have d1:decide ((done.length:Int)<(b3.n:Int))=true:=dT (by omega);have hvl:done.length<b3.vars.length:=by omega
      obtain⟨gV,oV,hV,cv⟩:=HT6.out.vp _ hvl;rw[HVA.out]at hV;subst hV;have hva:=HT6.out.vr _ hvl;obtain⟨g,hgg⟩:∃g,d.vs.getD done.length 0=g:=⟨_,rfl⟩;rw[hgg]at hva;replace cv:wr.cell? ⟨gV,oV+done.length,none⟩=some (vptr g):=by rw[←hgg];exact cv
      obtain⟨A3,c3,B3,d3,x1,x2,x3,x4,hxq⟩:=hva.v;have HLX:Hid (done++[(b3.var done.length).v]=xs.take (done.length+1)):=by
       show _=_;rw[take_more (z:=0) (by rw[HXL.out];exact hlt),HXV.out _ hlt,←HL.out]
      have HX:=ZH hxq;generalize (b3.var done.length).v=x at*;have X1:=Lk.of x1;have X2:=Lk.of x2;have X3:=Lk.of x3;have X4:=Lk.of x4;have HGB:=ZH hg;have G1:=Lk.of ((hg.cell 1).trans rfl);have hwr:w5.heap.size≤wr.heap.size:=HST.out.size;have hg6:g6<wr.heap.size:=hg.lt;have hll:done.length≤1000000:=by omega
      clear hva hgg x1 x2 x3 x4 hxq hg HL;go_upto_region 9 with fail;refine region_gen0 (n:=10) (frame:= ?frame2) (fun L s w'=>Vs [oP g6 1,oF (.slice AX done.length cX),oP g 0,oP g 0,oP g 10,oF (qv x A3 c3 B3 d3),none,none,oP g6 1,none] L s∧(L 6=false→(Below wr.heap.size wr w'))∧(L 6=true→L 7=false→(Below wr.heap.size wr w'∧∃w3,Below wr.heap.size wr w3∧w'=w3.alloc (.cells (qcs x A3 c3 B3 d3) 72)∧s 6= .slice (some ⟨w3.heap.size,0,none⟩) 1 1))∧(L 7=true→L 9=false→(∃AX' cX',s 7= .slice AX' (done.length+1) cX'∧QOwn w' w5.heap.size (.slice AX' (done.length+1) cX') (done++[x])∧Blk w' g6 98 #[.int .i64 1,.slice AX done.length cX,.bool false,.slice none 0 0,.bool false,.slice none 0 0,.slice AY z cY]∧Stp (fun k=>k=g6) w5 w'))∧(L 9=true→(∃AX' cX',QOwn w' w5.heap.size (.slice AX' (done.length+1) cX') (done++[x])∧Blk w' g6 98 #[.int .i64 1,.slice AX' (done.length+1) cX',.bool false,.slice none 0 0,.bool false,.slice none 0 0,.slice AY z cY]∧Stp (fun k=>k=g6) w5 w'))) (by kernel_rfl) (by kernel_rfl) (by kernel_rfl) rfl ?_ ?_ ?_ ?_
      case refine_1=>exact⟨fun _ _ _ h=>no_f h,fun _=>(Read.refl _).drew.below _,fun h=>no_f h,fun h=>no_f h,fun h=>no_f h⟩
      case refine_2=>
       intro s;simp only[fr,Act.put,zA,zB,zC,zD,zE,zF,Nat.reduceAdd];rfl
      case refine_3=>
       iterate 10 (refine SN ?_ ?_;rotate_left)
       exact Steps.nil;all_goals (intro L s w9 hN hU hi hC hS K hK;dsimp only at hK⊢;simp only[Act.put,zD,zE,zF]at hK;obtain⟨hV,c_0,c_1,c_2,c_3⟩:=hS;refine ite_of rfl ?_)
       ·go_simp;exact hK.out _ _ ⟨hV.put 0,c_0,c_1,c_2,c_3⟩
       ·rw[hV.at 0 (hN.out 0 rfl)]at hK⊢;have hE:Below wr.heap.size wr w9:=(match hL0:L 6 with|false=>(c_0 hL0)|true=>(c_1 hL0 (hU.out 7 _ rfl rfl)).1);have u0:=G1 _ hE;go_simp;exact hK.out _ _ ⟨hV.put 1,c_0,c_1,c_2,c_3⟩
       ·go_simp;exact hK.out _ _ ⟨hV.put 2,c_0,c_1,c_2,c_3⟩
       ·rw[hV.at 2 (hN.out 2 rfl)]at hK⊢;go_simp;exact hK.out _ _ ⟨hV.put 3,c_0,c_1,c_2,c_3⟩
       ·rw[hV.at 3 (hN.out 3 rfl)]at hK⊢;go_simp;exact hK.out _ _ ⟨hV.put 4,c_0,c_1,c_2,c_3⟩
       ·rw[hV.at 4 (hN.out 4 rfl)]at hK⊢;have hE:Below wr.heap.size wr w9:=(c_0 (hU.out 6 _ rfl rfl));have u1:=X1 _ hE;have u2:=X2 _ hE;have u3:=X3 _ hE;have u4:=X4 _ hE;go_simp;exact hK.out _ _ ⟨hV.put 5,c_0,c_1,c_2,c_3⟩
       ·rw[hV.at 5 (hN.out 5 rfl)]at hK⊢;have hP:=c_0 hi.out;go_simp;exact hK.out _ _ ⟨hV.eff 6,fun h=>no_t h,fun _ _=>⟨below_alloc hP ZL _,w9,hP,rfl,rfl⟩,fun h=>no_f (Eq.trans (Eq.symm (hU.out 7 _ rfl rfl)) h),fun h=>no_f (Eq.trans (Eq.symm (Shut.no hC 9 7 rfl rfl (hU.out 7 _ rfl rfl))) h)⟩
       ·rw[hV.at 1 (hN.out 1 rfl)]at hK⊢;have hP:=c_1 (hN.out 6 rfl) hi.out;obtain⟨_,w3,hq3,rfl,e6⟩:=hP;simp only[e6]at hK⊢;refine wp_appQ_op _ _ w3 w5.heap.size (.slice AX done.length cX) done x A3 c3 B3 d3 rfl Tryz.underlying45 (HO.out.below hq3) (HX.out.below hq3) (Nat.le_trans hwr hq3.size) hll rfl rfl rfl ?_;intro v4 w4' ho4 hg4 hb4 _;obtain⟨AX',cX',e4⟩:=ho4.slice;rw[List.length_append,List.length_singleton]at e4;subst e4;exact hK.out _ _ ⟨hV.eff 7,fun h=>no_f (Eq.trans (Eq.symm h) (hN.out 6 rfl)),fun _ h=>no_t h,fun _ _=>⟨AX',cX',rfl,ho4,(hb4.block _ (by omega)).trans (HGB.out.below hq3 ZL),(HST.out.trans (Stp.of hq3)).then ((HO.out.below hq3).wrote hg4) (fun k hk=> .inl hk)⟩,fun h=>no_f (Eq.trans (Eq.symm (hU.out 9 _ rfl rfl)) h)⟩
       ·go_simp;exact hK.out _ _ ⟨hV.put 8,c_0,c_1,c_2,c_3⟩
       ·rw[hV.at 8 (hN.out 8 rfl)]at hK⊢;have hP:=c_2 (hN.out 7 rfl) hi.out;obtain⟨AX',cX',e7,ho4,hb4,hs4⟩:=hP;simp only[e7]at hK⊢;have k0:w9.cell? ⟨g6,1,none⟩=some (.slice AX done.length cX):=(hb4.cell 1).trans rfl;have k1:=hb4.frozen 1;go_simp;have qO:=gSC w9 g6 1 (.slice AX' (done.length+1) cX');have hbx:=hb4.box rfl;exact hK.out undef _ ⟨hV.eff 9,fun h=>no_f (Eq.trans (Eq.symm h) (hC.out 7 _ rfl (hN.out 7 rfl) 6 rfl)),fun _ h=>no_f (Eq.trans (Eq.symm h) (hN.out 7 rfl)),fun _ h=>no_t h,fun _=>⟨AX',cX',ho4.kept (Stp.grew hbx qO) (fun g hg e=>by have:=(ho4.box g hg).1;omega),hb4.set_ 1 _,hs4.trans (Stp.grew hbx qO)⟩⟩
      intro L s w9 hall hS;obtain⟨hV,c_0,c_1,c_2,c_3⟩:=hS;have hPm:=c_3 (hall 9 (by decide));clear hall hV c_0 c_1 c_2 c_3;obtain⟨AX',cX',ho4,hb4,hs4⟩:=hPm;have HO4:=ZH ho4;have HS4:=ZH hs4;have hl1:(done++[x]).length=done.length+1:=by rw[List.length_append,List.length_singleton]
      have HL1:=ZH hl1;clear ho4 hs4 HO HST HX X1 X2 X3 X4 G1 HGB HT6 cv hl1;go_wp2_with fail;go_roundg (b3.n-(done.length+1))
      case measure=>omega
      case rel=>exact⟨done++[x],AX',cX',by rw[HL1.out],by rw[HL1.out];omega,by rw[HL1.out];simp,by rw[HL1.out];exact HLX.out,by rw[HL1.out];exact hb4,by rw[HL1.out];exact HO4.out,HS4.out⟩
     ·have d1:decide ((done.length:Int)<(b3.n:Int))=false:=dF (by omega);have hdx:done=xs:=HL.out.trans (List.take_of_length_le (by rw[HXL.out];omega));have hdl:done.length≤1000:=by omega
      have HC3:Hid (R=(dotO 0 done p.c).map fun v=>(⟨1,done,some v,dualGo b3.n (zerosT b3) b3.cost b3.free⟩:An)):=by
       show _=_;rw[hdx];exact HC2.out
      have hdc:done.length≤p.c.length:=by rw[HPC.out,←HN3.out.1];omega
      have HDC:=ZH hdc;have HSW:Hid (Stp d.S w wr):=HS5.out.then HST.out (fun g e=> .inl (by omega));have HBP:Hid (Blk wr w.heap.size tyP (pgC m p)):=HB1.out.stp HST.out nP6;have HXR:=ZH HO.out.row;have HDT:Hid (Calls Tryz.prog 116 #[.slice AX done.length cX,.func (.func 142) #[] #[vptr w.heap.size]] wr fun e w'=>RetP wr w' e (dotF (fun j=>p.c.getD j 0) 0 0 done)):=pdot_any (caps:= #[vptr w.heap.size]) HXR.out hdl (fun j hj=>HCI.out j (by omega)) ans1_run fun w' q j hj=>ans1_any (HBP.out.below q ZL) ((HP.out wr HSW.out).c.below q) (by omega);have hde:dotF (fun j=>p.c.getD j 0) 0 0 done=dotO 0 done p.c:=dotF_eq _ p.c done 0 0 hdc (fun i hi=>rfl);rw[hde]at HDT;have x1:wr.cell? ⟨g6,1,none⟩=some (.slice AX done.length cX):=(hg.cell 1).trans rfl;have HGB:=ZH hg;clear hdx hdc hde HC2 HL hg;go_wp2_with fail;refine HDT.out.mono ?_;rintro e w6 ⟨q6,⟨q,A6,c6,B6,d6,hq,rfl,hqr⟩|⟨hq,v,rfl⟩⟩
      ·have HC4:Hid (R=some ⟨1,done,some q,dualGo b3.n (zerosT b3) b3.cost b3.free⟩):=HC3.out.trans (by rw[hq];rfl);have HQ6:=ZH hqr;have hg6:=HGB.out.below q6 ZL;have HTH:Hid (w6.there g6 2 4):=(hg6.box rfl).there fun j hj=>by
        match j,hj with
        |0,_=>rw[(hg6.cell 2).trans rfl];rfl
        |1,_=>rw[(hg6.cell 3).trans rfl];rfl
        |2,_=>rw[(hg6.cell 4).trans rfl];rfl
        |3,_=>rw[(hg6.cell 5).trans rfl];rfl
       have HST6:Hid (Stp (fun k=>k=g6) w5 w6):=HST.out.trans (Stp.of q6);have HOW6:=ZH (HO.out.below q6);have HALL:Hid (∀w7,w7=w6.setCells g6 2 (qcs q A6 c6 B6 d6).toList→Blk w7 g6 98 #[.int .i64 1,.slice AX done.length cX,.bool (sN q.num),.slice A6 (sD q.num).length c6,.bool false,.slice B6 (dig q.den).length d6,.slice AY z cY]∧Stp (fun k=>k=g6) w5 w7∧QR w7 A6 c6 B6 d6 q∧QOwn w7 w5.heap.size (.slice AX done.length cX) done):=fun w7 e=>by
        subst e;have hgr:=(cells_put (qcs q A6 c6 B6 d6).toList 2 w6 (hg6.box rfl) rfl).1;exact⟨(((hg6.set_ 2 _).set_ 3 _).set_ 4 _).set_ 5 _,HST6.out.trans (Stp.grew (hg6.box rfl) hgr),HQ6.out.boxed (hg6.box rfl) hgr,HOW6.out.kept (Stp.grew (hg6.box rfl) hgr) (fun g hg e=>by have:=(HOW6.out.box g hg).1;omega)⟩
       obtain⟨_,_,_,h3,_,_,_⟩:=HT5.out.head.seven;have V3:=ZH h3;clear hq hqr HDT HC3 HO HXR HBP HSW hg6 x1 q6 h3 HGB HST;obtain⟨FA,hFA⟩:∃FA,d.F.1=FA:=⟨_,rfl⟩;rw[hFA]at V3;have HFA:=ZH hFA;clear hFA;generalize d.F.2=cF at*;have HYR:Hid (∀w',Stp (fun k=>k=g6) w5 w'→QRow w' AY (zerosT b3)∧∀g,bl AY=some g→w3.heap.size≤g∧g<g6∧Box w' g):=fun w' hs=>⟨HY5.out.stp hs fun g hg e=>by have:=(HYB5.out g hg).2.1;omega,fun g hg=>⟨(HYB5.out g hg).1,(HYB5.out g hg).2.1,(HYB5.out g hg).2.2.stp hs fun e=>by have:=(HYB5.out g hg).2.1;omega⟩⟩;have ht0:¬d.t0=g6:=fun e=>nS6.out (e▸⟨.h,rfl⟩);go_wp2_with ((with_reducible refine st_ ?_);refine wpList_store_mid rfl _ _ _ rfl g6 2 (qcs q A6 c6 B6 d6) rfl rfl HTH.out info_rat (by rw[←Array.all_toList];rfl) ?_;obtain⟨w7,hw7⟩:∃w7,w7=w6.setCells g6 2 (qcs q A6 c6 B6 d6).toList:=⟨_,rfl⟩;rw[←hw7];obtain⟨hb7,hs7,hq7,ho7⟩:=HALL.out _ hw7;have HB7:=ZH hb7;have HS7:=ZH hs7;have HQ7:=ZH hq7;have u3:=hs7.cell V3.out ht0;have HOW7:=ZH ho7;clear hb7 hs7 hq7 hw7 ho7);clear HALL HTH HST6 HOW6 HQ6 HY5 HYB5 V0 M5;obtain⟨Q,hQ⟩:∃Q,dualGo b3.n (zerosT b3) b3.cost b3.free=Q:=⟨_,rfl⟩;rw[hQ]at HC4;have HQ0:Hid (Q=dualGo b3.n (zerosT b3) (b3.cost.drop 0) (b3.free.drop 0)):=hQ.symm;obtain⟨hy7,hyb7⟩:=HYR.out _ HS7.out;have HY7:=ZH hy7;have HYB7:=ZH hyb7;have hfc:=HW3.out.fc;have hfc1:b3.cost.length≤b3.free.length:=by omega
       have hfc2:b3.free.length≤b3.cost.length:=by omega
       have hsf:=HW3.out.sf;clear hQ hy7 hyb7 HYR hfc;go_loopg [58] b3.free.length (fun k pp wr=>∃(j:Nat)(y:List Rat),k=b3.free.length-j∧j≤b3.free.length∧pp= .int .i64 (j:Nat)∧Hid (y.length=z)∧Hid (Q=dualGo b3.n y (b3.cost.drop j) (b3.free.drop j))∧Hid (Stp (fun k=>bl AY=some k) w7 wr)∧QRow wr AY y∧∀g,bl AY=some g→w3.heap.size≤g∧g<g6∧Box wr g)
       case atStart=>exact⟨0,zerosT b3,rfl,Nat.zero_le _,rfl,HZL.out,HQ0.out,Stp.refl,HY7.out,HYB7.out⟩
       case round=>
        clear u3 HY7 HYB7 HQ0;obtain⟨j,y,hk,hj,rfl,hl2,HL,HSR,hrow,hbox⟩:=hrel;have HT8:Hid (TAt tyT wr d b3):=(HT5.out.stp HS7.out fun g hg e=>nS6.out (e▸hg)).stp HSR.out fun g hg e=>by have h1:=HLT.out g hg;have h2:=(hbox g e).1;omega
        have HG8:Hid (Blk wr g6 98 #[.int .i64 1,.slice AX done.length cX,.bool (sN q.num),.slice A6 (sD q.num).length c6,.bool false,.slice B6 (dig q.den).length d6,.slice AY z cY]):=HB7.out.stp HSR.out fun e=>by have:=(hbox g6 e).2.1;omega
        by_cases hlt:j<b3.free.length
        ·have d1:decide ((j:Int)<(b3.free.length:Int))=true:=dT (by omega);have hlt2:j<b3.cost.length:=by omega
         have HC:Hid (Q=dualGo b3.n (if b3.free.getD j 0<b3.n then y else y.set (b3.free.getD j 0-b3.n) (-(b3.cost.getD j 0))) (b3.cost.drop (j+1)) (b3.free.drop (j+1))):=by
          show _=_;rw[HL.out,drop_at (z:=0) hlt,drop_at (z:=0) hlt2,dualGo_step]
         have hvl:=HW3.out.fv j hlt;obtain⟨gF,oF,hF,cj⟩:=HT8.out.fr j hlt;rw[HFA.out]at hF;subst hF;obtain⟨v,hvg⟩:∃v,b3.free.getD j 0=v:=⟨_,rfl⟩;replace cj:wr.cell? ⟨gF,oF+j,none⟩=some (iv6 v):=by rw[←hvg];exact cj
         rw[hvg]at HC hvl;obtain⟨u0,_,_,_,_,h5,_⟩:=HT8.out.head.seven;have V0:=Lk.of u0;clear hvg HL;by_cases hvn:v<b3.n
         ·have d2:decide ((b3.n:Int)≤(v:Int))=false:=dF (by omega);have d2n:decide (b3.n≤v)=false:=dF (by omega);have HC2:Hid (Q=dualGo b3.n y (b3.cost.drop (j+1)) (b3.free.drop (j+1))):=HC.out.trans (by rw[if_pos hvn]);go_wp2_with fail;go_roundg (b3.free.length-(j+1))
          case measure=>omega
          case rel=>exact⟨j+1,y,rfl,by omega,by simp,hl2,HC2.out,HSR,hrow,hbox⟩
         ·have d2:decide ((b3.n:Int)≤(v:Int))=true:=dT (by omega);have d2n:decide (b3.n≤v)=true:=dT (by omega);have d3:IntKind.i64.wrap ((v:Int)-(b3.n:Int))=((v-b3.n:Nat):Int):=sub_wrap (by omega) (by omega);have hjn:v-b3.n<y.length:=by rw[hl2.out];omega
          have hjz:v-b3.n<z:=by omega
          obtain⟨gY,oY,rfl,_⟩:=hrow _ hjn;obtain⟨hgY,hgY6,hbY⟩:=hbox gY rfl;obtain⟨gC,oC,hC,A',c',B',d2',a1,a2,a3,a4,hqa⟩:=HT8.out.co j hlt2;rw[hC]at h5;have V5:=Lk.of h5;have L1:=Lk.of a1;have L2:=Lk.of a2;have L3:=Lk.of a3;have L4:=Lk.of a4;have HA:=ZH hqa;have HC1:Hid (Q=dualGo b3.n (y.set (v-b3.n) (-(b3.cost.getD j 0))) (b3.cost.drop (j+1)) (b3.free.drop (j+1))):=HC.out.trans (by rw[if_neg hvn]);have HRow:=ZH hrow;have HBox:=ZH hbY;have G6:=Lk.of ((HG8.out.cell 6).trans rfl);clear hqa HC hrow hbox hbY h5 a1 a2 a3 a4 hC;generalize b3.cost.getD j 0=a at*;generalize d.C.2=cC at*;have M:=Mem.start wr;go_upto_region 16 with fail;refine region_tail (n:=17) (frame:= ?frame3) (fun jK=>[kP g6 6,kF (.slice (some ⟨gY,oY,none⟩) z cY),kI ((v:Nat)),kP d.t0 0,kP d.t0 0,kP d.t0 0,kI ((b3.n:Nat)),kI (((v-b3.n:Nat):Int)),kP d.t0 0,kP d.t0 0,kP d.t0 5,kF (.slice (some ⟨gC,oC,none⟩) b3.cost.length cC),kI ((j:Nat)),kP gC (oC+j*4),kF (qv a A' c' B' d2'),.val (Sh.rq (some (-a))),kP gY (oY+(v-b3.n)*4)].getD jK .none) (fun s' w'=>Stp (fun b=>b=gY) wr w'∧QRow w' (some ⟨gY,oY,none⟩) (y.set (v-b3.n) (-a))∧Box w' gY) _ (by kernel_rfl) (by kernel_rfl) (by kernel_rfl) rfl rfl (by kernel_rfl) M ?_ ?_ ?_ ?_
          case refine_1=>
           intro s;simp only[fr,Act.put,zA,zB,zC,zD,zE,zF,Nat.reduceAdd];rfl
          case refine_2=>
           iterate 17 (refine SN ?_ ?_;rotate_left)
           exact Steps.nil;all_goals (intro L s w9 hN hU hi hS K hK;dsimp only at hK⊢;simp only[Act.put,zD,zE,zF]at hK)
           ·go_simp;exact hS.o hK
           ·simp only[hS.f hN 0]at hK⊢;have u0:=G6 _ hS.mem.bel;go_simp;exact hS.o hK
           iterate 2 (go_simp;exact hS.o hK)
           ·simp only[hS.f hN 3]at hK⊢;go_simp;exact hS.o hK
           ·simp only[hS.f hN 4]at hK⊢;go_simp;exact hS.o hK
           ·simp only[hS.f hN 5]at hK⊢;have u0:=V0 _ hS.mem.bel;go_simp;exact hS.o hK
           ·simp only[hS.f hN 2,hS.f hN 6]at hK⊢;go_simp;exact hS.o hK
           ·go_simp;exact hS.o hK
           ·simp only[hS.f hN 8]at hK⊢;go_simp;exact hS.o hK
           ·simp only[hS.f hN 9]at hK⊢;go_simp;exact hS.o hK
           ·simp only[hS.f hN 10]at hK⊢;have u0:=V5 _ hS.mem.bel;go_simp;exact hS.o hK
           ·go_simp;exact hS.o hK
           ·simp only[hS.f hN 11,hS.f hN 12]at hK⊢;go_simp;exact hS.o hK
           ·simp only[hS.f hN 13]at hK⊢;have u1:=L1 _ hS.mem.bel;have u2:=L2 _ hS.mem.bel;have u3:=L3 _ hS.mem.bel;have u4:=L4 _ hS.mem.bel;go_simp;exact hS.o hK
           ·simp only[hS.f hN 14]at hK⊢;go_simp;go_at_call 143;refine(pneg_any (HA.out.below hS.mem.bel)).mono ?_;rintro e9 w10 ⟨q,A9,c9,B9,d9,rfl,hq9⟩;exact hK.out _ _ (hS.val rfl (nSo rfl) q ⟨_,A9,c9,B9,d9,rfl,rfl,hq9⟩)
           ·simp only[hS.f hN 1,hS.f hN 7]at hK⊢;go_simp;exact hS.o hK
          case refine_3=>
           intro L s w9 hall hS K hK;dsimp only at hK⊢;simp only[Act.put,zD,zE,zF]at hK;simp only[hS.fx 16 rfl rfl (hall 16 (by decide))]at hK⊢;obtain⟨q15,A15,c15,B15,d15,o15,e15,h15⟩:=hS.val_at 15 rfl (by decide) (hall 15 (by decide));simp only[e15]at hK⊢;refine ite_of rfl ?_;have hr9:=HRow.out.below hS.mem.bel;have hb9:=HBox.out.below hS.mem.bel;obtain rfl:=Option.some.inj o15;obtain⟨p1,p2,p3,p4⟩:=hr9.put hjn hb9 h15;refine wp_store_mid _ _ _ rfl gY (oY+(v-b3.n)*4) (qcs (-a) A15 c15 B15 d15) rfl rfl p1 rfl (by rw[←Array.all_toList];rfl) ?_;exact hK.out undef _ ⟨(Stp.of hS.mem.bel).trans (Stp.wrote hb9 p2 rfl),p4,p3⟩
          intro s w9 hR;obtain⟨hs9,hrow9,hb9⟩:=hR;have HSR9:=ZH (HSR.out.trans (hs9.mono fun k hk=>(show bl (some ⟨gY,oY,none⟩)=some k by rw[hk];rfl)));have hl3:Hid ((y.set (v-b3.n) (-a)).length=z):=by
           show _=_;rw[List.length_set];exact hl2.out
          go_wp2_with fail;go_roundg (b3.free.length-(j+1))
          case measure=>omega
          case rel=>exact⟨j+1,y.set (v-b3.n) (-a),rfl,by omega,by simp,hl3,HC1.out,HSR9,hrow9,fun g hg=>by
           injection hg with hg;subst hg;exact⟨hgY,hgY6,hb9⟩⟩
        ·have d1:decide ((j:Int)<(b3.free.length:Int))=false:=dF (by omega);have hlt2:¬j<b3.cost.length:=by omega
         have HC5:Hid (Q=y):=by
          show _=_;rw[HL.out,drop_none hlt,drop_none hlt2];rfl
         have hbr:Blk wr (w.heap.size+1) 98 an0:=(HB2.out.stp HS7.out nR6).stp HSR.out fun e=>by have:=(hbox _ e).1;omega
         have HSF:Hid (Stp d.S w wr):=(HS5.out.then HS7.out (fun g e=> .inl (by omega))).then HSR.out (fun g e=> .inl (by have:=(hbox _ e).1;omega));have HXF:Hid (QRow wr AX done):=(HOW7.out.kept HSR.out fun g hg e=>by
          have h1:=(HOW7.out.box g hg).1;have h2:=(hbox _ e).2.1;omega).row
         have HQF:=ZH (HQ7.out.stp HSR.out);have HYF:=ZH hrow;obtain⟨f0,f1,f2,f3,f4,f5,f6⟩:=Blk.seven HG8.out;have hbx:=ZH (hbr.box rfl);have hxb:Hid (∀g,bl AX=some g→w.heap.size+1≠g):=fun g hg=>by
          have h1:=(HOW7.out.box g (by
           cases AX with
           |none=>cases hg
           |some x=>exact hg)).1
          omega
         have hyb:Hid (∀g,bl AY=some g→w.heap.size+1≠g):=fun g hg=>by
          have h1:=(hbox g hg).1;omega
         clear HL hrow hbox HG8 HT8;go_wp2_with ((with_reducible refine st_ ?_);refine wP2 _ _ hbr rfl rfl rfl rfl info_ans rfl rfl ?_;intro w9' b5 g5';obtain⟨k0,k1,k2,k3,k4,k5,k6⟩:=Blk.seven b5);refine bodyPost_ret (v:= .agg #[.int .i64 1,.slice AX done.length cX,.bool (sN q.num),.slice A6 (sD q.num).length c6,.bool false,.slice B6 (dig q.den).length d6,.slice AY z cY]) (by simp[results,Tryz.results85,go_sem,k0,k1,k2,k3,k4,k5,k6]) rfl ⟨HSF.out.then (Stp.grew hbx.out g5') (fun g e=> .inl (by omega)),.inl ⟨_,_,HC4.out,rfl,AX,cX,AY,cY,HXF.out.stp (Stp.grew hbx.out g5') (fun g hg e=>hxb.out g hg e.symm),?_,A6,c6,B6,d6,?_,HQF.out.stp (Stp.grew hbx.out g5')⟩⟩
         ·rw[HC5.out];exact HYF.out.stp (Stp.grew hbx.out g5') (fun g hg e=>hyb.out g hg e.symm)
         ·rw[HC5.out,hl2.out]
      ·go_wp2_with fail;exact⟨rfl,HSW.out.trans (Stp.of q6),.inr ⟨HC3.out.trans (by rw[hq];rfl),v,rfl⟩⟩
   ·go_wp2_with fail;exact⟨rfl,HS2.out.trans hs3,.inr ⟨HC.out.trans (by rw[ho];rfl),v,rfl⟩⟩
 ·go_wp2_with fail;exact⟨rfl,(Stp.of M.bel).trans hs2,.inr ⟨HR.out.trans (answerT_none hf),v,rfl⟩⟩
end Go.Proofs.YtecfcjdgmpopjaaGreat

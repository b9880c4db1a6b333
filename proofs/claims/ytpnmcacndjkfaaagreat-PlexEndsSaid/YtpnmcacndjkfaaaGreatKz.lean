import Derived.Test.YtpnmcacndjkfaaaGreatKy
set_option maxHeartbeats 16000000
set_option maxRecDepth 100000
set_option linter.unusedSimpArgs false
set_option linter.unusedVariables false
namespace Go.Proofs.YtpnmcacndjkfaaaGreat
open Go.RowKit Num
def QRes (w:World)(base:Nat)(v:Value)(l:List Rat):Prop:=∃A c,v= .slice A l.length c∧QRow w A l∧∀g,bl A=some g→base≤g∧Box w g
theorem QOwn.res {w:World}{base:Nat}{v:Value}{l:List Rat}(h:QOwn w base v l):QRes w base v l:=by
 obtain⟨A,c,rfl⟩:=h.slice;refine⟨A,c,rfl,h.row,fun g hg=>h.box g ?_⟩;cases A with
 |none=>cases hg
 |some a=>exact hg
theorem sub_wrap {a b:Nat}(h:b≤a)(ha:a≤1000000):IntKind.i64.wrap ((a:Int)-(b:Int))=((a-b:Nat):Int):=by
 rw[IntKind.wrap_i64];omega
theorem proofGo_step (n:Nat)(up:Bool)(y:List Rat)(a:Rat)(l:List Rat)(v:Nat)(f:List Nat):proofGo n up y (a::l) (v::f)=proofGo n up (if v<n then y else y.set (v-n) (if up then a else-a)) l f:=rfl
theorem proof_any {w:World}{d:Ad}{b:Tb}{i:Nat}(h:TAt tyT w d b)(hw:Wf b)(hi:i<b.t.length):Calls Tryz.prog 59 #[vptr d.t0,iv6 i] w fun e w'=>Below w.heap.size w w'∧∃v,e= .returned v∧QRes w' w.heap.size v (proofT b i):=by
 have HT:=ZH h;have HW:=ZH hw;have hib:i<b.basic.length:=by rw[hw.bt];exact hi
 have hft:=hw.ft i hi;have hsf:=hw.sf;have hnv:=hw.nv;have hsv:=hw.sv;have hvlt:=hw.bv i hib;obtain⟨h0,h1,h2,h3,h4,h5,h6⟩:=h.head.seven;obtain⟨gT,oT,hTA,ci⟩:=h.tp i hi;replace ci:w.cell? ⟨gT,oT+i,none⟩=some (.slice (d.ls.getD i (none,0)).1 (b.t.getD i []).length (d.ls.getD i (none,0)).2):=ci;obtain⟨gB,oB,hBA,cj⟩:=h.ba i hib;obtain⟨gV,oV,hVA,cv⟩:=h.vp _ hvlt;have hRow:=ZH (h.tr i hi);rw[hTA]at h4;rw[hBA]at h2;rw[hVA]at h1;obtain⟨FA,hFA⟩:∃FA,d.F.1=FA:=⟨_,rfl⟩;rw[hFA]at h3;have HFA:=ZH hFA;have HZ:=ZH (zeros_any h hnv hsv);have HBl:=ZH (fun(w':World)(q:Below w.heap.size w w')=>vbelow_any ((h.below q).vr _ hvlt));have HR0:Hid (proofT b i=if b.basic.getD i 0<b.n then proofGo b.n (b.var (b.basic.getD i 0)).below (zerosT b) (b.t.getD i []) b.free else(proofGo b.n (b.var (b.basic.getD i 0)).below (zerosT b) (b.t.getD i []) b.free).set (b.basic.getD i 0-b.n) 1):=rfl;have hzl:(zerosT b).length=b.vars.length-b.n:=List.length_replicate;obtain⟨u,hu⟩:∃u,b.basic.getD i 0=u:=⟨_,rfl⟩;have CB:Lk w gB (oB+i) (iv6 u):=by rw[←hu];exact Lk.of cj
 have CV:Lk w gV (oV+u) (vptr (d.vs.getD u 0)):=by rw[←hu];exact Lk.of cv
 rw[hu]at HR0 HBl hvlt;have V0:=Lk.of h0;have V1:=Lk.of h1;have V2:=Lk.of h2;have V3:=Lk.of h3;have V4:=Lk.of h4;have CT:=Lk.of ci;clear h hw h0 h1 h2 h3 h4 h5 h6 hFA hBA hVA hTA hu cj cv ci;generalize hzz:zerosT b=Z at*;clear hzz;generalize proofT b i=P at*;generalize (b.var u).below=up at*;generalize d.vs.getD u 0=gu at*;generalize d.F.2=cF at*;generalize d.B.2=cB at*;generalize d.V.2=cV at*;generalize d.T.2=cT at*;generalize (d.ls.getD i (none,0)).2=cL at*;obtain⟨LA,hLA⟩:∃LA,(d.ls.getD i (none,0)).1=LA:=⟨_,rfl⟩;rw[hLA]at CT hRow;clear hLA;obtain⟨lt,hlt⟩:∃lt,b.t.getD i []=lt:=⟨_,rfl⟩;rw[hlt]at CT hRow hft HR0;clear hlt;obtain⟨n,hn⟩:∃n,b.n=n:=⟨_,rfl⟩;rw[hn]at V0 hzl HR0 hnv;clear hn;obtain⟨z,hZ⟩:∃z,Z.length=z:=⟨_,rfl⟩;have HZL:=ZH hZ;have hz1:z+n≤b.vars.length:=by omega
 have hz2:b.vars.length≤z+n:=by omega
 clear hZ hzl;have M:=Mem.start w;go_enter Tryz.func59,Tryz.ntmps59;go_wp2_with fail;refine HZ.out.mono ?_;rintro e w1 ⟨q1,v,rfl,hown⟩;obtain⟨A,c,rfl,hrow,hbox⟩:=hown.res;rw[HZL.out];have HRow0:=ZH hrow;have HBox0:=ZH hbox;replace M:=M.below q1;clear hown hrow hbox HZ;go_upto_region 2 with fail;refine region_st (n:=15) (frame:= ?frame1) (fun jK=>[.val (.fix (.pointer (some ⟨d.t0,0,none⟩))),.val (.fix (.pointer (some ⟨d.t0,0,none⟩))),.val (.fix (.pointer (some ⟨d.t0,1,none⟩))),.val (.fix (.slice (some ⟨gV,oV,none⟩) b.vars.length cV)),.val (.fix (.pointer (some ⟨d.t0,0,none⟩))),.val (.fix (.pointer (some ⟨d.t0,0,none⟩))),.val (.fix (.pointer (some ⟨d.t0,2,none⟩))),.val (.fix (.slice (some ⟨gB,oB,none⟩) b.basic.length cB)),.val (.fix (.int .i64 (i:Nat))),.val (.fix (.pointer (some ⟨gB,oB+i,none⟩))),.val (.fix (.int .i64 (u:Nat))),.val (.fix (.pointer (some ⟨gV,oV+u,none⟩))),.val (.fix (.pointer (some ⟨gu,0,none⟩))),.val (.fix (.bool up)),.val (.fix (.bool up))].getD jK .none) [] (by kernel_rfl) (by kernel_rfl) (by kernel_rfl) rfl M.rebase (fun _ h=>by cases h) (fun _ h=>by cases h) ?_ ?_ ?_
 case refine_1=>
  intro s;simp only[fr,Act.put,zA,zB,zC,zD,zE,zF,Nat.reduceAdd];rfl
 case refine_2=>
  refine SC 0 1 rfl ?_ (SC 1 2 rfl ?_ (SC 2 3 rfl ?_ (SC 3 4 rfl ?_ (SC 4 5 rfl ?_ (SC 5 6 rfl ?_ (SC 6 7 rfl ?_ (SC 7 8 rfl ?_ (SC 8 9 rfl ?_ (SC 9 10 rfl ?_ (SC 10 11 rfl ?_ (SC 11 12 rfl ?_ (SC 12 13 rfl ?_ (SC 13 14 rfl ?_ (SC 14 15 rfl ?_ Steps.nil))))))))))))));all_goals (intro L s w9 hN hU hi hS K hK;dsimp only at hK⊢;simp only[Act.put,zD,zE,zF]at hK)
  ·go_simp;exact hS.o hK
  ·have e0:=hS.f hN 0;simp only[e0]at hK⊢;go_simp;exact hS.o hK
  ·have e1:=hS.f hN 1;simp only[e1]at hK⊢;go_simp;exact hS.o hK
  ·have e2:=hS.f hN 2;simp only[e2]at hK⊢;have u0:=V1 _ (below_trans M.bel hS.mem.bel);go_simp;exact hS.o hK
  ·go_simp;exact hS.o hK
  ·have e4:=hS.f hN 4;simp only[e4]at hK⊢;go_simp;exact hS.o hK
  ·have e5:=hS.f hN 5;simp only[e5]at hK⊢;go_simp;exact hS.o hK
  ·have e6:=hS.f hN 6;simp only[e6]at hK⊢;have u0:=V2 _ (below_trans M.bel hS.mem.bel);go_simp;exact hS.o hK
  ·go_simp;exact hS.o hK
  ·have e7:=hS.f hN 7;simp only[e7]at hK⊢;have e8:=hS.f hN 8;simp only[e8]at hK⊢;go_simp;exact hS.o hK
  ·have e9:=hS.f hN 9;simp only[e9]at hK⊢;have u0:=CB _ (below_trans M.bel hS.mem.bel);go_simp;exact hS.o hK
  ·have e3:=hS.f hN 3;simp only[e3]at hK⊢;have e10:=hS.f hN 10;simp only[e10]at hK⊢;go_simp;exact hS.o hK
  ·have e11:=hS.f hN 11;simp only[e11]at hK⊢;have u0:=CV _ (below_trans M.bel hS.mem.bel);go_simp;exact hS.o hK
  ·have e12:=hS.f hN 12;simp only[e12]at hK⊢;go_simp;go_at_call 97;refine(HBl.out _ (below_trans M.bel hS.mem.bel)).mono ?_;rintro e9 w10 ⟨rfl,q⟩;exact hK.out _ _ (hS.val rfl (noStore_of rfl) q rfl)
  ·have e13:=hS.f hN 13;simp only[e13]at hK⊢;go_simp;exact hS.o hK
 intro L s w9 hall hS;have e9:=hS.fx 14 rfl rfl (hall 14 (by decide));have q9:=hS.mem.bel;have HRow1:=ZH (HRow0.out.below q9);have HBox1:=ZH (fun g (hg:bl A=some g)=>(⟨(HBox0.out g hg).1,(HBox0.out g hg).2.below q9⟩:w.heap.size≤g∧Box w9 g));have hq0:=below_trans M.bel q9;simp only[e9];obtain⟨Q,hQ⟩:∃Q,proofGo n up Z lt b.free=Q:=⟨_,rfl⟩;rw[hQ]at HR0;have HQ0:Hid (Q=proofGo n up Z (lt.drop 0) (b.free.drop 0)):=hQ.symm;clear hS hall e9 HRow0 HBox0 M q9 HBl hQ q1;have h3':=V3 _ hq0;go_wp2_with fail;go_loopg [32] b.free.length (fun k p wr=>∃(j:Nat)(y:List Rat),k=b.free.length-j∧j≤b.free.length∧p= .int .i64 (j:Nat)∧Hid (y.length=z)∧Hid (Q=proofGo n up y (lt.drop j) (b.free.drop j))∧Below w.heap.size w wr∧QRow wr A y∧∀g,bl A=some g→w.heap.size≤g∧Box wr g)
 case atStart=>exact⟨0,Z,rfl,Nat.zero_le _,rfl,HZL.out,HQ0.out,hq0,HRow1.out,HBox1.out⟩
 case round=>
  clear h3' HRow1 HBox1 HQ0 hq0;obtain⟨j,y,hk,hj,rfl,hl2,HL,hq,hrow,hbox⟩:=hrel;by_cases hlt:j<b.free.length
  ·have d1:decide ((j:Int)<(b.free.length:Int))=true:=decide_eq_true (by omega);have hlt2:j<lt.length:=by omega
   have HC:Hid (Q=proofGo n up (if b.free.getD j 0<n then y else y.set (b.free.getD j 0-n) (if up then lt.getD j 0 else-(lt.getD j 0))) (lt.drop (j+1)) (b.free.drop (j+1))):=by
    show _=_;rw[HL.out,drop_at (z:=0) hlt,drop_at (z:=0) hlt2,proofGo_step]
   have hvl:=HW.out.fv j hlt;obtain⟨gF,oF,hF,cj⟩:=(HT.out.below hq).fr j hlt;rw[HFA.out]at hF;subst hF;obtain⟨v,hvg⟩:∃v,b.free.getD j 0=v:=⟨_,rfl⟩;replace cj:wr.cell? ⟨gF,oF+j,none⟩=some (iv6 v):=by rw[←hvg];exact cj
   rw[hvg]at HC hvl;have u0:=V0 _ hq;clear hvg HL;by_cases hvn:v<n
   ·have d2:decide ((v:Int)<(n:Int))=true:=decide_eq_true (by omega);have HC2:Hid (Q=proofGo n up y (lt.drop (j+1)) (b.free.drop (j+1))):=HC.out.trans (by rw[if_pos hvn]);have hq9:=hq;have hrow9:=hrow;have hbox9:=hbox;go_wp2_with fail;go_roundg (b.free.length-(j+1))
    case measure=>omega
    case rel=>exact⟨j+1,y,rfl,by omega,by simp,hl2,HC2.out,hq9,hrow9,hbox9⟩
   ·have d2:decide ((v:Int)<(n:Int))=false:=decide_eq_false (by omega);have d2n:decide (v<n)=false:=decide_eq_false hvn;have d3:IntKind.i64.wrap ((v:Int)-(n:Int))=((v-n:Nat):Int):=sub_wrap (by omega) (by omega);have hjn:v-n<y.length:=by rw[hl2.out];omega
    have hjz:v-n<z:=by omega
    obtain⟨gY,oY,rfl,_⟩:=hrow _ hjn;obtain⟨hgY,hbY⟩:=hbox gY rfl;obtain⟨gL,oL,rfl,A',c',B',d2',a1,a2,a3,a4,hqa⟩:=hRow.out j hlt2;have a1:=Lk.of a1 _ hq;have a2:=Lk.of a2 _ hq;have a3:=Lk.of a3 _ hq;have a4:=Lk.of a4 _ hq;have HA:=ZH (hqa.below hq);have HC1:Hid (Q=proofGo n up (y.set (v-n) (if up then lt.getD j 0 else-(lt.getD j 0))) (lt.drop (j+1)) (b.free.drop (j+1))):=HC.out.trans (by rw[if_neg hvn]);have ht4:=V4 _ hq;have ct:=CT _ hq;have HQ:=ZH hq;have HRow:=ZH hrow;have HBox:=ZH hbY;clear hqa HC hrow hbox hbY hvn;generalize lt.getD j 0=a at*;have M:=(Mem.start wr).new 33 z4;cases up with
    |true=>
     go_upto_region 10 with ((with_reducible refine st_ ?_);refine wp_put2 _ _ (M.k (i:=0) rfl) rfl rfl rfl rfl info_rat rfl rfl ?_;intro w4 b4 g4;replace M:=M.row (by omega) (by simp) rfl b4 g4;clear b4 g4);have HRow:=ZH (HRow.out.below M.bel);have HBox:=ZH (HBox.out.below M.bel);have HA4:=ZH (HA.out.below M.bel);refine region_tail (n:=9) (frame:= ?frame2) (fun jK=>[.val (.fix (.slice (some ⟨gY,oY,none⟩) z c)),.val (.fix (.int .i64 (v:Nat))),.val (.fix (.pointer (some ⟨d.t0,0,none⟩))),.val (.fix (.pointer (some ⟨d.t0,0,none⟩))),.val (.fix (.pointer (some ⟨d.t0,0,none⟩))),.val (.fix (.int .i64 (n:Nat))),.val (.fix (.int .i64 ((v-n:Nat):Int))),.val (.fix (.agg #[.bool (sN a.num),.slice A' (sD a.num).length c',.bool false,.slice B' (dig a.den).length d2'])),.val (.fix (.pointer (some ⟨gY,oY+(v-n)*4,none⟩)))].getD jK .none) (fun s' w'=>Stp (fun b=>b=gY) w4 w'∧QRow w' (some ⟨gY,oY,none⟩) (y.set (v-n) a)∧Box w' gY) _ (by kernel_rfl) (by kernel_rfl) (by kernel_rfl) rfl rfl (by kernel_rfl) M.rebase ?_ ?_ ?_ ?_
     case refine_1=>
      intro s;simp only[fr,Act.put,zA,zB,zC,zD,zE,zF,Nat.reduceAdd];rfl
     case refine_2=>
      refine SC 0 1 rfl ?_ (SC 1 2 rfl ?_ (SC 2 3 rfl ?_ (SC 3 4 rfl ?_ (SC 4 5 rfl ?_ (SC 5 6 rfl ?_ (SC 6 7 rfl ?_ (SC 7 8 rfl ?_ (SC 8 9 rfl ?_ Steps.nil))))))));all_goals (intro L s w9 hN hU hi hS K hK;dsimp only at hK⊢;simp only[Act.put,zD,zE,zF]at hK)
      ·go_simp;exact hS.o hK
      ·go_simp;exact hS.o hK
      ·go_simp;exact hS.o hK
      ·have e2:=hS.f hN 2;simp only[e2]at hK⊢;go_simp;exact hS.o hK
      ·have e3:=hS.f hN 3;simp only[e3]at hK⊢;go_simp;exact hS.o hK
      ·have e4:=hS.f hN 4;simp only[e4]at hK⊢;have u0:=V0 _ (below_trans HQ.out (below_trans M.bel hS.mem.bel));go_simp;exact hS.o hK
      ·have e1:=hS.f hN 1;simp only[e1]at hK⊢;have e5:=hS.f hN 5;simp only[e5]at hK⊢;go_simp;exact hS.o hK
      ·obtain⟨u1,u2,u3,u4⟩:=(hS.mem.k (i:=0) rfl).four;go_simp;exact hS.o hK
      ·have e0:=hS.f hN 0;simp only[e0]at hK⊢;have e6:=hS.f hN 6;simp only[e6]at hK⊢;go_simp;exact hS.o hK
     case refine_3=>
      intro L s w9 hall hS K hK;dsimp only at hK⊢;simp only[Act.put,zD,zE,zF]at hK;have e8:=hS.fx 8 rfl rfl (hall 8 (by decide));simp only[e8]at hK⊢;have e7:=hS.fx 7 rfl rfl (hall 7 (by decide));simp only[e7]at hK⊢;refine ite_of rfl ?_;have hr9:=HRow.out.below hS.mem.bel;have hb9:=HBox.out.below hS.mem.bel;obtain⟨p1,p2,p3,p4⟩:=hr9.put hjn hb9 (HA4.out.below hS.mem.bel);refine wp_store_mid _ _ _ rfl gY (oY+(v-n)*4) (qcs a A' c' B' d2') rfl rfl p1 rfl (by rw[←Array.all_toList];rfl) ?_;exact hK.out undef _ ⟨(Stp.of hS.mem.bel).trans (Stp.wrote hb9 p2 rfl),p4,p3⟩
     intro s w9 hR;obtain⟨hs9,hrow9,hb9⟩:=hR;have HC2:Hid (Q=proofGo n true (y.set (v-n) a) (lt.drop (j+1)) (b.free.drop (j+1))):=HC1.out;have hq4:=below_trans HQ.out M.bel;have hq9:=hs9.below hq4 hq4.size (fun k hk=>by omega);have hbox9:∀g,bl (some ⟨gY,oY,none⟩)=some g→w.heap.size≤g∧Box w9 g:=fun g hg=>by
      injection hg with hg;subst hg;exact⟨hgY,hb9⟩
     have hl2:Hid ((y.set (v-n) a).length=z):=by
      show _=_;rw[List.length_set];exact hl2.out
     go_wp2_with fail;go_roundg (b.free.length-(j+1))
     case measure=>omega
     case rel=>exact⟨j+1,(y.set (v-n) a),rfl,by omega,by simp,hl2,HC2.out,hq9,hrow9,hbox9⟩
    |false=>
     go_wp2_with ((with_reducible refine st_ ?_);refine wp_put2 _ _ (M.k (i:=0) rfl) rfl rfl rfl rfl info_rat rfl rfl ?_;intro w4 b4 g4;replace M:=M.row (by omega) (by simp) rfl b4 g4;obtain⟨f1,f2,f3,f4⟩:=b4.four;clear b4 g4);refine(pneg_any (HA.out.below M.bel)).mono ?_;rintro e w5 ⟨q5,A5,c5,B5,d5,rfl,hq5⟩;replace M:=M.below q5;have HQ5:=ZH hq5;clear hq5 f1 f2 f3 f4;go_upto_region 10 with ((with_reducible refine st_ ?_);refine wp_put2 _ _ (M.k (i:=0) rfl) rfl rfl rfl rfl info_rat rfl rfl ?_;intro w6 b6 g6;have HQ6:=ZH (HQ5.out.boxed ((M.k (i:=0) rfl).box rfl) g6);replace M:=M.row (by omega) (by simp) rfl b6 g6;clear b6 g6);have HRow:=ZH (HRow.out.below M.bel);have HBox:=ZH (HBox.out.below M.bel);refine region_tail (n:=9) (frame:= ?frame3) (fun jK=>[.val (.fix (.slice (some ⟨gY,oY,none⟩) z c)),.val (.fix (.int .i64 (v:Nat))),.val (.fix (.pointer (some ⟨d.t0,0,none⟩))),.val (.fix (.pointer (some ⟨d.t0,0,none⟩))),.val (.fix (.pointer (some ⟨d.t0,0,none⟩))),.val (.fix (.int .i64 (n:Nat))),.val (.fix (.int .i64 ((v-n:Nat):Int))),.val (.fix (.agg #[.bool (sN (-a).num),.slice A5 (sD (-a).num).length c5,.bool false,.slice B5 (dig (-a).den).length d5])),.val (.fix (.pointer (some ⟨gY,oY+(v-n)*4,none⟩)))].getD jK .none) (fun s' w'=>Stp (fun b=>b=gY) w6 w'∧QRow w' (some ⟨gY,oY,none⟩) (y.set (v-n) (-a))∧Box w' gY) _ (by kernel_rfl) (by kernel_rfl) (by kernel_rfl) rfl rfl (by kernel_rfl) M.rebase ?_ ?_ ?_ ?_
     case refine_1=>
      intro s;simp only[fr,Act.put,zA,zB,zC,zD,zE,zF,Nat.reduceAdd];rfl
     case refine_2=>
      refine SC 0 1 rfl ?_ (SC 1 2 rfl ?_ (SC 2 3 rfl ?_ (SC 3 4 rfl ?_ (SC 4 5 rfl ?_ (SC 5 6 rfl ?_ (SC 6 7 rfl ?_ (SC 7 8 rfl ?_ (SC 8 9 rfl ?_ Steps.nil))))))));all_goals (intro L s w9 hN hU hi hS K hK;dsimp only at hK⊢;simp only[Act.put,zD,zE,zF]at hK)
      ·go_simp;exact hS.o hK
      ·go_simp;exact hS.o hK
      ·go_simp;exact hS.o hK
      ·have e2:=hS.f hN 2;simp only[e2]at hK⊢;go_simp;exact hS.o hK
      ·have e3:=hS.f hN 3;simp only[e3]at hK⊢;go_simp;exact hS.o hK
      ·have e4:=hS.f hN 4;simp only[e4]at hK⊢;have u0:=V0 _ (below_trans HQ.out (below_trans M.bel hS.mem.bel));go_simp;exact hS.o hK
      ·have e1:=hS.f hN 1;simp only[e1]at hK⊢;have e5:=hS.f hN 5;simp only[e5]at hK⊢;go_simp;exact hS.o hK
      ·obtain⟨u1,u2,u3,u4⟩:=(hS.mem.k (i:=0) rfl).four;go_simp;exact hS.o hK
      ·have e0:=hS.f hN 0;simp only[e0]at hK⊢;have e6:=hS.f hN 6;simp only[e6]at hK⊢;go_simp;exact hS.o hK
     case refine_3=>
      intro L s w9 hall hS K hK;dsimp only at hK⊢;simp only[Act.put,zD,zE,zF]at hK;have e8:=hS.fx 8 rfl rfl (hall 8 (by decide));simp only[e8]at hK⊢;have e7:=hS.fx 7 rfl rfl (hall 7 (by decide));simp only[e7]at hK⊢;refine ite_of rfl ?_;have hr9:=HRow.out.below hS.mem.bel;have hb9:=HBox.out.below hS.mem.bel;obtain⟨p1,p2,p3,p4⟩:=hr9.put hjn hb9 (HQ6.out.below hS.mem.bel);refine wp_store_mid _ _ _ rfl gY (oY+(v-n)*4) (qcs (-a) A5 c5 B5 d5) rfl rfl p1 rfl (by rw[←Array.all_toList];rfl) ?_;exact hK.out undef _ ⟨(Stp.of hS.mem.bel).trans (Stp.wrote hb9 p2 rfl),p4,p3⟩
     intro s w9 hR;obtain⟨hs9,hrow9,hb9⟩:=hR;have HC2:Hid (Q=proofGo n false (y.set (v-n) (-a)) (lt.drop (j+1)) (b.free.drop (j+1))):=HC1.out;have hq4:=below_trans HQ.out M.bel;have hq9:=hs9.below hq4 hq4.size (fun k hk=>by omega);have hbox9:∀g,bl (some ⟨gY,oY,none⟩)=some g→w.heap.size≤g∧Box w9 g:=fun g hg=>by
      injection hg with hg;subst hg;exact⟨hgY,hb9⟩
     have hl2:Hid ((y.set (v-n) (-a)).length=z):=by
      show _=_;rw[List.length_set];exact hl2.out
     go_wp2_with fail;go_roundg (b.free.length-(j+1))
     case measure=>omega
     case rel=>exact⟨j+1,(y.set (v-n) (-a)),rfl,by omega,by simp,hl2,HC2.out,hq9,hrow9,hbox9⟩
  ·have d1:decide ((j:Int)<(b.free.length:Int))=false:=decide_eq_false (by omega);have hlt2:¬j<lt.length:=by omega
   have HC2:Hid (Q=y):=by
    show _=_;rw[HL.out,drop_none hlt,drop_none hlt2];rfl
   have u0:=V0 _ hq;have u2:=V2 _ hq;have cb:=CB _ hq;have HRow:=ZH hrow;have HBox:=ZH hbox;have HQ:=ZH hq;clear HL hrow hbox;by_cases hun:u<n
   ·have d2:decide ((n:Int)≤(u:Int))=false:=decide_eq_false (by omega);have d2n:decide (n≤u)=false:=decide_eq_false (by omega);have HP:Hid (P=y):=HR0.out.trans (by rw[if_pos hun,HC2.out]);clear hun;go_wp2_with fail;exact bodyPost_ret (v:= .slice A z c) (by simp[results,Tryz.results59,go_sem]) rfl ⟨HQ.out,.slice A z c,rfl,by rw[HP.out];exact⟨A,c,by rw[hl2.out],HRow.out,HBox.out⟩⟩
   ·have d2:decide ((n:Int)≤(u:Int))=true:=decide_eq_true (by omega);have d2n:decide (n≤u)=true:=decide_eq_true (by omega);have d3:IntKind.i64.wrap ((u:Int)-(n:Int))=((u-n:Nat):Int):=sub_wrap (by omega) (by omega);have HP:Hid (P=y.set (u-n) 1):=HR0.out.trans (by rw[if_neg hun,HC2.out]);have hjn:u-n<y.length:=by rw[hl2.out];omega
    have hjz:u-n<z:=by omega
    obtain⟨gY,oY,rfl,_⟩:=HRow.out _ hjn;obtain⟨hgY,hbY⟩:=HBox.out gY rfl;have HBox:=ZH hbY;have M:=Mem.start wr;clear hun hbY;go_upto_region 14 with fail;refine region_tail (n:=9) (frame:= ?frame4) (fun jK=>[.val (.fix (.slice (some ⟨gY,oY,none⟩) z c)),.val (.fix (.int .i64 (u:Nat))),.val (.fix (.pointer (some ⟨d.t0,0,none⟩))),.val (.fix (.pointer (some ⟨d.t0,0,none⟩))),.val (.fix (.pointer (some ⟨d.t0,0,none⟩))),.val (.fix (.int .i64 (n:Nat))),.val (.fix (.int .i64 ((u-n:Nat):Int))),.val (Sh.rq (some ((1:Int):Rat))),.val (.fix (.pointer (some ⟨gY,oY+(u-n)*4,none⟩)))].getD jK .none) (fun s' w'=>Stp (fun b=>b=gY) wr w'∧QRow w' (some ⟨gY,oY,none⟩) (y.set (u-n) 1)∧Box w' gY) _ (by kernel_rfl) (by kernel_rfl) (by kernel_rfl) rfl rfl (by kernel_rfl) M ?_ ?_ ?_ ?_
    case refine_1=>
     intro s;simp only[fr,Act.put,zA,zB,zC,zD,zE,zF,Nat.reduceAdd];rfl
    case refine_2=>
     refine SC 0 1 rfl ?_ (SC 1 2 rfl ?_ (SC 2 3 rfl ?_ (SC 3 4 rfl ?_ (SC 4 5 rfl ?_ (SC 5 6 rfl ?_ (SC 6 7 rfl ?_ (SC 7 8 rfl ?_ (SC 8 9 rfl ?_ Steps.nil))))))));all_goals (intro L s w9 hN hU hi hS K hK;dsimp only at hK⊢;simp only[Act.put,zD,zE,zF]at hK)
     ·go_simp;exact hS.o hK
     ·go_simp;exact hS.o hK
     ·go_simp;exact hS.o hK
     ·have e2:=hS.f hN 2;simp only[e2]at hK⊢;go_simp;exact hS.o hK
     ·have e3:=hS.f hN 3;simp only[e3]at hK⊢;go_simp;exact hS.o hK
     ·have e4:=hS.f hN 4;simp only[e4]at hK⊢;have u0:=V0 _ (below_trans HQ.out hS.mem.bel);go_simp;exact hS.o hK
     ·have e1:=hS.f hN 1;simp only[e1]at hK⊢;have e5:=hS.f hN 5;simp only[e5]at hK⊢;go_simp;exact hS.o hK
     ·go_simp;go_at_call 18;refine(pof_any (z:=1) (by decide) (by decide)).mono ?_;rintro e9 w10 ⟨q,A9,c9,B9,d9,rfl,hq9⟩;exact hK.out _ _ (hS.val rfl (noStore_of rfl) q ⟨_,A9,c9,B9,d9,rfl,rfl,hq9⟩)
     ·have e0:=hS.f hN 0;simp only[e0]at hK⊢;have e6:=hS.f hN 6;simp only[e6]at hK⊢;go_simp;exact hS.o hK
    case refine_3=>
     intro L s w9 hall hS K hK;dsimp only at hK⊢;simp only[Act.put,zD,zE,zF]at hK;have e8:=hS.fx 8 rfl rfl (hall 8 (by decide));simp only[e8]at hK⊢;obtain⟨q7,A7,c7,B7,d7,o7,e7,h7⟩:=hS.val_at 7 rfl (by decide) (hall 7 (by decide));simp only[e7]at hK⊢;refine ite_of rfl ?_;have hr9:=HRow.out.below hS.mem.bel;have hb9:=HBox.out.below hS.mem.bel;obtain rfl:=Option.some.inj o7;obtain⟨p1,p2,p3,p4⟩:=hr9.put hjn hb9 h7;refine wp_store_mid _ _ _ rfl gY (oY+(u-n)*4) (qcs ((1:Int):Rat) A7 c7 B7 d7) rfl rfl p1 rfl (by rw[←Array.all_toList];rfl) ?_;exact hK.out undef _ ⟨(Stp.of hS.mem.bel).trans (Stp.wrote hb9 p2 rfl),p4,p3⟩
    intro s w9 hR;obtain⟨hs9,hrow9,hb9⟩:=hR;have hq9:=ZH (hs9.below HQ.out HQ.out.size (fun k hk=>by omega));have HRow9:=ZH hrow9;have HB9:=ZH hb9;clear hs9 hrow9 hb9;go_wp2_with fail;exact bodyPost_ret (v:= .slice (some ⟨gY,oY,none⟩) z c) (by simp[results,Tryz.results59,go_sem]) rfl ⟨hq9.out,.slice (some ⟨gY,oY,none⟩) z c,rfl,by rw[HP.out];exact⟨some ⟨gY,oY,none⟩,c,by rw[List.length_set,hl2.out],HRow9.out,fun g hg=>by
     injection hg with hg;subst hg;exact⟨hgY,HB9.out⟩⟩⟩
end Go.Proofs.YtpnmcacndjkfaaaGreat

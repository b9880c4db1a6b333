/-
  Joined texts: Ky, Kz, Kc, Kt, Ku.
-/
import Derived.Test.YtecfcjdgmpopjaaGreatKx
import Derived.Test.YtecfcjdgmpopjaaGreatKb
set_option maxHeartbeats 4000000
set_option maxRecDepth 100000
set_option linter.unusedSimpArgs false
set_option linter.unusedVariables false
namespace Go.Proofs.YtecfcjdgmpopjaaGreat
open Go.RowKit Num
theorem zeros_any {w:World}{d:Ad}{b:Tb}(h:TAt tyT w d b)(hn:b.n≤b.vars.length)(hs:b.vars.length≤1000):Calls Tryz.prog 141 #[vptr d.t0] w fun e w'=>Below w.heap.size w w'∧∃v,e= .returned v∧QOwn w' w.heap.size v (zerosT b):=by
 obtain⟨h0,h1,h2,h3,h4,h5,h6⟩:=h.head.seven;have V0:=Lk.of h0;have V1:=Lk.of h1;obtain⟨Z,hZ⟩:∃Z,zerosT b=Z:=⟨_,rfl⟩;have HZ:Hid (Z=List.replicate (b.vars.length-b.n) 0):=hZ.symm;rw[hZ];clear h h2 h3 h4 h5 h6 hZ;generalize d.V.1=VA at*;generalize d.V.2=cV at*;generalize d.t0=t0 at*;generalize b.vars.length=l at*;generalize b.n=n at*;have d2:wrap64 ((l:Int)-(n:Int))=((l-n:Nat):Int):=by
  rw[show(l:Int)-(n:Int)=((l-n:Nat):Int) by omega];unfold wrap64;omega
 obtain⟨m,hm⟩:∃m,l-n=m:=⟨_,rfl⟩;rw[hm]at d2 HZ;have hm2:m≤1000:=by omega
 have d3:IntKind.i64.wrap ((l:Int)-(n:Int))=(m:Int):=by rw[IntKind.wrap_i64];unfold wrap64 at d2;exact d2
 clear hm hn hs d2;have M:=Mem.start w;go_enter Tryz.func141,Tryz.ntmps141;go_upto_region 2 with fail;refine region_st (n:=11) (frame:= ?frame1) (fun jK=>[kP t0 0,kP t0 0,kP t0 1,kF (.slice VA l cV),kI ((l:Int)),kP t0 0,kP t0 0,kP t0 0,kI ((n:Nat)),kI ((m:Nat)),kI 0].getD jK .none) [] (by kernel_rfl) (by kernel_rfl) (by kernel_rfl) rfl M (fun _ h=>by cases h) (fun _ h=>by cases h) ?_ ?_ ?_
 case refine_1=>
  intro s;simp only[fr,Act.put,zA,zB,zC,zD,zE,zF,Nat.reduceAdd];rfl
 case refine_2=>
  iterate 11 (refine SN ?_ ?_;rotate_left)
  exact Steps.nil;all_goals (intro L s w9 hN hU hi hS K hK;dsimp only at hK⊢;simp only[Act.put,zD,zE,zF]at hK)
  ·go_simp;exact hS.o hK
  ·simp only[hS.f hN 0]at hK⊢;go_simp;exact hS.o hK
  ·simp only[hS.f hN 1]at hK⊢;go_simp;exact hS.o hK
  ·simp only[hS.f hN 2]at hK⊢;have u0:=V1 _ hS.mem.bel;go_simp;exact hS.o hK
  ·simp only[hS.f hN 3]at hK⊢;go_simp;exact hS.o hK
  ·go_simp;exact hS.o hK
  ·simp only[hS.f hN 5]at hK⊢;go_simp;exact hS.o hK
  ·simp only[hS.f hN 6]at hK⊢;go_simp;exact hS.o hK
  ·simp only[hS.f hN 7]at hK⊢;have u0:=V0 _ hS.mem.bel;go_simp;exact hS.o hK
  ·simp only[hS.f hN 4,hS.f hN 8]at hK⊢;go_simp;exact hS.o hK
  ·go_simp;exact hS.o hK
 intro L s w9 hall hS;have e9:=hS.fx 9 rfl rfl (hall 9 (by decide));have e10:=hS.fx 10 rfl rfl (hall 10 (by decide));have q1:=hS.mem.bel;simp only[e9,e10];clear hS hall e9 e10 V0 V1 h0 h1 d3 M;go_wp2_with fail;go_loopg [14,3] m (fun z p v wr=>∃(j:Nat),z=m-j∧j≤m∧p= .int .i64 (j:Nat)∧Below w.heap.size w wr∧QOwn wr w.heap.size v (List.replicate j 0))
 case atStart=>exact⟨0,rfl,Nat.zero_le _,rfl,q1,QOwn.nil _ _⟩
 case round=>
  clear q1;obtain⟨j,hz,hj,rfl,hq,how⟩:=hrel;by_cases hlt:j<m
  ·have d1:decide ((j:Int)<(m:Int))=true:=dT (by omega);have hl:(List.replicate j (0:Rat)).length≤1000000:=by rw[List.length_replicate];omega
   obtain⟨L,hL⟩:∃L,List.replicate j (0:Rat)=L:=⟨_,rfl⟩;have HL:Hid (L++[0]=List.replicate (j+1) 0):=by
    show _=_;rw[←hL,←List.replicate_succ']
   rw[hL]at how hl;clear hL;obtain⟨A,c,rfl⟩:=how.slice;go_wp2_with fail;refine(pof_any (z:=0) (by decide) (by decide)).mono ?_;rintro e w1 ⟨q1,A0,c0,B0,d0,rfl,hq0⟩;have how1:=how.below q1;have hq1:=bT hq q1;clear how hq q1;go_wp2_with (at_builtin;refine wp_appQ _ _ w1 w.heap.size (.slice A L.length c) L 0 A0 c0 B0 d0 (by first|rfl|simp) Tryz.underlying45 how1 hq0 hq1.size hl rfl rfl rfl rfl ?_;intro v7 w7 ho7 hg7 hb7 hat7;rw[HL.out]at ho7);go_roundg (m-(j+1))
   case measure=>omega
   case rel=>exact⟨j+1,rfl,by omega,by simp,hq1.trans hb7,ho7⟩
  ·have d1:decide ((j:Int)<(m:Int))=false:=dF (by omega);have hjm:j=m:=by omega
   rw[hjm,←HZ.out]at how;go_wp2_with fail;exact bodyPost_ret (by simp[results,Tryz.results141,go_sem]) rfl ⟨hq,_,rfl,how⟩
def dotF (f:Nat→Int):Nat→Rat→List Rat→Option Rat
 |j,s,x::l=>((mulO x (f j)).bind fun p=>addO s p).bind fun t=>dotF f (j+1) t l
 |_,s,[]=>some s
theorem dotF_eq (f:Nat→Int)(m:List Int):∀(l:List Rat)(j:Nat)(s:Rat),l.length+j≤m.length→(∀i,i<m.length→f i=m.getD i 0)→dotF f j s l=dotO s l (m.drop j)
 |[],j,s,h,hf=>by
  unfold dotF dotO;rfl
 |x::l,j,s,h,hf=>by
  rw[List.length_cons]at h;have hj:j<m.length:=by omega
  rw[drop_at (z:=0) hj];unfold dotF dotO;rw[hf j hj];cases mulO x (m.getD j 0:Int) with
  |none=>rfl
  |some p=>
   show((addO s p).bind fun t=>dotF f (j+1) t l)=(addO s p).bind fun t=>dotO t l (m.drop (j+1));congr 1;funext t;exact dotF_eq f m l (j+1) t (by omega) hf
theorem pdot_any {w:World}{A:Option Addr}{c:Nat}{l:List Rat}{g:Nat}{caps:Array Value}{f:Nat→Int}(h:QRow w A l)(hs:l.length≤1000)(hf:∀j,j<l.length→-9223372036854775808≤f j∧f j≤9223372036854775807)(he:∀(args:Array Value)(w:World),Sem.run Tryz.prog (callFunc g args) w= .ok (.enter g args) w)(HF:∀w',Below w.heap.size w w'→∀j,j<l.length→Calls Tryz.prog g (#[iv6 j]++caps) w' fun e w2=>e= .returned (.int .i64 (f j))∧Below w'.heap.size w' w2):Calls Tryz.prog 116 #[.slice A l.length c,.func (.func g) #[] caps] w fun e w'=>RetP w w' e (dotF f 0 0 l):=by
 have HF:=ZH HF;have HB:=ZH hf;have HRow:=ZH h;obtain⟨R,hR⟩:∃R,dotF f 0 0 l=R:=⟨_,rfl⟩;rw[hR];have HR:Hid (R=dotF f 0 0 (l.drop 0)):=hR.symm;clear hR h hf;have M:=(Mem.start w).new 72 z4;go_enter Tryz.func116,Tryz.ntmps116;go_wp2_with fail;refine(pof_any (z:=0) (by decide) (by decide)).mono ?_;rintro e w1 ⟨q1,A0,c0,B0,d0,rfl,hq0⟩;have HQ0:=ZH hq0;clear hq0;replace M:=M.below q1;have p1:=(M.k (i:=0) rfl).lt;replace M:=M.new 72 z4;clear q1;go_wp2_with ((with_reducible refine st_ ?_);refine wP2 _ _ (M.k (i:=0) rfl) rfl rfl rfl rfl info_rat rfl rfl ?_;intro w4 b4 g4;have HQ4:=ZH ((HQ0.out.below (bA1 _ _)).boxed ((M.k (i:=0) rfl).box rfl) g4);replace M:=M.row (by omega) (by simp;omega) rfl b4 g4);generalize w1.heap.size=g5 at*;clear HQ0;go_loopg [11] l.length (fun k p wr=>∃(j:Nat)(s:Rat)(A:Option Addr)(c:Nat)(B:Option Addr)(d':Nat),k=l.length-j∧j≤l.length∧p= .int .i64 (j:Nat)∧Hid (R=dotF f j s (l.drop j))∧Mem w wr [(g5,72,qcs s A c B d'),(w.heap.size,72,z4)] []∧Hid (QR wr A c B d' s))
 case atStart=>exact⟨0,0,A0,c0,B0,d0,rfl,Nat.zero_le _,rfl,HR.out,M,HQ4.out⟩
 case round=>
  clear HQ4 M;obtain⟨j,sm,A,c,B,d',hk,hj,rfl,HL,M,HQ⟩:=hrel;have p2:=(M.k (i:=0) rfl).lt;by_cases hlt:j<l.length
  ·have d1:decide ((j:Int)<(l.length:Int))=true:=dT (by omega);have HC:Hid (R=((mulO (l.getD j 0) (f j)).bind fun p=>addO sm p).bind fun t=>dotF f (j+1) t (l.drop (j+1))):=by
    show _=_;rw[HL.out,drop_at (z:=0) hlt];rfl
   obtain⟨gL,oL,rfl,A',c',B',d2,a1,a2,a3,a4,hq⟩:=HRow.out j hlt;have HA:=ZH (hq.below M.bel);have a1:=Lk.of a1 _ M.bel;have a2:=Lk.of a2 _ M.bel;have a3:=Lk.of a3 _ M.bel;have a4:=Lk.of a4 _ M.bel;have HFj:=ZH (fun w' (q:Below wr.heap.size wr w')=>HF.out w' (bT M.bel q) j hlt);have hfj:=HB.out j hlt;clear HL hq;generalize l.getD j 0=a at*;generalize f j=n at*;have HNJ:=ZH hfj;clear hfj;have M2:=M.rebase.new 72 z4;go_upto_region 5 with ((with_reducible refine st_ ?_);refine wP2 _ _ (M2.k (i:=0) rfl) rfl rfl rfl rfl info_rat rfl rfl ?_;intro w5 b5 g5';replace M2:=M2.row (by omega) (by simp;omega) rfl b5 g5');have q2:=M2.bel;have HA2:=ZH (HA.out.below q2);have HQ2:=ZH (HQ.out.below q2);have hb2:=bT M.bel q2;clear b5 g5' a1 a2 a3 a4;refine region_tail (n:=8) (frame:= ?frame2) (fun jK=>[kF (.agg #[.bool (sN sm.num),.slice A (sD sm.num).length c,.bool false,.slice B (dig sm.den).length d']),kF (.agg #[.bool (sN a.num),.slice A' (sD a.num).length c',.bool false,.slice B' (dig a.den).length d2]),kF (.func (.func g) #[] caps),kI ((j:Nat)),kI n,.val (Sh.rq (some (n:Rat))),.val (Sh.rq (mulO a n)),.val (Sh.rq ((mulO a n).bind fun p=>addO sm p))].getD jK .none) (fun s' w'=>∃q9 A9 c9 B9 d9,Hid (R=dotF f (j+1) q9 (l.drop (j+1)))∧Mem w w' [(g5,72,qcs q9 A9 c9 B9 d9),(w.heap.size,72,z4)] []∧Hid (QR w' A9 c9 B9 d9 q9)) _ (by kernel_rfl) (by kernel_rfl) (by kernel_rfl) rfl rfl (by kernel_rfl) M2.rebase ?_ ?_ ?_ ?_
   case refine_1=>
    intro s;simp only[fr,Act.put,zA,zB,zC,zD,zE,zF,Nat.reduceAdd];rfl
   case refine_2=>
    iterate 8 (refine SN ?_ ?_;rotate_left)
    exact Steps.nil;all_goals (intro L s w9 hN hU hi hS K hK;dsimp only at hK⊢;simp only[Act.put,zD,zE,zF]at hK)
    ·obtain⟨u1,u2,u3,u4⟩:=(hS.mem.k (i:=1) rfl).four;go_simp;exact hS.o hK
    ·obtain⟨u1,u2,u3,u4⟩:=(hS.mem.k (i:=0) rfl).four;go_simp;exact hS.o hK
    iterate 2 (go_simp;exact hS.o hK)
    ·simp only[hS.f hN 2,hS.f hN 3]at hK⊢;go_simp;skip;refine(HFj.out _ (bT q2 hS.mem.bel)).mono ?_;rintro e9 w10 ⟨rfl,q⟩;exact hK.out _ _ (hS.val rfl (nSo rfl) q rfl)
    ·simp only[hS.f hN 4]at hK⊢;go_simp;go_at_call 26;refine(pof_any HNJ.out.1 HNJ.out.2).mono ?_;rintro e9 w10 ⟨q,A9,c9,B9,d9,rfl,hq9⟩;exact hK.out _ _ (hS.val rfl (nSo rfl) q ⟨_,A9,c9,B9,d9,rfl,rfl,hq9⟩)
    ·simp only[hS.f hN 1]at hK⊢;obtain⟨q5,A5,c5,B5,d5,o5,e5,h5⟩:=hS.val_at 5 rfl (by decide) (hN.out 5 rfl);simp only[e5]at hK⊢;go_simp;go_at_call 119;refine(pmul_any (HA2.out.below hS.mem.bel) h5).mono ?_;rintro e9 w10 ⟨q,⟨q9,A9,c9,B9,d9,ho9,rfl,hq9⟩|⟨ho9,v9,rfl⟩⟩
     ·exact hK.out _ _ (hS.val rfl (nSo rfl) q ⟨q9,A9,c9,B9,d9,by have:=Option.some.inj o5;subst this;exact ho9,rfl,hq9⟩)
     ·exact⟨rfl,bT (bT hb2 hS.mem.bel) q,.inr ⟨HC.out.trans (bind_n (bind_n (by have:=Option.some.inj o5;subst this;exact ho9))),v9,rfl⟩⟩
    ·simp only[hS.f hN 0]at hK⊢;obtain⟨q6,A6,c6,B6,d6,o6,e6,h6⟩:=hS.val_at 6 rfl (by decide) (hN.out 6 rfl);simp only[e6]at hK⊢;go_simp;go_at_call 118;refine(padd_any (HQ2.out.below hS.mem.bel) h6).mono ?_;rintro e9 w10 ⟨q,⟨q9,A9,c9,B9,d9,ho9,rfl,hq9⟩|⟨ho9,v9,rfl⟩⟩
     ·exact hK.out _ _ (hS.val rfl (nSo rfl) q ⟨q9,A9,c9,B9,d9,bind_s o6 ho9,rfl,hq9⟩)
     ·exact⟨rfl,bT (bT hb2 hS.mem.bel) q,.inr ⟨HC.out.trans (bind_n (bind_sn o6 ho9)),v9,rfl⟩⟩
   case refine_3=>
    intro L s w9 hall hS K hK;dsimp only at hK⊢;simp only[Act.put,zD,zE,zF]at hK;obtain⟨q7,A7,c7,B7,d7,o7,e7,h7⟩:=hS.val_at 7 rfl (by decide) (hall 7 (by decide));simp only[e7]at hK⊢;refine ite_of rfl ?_;have m9:Mem w w9 [(g5,72,qcs sm A c B d'),(w.heap.size,72,z4)] []:=(M.below q2).below hS.mem.bel;have b9:=m9.k (i:=0) rfl;refine wp_store_row _ _ _ rfl g5 _ rfl rfl _ _ b9 info_rat rfl (by rw[←Array.all_toList];rfl) ?_;exact hK.out undef _ ⟨q7,A7,c7,B7,d7,HC.out.trans (by rw[o7];rfl),m9.row (by omega) (by simp;omega) rfl (b9.row _) (sRG _ _ _),h7.boxed (b9.box rfl) (sRG _ _ _)⟩
   intro s w9 hR;obtain⟨q9,A9,c9,B9,d9,HR9,M9,HQ9⟩:=hR;go_wp2_with fail;go_roundg (l.length-(j+1))
   case measure=>omega
   case rel=>exact⟨j+1,q9,A9,c9,B9,d9,rfl,by omega,by simp,HR9.out,M9,HQ9⟩
  ·have d1:decide ((j:Int)<(l.length:Int))=false:=dF (by omega);have HC2:Hid (R=some sm):=by
    show _=_;rw[HL.out,drop_none hlt];rfl
   clear HL;obtain⟨v1,v2,v3,v4⟩:=(M.k (i:=0) rfl).four;go_wp2_with ((with_reducible refine st_ ?_);refine wP2 _ _ (M.k (i:=1) rfl) rfl rfl rfl rfl info_rat rfl rfl ?_;intro w5 b5 g5';obtain⟨f1,f2,f3,f4⟩:=b5.four);refine bodyPost_ret (v:=qv sm A c B d') (by simp[results,Tryz.results116,go_sem,f1,f2,f3,f4]) rfl ⟨below_own M.bel g5' ZL,.inl ⟨sm,A,c,B,d',HC2.out,rfl,HQ.out.boxed ((M.k (i:=1) rfl).box rfl) g5'⟩⟩
set_option maxHeartbeats 16000000
def QRes (w:World)(base:Nat)(v:Value)(l:List Rat):Prop:=∃A c,v= .slice A l.length c∧QRow w A l∧∀g,bl A=some g→base≤g∧Box w g
theorem QOwn.res {w:World}{base:Nat}{v:Value}{l:List Rat}(h:QOwn w base v l):QRes w base v l:=by
 obtain⟨A,c,rfl⟩:=h.slice;refine⟨A,c,rfl,h.row,fun g hg=>h.box g ?_⟩;cases A with
 |none=>cases hg
 |some a=>exact hg
theorem sub_wrap {a b:Nat}(h:b≤a)(ha:a≤1000000):IntKind.i64.wrap ((a:Int)-(b:Int))=((a-b:Nat):Int):=by
 rw[IntKind.wrap_i64];omega
theorem proofGo_step (n:Nat)(up:Bool)(y:List Rat)(a:Rat)(l:List Rat)(v:Nat)(f:List Nat):proofGo n up y (a::l) (v::f)=proofGo n up (if v<n then y else y.set (v-n) (if up then a else-a)) l f:=rfl
theorem proof_any {w:World}{d:Ad}{b:Tb}{i:Nat}(h:TAt tyT w d b)(hw:Wf b)(hi:i<b.t.length):Calls Tryz.prog 139 #[vptr d.t0,iv6 i] w fun e w'=>Below w.heap.size w w'∧∃v,e= .returned v∧QRes w' w.heap.size v (proofT b i):=by
 have HT:=ZH h;have HW:=ZH hw;have hib:i<b.basic.length:=by rw[hw.bt];exact hi
 have hft:=hw.ft i hi;have hsf:=hw.sf;have hnv:=hw.nv;have hsv:=hw.sv;have hvlt:=hw.bv i hib;obtain⟨h0,h1,h2,h3,h4,h5,h6⟩:=h.head.seven;obtain⟨gT,oT,hTA,ci⟩:=h.tp i hi;replace ci:w.cell? ⟨gT,oT+i,none⟩=some (.slice (d.ls.getD i (none,0)).1 (b.t.getD i []).length (d.ls.getD i (none,0)).2):=ci;obtain⟨gB,oB,hBA,cj⟩:=h.ba i hib;obtain⟨gV,oV,hVA,cv⟩:=h.vp _ hvlt;have hRow:=ZH (h.tr i hi);rw[hTA]at h4;rw[hBA]at h2;rw[hVA]at h1;obtain⟨FA,hFA⟩:∃FA,d.F.1=FA:=⟨_,rfl⟩;rw[hFA]at h3;have HFA:=ZH hFA;have HZ:=ZH (zeros_any h hnv hsv);have HBl:=ZH (fun(w':World)(q:Below w.heap.size w w')=>vbelow_any ((h.below q).vr _ hvlt));have HR0:Hid (proofT b i=if b.basic.getD i 0<b.n then proofGo b.n (b.var (b.basic.getD i 0)).below (zerosT b) (b.t.getD i []) b.free else(proofGo b.n (b.var (b.basic.getD i 0)).below (zerosT b) (b.t.getD i []) b.free).set (b.basic.getD i 0-b.n) 1):=rfl;have hzl:(zerosT b).length=b.vars.length-b.n:=List.length_replicate;obtain⟨u,hu⟩:∃u,b.basic.getD i 0=u:=⟨_,rfl⟩;have CB:Lk w gB (oB+i) (iv6 u):=by rw[←hu];exact Lk.of cj
 have CV:Lk w gV (oV+u) (vptr (d.vs.getD u 0)):=by rw[←hu];exact Lk.of cv
 rw[hu]at HR0 HBl hvlt;have V0:=Lk.of h0;have V1:=Lk.of h1;have V2:=Lk.of h2;have V3:=Lk.of h3;have V4:=Lk.of h4;have CT:=Lk.of ci;clear h hw h0 h1 h2 h3 h4 h5 h6 hFA hBA hVA hTA hu cj cv ci;generalize hzz:zerosT b=Z at*;clear hzz;generalize proofT b i=P at*;generalize (b.var u).below=up at*;generalize d.vs.getD u 0=gu at*;generalize d.F.2=cF at*;generalize d.B.2=cB at*;generalize d.V.2=cV at*;generalize d.T.2=cT at*;generalize (d.ls.getD i (none,0)).2=cL at*;obtain⟨LA,hLA⟩:∃LA,(d.ls.getD i (none,0)).1=LA:=⟨_,rfl⟩;rw[hLA]at CT hRow;clear hLA;obtain⟨lt,hlt⟩:∃lt,b.t.getD i []=lt:=⟨_,rfl⟩;rw[hlt]at CT hRow hft HR0;clear hlt;obtain⟨n,hn⟩:∃n,b.n=n:=⟨_,rfl⟩;rw[hn]at V0 hzl HR0 hnv;clear hn;obtain⟨z,hZ⟩:∃z,Z.length=z:=⟨_,rfl⟩;have HZL:=ZH hZ;have hz1:z+n≤b.vars.length:=by omega
 have hz2:b.vars.length≤z+n:=by omega
 clear hZ hzl;have M:=Mem.start w;go_enter Tryz.func139,Tryz.ntmps139;go_wp2_with fail;refine HZ.out.mono ?_;rintro e w1 ⟨q1,v,rfl,hown⟩;obtain⟨A,c,rfl,hrow,hbox⟩:=hown.res;rw[HZL.out];have HRow0:=ZH hrow;have HBox0:=ZH hbox;replace M:=M.below q1;clear hown hrow hbox HZ;go_upto_region 2 with fail;refine region_st (n:=15) (frame:= ?frame1) (fun jK=>[kP d.t0 0,kP d.t0 0,kP d.t0 1,kF (.slice (some ⟨gV,oV,none⟩) b.vars.length cV),kP d.t0 0,kP d.t0 0,kP d.t0 2,kF (.slice (some ⟨gB,oB,none⟩) b.basic.length cB),kI ((i:Nat)),kP gB (oB+i),kI ((u:Nat)),kP gV (oV+u),kP gu 0,kB up,kB up].getD jK .none) [] (by kernel_rfl) (by kernel_rfl) (by kernel_rfl) rfl M.rebase (fun _ h=>by cases h) (fun _ h=>by cases h) ?_ ?_ ?_
 case refine_1=>
  intro s;simp only[fr,Act.put,zA,zB,zC,zD,zE,zF,Nat.reduceAdd];rfl
 case refine_2=>
  iterate 15 (refine SN ?_ ?_;rotate_left)
  exact Steps.nil;all_goals (intro L s w9 hN hU hi hS K hK;dsimp only at hK⊢;simp only[Act.put,zD,zE,zF]at hK)
  ·go_simp;exact hS.o hK
  ·simp only[hS.f hN 0]at hK⊢;go_simp;exact hS.o hK
  ·simp only[hS.f hN 1]at hK⊢;go_simp;exact hS.o hK
  ·simp only[hS.f hN 2]at hK⊢;have u0:=V1 _ (bT M.bel hS.mem.bel);go_simp;exact hS.o hK
  ·go_simp;exact hS.o hK
  ·simp only[hS.f hN 4]at hK⊢;go_simp;exact hS.o hK
  ·simp only[hS.f hN 5]at hK⊢;go_simp;exact hS.o hK
  ·simp only[hS.f hN 6]at hK⊢;have u0:=V2 _ (bT M.bel hS.mem.bel);go_simp;exact hS.o hK
  ·go_simp;exact hS.o hK
  ·simp only[hS.f hN 7,hS.f hN 8]at hK⊢;go_simp;exact hS.o hK
  ·simp only[hS.f hN 9]at hK⊢;have u0:=CB _ (bT M.bel hS.mem.bel);go_simp;exact hS.o hK
  ·simp only[hS.f hN 3,hS.f hN 10]at hK⊢;go_simp;exact hS.o hK
  ·simp only[hS.f hN 11]at hK⊢;have u0:=CV _ (bT M.bel hS.mem.bel);go_simp;exact hS.o hK
  ·simp only[hS.f hN 12]at hK⊢;go_simp;go_at_call 179;refine(HBl.out _ (bT M.bel hS.mem.bel)).mono ?_;rintro e9 w10 ⟨rfl,q⟩;exact hK.out _ _ (hS.val rfl (nSo rfl) q rfl)
  ·simp only[hS.f hN 13]at hK⊢;go_simp;exact hS.o hK
 intro L s w9 hall hS;have e9:=hS.fx 14 rfl rfl (hall 14 (by decide));have q9:=hS.mem.bel;have HRow1:=ZH (HRow0.out.below q9);have HBox1:=ZH (fun g (hg:bl A=some g)=>(⟨(HBox0.out g hg).1,(HBox0.out g hg).2.below q9⟩:w.heap.size≤g∧Box w9 g));have hq0:=bT M.bel q9;simp only[e9];obtain⟨Q,hQ⟩:∃Q,proofGo n up Z lt b.free=Q:=⟨_,rfl⟩;rw[hQ]at HR0;have HQ0:Hid (Q=proofGo n up Z (lt.drop 0) (b.free.drop 0)):=hQ.symm;clear hS hall e9 HRow0 HBox0 M q9 HBl hQ q1;have h3':=V3 _ hq0;go_wp2_with fail;go_loopg [32] b.free.length (fun k p wr=>∃(j:Nat)(y:List Rat),k=b.free.length-j∧j≤b.free.length∧p= .int .i64 (j:Nat)∧Hid (y.length=z)∧Hid (Q=proofGo n up y (lt.drop j) (b.free.drop j))∧Below w.heap.size w wr∧QRow wr A y∧∀g,bl A=some g→w.heap.size≤g∧Box wr g)
 case atStart=>exact⟨0,Z,rfl,Nat.zero_le _,rfl,HZL.out,HQ0.out,hq0,HRow1.out,HBox1.out⟩
 case round=>
  clear h3' HRow1 HBox1 HQ0 hq0;obtain⟨j,y,hk,hj,rfl,hl2,HL,hq,hrow,hbox⟩:=hrel;by_cases hlt:j<b.free.length
  ·have d1:decide ((j:Int)<(b.free.length:Int))=true:=dT (by omega);have hlt2:j<lt.length:=by omega
   have HC:Hid (Q=proofGo n up (if b.free.getD j 0<n then y else y.set (b.free.getD j 0-n) (if up then lt.getD j 0 else-(lt.getD j 0))) (lt.drop (j+1)) (b.free.drop (j+1))):=by
    show _=_;rw[HL.out,drop_at (z:=0) hlt,drop_at (z:=0) hlt2,proofGo_step]
   have hvl:=HW.out.fv j hlt;obtain⟨gF,oF,hF,cj⟩:=(HT.out.below hq).fr j hlt;rw[HFA.out]at hF;subst hF;obtain⟨v,hvg⟩:∃v,b.free.getD j 0=v:=⟨_,rfl⟩;replace cj:wr.cell? ⟨gF,oF+j,none⟩=some (iv6 v):=by rw[←hvg];exact cj
   rw[hvg]at HC hvl;have u0:=V0 _ hq;clear hvg HL;by_cases hvn:v<n
   ·have d2:decide ((v:Int)<(n:Int))=true:=dT (by omega);have HC2:Hid (Q=proofGo n up y (lt.drop (j+1)) (b.free.drop (j+1))):=HC.out.trans (by rw[if_pos hvn]);have hq9:=hq;have hrow9:=hrow;have hbox9:=hbox;go_wp2_with fail;go_roundg (b.free.length-(j+1))
    case measure=>omega
    case rel=>exact⟨j+1,y,rfl,by omega,by simp,hl2,HC2.out,hq9,hrow9,hbox9⟩
   ·have d2:decide ((v:Int)<(n:Int))=false:=dF (by omega);have d2n:decide (v<n)=false:=dF hvn;have d3:IntKind.i64.wrap ((v:Int)-(n:Int))=((v-n:Nat):Int):=sub_wrap (by omega) (by omega);have hjn:v-n<y.length:=by rw[hl2.out];omega
    have hjz:v-n<z:=by omega
    obtain⟨gY,oY,rfl,_⟩:=hrow _ hjn;obtain⟨hgY,hbY⟩:=hbox gY rfl;obtain⟨gL,oL,rfl,A',c',B',d2',a1,a2,a3,a4,hqa⟩:=hRow.out j hlt2;have a1:=Lk.of a1 _ hq;have a2:=Lk.of a2 _ hq;have a3:=Lk.of a3 _ hq;have a4:=Lk.of a4 _ hq;have HA:=ZH (hqa.below hq);have HC1:Hid (Q=proofGo n up (y.set (v-n) (if up then lt.getD j 0 else-(lt.getD j 0))) (lt.drop (j+1)) (b.free.drop (j+1))):=HC.out.trans (by rw[if_neg hvn]);have ht4:=V4 _ hq;have ct:=CT _ hq;have HQ:=ZH hq;have HRow:=ZH hrow;have HBox:=ZH hbY;clear hqa HC hrow hbox hbY hvn;generalize lt.getD j 0=a at*;have M:=(Mem.start wr).new 72 z4;cases up with
    |true=>
     go_upto_region 10 with ((with_reducible refine st_ ?_);refine wP2 _ _ (M.k (i:=0) rfl) rfl rfl rfl rfl info_rat rfl rfl ?_;intro w4 b4 g4;replace M:=M.row (by omega) (by simp) rfl b4 g4;clear b4 g4);have HRow:=ZH (HRow.out.below M.bel);have HBox:=ZH (HBox.out.below M.bel);have HA4:=ZH (HA.out.below M.bel);refine region_tail (n:=9) (frame:= ?frame2) (fun jK=>[kF (.slice (some ⟨gY,oY,none⟩) z c),kI ((v:Nat)),kP d.t0 0,kP d.t0 0,kP d.t0 0,kI ((n:Nat)),kI (((v-n:Nat):Int)),kF (.agg #[.bool (sN a.num),.slice A' (sD a.num).length c',.bool false,.slice B' (dig a.den).length d2']),kP gY (oY+(v-n)*4)].getD jK .none) (fun s' w'=>Stp (fun b=>b=gY) w4 w'∧QRow w' (some ⟨gY,oY,none⟩) (y.set (v-n) a)∧Box w' gY) _ (by kernel_rfl) (by kernel_rfl) (by kernel_rfl) rfl rfl (by kernel_rfl) M.rebase ?_ ?_ ?_ ?_
     case refine_1=>
      intro s;simp only[fr,Act.put,zA,zB,zC,zD,zE,zF,Nat.reduceAdd];rfl
     case refine_2=>
      iterate 9 (refine SN ?_ ?_;rotate_left)
      exact Steps.nil;all_goals (intro L s w9 hN hU hi hS K hK;dsimp only at hK⊢;simp only[Act.put,zD,zE,zF]at hK)
      iterate 3 (go_simp;exact hS.o hK)
      ·simp only[hS.f hN 2]at hK⊢;go_simp;exact hS.o hK
      ·simp only[hS.f hN 3]at hK⊢;go_simp;exact hS.o hK
      ·simp only[hS.f hN 4]at hK⊢;have u0:=V0 _ (bT HQ.out (bT M.bel hS.mem.bel));go_simp;exact hS.o hK
      ·simp only[hS.f hN 1,hS.f hN 5]at hK⊢;go_simp;exact hS.o hK
      ·obtain⟨u1,u2,u3,u4⟩:=(hS.mem.k (i:=0) rfl).four;go_simp;exact hS.o hK
      ·simp only[hS.f hN 0,hS.f hN 6]at hK⊢;go_simp;exact hS.o hK
     case refine_3=>
      intro L s w9 hall hS K hK;dsimp only at hK⊢;simp only[Act.put,zD,zE,zF]at hK;simp only[hS.fx 8 rfl rfl (hall 8 (by decide))]at hK⊢;simp only[hS.fx 7 rfl rfl (hall 7 (by decide))]at hK⊢;refine ite_of rfl ?_;have hr9:=HRow.out.below hS.mem.bel;have hb9:=HBox.out.below hS.mem.bel;obtain⟨p1,p2,p3,p4⟩:=hr9.put hjn hb9 (HA4.out.below hS.mem.bel);refine wp_store_mid _ _ _ rfl gY (oY+(v-n)*4) (qcs a A' c' B' d2') rfl rfl p1 rfl (by rw[←Array.all_toList];rfl) ?_;exact hK.out undef _ ⟨(Stp.of hS.mem.bel).trans (Stp.wrote hb9 p2 rfl),p4,p3⟩
     intro s w9 hR;obtain⟨hs9,hrow9,hb9⟩:=hR;have HC2:Hid (Q=proofGo n true (y.set (v-n) a) (lt.drop (j+1)) (b.free.drop (j+1))):=HC1.out;have hq4:=bT HQ.out M.bel;have hq9:=hs9.below hq4 hq4.size (fun k hk=>by omega);have hbox9:∀g,bl (some ⟨gY,oY,none⟩)=some g→w.heap.size≤g∧Box w9 g:=fun g hg=>by
      injection hg with hg;subst hg;exact⟨hgY,hb9⟩
     have hl2:Hid ((y.set (v-n) a).length=z):=by
      show _=_;rw[List.length_set];exact hl2.out
     go_wp2_with fail;go_roundg (b.free.length-(j+1))
     case measure=>omega
     case rel=>exact⟨j+1,(y.set (v-n) a),rfl,by omega,by simp,hl2,HC2.out,hq9,hrow9,hbox9⟩
    |false=>
     go_wp2_with ((with_reducible refine st_ ?_);refine wP2 _ _ (M.k (i:=0) rfl) rfl rfl rfl rfl info_rat rfl rfl ?_;intro w4 b4 g4;replace M:=M.row (by omega) (by simp) rfl b4 g4;obtain⟨f1,f2,f3,f4⟩:=b4.four;clear b4 g4);refine(pneg_any (HA.out.below M.bel)).mono ?_;rintro e w5 ⟨q5,A5,c5,B5,d5,rfl,hq5⟩;replace M:=M.below q5;have HQ5:=ZH hq5;clear hq5 f1 f2 f3 f4;go_upto_region 10 with ((with_reducible refine st_ ?_);refine wP2 _ _ (M.k (i:=0) rfl) rfl rfl rfl rfl info_rat rfl rfl ?_;intro w6 b6 g6;have HQ6:=ZH (HQ5.out.boxed ((M.k (i:=0) rfl).box rfl) g6);replace M:=M.row (by omega) (by simp) rfl b6 g6;clear b6 g6);have HRow:=ZH (HRow.out.below M.bel);have HBox:=ZH (HBox.out.below M.bel);refine region_tail (n:=9) (frame:= ?frame3) (fun jK=>[kF (.slice (some ⟨gY,oY,none⟩) z c),kI ((v:Nat)),kP d.t0 0,kP d.t0 0,kP d.t0 0,kI ((n:Nat)),kI (((v-n:Nat):Int)),kF (.agg #[.bool (sN (-a).num),.slice A5 (sD (-a).num).length c5,.bool false,.slice B5 (dig (-a).den).length d5]),kP gY (oY+(v-n)*4)].getD jK .none) (fun s' w'=>Stp (fun b=>b=gY) w6 w'∧QRow w' (some ⟨gY,oY,none⟩) (y.set (v-n) (-a))∧Box w' gY) _ (by kernel_rfl) (by kernel_rfl) (by kernel_rfl) rfl rfl (by kernel_rfl) M.rebase ?_ ?_ ?_ ?_
     case refine_1=>
      intro s;simp only[fr,Act.put,zA,zB,zC,zD,zE,zF,Nat.reduceAdd];rfl
     case refine_2=>
      iterate 9 (refine SN ?_ ?_;rotate_left)
      exact Steps.nil;all_goals (intro L s w9 hN hU hi hS K hK;dsimp only at hK⊢;simp only[Act.put,zD,zE,zF]at hK)
      iterate 3 (go_simp;exact hS.o hK)
      ·simp only[hS.f hN 2]at hK⊢;go_simp;exact hS.o hK
      ·simp only[hS.f hN 3]at hK⊢;go_simp;exact hS.o hK
      ·simp only[hS.f hN 4]at hK⊢;have u0:=V0 _ (bT HQ.out (bT M.bel hS.mem.bel));go_simp;exact hS.o hK
      ·simp only[hS.f hN 1,hS.f hN 5]at hK⊢;go_simp;exact hS.o hK
      ·obtain⟨u1,u2,u3,u4⟩:=(hS.mem.k (i:=0) rfl).four;go_simp;exact hS.o hK
      ·simp only[hS.f hN 0,hS.f hN 6]at hK⊢;go_simp;exact hS.o hK
     case refine_3=>
      intro L s w9 hall hS K hK;dsimp only at hK⊢;simp only[Act.put,zD,zE,zF]at hK;simp only[hS.fx 8 rfl rfl (hall 8 (by decide))]at hK⊢;simp only[hS.fx 7 rfl rfl (hall 7 (by decide))]at hK⊢;refine ite_of rfl ?_;have hr9:=HRow.out.below hS.mem.bel;have hb9:=HBox.out.below hS.mem.bel;obtain⟨p1,p2,p3,p4⟩:=hr9.put hjn hb9 (HQ6.out.below hS.mem.bel);refine wp_store_mid _ _ _ rfl gY (oY+(v-n)*4) (qcs (-a) A5 c5 B5 d5) rfl rfl p1 rfl (by rw[←Array.all_toList];rfl) ?_;exact hK.out undef _ ⟨(Stp.of hS.mem.bel).trans (Stp.wrote hb9 p2 rfl),p4,p3⟩
     intro s w9 hR;obtain⟨hs9,hrow9,hb9⟩:=hR;have HC2:Hid (Q=proofGo n false (y.set (v-n) (-a)) (lt.drop (j+1)) (b.free.drop (j+1))):=HC1.out;have hq4:=bT HQ.out M.bel;have hq9:=hs9.below hq4 hq4.size (fun k hk=>by omega);have hbox9:∀g,bl (some ⟨gY,oY,none⟩)=some g→w.heap.size≤g∧Box w9 g:=fun g hg=>by
      injection hg with hg;subst hg;exact⟨hgY,hb9⟩
     have hl2:Hid ((y.set (v-n) (-a)).length=z):=by
      show _=_;rw[List.length_set];exact hl2.out
     go_wp2_with fail;go_roundg (b.free.length-(j+1))
     case measure=>omega
     case rel=>exact⟨j+1,(y.set (v-n) (-a)),rfl,by omega,by simp,hl2,HC2.out,hq9,hrow9,hbox9⟩
  ·have d1:decide ((j:Int)<(b.free.length:Int))=false:=dF (by omega);have hlt2:¬j<lt.length:=by omega
   have HC2:Hid (Q=y):=by
    show _=_;rw[HL.out,drop_none hlt,drop_none hlt2];rfl
   have u0:=V0 _ hq;have u2:=V2 _ hq;have cb:=CB _ hq;have HRow:=ZH hrow;have HBox:=ZH hbox;have HQ:=ZH hq;clear HL hrow hbox;by_cases hun:u<n
   ·have d2:decide ((n:Int)≤(u:Int))=false:=dF (by omega);have d2n:decide (n≤u)=false:=dF (by omega);have HP:Hid (P=y):=HR0.out.trans (by rw[if_pos hun,HC2.out]);clear hun;go_wp2_with fail;exact bodyPost_ret (v:= .slice A z c) (by simp[results,Tryz.results139,go_sem]) rfl ⟨HQ.out,.slice A z c,rfl,by rw[HP.out];exact⟨A,c,by rw[hl2.out],HRow.out,HBox.out⟩⟩
   ·have d2:decide ((n:Int)≤(u:Int))=true:=dT (by omega);have d2n:decide (n≤u)=true:=dT (by omega);have d3:IntKind.i64.wrap ((u:Int)-(n:Int))=((u-n:Nat):Int):=sub_wrap (by omega) (by omega);have HP:Hid (P=y.set (u-n) 1):=HR0.out.trans (by rw[if_neg hun,HC2.out]);have hjn:u-n<y.length:=by rw[hl2.out];omega
    have hjz:u-n<z:=by omega
    obtain⟨gY,oY,rfl,_⟩:=HRow.out _ hjn;obtain⟨hgY,hbY⟩:=HBox.out gY rfl;have HBox:=ZH hbY;have M:=Mem.start wr;clear hun hbY;go_upto_region 14 with fail;refine region_tail (n:=9) (frame:= ?frame4) (fun jK=>[kF (.slice (some ⟨gY,oY,none⟩) z c),kI ((u:Nat)),kP d.t0 0,kP d.t0 0,kP d.t0 0,kI ((n:Nat)),kI (((u-n:Nat):Int)),.val (Sh.rq (some ((1:Int):Rat))),kP gY (oY+(u-n)*4)].getD jK .none) (fun s' w'=>Stp (fun b=>b=gY) wr w'∧QRow w' (some ⟨gY,oY,none⟩) (y.set (u-n) 1)∧Box w' gY) _ (by kernel_rfl) (by kernel_rfl) (by kernel_rfl) rfl rfl (by kernel_rfl) M ?_ ?_ ?_ ?_
    case refine_1=>
     intro s;simp only[fr,Act.put,zA,zB,zC,zD,zE,zF,Nat.reduceAdd];rfl
    case refine_2=>
     iterate 9 (refine SN ?_ ?_;rotate_left)
     exact Steps.nil;all_goals (intro L s w9 hN hU hi hS K hK;dsimp only at hK⊢;simp only[Act.put,zD,zE,zF]at hK)
     iterate 3 (go_simp;exact hS.o hK)
     ·simp only[hS.f hN 2]at hK⊢;go_simp;exact hS.o hK
     ·simp only[hS.f hN 3]at hK⊢;go_simp;exact hS.o hK
     ·simp only[hS.f hN 4]at hK⊢;have u0:=V0 _ (bT HQ.out hS.mem.bel);go_simp;exact hS.o hK
     ·simp only[hS.f hN 1,hS.f hN 5]at hK⊢;go_simp;exact hS.o hK
     ·go_simp;go_at_call 26;refine(pof_any (z:=1) (by decide) (by decide)).mono ?_;rintro e9 w10 ⟨q,A9,c9,B9,d9,rfl,hq9⟩;exact hK.out _ _ (hS.val rfl (nSo rfl) q ⟨_,A9,c9,B9,d9,rfl,rfl,hq9⟩)
     ·simp only[hS.f hN 0,hS.f hN 6]at hK⊢;go_simp;exact hS.o hK
    case refine_3=>
     intro L s w9 hall hS K hK;dsimp only at hK⊢;simp only[Act.put,zD,zE,zF]at hK;simp only[hS.fx 8 rfl rfl (hall 8 (by decide))]at hK⊢;obtain⟨q7,A7,c7,B7,d7,o7,e7,h7⟩:=hS.val_at 7 rfl (by decide) (hall 7 (by decide));simp only[e7]at hK⊢;refine ite_of rfl ?_;have hr9:=HRow.out.below hS.mem.bel;have hb9:=HBox.out.below hS.mem.bel;obtain rfl:=Option.some.inj o7;obtain⟨p1,p2,p3,p4⟩:=hr9.put hjn hb9 h7;refine wp_store_mid _ _ _ rfl gY (oY+(u-n)*4) (qcs ((1:Int):Rat) A7 c7 B7 d7) rfl rfl p1 rfl (by rw[←Array.all_toList];rfl) ?_;exact hK.out undef _ ⟨(Stp.of hS.mem.bel).trans (Stp.wrote hb9 p2 rfl),p4,p3⟩
    intro s w9 hR;obtain⟨hs9,hrow9,hb9⟩:=hR;have hq9:=ZH (hs9.below HQ.out HQ.out.size (fun k hk=>by omega));have HRow9:=ZH hrow9;have HB9:=ZH hb9;clear hs9 hrow9 hb9;go_wp2_with fail;exact bodyPost_ret (v:= .slice (some ⟨gY,oY,none⟩) z c) (by simp[results,Tryz.results139,go_sem]) rfl ⟨hq9.out,.slice (some ⟨gY,oY,none⟩) z c,rfl,by rw[HP.out];exact⟨some ⟨gY,oY,none⟩,c,by rw[List.length_set,hl2.out],HRow9.out,fun g hg=>by
     injection hg with hg;subst hg;exact⟨hgY,HB9.out⟩⟩⟩
def lin (ξ:Nat→Rat):List Rat→List Nat→Rat
 |a::l,k::f=>a*ξ k+lin ξ l f
 |_,_=>0
def turnQ (a:Rat)(k:Nat):Nat→List Rat→List Rat
 |_,[]=>[]
 |c,x::l=>(if c=k then 1/a else-(x/a))::turnQ a k (c+1) l
def layQ (q:Rat)(k:Nat):Nat→List Rat→List Rat→List Rat
 |c,x::l,y::m=>(if c=k then q*y else x+q*y)::layQ q k (c+1) l m
 |_,_,_=>[]
theorem div_some {a b q:Rat}(h:divO a b=some q):q=a/b∧b≠0∧Few q:=by
 unfold divO at h;split at h
 ·cases h
 ·rename_i h0;obtain⟨rfl,hf⟩:=qfit_some h;exact⟨rfl,h0,hf⟩
theorem turn_exact (a:Rat)(k:Nat):∀(l:List Rat)(c:Nat){l':List Rat},turnL a k c l=some l'→l'=turnQ a k c l∧(∀q∈l',Few q)∧(l≠[]→a≠0)
 |[],c,l',h=>by
  cases h;exact⟨rfl,(fun q hq=>by cases hq),fun h=>absurd rfl h⟩
 |x::l,c,l',h=>by
  unfold turnL at h;obtain⟨y,hy,h⟩:=Option.bind_eq_some_iff.1 h;obtain⟨m,hm,rfl⟩:=Option.map_eq_some_iff.1 h;obtain⟨e1,e2,e3⟩:=turn_exact a k l (c+1) hm;have hy2:y=(if c=k then 1/a else-(x/a))∧Few y∧a≠0:=by
   split at hy
   ·rename_i hc;rw[if_pos hc];obtain⟨h1,h2,h3⟩:=div_some hy;exact⟨h1,h3,h2⟩
   ·rename_i hc;rw[if_neg hc];obtain⟨q,hq,rfl⟩:=Option.map_eq_some_iff.1 hy;obtain⟨h1,h2,h3⟩:=div_some hq;refine⟨by rw[h1],?_,h2⟩;exact((sz_neg (j:=64) h3).few ZL)
  refine⟨?_,fun q hq=> ?_,fun _=>hy2.2.2⟩
  ·show y::m=_::turnQ a k (c+1) l;rw[←hy2.1,←e1]
  ·rcases List.mem_cons.1 hq with rfl|hq
   ·exact hy2.2.1
   ·exact e2 q hq
theorem lay_exact (f:Rat)(k:Nat):∀(l m:List Rat)(c:Nat){l':List Rat},layL f k c l m=some l'→l'=layQ f k c l m∧∀q∈l',Few q
 |[],m,c,l',h=>by
  unfold layL at h;cases h;unfold layQ;exact⟨rfl,(fun q hq=>by cases hq)⟩
 |x::l,[],c,l',h=>by
  unfold layL at h;cases h;exact⟨rfl,(fun q hq=>by cases hq)⟩
 |x::l,y::m,c,l',h=>by
  unfold layL at h;obtain⟨z,hz,h⟩:=Option.bind_eq_some_iff.1 h;obtain⟨r,hr,rfl⟩:=Option.map_eq_some_iff.1 h;obtain⟨e1,e2⟩:=lay_exact f k l m (c+1) hr;have hz2:z=(if c=k then f*y else x+f*y)∧Few z:=by
   split at hz
   ·rename_i hc;rw[if_pos hc];obtain⟨h1,h2⟩:=qfit_some hz;exact⟨h1.symm,h2⟩
   ·rename_i hc;rw[if_neg hc];obtain⟨p,hp,hz⟩:=Option.bind_eq_some_iff.1 hz;obtain⟨rfl,_⟩:=qfit_some hp;obtain⟨h1,h2⟩:=qfit_some hz;exact⟨h1.symm,h2⟩
  refine⟨?_,fun q hq=> ?_⟩
  ·show z::r=_::layQ f k (c+1) l m;rw[←hz2.1,←e1]
  ·rcases List.mem_cons.1 hq with rfl|hq
   ·exact hz2.2
   ·exact e2 q hq
def bestB (v:Nat):Option (Nat×Nat)→Bool
 |none=>true
 |some p=>decide (v<p.2)
def pickGo (P:Nat→Nat→Bool):Nat→Option (Nat×Nat)→List Nat→Option (Nat×Nat)
 |_,best,[]=>best
 |k,best,v::f=>pickGo P (k+1) (if P k v&&bestB v best then some (k,v) else best) f
theorem pick_some (P:Nat→Nat→Bool):∀(f:List Nat)(k:Nat)(best:Option (Nat×Nat)){j u:Nat},pickGo P k best f=some (j,u)→(best=some (j,u)∨(k≤j∧j<k+f.length∧f.getD (j-k) 0=u∧P j u=true))∧(∀i,i<f.length→P (k+i) (f.getD i 0)=true→u≤f.getD i 0)∧(∀j' u',best=some (j',u')→u≤u')
 |[],k,best,j,u,h=>by
  have h':best=some (j,u):=h;refine⟨.inl h,fun i hi _=>absurd hi (Nat.not_lt_zero _),fun j' u' e=> ?_⟩;rw[e]at h';cases h';exact Nat.le_refl _
 |v::f,k,best,j,u,h=>by
  obtain⟨h1,h2,h3⟩:=pick_some P f (k+1) _ h;have shift:(k+1≤j∧j<k+1+f.length∧f.getD (j-(k+1)) 0=u∧P j u=true)→(k≤j∧j<k+(v::f).length∧(v::f).getD (j-k) 0=u∧P j u=true):=fun⟨a,b,c,d⟩=>by
   refine⟨by omega,by rw[List.length_cons];omega,?_,d⟩;rw[show j-k=(j-(k+1))+1 by omega];exact c
  have rest:∀i,i<(v::f).length→P (k+i) ((v::f).getD i 0)=true→(P k v=true→u≤v)→u≤(v::f).getD i 0:=fun i hi hp h0=>by
   cases i with
   |zero=>exact h0 hp
   |succ i=>exact h2 i (by simpa using hi) (by rw[show k+1+i=k+(i+1) by omega];exact hp)
  by_cases hc:(P k v&&bestB v best)=true
  ·rw[if_pos hc]at h1 h3;have huv:=h3 k v rfl;rw[Bool.and_eq_true]at hc;refine⟨?_,fun i hi hp=>rest i hi hp fun _=>huv,fun j' u' e=> ?_⟩
   ·rcases h1 with h1|h1
    ·cases h1;exact .inr ⟨Nat.le_refl _,by rw[List.length_cons];omega,by rw[Nat.sub_self];rfl,hc.1⟩
    ·exact .inr (shift h1)
   ·subst e;have:=of_decide_eq_true hc.2;omega
  ·rw[if_neg hc]at h1 h3;refine⟨?_,fun i hi hp=>rest i hi hp fun hp=> ?_,h3⟩
   ·rcases h1 with h1|h1
    ·exact .inl h1
    ·exact .inr (shift h1)
   ·rw[hp,Bool.true_and]at hc;cases best with
    |none=>exact absurd rfl hc
    |some q=>
     obtain⟨j',u'⟩:=q;have h4:=h3 j' u' rfl;have:¬v<u':=fun h=>hc (dT h);omega
theorem beyond_pick (b:Tb):∀(l:List Nat)(i:Nat)(best:Option (Nat×Nat)),beyondGo b i best l=pickGo (fun _ v=>(b.var v).below||(b.var v).above) i best l
 |[],_,_=>rfl
 |v::l,i,best=>by
  show beyondGo b (i+1) _ l=pickGo _ (i+1) _ l;rw[beyond_pick b l];cases best<;>rfl
theorem helps_pick (b:Tb)(up:Bool)(L:List Rat):∀(f:List Nat)(k:Nat)(best:Option (Nat×Nat)),L.length=k+f.length→helpsGo b up k best (L.drop k) f=pickGo (fun j v=>helpB up (L.getD j 0) (b.var v)) k best f
 |[],k,best,h=>by
  cases L.drop k<;>rfl
 |v::f,k,best,h=>by
  rw[List.length_cons]at h;rw[drop_at (z:=0) (by omega)];show helpsGo b up (k+1) _ (L.drop (k+1)) f=pickGo _ (k+1) _ f;rw[helps_pick b up L f (k+1) _ (by omega)];cases best<;>rfl
theorem cheap_pick (b:Tb)(L:List Rat):∀(f:List Nat)(k:Nat)(best:Option (Nat×Nat×Bool)),L.length=k+f.length→(cheapGo b k best (L.drop k) f).map (fun r=>(r.1,r.2.1))=pickGo (fun j v=>cheapB (L.getD j 0) (b.var v)||decide (0<L.getD j 0)&&(b.var v).mayFall) k (best.map fun r=>(r.1,r.2.1)) f
 |[],k,best,h=>by
  cases L.drop k<;>rfl
 |v::f,k,best,h=>by
  rw[List.length_cons]at h;rw[drop_at (z:=0) (by omega)];show Option.map _ (cheapGo b (k+1) _ (L.drop (k+1)) f)=pickGo _ (k+1) _ f;rw[cheap_pick b L f (k+1) _ (by omega)];congr 1;cases best with
  |none=>
   show Option.map _ (if ((cheapB (L.getD k 0) (b.var v)||decide (0<L.getD k 0)&&(b.var v).mayFall)&&true)=true then _ else _)=if ((cheapB (L.getD k 0) (b.var v)||decide (0<L.getD k 0)&&(b.var v).mayFall)&&true)=true then _ else _
   split<;>rfl
  |some q=>
   obtain⟨j',u',r'⟩:=q;show Option.map _ (if ((cheapB (L.getD k 0) (b.var v)||decide (0<L.getD k 0)&&(b.var v).mayFall)&&decide (v<u'))=true then _ else _)=if ((cheapB (L.getD k 0) (b.var v)||decide (0<L.getD k 0)&&(b.var v).mayFall)&&decide (v<u'))=true then _ else _
   split<;>rfl
theorem cheap_rise (b:Tb)(L:List Rat):∀(f:List Nat)(k:Nat)(best:Option (Nat×Nat×Bool)){j u:Nat}{r:Bool},L.length=k+f.length→cheapGo b k best (L.drop k) f=some (j,u,r)→best=some (j,u,r)∨r=cheapB (L.getD j 0) (b.var u)
 |[],k,best,j,u,r,h,h0=>by
  left;rw[←h0];cases L.drop k<;>rfl
 |v::f,k,best,j,u,r,h,h0=>by
  rw[List.length_cons]at h;rw[drop_at (z:=0) (by omega)]at h0;rcases cheap_rise b L f (k+1) _ (by omega) h0 with h1|h1
  ·have key:∀(C:Bool)(A B x:Option (Nat×Nat×Bool)),(if C=true then A else B)=x→A=x∨B=x:=by
    intro C A B x h;cases C
    ·exact .inr h
    ·exact .inl h
   rcases key _ _ _ _ h1 with h1|h1
   ·cases h1;exact .inr rfl
   ·exact .inl h1
  ·exact .inr h1
theorem beyond_some {b:Tb}{i:Nat}(h:beyondT b=some i):i<b.basic.length∧((b.var (b.basic.getD i 0)).below||(b.var (b.basic.getD i 0)).above)=true∧∀j,j<b.basic.length→((b.var (b.basic.getD j 0)).below||(b.var (b.basic.getD j 0)).above)=true→b.basic.getD i 0≤b.basic.getD j 0:=by
 unfold beyondT at h;rw[Option.map_eq_some_iff]at h;obtain⟨⟨i',u⟩,h,rfl⟩:=h;rw[beyond_pick]at h;obtain⟨h1,h2,_⟩:=pick_some _ _ _ _ h;rcases h1 with h1|⟨_,h3,h4,h5⟩
 ·cases h1
 ·have e:b.basic.getD i' 0=u:=h4;refine⟨by simpa using h3,by rw[e];exact h5,fun j hj hp=> ?_⟩;rw[e];exact h2 j hj hp
theorem helps_some {b:Tb}{i k:Nat}{up:Bool}(hl:(b.t.getD i []).length=b.free.length)(h:helpsT b i up=some k):k<b.free.length∧helpB up ((b.t.getD i []).getD k 0) (b.var (b.free.getD k 0))=true∧∀j,j<b.free.length→helpB up ((b.t.getD i []).getD j 0) (b.var (b.free.getD j 0))=true→b.free.getD k 0≤b.free.getD j 0:=by
 unfold helpsT at h;rw[Option.map_eq_some_iff]at h;obtain⟨⟨k',u⟩,h,rfl⟩:=h;have h':=(helps_pick b up (b.t.getD i []) b.free 0 none (by omega)).symm.trans h;obtain⟨h1,h2,_⟩:=pick_some _ _ _ _ h';rcases h1 with h1|⟨_,h3,h4,h5⟩
 ·cases h1
 ·have e:b.free.getD k' 0=u:=h4;refine⟨by simpa using h3,by rw[e];exact h5,fun j hj hp=> ?_⟩;rw[e];exact h2 j hj (by rw[Nat.zero_add];exact hp)
theorem cheap_some {b:Tb}{k:Nat}{up:Bool}(hl:b.cost.length=b.free.length)(h:cheapT b=some (k,up)):k<b.free.length∧up=cheapB (b.cost.getD k 0) (b.var (b.free.getD k 0))∧(cheapB (b.cost.getD k 0) (b.var (b.free.getD k 0))||decide (0<b.cost.getD k 0)&&(b.var (b.free.getD k 0)).mayFall)=true∧∀j,j<b.free.length→(cheapB (b.cost.getD j 0) (b.var (b.free.getD j 0))||decide (0<b.cost.getD j 0)&&(b.var (b.free.getD j 0)).mayFall)=true→b.free.getD k 0≤b.free.getD j 0:=by
 unfold cheapT at h;rw[Option.map_eq_some_iff]at h;obtain⟨⟨k',u,r⟩,h,e⟩:=h;cases e;have h1:=cheap_pick b b.cost b.free 0 none (by omega);have h2:Option.map (fun r=>(r.1,r.2.1)) (cheapGo b 0 none (b.cost.drop 0) b.free)=some (k',u):=by
  show Option.map _ (cheapGo b 0 none b.cost b.free)=_;rw[h];rfl
 obtain⟨h3,h4,_⟩:=pick_some _ _ _ _ (h1.symm.trans h2);have h5:=cheap_rise b b.cost b.free 0 none (by omega) h;rcases h5 with h5|h5
 ·cases h5
 rcases h3 with h3|⟨_,h6,h7,h8⟩
 ·cases h3
 ·have e:b.free.getD k' 0=u:=h7;refine⟨by simpa using h6,by rw[e];exact h5,by rw[e];exact h8,fun j hj hp=> ?_⟩;rw[e];exact h4 j hj (by rw[Nat.zero_add];exact hp)
theorem turnQ_len (a:Rat)(k:Nat):∀(l:List Rat)(c:Nat),(turnQ a k c l).length=l.length
 |[],_=>rfl
 |x::l,c=>by
  show(_::turnQ a k (c+1) l).length=_;rw[List.length_cons,List.length_cons,turnQ_len a k l (c+1)]
theorem layQ_len (q:Rat)(k:Nat):∀(l m:List Rat)(c:Nat),l.length=m.length→(layQ q k c l m).length=l.length
 |[],m,c,_=>by unfold layQ;rfl
 |x::l,[],c,h=>by cases h
 |x::l,y::m,c,h=>by
  show(_::layQ q k (c+1) l m).length=_;rw[List.length_cons,List.length_cons,layQ_len q k l m (c+1) (by simpa using h)]
theorem layT_exact (line:List Rat)(k i:Nat):∀(ls:List (List Rat))(r:Nat){t':List (List Rat)},layT line k i r ls=some t'→t'.length=ls.length∧∀j,j<ls.length→t'.getD j []=if r+j=i then line else layQ ((ls.getD j []).getD k 0) k 0 (ls.getD j []) line
 |[],r,t',h=>by
  unfold layT at h;cases h;exact⟨rfl,fun j hj=>absurd hj (Nat.not_lt_zero _)⟩
 |l::ls,r,t',h=>by
  unfold layT at h;obtain⟨z,hz,h⟩:=Option.bind_eq_some_iff.1 h;obtain⟨t2,h2,rfl⟩:=Option.map_eq_some_iff.1 h;obtain⟨e1,e2⟩:=layT_exact line k i ls (r+1) h2;refine⟨by rw[List.length_cons,List.length_cons,e1],fun j hj=> ?_⟩;cases j with
  |zero=>
   show z=if r=i then line else layQ (l.getD k 0) k 0 l line
   by_cases hc:r=i
   ·rw[if_pos hc]at hz⊢;injection hz with hz;exact hz.symm
   ·rw[if_neg hc]at hz⊢;exact(lay_exact _ k l line 0 hz).1
  |succ j=>
   have:=e2 j (by simpa using hj);rw[show r+(j+1)=r+1+j by omega];exact this
structure Pivoted (b:Tb) (i k:Nat) (b':Tb):Prop where
 ne:(b.t.getD i []).getD k 0≠0
 n:b'.n=b.n
 vars:b'.vars=b.vars
 left:b'.left=b.left
 basic:b'.basic=b.basic.set i (b.free.getD k 0)
 free:b'.free=b.free.set k (b.basic.getD i 0)
 tl:b'.t.length=b.t.length
 line:i<b.t.length→b'.t.getD i []=turnQ ((b.t.getD i []).getD k 0) k 0 (b.t.getD i [])
 other:∀r,r<b.t.length→r≠i→b'.t.getD r []=layQ ((b.t.getD r []).getD k 0) k 0 (b.t.getD r []) (turnQ ((b.t.getD i []).getD k 0) k 0 (b.t.getD i []))
 cost:b'.cost=layQ (b.cost.getD k 0) k 0 b.cost (turnQ ((b.t.getD i []).getD k 0) k 0 (b.t.getD i []))
theorem pivot_form {b b':Tb}{i k:Nat}(hn:b.t.getD i []≠[])(h:pivotT b i k=some b'):Pivoted b i k b':=by
 unfold pivotT at h;obtain⟨line,h1,h⟩:=Option.bind_eq_some_iff.1 h;obtain⟨t',h2,h⟩:=Option.bind_eq_some_iff.1 h;obtain⟨cost,h3,rfl⟩:=Option.map_eq_some_iff.1 h;obtain⟨e1,_,e2⟩:=turn_exact _ k _ 0 h1;obtain⟨e3,e4⟩:=layT_exact line k i b.t 0 h2;obtain⟨e5,_⟩:=lay_exact _ k _ _ 0 h3;subst e1;refine⟨e2 hn,rfl,rfl,rfl,rfl,rfl,e3,fun hi=> ?_,fun r hr hri=> ?_,e5⟩
 ·have:=e4 i hi;rwa[if_pos (Nat.zero_add _)]at this
 ·have:=e4 r hr;rwa[if_neg (by rw[Nat.zero_add];exact hri)]at this
theorem getD_set {α:Type}{l:List α}{i j:Nat}{v z:α}(hi:i<l.length):(l.set i v).getD j z=if j=i then v else l.getD j z:=by
 rw[gE];by_cases e:j=i
 ·subst e;rw[List.getElem?_set_self hi,if_pos rfl];rfl
 ·rw[List.getElem?_set_ne (fun e2=>e e2.symm),if_neg e,←gE]
theorem Pivoted.wf {b b':Tb}{i k:Nat}(p:Pivoted b i k b')(h:Wf b)(hi:i<b.t.length)(hk:k<b.free.length):Wf b':=by
 have hib:i<b.basic.length:=by rw[h.bt];exact hi
 have hll:(turnQ ((b.t.getD i []).getD k 0) k 0 (b.t.getD i [])).length=b.free.length:=by rw[turnQ_len,h.ft i hi]
 have hfl:b'.free.length=b.free.length:=by rw[p.free,List.length_set]
 refine⟨by rw[p.basic,List.length_set,p.tl,h.bt],fun r hr=> ?_,?_,fun j hj=> ?_,fun j hj=> ?_,by rw[p.vars];exact h.sv,by rw[p.tl];exact h.st,by rw[hfl];exact h.sf,by rw[p.left];exact h.sl,by rw[p.n,p.vars];exact h.nv⟩
 ·rw[p.tl]at hr;rw[hfl];by_cases e:r=i
  ·subst e;rw[p.line hr,hll]
  ·rw[p.other r hr e,layQ_len _ _ _ _ _ (by rw[hll,h.ft r hr]),h.ft r hr]
 ·rw[p.cost,hfl,layQ_len _ _ _ _ _ (by rw[hll,h.fc]),h.fc]
 ·rw[p.basic,List.length_set]at hj;rw[p.basic,p.vars,getD_set hib];split
  ·exact h.fv k hk
  ·exact h.bv j hj
 ·rw[p.free,List.length_set]at hj;rw[p.free,p.vars,getD_set hk];split
  ·exact h.bv i hib
  ·exact h.fv j hj
theorem Wf.line_ne {b:Tb}{i k:Nat}(h:Wf b)(hi:i<b.t.length)(hk:k<b.free.length):b.t.getD i []≠[]:=fun e=>by
 have:=h.ft i hi;rw[e]at this;simp at this;omega
theorem Wf.setLeft {b:Tb}{n:Nat}(h:Wf b)(hn:n≤10000):Wf {b with left:=n}:=⟨h.bt,h.ft,h.fc,h.bv,h.fv,h.sv,h.st,h.sf,hn,h.nv⟩
theorem Wf.setVars {b:Tb}{vs:List Vr}(h:Wf b)(hl:vs.length=b.vars.length):Wf {b with vars:=vs}:=⟨h.bt,h.ft,h.fc,fun j hj=>by show _<vs.length;rw[hl];exact h.bv j hj,fun j hj=>by show _<vs.length;rw[hl];exact h.fv j hj,by show vs.length≤1000;rw[hl];exact h.sv,h.st,h.sf,h.sl,by show _≤vs.length;rw[hl];exact h.nv⟩
def SameEnds (b b':Tb):Prop:=∀v,(b'.var v).lo=(b.var v).lo∧(b'.var v).hi=(b.var v).hi
theorem SameEnds.refl (b:Tb):SameEnds b b:=fun _=>⟨rfl,rfl⟩
theorem SameEnds.trans {a b c:Tb}(h:SameEnds a b)(k:SameEnds b c):SameEnds a c:=fun v=>⟨(k v).1.trans (h v).1,(k v).2.trans (h v).2⟩
theorem var_setV (b:Tb)(j:Nat)(q:Rat)(v:Nat):(b.setV j q).var v=if v=j∧j<b.vars.length then{b.var j with v:=q} else b.var v:=by
 unfold Tb.setV Tb.var;show(b.vars.set j _).getD v vz=_;by_cases hj:j<b.vars.length
 ·rw[getD_set hj];by_cases e:v=j
  ·rw[if_pos e,if_pos ⟨e,hj⟩]
  ·rw[if_neg e,if_neg (fun h=>e h.1)]
 ·rw[List.set_eq_of_length_le (by omega),if_neg (fun h=>hj h.2)]
theorem SameEnds.setV (b:Tb)(j:Nat)(q:Rat):SameEnds b (b.setV j q):=fun v=>by
 rw[var_setV];split
 ·rename_i h;rw[h.1];exact⟨rfl,rfl⟩
 ·exact⟨rfl,rfl⟩
theorem moveL_ends (by_:Rat)(k:Nat):∀(ls:List (List Rat))(vs:List Nat)(b:Tb){b':Tb},moveL by_ k b ls vs=some b'→SameEnds b b'
 |[],vs,b,b',h=>by
  unfold moveL at h;cases h;exact SameEnds.refl b
 |l::ls,[],b,b',h=>by
  unfold moveL at h;cases h;exact SameEnds.refl b
 |l::ls,v::vs,b,b',h=>by
  unfold moveL at h;obtain⟨p,_,h⟩:=Option.bind_eq_some_iff.1 h;obtain⟨q,_,h⟩:=Option.bind_eq_some_iff.1 h;exact(SameEnds.setV b v q).trans (moveL_ends by_ k ls vs _ h)
theorem move_ends {b b':Tb}{k:Nat}{q:Rat}(h:moveT b k q=some b'):SameEnds b b':=by
 unfold moveT at h;obtain⟨p,_,h⟩:=Option.bind_eq_some_iff.1 h;exact(SameEnds.setV b _ p).trans (moveL_ends q k _ _ _ h)
theorem Pivoted.ends {b b':Tb}{i k:Nat}(p:Pivoted b i k b'):SameEnds b b':=fun v=>by
 unfold Tb.var;rw[p.vars];exact⟨rfl,rfl⟩
def HasHi (b:Tb):Prop:=∀v,v<b.vars.length→∃h,(b.var v).hi=some h
theorem HasHi.same {b b':Tb}(h:HasHi b)(s:SameEnds b b')(hl:b'.vars.length=b.vars.length):HasHi b':=fun v hv=>by
 rw[(s v).2];exact h v (by omega)
end Go.Proofs.YtecfcjdgmpopjaaGreat

/-
  Joined texts: Hv, Fb, Id, Ie.
-/
import Derived.Test.YtecfcjdgmpopjaaGreatHu
import Derived.BigQuiet
import Derived.Test.YtecfcjdgmpopjaaGreatFa
set_option maxHeartbeats 8000000
set_option maxRecDepth 100000
set_option linter.unusedSimpArgs false
set_option linter.unusedVariables false
namespace Go.Proofs.YtecfcjdgmpopjaaGreat
open Go.RowKit Num
theorem rsameR_any {w:World}{A B:Option Addr}{c d n:Nat}{l:List (Int×Int)}(h:RRow w A l)(k:RRow w B l)(hn:l.length=n)(hs:n≤1000000)(hset:setB l=true):Calls Tryz.prog 48 #[.slice A n c,.slice B n d] w fun e w'=>e= .returned (.bool true)∧Below w.heap.size w w':=by
 have HA:=ZH h;have HB:=ZH k;have HN:=ZH hn;have HR1:=ZH fun(w':World)(q:Below w.heap.size w w')=>rset_any (c:=c) (h.below q) (by omega);have HR2:=ZH fun(w':World)(q:Below w.heap.size w w')=>rset_any (c:=d) (k.below q) (by omega);rw[hset,hn]at HR1 HR2;have d0:((n:Int) !=(n:Int))=false:=by simp
 clear h k hn hset;go_enter Tryz.func48,Tryz.ntmps48;go_wp2_with fail;refine(HR1.out _ (Below.refl _ _)).mono ?_;rintro e w1 ⟨rfl,q1⟩;have HQ1:=ZH q1;clear q1;go_wp2_with fail;refine(HR2.out _ HQ1.out).mono ?_;rintro e w2 ⟨rfl,q2⟩;have HQ2:=ZH (bT HQ1.out q2);clear q2 HR1 HR2 HQ1;go_wp2_with fail;go_loopg [5] n (fun k pp wr=>∃i,k=n-i∧i≤n∧pp= .int .i64 (i:Nat)∧Hid (Below w.heap.size w wr))
 case atStart=>exact⟨0,rfl,Nat.zero_le _,rfl,HQ2.out⟩
 case round=>
  clear HQ2;obtain⟨i,hk,hi,rfl,HQ⟩:=hrel;by_cases hlt:i<n
  ·have d1:decide ((i:Int)<(n:Int))=true:=dT (by omega);obtain⟨ga,oa,hA,ca,ca2⟩:=(HA.out.below HQ.out).at (j:=i) (by rw[HN.out];exact hlt);obtain⟨gb,ob,hB,cb,cb2⟩:=(HB.out.below HQ.out).at (j:=i) (by rw[HN.out];exact hlt);have HXA:=ZH hA;have HXB:=ZH hB;rw[hA,hB];generalize (l.getD i (0,0)).1=z at*;generalize (l.getD i (0,0)).2=y at*;have d2:(z !=z)=false:=by simp
   have d3:(y !=y)=false:=by simp
   clear hA hB;go_upto_region 6 with fail;go_quiet (fail);have HQN:=ZH (below_dr HQ.out nq);clear ca cb ca2 cb2;go_wp2_with fail;rw[←HXA.out,←HXB.out];go_roundg (n-(i+1))
   case measure=>omega
   case rel=>exact⟨i+1,rfl,by omega,by simp,HQN.out⟩
  ·have d1:decide ((i:Int)<(n:Int))=false:=dF (by omega);go_wp2_with fail;exact bodyPost_ret (v:= .bool true) (by simp[results,Tryz.results48,go_sem]) rfl ⟨rfl,HQ.out⟩
def UnderL (a b:List (List (Int×Int))):Prop:=∀i,i<a.length→(a.getD i []).length≤1000∧(b.getD i []).length≤1000∧setB (a.getD i [])=true∧setB (b.getD i [])=true∧meetS (a.getD i []) (b.getD i [])=a.getD i []
theorem under_any {w:World}{A B:Option Addr}{c d n:Nat}{as_ bs:List Adr}{a b:List (List (Int×Int))}(h:DsAt w A as_ a)(k:DsAt w B bs b)(hn:a.length=n)(hm:b.length=n)(hs:n≤1000)(hu:UnderL a b):Calls Tryz.prog 21 #[.slice A n c,.slice B n d] w fun e w'=>e= .returned (.bool true)∧Below w.heap.size w w':=by
 have HA:=ZH h;have HB:=ZH k;have HN:=ZH hn;have HM:=ZH hm;have HU:=ZH hu;have d0:((n:Int) !=(n:Int))=false:=by simp
 clear h k hn hm hu;go_enter Tryz.func21,Tryz.ntmps21;go_wp2_with fail;go_loopg [13] n (fun k pp wr=>∃i,k=n-i∧i≤n∧pp= .int .i64 (i:Nat)∧Hid (Below w.heap.size w wr))
 case atStart=>exact⟨0,rfl,Nat.zero_le _,rfl,Below.refl _ _⟩
 case round=>
  obtain⟨i,hk,hi,rfl,HQ⟩:=hrel;by_cases hlt:i<n
  ·have d1:decide ((i:Int)<(n:Int))=true:=dT (by omega);have hia:i<a.length:=by rw[HN.out];exact hlt
   have hib:i<b.length:=by rw[HM.out];exact hlt
   obtain⟨ga,oa,hA,ca⟩:=(HA.out.below HQ.out).ap i hia;obtain⟨gb,ob,hB,cb⟩:=(HB.out.below HQ.out).ap i hib;have CA:Lk wr ga (oa+i) (.slice (as_.getD i ad0).1 (a.getD i []).length (as_.getD i ad0).2):=Lk.of ca;have CB:Lk wr gb (ob+i) (.slice (bs.getD i ad0).1 (b.getD i []).length (bs.getD i ad0).2):=Lk.of cb;obtain⟨u1,u2,u3,u4,u5⟩:=HU.out i hia;have HRA:=ZH ((HA.out.below HQ.out).ar i hia);have HRB:=ZH ((HB.out.below HQ.out).ar i hib);have HXA:=ZH hA;have HXB:=ZH hB;rw[hA,hB];clear hA hB ca cb hia hib;generalize (as_.getD i ad0).1=RA at*;generalize (as_.getD i ad0).2=rc at*;generalize (bs.getD i ad0).1=RB at*;generalize (bs.getD i ad0).2=rd at*;generalize a.getD i []=x at*;generalize b.getD i []=y at*;have HME:=ZH fun(w':World)(q:Below wr.heap.size wr w')=>rmeet_any (c:=rc) (d:=rd) (HRA.out.below q) (HRB.out.below q) u1 u2 u3 u4;rw[u5]at HME;have HS3:=ZH u3;clear u3 u4 u5;go_upto_region 6 with fail;refine region_gen0 (n:=15) (frame:= ?frame1) (fun L s w'=>Vs [oF (.slice (some ⟨ga,oa,none⟩) n c),oI ((i:Nat)),oP ga (oa+i),oF (.slice RA x.length rc),oF (.slice (some ⟨gb,ob,none⟩) n d),oI ((i:Nat)),oP gb (ob+i),oF (.slice RB y.length rd),none,oF (.slice (some ⟨ga,oa,none⟩) n c),oI ((i:Nat)),oP ga (oa+i),oF (.slice RA x.length rc),none,none] L s∧(L 8=false→(Below wr.heap.size wr w'))∧(L 8=true→L 13=false→(Below wr.heap.size wr w'∧∃C f,s 8= .slice C x.length f∧RRow w' C x))∧(L 13=true→L 14=false→(Below wr.heap.size wr w'∧s 13= .bool true))∧(L 14=true→(Below wr.heap.size wr w'∧s 14= .bool false))) (by kernel_rfl) (by kernel_rfl) (by kernel_rfl) rfl ?_ ?_ ?_ ?_
   case refine_1=>exact⟨fun _ _ _ h=>no_f h,fun _=>(Read.refl _).drew.below _,fun h=>no_f h,fun h=>no_f h,fun h=>no_f h⟩
   case refine_2=>
    intro s;simp only[fr,Act.put,zA,zB,zC,zD,zE,zF,Nat.reduceAdd];rfl
   case refine_3=>
    iterate 15 (refine SN ?_ ?_;rotate_left)
    exact Steps.nil;all_goals (intro L s w9 hN hU hi hC hS K hK;dsimp only at hK⊢;simp only[Act.put,zD,zE,zF]at hK;obtain⟨hV,c_0,c_1,c_2,c_3⟩:=hS;refine ite_of rfl ?_)
    ·go_simp;exact hK.out _ _ ⟨hV.put 0,c_0,c_1,c_2,c_3⟩
    ·go_simp;exact hK.out _ _ ⟨hV.put 1,c_0,c_1,c_2,c_3⟩
    ·rw[hV.at 0 (hN.out 0 rfl)]at hK⊢;rw[hV.at 1 (hN.out 1 rfl)]at hK⊢;go_simp;exact hK.out _ _ ⟨hV.put 2,c_0,c_1,c_2,c_3⟩
    ·rw[hV.at 2 (hN.out 2 rfl)]at hK⊢;have hE:Below wr.heap.size wr w9:=(c_0 (hU.out 8 _ rfl rfl));have u0:=CA _ hE;go_simp;exact hK.out _ _ ⟨hV.put 3,c_0,c_1,c_2,c_3⟩
    ·go_simp;exact hK.out _ _ ⟨hV.put 4,c_0,c_1,c_2,c_3⟩
    ·go_simp;exact hK.out _ _ ⟨hV.put 5,c_0,c_1,c_2,c_3⟩
    ·rw[hV.at 4 (hN.out 4 rfl)]at hK⊢;rw[hV.at 5 (hN.out 5 rfl)]at hK⊢;go_simp;exact hK.out _ _ ⟨hV.put 6,c_0,c_1,c_2,c_3⟩
    ·rw[hV.at 6 (hN.out 6 rfl)]at hK⊢;have hE:Below wr.heap.size wr w9:=(c_0 (hU.out 8 _ rfl rfl));have u0:=CB _ hE;go_simp;exact hK.out _ _ ⟨hV.put 7,c_0,c_1,c_2,c_3⟩
    ·rw[hV.at 3 (hN.out 3 rfl)]at hK⊢;rw[hV.at 7 (hN.out 7 rfl)]at hK⊢;have hP:=c_0 hi.out;go_simp;go_at_call 49;refine(HME.out _ hP).mono ?_;rintro e9 w10 ⟨C,f,rfl,hr,q9⟩;exact hK.out _ _ ⟨hV.eff 8,fun h=>no_t h,fun _ _=>⟨bT hP q9,C,f,rfl,hr⟩,fun h=>no_f (Eq.trans (Eq.symm (hU.out 13 _ rfl rfl)) h),fun h=>no_f (Eq.trans (Eq.symm (Shut.no hC 14 13 rfl rfl (hU.out 13 _ rfl rfl))) h)⟩
    ·go_simp;exact hK.out _ _ ⟨hV.put 9,c_0,c_1,c_2,c_3⟩
    ·go_simp;exact hK.out _ _ ⟨hV.put 10,c_0,c_1,c_2,c_3⟩
    ·rw[hV.at 9 (hN.out 9 rfl)]at hK⊢;rw[hV.at 10 (hN.out 10 rfl)]at hK⊢;go_simp;exact hK.out _ _ ⟨hV.put 11,c_0,c_1,c_2,c_3⟩
    ·rw[hV.at 11 (hN.out 11 rfl)]at hK⊢;have hE:Below wr.heap.size wr w9:=(match hL0:L 8 with|false=>(c_0 hL0)|true=>(c_1 hL0 (hU.out 13 _ rfl rfl)).1);have u0:=CA _ hE;go_simp;exact hK.out _ _ ⟨hV.put 12,c_0,c_1,c_2,c_3⟩
    ·rw[hV.at 12 (hN.out 12 rfl)]at hK⊢;have hP:=c_1 (hN.out 8 rfl) hi.out;obtain⟨hP0,C,f,e8,hr⟩:=hP;simp only[e8]at hK⊢;go_simp;go_at_call 48;refine(rsameR_any hr (HRA.out.below hP0) rfl (by omega) HS3.out).mono ?_;rintro e9 w10 ⟨rfl,q9⟩;exact hK.out _ _ ⟨hV.eff 13,fun h=>no_f (Eq.trans (Eq.symm h) (hN.out 8 rfl)),fun _ h=>no_t h,fun _ _=>⟨bT hP0 q9,rfl⟩,fun h=>no_f (Eq.trans (Eq.symm (hU.out 14 _ rfl rfl)) h)⟩
    ·have hP:=c_2 (hN.out 13 rfl) hi.out;obtain⟨hP0,e13⟩:=hP;simp only[e13]at hK⊢;go_simp;exact hK.out _ _ ⟨hV.eff 14,fun h=>no_f (Eq.trans (Eq.symm h) (hC.out 13 _ rfl (hN.out 13 rfl) 8 rfl)),fun _ h=>no_f (Eq.trans (Eq.symm h) (hN.out 13 rfl)),fun _ h=>no_t h,fun _=>⟨hP0,rfl⟩⟩
   intro L s w9 hall hS;obtain⟨hV,c_0,c_1,c_2,c_3⟩:=hS;have hPm:=c_3 (hall 14 (by decide));clear hall hV c_0 c_1 c_2 c_3;obtain⟨hq9,e14⟩:=hPm;simp only[e14];have HQ9:=ZH (bT HQ.out hq9);clear hq9 e14 CA CB HME u1 u2;go_wp2_with fail;rw[←HXA.out,←HXB.out];go_roundg (n-(i+1))
   case measure=>omega
   case rel=>exact⟨i+1,rfl,by omega,by simp,HQ9.out⟩
  ·have d1:decide ((i:Int)<(n:Int))=false:=dF (by omega);go_wp2_with fail;exact bodyPost_ret (v:= .bool true) (by simp[results,Tryz.results21,go_sem]) rfl ⟨rfl,HQ.out⟩
abbrev fcs (f:Fr)(A:Option Addr)(c:Nat)(B:Option Addr)(d:Nat):Array Value:= #[.bool f.n,.slice A f.xs.length c,.bool f.m,.slice B f.ys.length d]
def GOwn (t:TypeId)(w:World)(base:Nat)(v:Value)(l:List Fr):Prop:=∃xs,NRow w base t 4 v l.length xs∧∀j,j<l.length→∃A c B d,xs[j*4]? =some (.bool (l.getD j fr0).n)∧xs[j*4+1]? =some (.slice A (l.getD j fr0).xs.length c)∧xs[j*4+2]? =some (.bool (l.getD j fr0).m)∧
 xs[j*4+3]? =some (.slice B (l.getD j fr0).ys.length d)∧Rd w A c (l.getD j fr0).xs∧Rd w B d (l.getD j fr0).ys
theorem GOwn.nil (t:TypeId)(w:World)(base:Nat):GOwn t w base (.slice none 0 0) []:=⟨[],NRow.nil _ _ _ _,fun j hj=>absurd hj (Nat.not_lt_zero _)⟩
theorem GOwn.slice {t:TypeId}{w:World}{base:Nat}{v:Value}{l:List Fr}(h:GOwn t w base v l):∃A c,v= .slice A l.length c:=by
 obtain⟨xs,h1,_⟩:=h;exact h1.slice
theorem GOwn.below {t:TypeId}{w w':World}{base:Nat}{v:Value}{l:List Fr}(h:GOwn t w base v l)(q:Below w.heap.size w w'):GOwn t w' base v l:=by
 obtain⟨xs,h1,h2⟩:=h;refine⟨xs,h1.below q,fun j hj=> ?_⟩;obtain⟨A,c,B,d,e1,e2,e3,e4,e5,e6⟩:=h2 j hj;exact⟨A,c,B,d,e1,e2,e3,e4,e5.below q ZL,e6.below q ZL⟩
theorem GOwn.row {t:TypeId}{w:World}{base:Nat}{A:Option Addr}{c:Nat}{l:List Fr}(h:GOwn t w base (.slice A l.length c) l):GRow w A l:=fun j hj=>by
 obtain⟨xs,h1,h2⟩:=h;obtain⟨A',c',B',d',e1,e2,e3,e4,e5,e6⟩:=h2 j hj;obtain⟨g,rfl,k1⟩:=h1.cell e1;obtain⟨g2,hg2,k2⟩:=h1.cell e2;obtain⟨g3,hg3,k3⟩:=h1.cell e3;obtain⟨g4,hg4,k4⟩:=h1.cell e4;cases hg2;cases hg3;cases hg4;refine⟨g,0,rfl,A',c',B',d',?_,?_,?_,?_,e5,e6⟩
 ·rw[Nat.zero_add];exact k1
 ·rw[Nat.zero_add];exact k2
 ·rw[Nat.zero_add];exact k3
 ·rw[Nat.zero_add];exact k4
theorem GOwn.push {t:TypeId}{w w':World}{base:Nat}{v v':Value}{l:List Fr}{f:Fr}{A:Option Addr}{c:Nat}{B:Option Addr}{d:Nat}{xs:List Value}(h2:∀j,j<l.length→∃A c B d,xs[j*4]? =some (.bool (l.getD j fr0).n)∧xs[j*4+1]? =some (.slice A (l.getD j fr0).xs.length c)∧xs[j*4+2]? =some (.bool (l.getD j fr0).m)∧xs[j*4+3]? =some (.slice B (l.getD j fr0).ys.length d)∧Rd w A c (l.getD j fr0).xs∧Rd w B d (l.getD j fr0).ys)(hx:Rd w A c f.xs)(hy:Rd w B d f.ys)(hn:NRow w base t 4 v l.length xs)(h3:NRow w' base t 4 v' (l.length+1) (xs++(fcs f A c B d).toList))(hg:w.grownBy w' v.ownBlock):GOwn t w' base v' (l++[f]):=by
 have hxl:xs.length=l.length*4:=hn.1.1;have up:∀{A c ds},Rd w A c ds→Rd w' A c ds:=fun{A c ds} h=>by
  cases hb:v.ownBlock with
  |none=>
   rw[hb]at hg;exact Rd.below h ⟨hg.os,hg.tape,hg.output,hg.size,fun k hk=>hg.block k hk (by simp)⟩ ZL
  |some g=>
   rw[hb]at hg;exact h.boxed (hn.2 g hb) hg
 refine⟨_,by rw[List.length_append];exact h3,fun j hj=> ?_⟩;rw[List.length_append,List.length_singleton]at hj;by_cases hjl:j<l.length
 ·obtain⟨A',c',B',d',e1,e2,e3,e4,e5,e6⟩:=h2 j hjl;have hl:(l++[f]).getD j fr0=l.getD j fr0:=by rw[gE,List.getElem?_append_left hjl,←gE]
  rw[hl];refine⟨A',c',B',d',?_,?_,?_,?_,up e5,up e6⟩
  ·rw[List.getElem?_append_left (by omega)];exact e1
  ·rw[List.getElem?_append_left (by omega)];exact e2
  ·rw[List.getElem?_append_left (by omega)];exact e3
  ·rw[List.getElem?_append_left (by omega)];exact e4
 ·have hjj:j=l.length:=by omega
  subst hjj;have hl:(l++[f]).getD l.length fr0=f:=by rw[gE,List.getElem?_append_right ZL,Nat.sub_self];rfl
  rw[hl];refine⟨A,c,B,d,?_,?_,?_,?_,up hx,up hy⟩
  ·rw[List.getElem?_append_right (by omega),hxl,Nat.sub_self];rfl
  ·rw[List.getElem?_append_right (by omega),hxl,Nat.add_sub_cancel_left];rfl
  ·rw[List.getElem?_append_right (by omega),hxl,Nat.add_sub_cancel_left];rfl
  ·rw[List.getElem?_append_right (by omega),hxl,Nat.add_sub_cancel_left];rfl
theorem wp_appG {t:TypeId}(hi:(Tryz.prog.info? t).map (fun i=>(i.zero,i.size,i.bytes))=some (some (.agg z4),4,64)){ops:Array Oper}{rest:List Oper}{o:Oper}{a:Act}{Q:Exit→Act→World→Prop}(s x:Operand)(w:World)(base:Nat)(v:Value)(l:List Fr)(f:Fr)(A:Option Addr)(c:Nat)(B:Option Addr)(d:Nat){N sl:Nat}(hN:N=w.heap.size)(hu:Tryz.prog.underlying sl=some (.slice t))(hown:GOwn t w base v l)(hx':Rd w A c f.xs)(hy':Rd w B d f.ys)(hb:base≤w.heap.size)(hlen:l.length≤1000000)(hw:Region.wanted o (yielded ops a.tmps)=true)(ho:o.op= .call {callee:= .builtin .append,args:= #[s,x],argTypes:= #[sl,sl]})(hs:a.eval s=v)(hx:a.eval x= .slice (some ⟨N,0,none⟩) 1 1)(K:∀v' w',GOwn t w' base v' (l++[f])→w.grownBy w' v.ownBlock→Below base w w'→(v'.ownBlock=v.ownBlock∨∀g,v'.ownBlock=some g→w.heap.size≤g)→wpList Tryz.prog ops Q rest (a.put o.dst v') w'):wpList Tryz.prog ops Q (o::rest) a (w.alloc (.cells (fcs f A c B d) t)):=by
 obtain⟨xs,h1,h2⟩:=hown;exact wp_appNu s x w base t 4 v l.length xs (fcs f A c B d) hN hu hi rfl rfl (by decide) (by decide) h1 hb hlen rfl rfl rfl hw ho hs hx fun v' w' r1 r2 r3 r4=>K v' w' (GOwn.push h2 hx' hy' h1 r1 r2) r2 r3 r4
theorem rats_theirs {w:World}{A:Option Addr}{c:Nat}{l:List Fr}(h:GRow w A l)(hs:l.length≤1000):Calls Tryz.prog 18 #[.slice A l.length c] w fun e w'=>∃A' c',e= .returned (.slice A' l.length c')∧GRow w' A' l∧Below w.heap.size w w':=by
 have hinf:(Tryz.prog.info? 72).map (fun i=>(i.zero,i.size,i.bytes))=some (some (.agg z4),4,64):=by kernel_rfl
 have hin2:(Tryz.prog.info? 57).map (·.size)=some 4:=by kernel_rfl
 have HG:=ZH h;obtain⟨ll,hll⟩:∃n,l.length=n:=⟨_,rfl⟩;have HLL:=ZH hll;rw[hll]at hs⊢;clear h hll;go_enter Tryz.func18,Tryz.ntmps18;go_wp2_with fail;go_loopg [3,8] ll (fun k v pp wr=>∃(j:Nat)(A:Option Addr)(c:Nat),k=ll-j∧j≤ll∧pp= .int .i64 (j:Nat)∧v= .slice A j c∧Hid (GOwn 72 wr w.heap.size (.slice A j c) (l.take j))∧Hid (Below w.heap.size w wr))
 case atStart=>exact⟨0,none,0,rfl,Nat.zero_le _,rfl,rfl,GOwn.nil _ _ _,Below.refl _ _⟩
 case round=>
  obtain⟨j,A1,c1,hk,hj,rfl,rfl,HO,HQ⟩:=hrel;by_cases hlt:j<ll
  ·have d1:decide ((j:Int)<(ll:Int))=true:=dT (by omega);have hjl:j<l.length:=by rw[HLL.out];exact hlt
   obtain⟨g,o,rfl,A',c',B',d',a1,a2,a3,a4,hx,hy⟩:=(HG.out.below HQ.out) j hjl;have hta:l.take (j+1)=l.take j++[l.getD j fr0]:=by
    rw[List.take_add_one,gE,gG hjl];rfl
   have HTA:=ZH hta;have htl:(l.take j).length=j:=by rw[List.length_take];omega
   have HTL:=ZH htl;obtain⟨f,hf⟩:∃f,l.getD j fr0=f:=⟨_,rfl⟩;rw[hf]at a1 a2 a3 a4 hx hy HTA;have HX:=ZH hx;have HY:=ZH hy;generalize l.take j=done at*;have M2:=(Mem.start wr).new 57 z4;clear hx hy hta htl hf;go_upto_region 5 with ((with_reducible refine st_ ?_);refine wP2 _ _ (M2.k (i:=0) rfl) rfl rfl rfl rfl hin2 rfl rfl ?_;intro w5 b5 g5';replace M2:=M2.row (by omega) (by simp) rfl b5 g5');obtain⟨f1,f2,f3,f4⟩:=(M2.k (i:=0) rfl).four;have B5:=ZH M2.bel;clear b5 g5' a1 a2 a3 a4 M2;go_wp2_with fail;refine(theirs4_any f.n f.m _ _ _ _ _ _ _).mono ?_;rintro e w6 ⟨rfl,q6⟩;have Q6:=ZH (bT B5.out q6);have HO6:=ZH (HO.out.below Q6.out);have hbs:w.heap.size≤w6.heap.size:=Nat.le_trans HQ.out.size Q6.out.size;have hdl:done.length≤1000000:=by rw[HTL.out];omega
   clear q6 f1 f2 f3 f4;go_wp2_with (at_builtin;refine wp_appG hinf _ _ w6 w.heap.size (.slice A1 j c1) done f A' c' B' d' (by first|rfl|simp) Tryz.underlying45 HO6.out (HX.out.below Q6.out ZL) (HY.out.below Q6.out ZL) hbs hdl rfl rfl rfl rfl ?_;intro v7 w7 r1 r2 r3 r4;obtain⟨A7,c7,e7⟩:=r1.slice;rw[←HTA.out,List.length_take,Nat.min_eq_left (by omega)]at e7;subst e7);have HR1:=ZH r1;have HQ7:=ZH ((bT HQ.out Q6.out).trans r3);clear r1 r2 r3 r4;go_roundg (ll-(j+1))
   case measure=>omega
   case rel=>exact⟨j+1,A7,c7,rfl,by omega,by simp,rfl,by (show GOwn _ _ _ _ _);rw[HTA.out];exact HR1.out,HQ7.out⟩
  ·have d1:decide ((j:Int)<(ll:Int))=false:=dF (by omega);have hjj:j=ll:=by omega
   subst hjj;have ht:l.take j=l:=List.take_of_length_le (by rw[HLL.out];exact Nat.le_refl _);have HR:Hid (GRow wr A1 l):=by
    have h1:=HO.out;rw[ht]at h1;show GRow _ _ _;rw[←HLL.out]at h1;exact h1.row
   clear HO ht;go_wp2_with fail;exact bodyPost_ret (v:= .slice A1 j c1) (by simp[results,Tryz.results18,go_sem]) rfl ⟨A1,c1,rfl,HR.out,HQ.out⟩
def few12 (f:Fr):Bool:=decide (f.xs.length≤12)&&decide (f.ys.length≤12)
def fewR (l:List Fr):Bool:=decide (l.length≤100)&&l.all few12
theorem few12_step (f:Fr)(l:List Fr):(f::l).all few12=(few12 f&&l.all few12):=rfl
theorem fewR_len {l:List Fr}(h:fewR l=true):l.length≤100:=by
 unfold fewR at h;rw[Bool.and_eq_true,decide_eq_true_eq]at h;exact h.1
theorem info_rratR:(Tryz.prog.info? 57).map (·.size)=some 4:=by kernel_rfl
theorem rlfew_any {w:World}{A:Option Addr}{c:Nat}{l:List Fr}(h:GRow w A l):Calls Tryz.prog 14 #[.slice A l.length c] w fun e w'=>e= .returned (.bool (fewR l))∧Below w.heap.size w w':=by
 have HG:=ZH h;obtain⟨R,hR⟩:∃R,fewR l=R:=⟨_,rfl⟩;have HE:Hid (R=fewR l):=hR.symm;rw[hR];unfold fewR at HE;clear hR h;by_cases g1:l.length≤100
 ·have d1:decide ((100:Int)<(l.length:Int))=false:=dF (by omega);rw[dT g1,Bool.true_and]at HE;have HE0:Hid (R=(l.drop 0).all few12):=HE.out;clear HE;go_enter Tryz.func14,Tryz.ntmps14;go_wp2_with fail;go_loopg [10] l.length (fun k pp wr=>∃j,k=l.length-j∧j≤l.length∧pp= .int .i64 (j:Nat)∧Hid (R=(l.drop j).all few12)∧Below w.heap.size w wr)
  case atStart=>exact⟨0,rfl,Nat.zero_le _,rfl,HE0.out,Below.refl _ _⟩
  case round=>
   clear HE0;obtain⟨j,hk,hj,rfl,HL,hq⟩:=hrel;by_cases hlt:j<l.length
   ·have d1:decide ((j:Int)<(l.length:Int))=true:=dT (by omega);obtain⟨g,o,rfl,A',c',B',d',a1,a2,a3,a4,hx,hy⟩:=(HG.out.below hq) j hlt;have HC:Hid (R=((decide ((l.getD j fr0).xs.length≤12)&&decide ((l.getD j fr0).ys.length≤12))&&(l.drop (j+1)).all few12)):=by
     show _=_;rw[HL.out,drop_at (z:=fr0) hlt,few12_step];rfl
    generalize (l.getD j fr0).n=n1 at*;generalize (l.getD j fr0).xs=xs1 at*;generalize (l.getD j fr0).m=n2 at*;generalize (l.getD j fr0).ys=ys1 at*;clear HL hx hy;have M2:=(Mem.start wr).new 57 z4;go_upto_region 6 with ((with_reducible refine st_ ?_);refine wP2 _ _ (M2.k (i:=0) rfl) rfl rfl rfl rfl info_rratR rfl rfl ?_;intro w5 b5 g5';replace M2:=M2.row (by omega) (by simp) rfl b5 g5');obtain⟨f1,f2,f3,f4⟩:=(M2.k (i:=0) rfl).four;have HQ2:=ZH (bT hq M2.bel);clear b5 g5' a1 a2 a3 a4 M2 hq;by_cases h1:xs1.length≤12
    ·have d2:decide ((12:Int)<(xs1.length:Int))=false:=dF (by omega);by_cases h2:ys1.length≤12
     ·have d3:decide ((12:Int)<(ys1.length:Int))=false:=dF (by omega);have HC2:Hid (R=(l.drop (j+1)).all few12):=HC.out.trans (by rw[dT h1,dT h2];rfl);clear HC;go_wp2_with fail;go_roundg (l.length-(j+1))
      case measure=>omega
      case rel=>exact⟨j+1,rfl,by omega,by simp,HC2.out,HQ2.out⟩
     ·have d3:decide ((12:Int)<(ys1.length:Int))=true:=dT (by omega);have HC2:Hid (R=false):=HC.out.trans (by rw[dF h2,Bool.and_false];rfl);clear HC;go_wp2_with fail;exact bodyPost_ret (v:= .bool false) (by simp[results,Tryz.results14,go_sem]) rfl ⟨by rw[HC2.out],HQ2.out⟩
    ·have d2:decide ((12:Int)<(xs1.length:Int))=true:=dT (by omega);have HC2:Hid (R=false):=HC.out.trans (by rw[dF h1];rfl);clear HC;go_wp2_with fail;exact bodyPost_ret (v:= .bool false) (by simp[results,Tryz.results14,go_sem]) rfl ⟨by rw[HC2.out],HQ2.out⟩
   ·have d1:decide ((j:Int)<(l.length:Int))=false:=dF (by omega);have HC2:Hid (R=true):=by
     show _=_;rw[HL.out,drop_none hlt];rfl
    clear HL;go_wp2_with fail;exact bodyPost_ret (v:= .bool true) (by simp[results,Tryz.results14,go_sem]) rfl ⟨by rw[HC2.out],hq⟩
 ·have d1:decide ((100:Int)<(l.length:Int))=true:=dT (by omega);rw[dF g1]at HE;have HC:Hid (R=false):=HE.out;clear HE;go_enter Tryz.func14,Tryz.ntmps14;go_wp2_with fail;exact bodyPost_ret (v:= .bool false) (by simp[results,Tryz.results14,go_sem]) rfl ⟨by rw[HC.out],Below.refl _ _⟩
theorem filter_any {w:World}{a:Mp}{m:Md}{Dc:Nat}{A:Option Addr}{l:List Fr}(h:MdAt w a m)(hz:MdSz m)(hcap:Caps a.ds m.doms)(hy:GRow w A l)(hs:l.length≤1000000):∃(qs:List Rat)(good:Bool),(good=true→qs.length=(ofP m m.doms).a.length∧∀q∈qs,0≤q)∧∀(w':World)(A':Option Addr)(c':Nat)(limit:Int),Below w.heap.size w w'→GRow w' A' l→Calls Tryz.prog 17 #[.agg (mdC a m),.slice a.doms.1 m.doms.length Dc,.slice A' l.length c',.int .i64 limit] w' fun e w2=>FilP (filterM m m.doms qs good limit) w' e w2:=by
 by_cases hb:fitM m m.doms=true∧numbersB (ofP m m.doms) l=true
 ·obtain⟨hf,hnb⟩:=hb;have hnb2:=hnb;unfold numbersB at hnb2;rw[Bool.and_eq_true,decide_eq_true_eq]at hnb2;obtain⟨qs,rfl,hq⟩:=frs_of l fun f hf=>by
   obtain⟨j,hj,rfl⟩:=List.getElem_of_mem hf;obtain⟨g,o,_,A1,c1,B1,d1,_,_,_,_,hx,hy⟩:=hy j hj;rw[gE,gG hj]at hx hy;exact⟨hx.ok,hy.ok,List.all_eq_true.1 hnb2.2 _ hf⟩
  refine⟨qs,true,fun _=>⟨by have:=hnb2.1;rw[List.length_map]at this;exact this,fun q hqq=>(hq q hqq).2⟩,fun w' A' c' limit q0 hg=> ?_⟩;by_cases hl: -1099511627776≤limit∧limit≤1099511627776
  ·rw[List.length_map];exact filter_good (h.below q0) (h.ds.below q0) hz hz hcap hg (fun q hqq=>(hq q hqq).1) rfl hf hl.1 hl.2 hnb
  ·have hr:filterM m m.doms qs true limit=([],2):=by
    unfold filterM;rw[if_neg];intro e;simp only[Bool.and_eq_true,decide_eq_true_eq]at e;exact hl ⟨e.2.1,e.2.2.1⟩
   refine(filter_bad (h.below q0) (h.ds.below q0) hz hz hg hs ?_).mono ?_
   ·rw[Bool.eq_false_iff];intro e;simp only[Bool.and_eq_true,decide_eq_true_eq]at e;exact hl ⟨e.2.1,e.2.2.1⟩
   ·rintro e w2 ⟨rfl,q2⟩;exact FilP.none hr rfl q2
 ·refine⟨[],false,(fun e=>by cases e),fun w' A' c' limit q0 hg=> ?_⟩;have hr:filterM m m.doms [] false limit=([],2):=by
   unfold filterM;rw[if_neg];intro e;simp only[Bool.and_eq_true]at e;cases e.2.2.2
  refine(filter_bad (h.below q0) (h.ds.below q0) hz hz hg hs ?_).mono ?_
  ·rw[Bool.eq_false_iff];intro e;simp only[Bool.and_eq_true]at e;exact hb ⟨e.1,e.2.2.2⟩
  ·rintro e w2 ⟨rfl,q2⟩;exact FilP.none hr rfl q2
theorem less_under:∀{ds xs zs:List (List (Int×Int))},LessL ds xs zs→(∀d∈ds,setB d=true∧d.length≤1000)→UnderL xs zs
 |[],[],[],_,_=>fun i hi=>absurd hi (Nat.not_lt_zero _)
 |d::ds,x::xs,z::zs,h,hd=>fun i hi=>by
  obtain⟨h1,h2⟩:=h;cases i with
  |zero=>
   have h0:=h1;obtain⟨l1,r1,l2,r2,_,_,e1,e2⟩:=h1;have hdm:=hd d List.mem_cons_self;have hm:=Less.meet hdm.1 h0;have hz:setB z=true:=by
    rw[e2];exact cut_set d none hdm.1 l2 r2
   have lx:x.length≤d.length:=by rw[e1];exact List.length_filterMap_le ..
   have lz:z.length≤d.length:=by rw[e2];exact List.length_filterMap_le ..
   exact⟨Nat.le_trans lx hdm.2,Nat.le_trans lz hdm.2,hm.1,hz,hm.2⟩
  |succ i=>exact less_under h2 (fun d' hd'=>hd d' (List.mem_cons_of_mem _ hd')) i (Nat.lt_of_succ_lt_succ hi)
theorem lessL_both:∀{ds xs zs:List (List (Int×Int))},LessL ds xs zs→xs.length=ds.length∧zs.length=ds.length
 |[],[],[],_=>⟨rfl,rfl⟩
 |d::ds,x::xs,z::zs,h=>by
  obtain⟨h1,h2⟩:=lessL_both h.2;exact⟨by rw[List.length_cons,List.length_cons,h1],by rw[List.length_cons,List.length_cons,h2]⟩
set_option maxHeartbeats 16000000
theorem relaxMore_use (w:World)(a:Mp)(m:Md)(h:MdAt w a m)(hcap:Caps a.ds m.doms)(A:Option Addr)(l:List Fr)(c:Nat)(hy:GRow w A l)(l0 l1:Int):Calls Tryz.prog 7 #[.agg (mdC a m),.slice A l.length c,.agg #[.int .i64 l0,.int .i64 l1]] w fun e w'=>e= .returned (.bool true)∧Below w.heap.size w w':=by
 have HFI:=ZH fun(w':World)(q:Below w.heap.size w w')=>mfits_any (Dc:=a.doms.2) (h.below q) (h.ds.below q);have HFE:=ZH fun(w':World)(q:Below w.heap.size w w')=>rlfew_any (c:=c) (hy.below q);have HANY:=ZH fun(hz:MdSz m)(hs:l.length≤1000000)=>filter_any (Dc:=a.doms.2) h hz hcap hy hs;have HG:=ZH hy;have M:=((Mem.start w).new 25 (mdC a m)).newAt (g:=w.heap.size+1) (by simp) 62 #[.int .i64 l0,.int .i64 l1];clear h hy hcap;go_enter Tryz.func7,Tryz.ntmps7;go_wp2_with fail;refine(rlalive_any _).mono ?_;rintro e w1 ⟨rfl,q1⟩;replace M:=M.below q1;obtain⟨x0,x1,_,_⟩:=(M.k (i:=0) rfl).both;clear q1;go_upto_region 3 with fail;go_quiet (fail);have HM3:=ZH (M.drewN nq);generalize hmn:min l0 l1=lo at*;generalize hmx:max l0 l1=hi at*;have hlh:lo≤hi:=by omega
 clear M x0 x1 hmn hmx;obtain⟨W3,hW3⟩:∃W3,W3=w1.drewN nq:=⟨_,rfl⟩;rw[←hW3]at HM3⊢;clear hW3;obtain⟨m0,m1,m2,m3⟩:=(HM3.out.k (i:=1) rfl).four;go_wp2_with fail;refine(HFI.out _ HM3.out.bel).mono ?_;rintro e w4 ⟨rfl,q4⟩;have HM4:=ZH (HM3.out.below q4);clear q4 m0 m1 m2 m3 HM3;cases hfi:(smallM m&&smallM {m with doms:=m.doms}) with
 |false=>
  have HMX:=ZH HM4.out;go_wp2_with fail;exact bodyPost_ret (v:= .bool true) (by simp[results,Tryz.results7,go_sem]) rfl ⟨rfl,HMX.out.bel⟩
 |true=>
  rw[Bool.and_eq_true]at hfi;have HZ:=ZH (msmall_sz hfi.1);go_wp2_with fail;refine(HFE.out _ HM4.out.bel).mono ?_;rintro e w5 ⟨rfl,q5⟩;have HM5:=ZH (HM4.out.below q5);clear q5 HM4 hfi HFI HFE;cases hfe:fewR l with
  |false=>
   have HMX:=ZH HM5.out;go_wp2_with fail;exact bodyPost_ret (v:= .bool true) (by simp[results,Tryz.results7,go_sem]) rfl ⟨rfl,HMX.out.bel⟩
  |true=>
   have hl1:=fewR_len hfe;by_cases h1:lo< -1099511627776
   ·have d1:decide (lo< -1099511627776)=true:=dT h1;have HMX:=ZH HM5.out;go_wp2_with fail;exact bodyPost_ret (v:= .bool true) (by simp[results,Tryz.results7,go_sem]) rfl ⟨rfl,HMX.out.bel⟩
   ·have d1:decide (lo< -1099511627776)=false:=dF h1;by_cases h2:1099511627776<hi
    ·have d2:decide (1099511627776<hi)=true:=dT h2;have HMX:=ZH HM5.out;go_wp2_with fail;exact bodyPost_ret (v:= .bool true) (by simp[results,Tryz.results7,go_sem]) rfl ⟨rfl,HMX.out.bel⟩
    ·have d2:decide (1099511627776<hi)=false:=dF h2;obtain⟨qs,good,_,hany⟩:=HANY.out HZ.out (by omega);have HFI:=ZH hany;have HMO:=ZH (filter_more (m:=m) (d:=m.doms) (y:=qs) (good:=good) hlh (by omega) (by omega));have HM6:=ZH (HM5.out.sub (Ks':=[(w.heap.size,25,mdC a m)]) (Rs':=[]) (by simp) (by simp));clear hany HANY hfe HM5;obtain⟨W6,hW6⟩:∃W6,W6=w5:=⟨_,rfl⟩;subst hW6;have HK6:=ZH (HM6.out.k (i:=0) rfl);have HRA:=ZH fun(w':World)(q:Below W6.heap.size W6 w')=>rats_theirs (c:=c) (HG.out.below (bT HM6.out.bel q)) (by omega);have HFF:=ZH fun(w':World)(A':Option Addr)(c':Nat)(q:Below W6.heap.size W6 w')(hg:GRow w' A' l)=>HFI.out w' A' c' lo (bT HM6.out.bel q) hg;obtain⟨R1,hR1⟩:∃R,filterM m m.doms qs good lo=R:=⟨_,rfl⟩;rw[hR1]at HFF HMO;obtain⟨X1,k1⟩:=R1;clear hR1;go_upto_region 6 with fail;refine region_gen0 (n:=12) (frame:= ?frame1) (fun L s w'=>Vs [oF (.agg (mdC a m)),oP w.heap.size 0,oF (.slice a.doms.1 m.doms.length a.doms.2),oF (.slice A l.length c),none,oI lo,none,none,none,none,none,none] L s∧(L 7=true→s 7=s 6)∧(L 8=true→s 8=exv 0 (s 6))∧(L 9=true→s 9=exv 1 (s 6))∧(L 10=true→s 10=exv 0 (s 6))∧(L 11=true→s 11=exv 1 (s 6))∧(L 4=false→(Below W6.heap.size W6 w'))∧(L 4=true→L 6=false→(Below W6.heap.size W6 w'∧∃A' c',s 4= .slice A' l.length c'∧GRow w' A' l))∧(L 6=true→(∃B cc ds',s 6= .tuple #[.slice B X1.length cc,.int .i64 k1]∧DsAt w' B ds' X1∧Below W6.heap.size W6 w'))) (by kernel_rfl) (by kernel_rfl) (by kernel_rfl) rfl ?_ ?_ ?_ ?_
     case refine_1=>exact⟨fun _ _ _ h=>no_f h,fun h=>no_f h,fun h=>no_f h,fun h=>no_f h,fun h=>no_f h,fun h=>no_f h,fun _=>(Read.refl _).drew.below _,fun h=>no_f h,fun h=>no_f h⟩
     case refine_2=>
      intro s;simp only[fr,Act.put,zA,zB,zC,zD,zE,zF,Nat.reduceAdd];rfl
     case refine_3=>
      iterate 12 (refine SN ?_ ?_;rotate_left)
      exact Steps.nil;all_goals (intro L s w9 hN hU hi hC hS K hK;dsimp only at hK⊢;simp only[Act.put,zD,zE,zF]at hK;obtain⟨hV,h_7,h_8,h_9,h_10,h_11,c_0,c_1,c_2⟩:=hS;refine ite_of rfl ?_)
      ·have hE:Below W6.heap.size W6 w9:=(match hL0:L 4 with|false=>(c_0 hL0)|true=>(c_1 hL0 (hU.out 6 _ rfl rfl)).1);obtain⟨u0,u1,u2,u3⟩:=(HK6.out.below hE ZL).four;go_simp;exact hK.out _ _ ⟨hV.put 0,h_7,h_8,h_9,h_10,h_11,c_0,c_1,c_2⟩
      ·go_simp;exact hK.out _ _ ⟨hV.put 1,h_7,h_8,h_9,h_10,h_11,c_0,c_1,c_2⟩
      ·rw[hV.at 1 (hN.out 1 rfl)]at hK⊢;have hE:Below W6.heap.size W6 w9:=(match hL0:L 4 with|false=>(c_0 hL0)|true=>(c_1 hL0 (hU.out 6 _ rfl rfl)).1);obtain⟨u0,u1,u2,u3⟩:=(HK6.out.below hE ZL).four;go_simp;exact hK.out _ _ ⟨hV.put 2,h_7,h_8,h_9,h_10,h_11,c_0,c_1,c_2⟩
      ·go_simp;exact hK.out _ _ ⟨hV.put 3,h_7,h_8,h_9,h_10,h_11,c_0,c_1,c_2⟩
      ·rw[hV.at 3 (hN.out 3 rfl)]at hK⊢;have hP:=c_0 hi.out;go_simp;go_at_call 18;refine(HRA.out _ hP).mono ?_;rintro e9 w10 ⟨A5,c5,rfl,hg5,q5⟩;exact hK.out _ _ ⟨hV.eff 4,h_7,h_8,h_9,h_10,h_11,fun h=>no_t h,fun _ _=>⟨bT hP q5,A5,c5,rfl,hg5⟩,fun h=>no_f (Eq.trans (Eq.symm (hU.out 6 _ rfl rfl)) h)⟩
      ·go_simp;exact hK.out _ _ ⟨hV.put 5,h_7,h_8,h_9,h_10,h_11,c_0,c_1,c_2⟩
      ·rw[hV.at 0 (hN.out 0 rfl)]at hK⊢;rw[hV.at 2 (hN.out 2 rfl)]at hK⊢;rw[hV.at 5 (hN.out 5 rfl)]at hK⊢;have hP:=c_1 (hN.out 4 rfl) hi.out;obtain⟨hP0,A5,c5,e4,hg5⟩:=hP;simp only[e4]at hK⊢;go_simp;go_at_call 17;refine(HFF.out _ _ _ hP0 hg5).mono ?_;rintro e9 w10 ⟨q9,B,cc,ds',rfl,hds⟩;exact hK.out _ _ ⟨hV.eff 6,fun h=>no_f (Eq.trans (Eq.symm (hU.out 7 _ rfl rfl)) h),fun h=>no_f (Eq.trans (Eq.symm (Shut.no hC 8 7 rfl rfl (hU.out 7 _ rfl rfl))) h),fun h=>no_f (Eq.trans (Eq.symm (Shut.no hC 9 7 rfl rfl (hU.out 7 _ rfl rfl))) h),fun h=>no_f (Eq.trans (Eq.symm (Shut.no hC 10 8 rfl rfl (Shut.no hC 8 7 rfl rfl (hU.out 7 _ rfl rfl)))) h),fun h=>no_f (Eq.trans (Eq.symm (Shut.no hC 11 9 rfl rfl (Shut.no hC 9 7 rfl rfl (hU.out 7 _ rfl rfl)))) h),fun h=>no_f (Eq.trans (Eq.symm h) (hN.out 4 rfl)),fun _ h=>no_t h,fun _=>⟨B,cc,ds',rfl,hds,bT hP0 q9⟩⟩
      ·have hP:=c_2 (hN.out 6 rfl);obtain⟨B,cc,ds',eM,_⟩:=hP;simp only[eM]at hK⊢;go_simp;refine hK.out _ _ ?_;exact⟨hV.eff 7,fun _=>(by show _=s 6;rw[eM];rfl),h_8,h_9,h_10,h_11,c_0,c_1,c_2⟩
      ·rw[h_7 (hN.out 7 rfl)]at hK⊢;have hP:=c_2 (hC.out 7 _ rfl (hN.out 7 rfl) 6 rfl);obtain⟨B,cc,ds',eM,_⟩:=hP;simp only[eM]at hK⊢;go_simp;refine hK.out _ _ ?_;exact⟨hV.eff 8,h_7,fun _=>(by show _=exv 0 (s 6);rw[eM];rfl),h_9,h_10,h_11,c_0,c_1,c_2⟩
      ·rw[h_7 (hN.out 7 rfl)]at hK⊢;have hP:=c_2 (hC.out 7 _ rfl (hN.out 7 rfl) 6 rfl);obtain⟨B,cc,ds',eM,_⟩:=hP;simp only[eM]at hK⊢;go_simp;refine hK.out _ _ ?_;exact⟨hV.eff 9,h_7,h_8,fun _=>(by show _=exv 1 (s 6);rw[eM];rfl),h_10,h_11,c_0,c_1,c_2⟩
      ·rw[h_8 (hN.out 8 rfl)]at hK⊢;go_simp;exact hK.out _ _ ⟨hV.eff 10,h_7,h_8,h_9,fun _=>rfl,h_11,c_0,c_1,c_2⟩
      ·rw[h_9 (hN.out 9 rfl)]at hK⊢;go_simp;exact hK.out _ _ ⟨hV.eff 11,h_7,h_8,h_9,h_10,fun _=>rfl,c_0,c_1,c_2⟩
     intro L s w9 hall hS;obtain⟨hV,h_7,h_8,h_9,h_10,h_11,c_0,c_1,c_2⟩:=hS;have hPm:=c_2 (hall 6 (by decide));have e9_10:=h_10 (hall 10 (by decide));have e9_11:=h_11 (hall 11 (by decide));clear hall hV h_7 h_8 h_9 h_10 h_11 c_0 c_1 c_2;obtain⟨B,cc,ds',e6,hds,hq9⟩:=hPm;rw[e6]at e9_10 e9_11;rw[exv_0]at e9_10;rw[exv_1]at e9_11;simp only[e9_10,e9_11];have HM7:=ZH (HM6.out.below hq9);have HX1:=ZH hds;clear e6 e9_10 e9_11 hds hq9 HM6 HK6 HRA HFF;rename Hid (Mem w w9 _ _)=>HM6;obtain⟨W7,hW7⟩:∃W7,W7=w9:=⟨_,rfl⟩;subst hW7;obtain⟨W6,hW6⟩:∃W6,W6=W7:=⟨_,rfl⟩;subst hW6;have HK6:=ZH (HM6.out.k (i:=0) rfl);have HRA:=ZH fun(w':World)(q:Below W6.heap.size W6 w')=>rats_theirs (c:=c) (HG.out.below (bT HM6.out.bel q)) (by omega);have HFF:=ZH fun(w':World)(A':Option Addr)(c':Nat)(q:Below W6.heap.size W6 w')(hg:GRow w' A' l)=>HFI.out w' A' c' hi (bT HM6.out.bel q) hg;obtain⟨R2,hR2⟩:∃R,filterM m m.doms qs good hi=R:=⟨_,rfl⟩;rw[hR2]at HFF HMO;obtain⟨X2,k2⟩:=R2;clear hR2;go_upto_region 7 with fail;refine region_gen0 (n:=12) (frame:= ?frame2) (fun L s w'=>Vs [oF (.agg (mdC a m)),oP w.heap.size 0,oF (.slice a.doms.1 m.doms.length a.doms.2),oF (.slice A l.length c),none,oI hi,none,none,none,none,none,none] L s∧(L 7=true→s 7=s 6)∧(L 8=true→s 8=exv 0 (s 6))∧(L 9=true→s 9=exv 1 (s 6))∧(L 10=true→s 10=exv 0 (s 6))∧(L 11=true→s 11=exv 1 (s 6))∧(L 4=false→(Below W6.heap.size W6 w'))∧(L 4=true→L 6=false→(Below W6.heap.size W6 w'∧∃A' c',s 4= .slice A' l.length c'∧GRow w' A' l))∧(L 6=true→(∃B cc ds',s 6= .tuple #[.slice B X2.length cc,.int .i64 k2]∧DsAt w' B ds' X2∧Below W6.heap.size W6 w'))) (by kernel_rfl) (by kernel_rfl) (by kernel_rfl) rfl ?_ ?_ ?_ ?_
     case refine_1=>exact⟨fun _ _ _ h=>no_f h,fun h=>no_f h,fun h=>no_f h,fun h=>no_f h,fun h=>no_f h,fun h=>no_f h,fun _=>(Read.refl _).drew.below _,fun h=>no_f h,fun h=>no_f h⟩
     case refine_2=>
      intro s;simp only[fr,Act.put,zA,zB,zC,zD,zE,zF,Nat.reduceAdd];rfl
     case refine_3=>
      iterate 12 (refine SN ?_ ?_;rotate_left)
      exact Steps.nil;all_goals (intro L s w9 hN hU hi hC hS K hK;dsimp only at hK⊢;simp only[Act.put,zD,zE,zF]at hK;obtain⟨hV,h_7,h_8,h_9,h_10,h_11,c_0,c_1,c_2⟩:=hS;refine ite_of rfl ?_)
      ·have hE:Below W6.heap.size W6 w9:=(match hL0:L 4 with|false=>(c_0 hL0)|true=>(c_1 hL0 (hU.out 6 _ rfl rfl)).1);obtain⟨u0,u1,u2,u3⟩:=(HK6.out.below hE ZL).four;go_simp;exact hK.out _ _ ⟨hV.put 0,h_7,h_8,h_9,h_10,h_11,c_0,c_1,c_2⟩
      ·go_simp;exact hK.out _ _ ⟨hV.put 1,h_7,h_8,h_9,h_10,h_11,c_0,c_1,c_2⟩
      ·rw[hV.at 1 (hN.out 1 rfl)]at hK⊢;have hE:Below W6.heap.size W6 w9:=(match hL0:L 4 with|false=>(c_0 hL0)|true=>(c_1 hL0 (hU.out 6 _ rfl rfl)).1);obtain⟨u0,u1,u2,u3⟩:=(HK6.out.below hE ZL).four;go_simp;exact hK.out _ _ ⟨hV.put 2,h_7,h_8,h_9,h_10,h_11,c_0,c_1,c_2⟩
      ·go_simp;exact hK.out _ _ ⟨hV.put 3,h_7,h_8,h_9,h_10,h_11,c_0,c_1,c_2⟩
      ·rw[hV.at 3 (hN.out 3 rfl)]at hK⊢;have hP:=c_0 hi.out;go_simp;go_at_call 18;refine(HRA.out _ hP).mono ?_;rintro e9 w10 ⟨A5,c5,rfl,hg5,q5⟩;exact hK.out _ _ ⟨hV.eff 4,h_7,h_8,h_9,h_10,h_11,fun h=>no_t h,fun _ _=>⟨bT hP q5,A5,c5,rfl,hg5⟩,fun h=>no_f (Eq.trans (Eq.symm (hU.out 6 _ rfl rfl)) h)⟩
      ·go_simp;exact hK.out _ _ ⟨hV.put 5,h_7,h_8,h_9,h_10,h_11,c_0,c_1,c_2⟩
      ·rw[hV.at 0 (hN.out 0 rfl)]at hK⊢;rw[hV.at 2 (hN.out 2 rfl)]at hK⊢;rw[hV.at 5 (hN.out 5 rfl)]at hK⊢;have hP:=c_1 (hN.out 4 rfl) hi.out;obtain⟨hP0,A5,c5,e4,hg5⟩:=hP;simp only[e4]at hK⊢;go_simp;go_at_call 17;refine(HFF.out _ _ _ hP0 hg5).mono ?_;rintro e9 w10 ⟨q9,B,cc,ds',rfl,hds⟩;exact hK.out _ _ ⟨hV.eff 6,fun h=>no_f (Eq.trans (Eq.symm (hU.out 7 _ rfl rfl)) h),fun h=>no_f (Eq.trans (Eq.symm (Shut.no hC 8 7 rfl rfl (hU.out 7 _ rfl rfl))) h),fun h=>no_f (Eq.trans (Eq.symm (Shut.no hC 9 7 rfl rfl (hU.out 7 _ rfl rfl))) h),fun h=>no_f (Eq.trans (Eq.symm (Shut.no hC 10 8 rfl rfl (Shut.no hC 8 7 rfl rfl (hU.out 7 _ rfl rfl)))) h),fun h=>no_f (Eq.trans (Eq.symm (Shut.no hC 11 9 rfl rfl (Shut.no hC 9 7 rfl rfl (hU.out 7 _ rfl rfl)))) h),fun h=>no_f (Eq.trans (Eq.symm h) (hN.out 4 rfl)),fun _ h=>no_t h,fun _=>⟨B,cc,ds',rfl,hds,bT hP0 q9⟩⟩
      ·have hP:=c_2 (hN.out 6 rfl);obtain⟨B,cc,ds',eM,_⟩:=hP;simp only[eM]at hK⊢;go_simp;refine hK.out _ _ ?_;exact⟨hV.eff 7,fun _=>(by show _=s 6;rw[eM];rfl),h_8,h_9,h_10,h_11,c_0,c_1,c_2⟩
      ·rw[h_7 (hN.out 7 rfl)]at hK⊢;have hP:=c_2 (hC.out 7 _ rfl (hN.out 7 rfl) 6 rfl);obtain⟨B,cc,ds',eM,_⟩:=hP;simp only[eM]at hK⊢;go_simp;refine hK.out _ _ ?_;exact⟨hV.eff 8,h_7,fun _=>(by show _=exv 0 (s 6);rw[eM];rfl),h_9,h_10,h_11,c_0,c_1,c_2⟩
      ·rw[h_7 (hN.out 7 rfl)]at hK⊢;have hP:=c_2 (hC.out 7 _ rfl (hN.out 7 rfl) 6 rfl);obtain⟨B,cc,ds',eM,_⟩:=hP;simp only[eM]at hK⊢;go_simp;refine hK.out _ _ ?_;exact⟨hV.eff 9,h_7,h_8,fun _=>(by show _=exv 1 (s 6);rw[eM];rfl),h_10,h_11,c_0,c_1,c_2⟩
      ·rw[h_8 (hN.out 8 rfl)]at hK⊢;go_simp;exact hK.out _ _ ⟨hV.eff 10,h_7,h_8,h_9,fun _=>rfl,h_11,c_0,c_1,c_2⟩
      ·rw[h_9 (hN.out 9 rfl)]at hK⊢;go_simp;exact hK.out _ _ ⟨hV.eff 11,h_7,h_8,h_9,h_10,fun _=>rfl,c_0,c_1,c_2⟩
     intro L s w9 hall hS;obtain⟨hV,h_7,h_8,h_9,h_10,h_11,c_0,c_1,c_2⟩:=hS;have hPm:=c_2 (hall 6 (by decide));have e9_10:=h_10 (hall 10 (by decide));have e9_11:=h_11 (hall 11 (by decide));clear hall hV h_7 h_8 h_9 h_10 h_11 c_0 c_1 c_2;obtain⟨B2,cc2,ds2,e6,hds2,hq9⟩:=hPm;rw[e6]at e9_10 e9_11;rw[exv_0]at e9_10;rw[exv_1]at e9_11;simp only[e9_10,e9_11];have HM8:=ZH (HM6.out.below hq9);have HX1':=ZH (HX1.out.below hq9);have HX2:=ZH hds2;clear e6 e9_10 e9_11 hds2 hq9 HM6 HK6 HRA HFF HX1 h1 h2 d1 d2;by_cases c12:k1=12
     ·have d3:(k1==12)=true:=beq_iff_eq.2 c12;have hk2:=(HMO.out).1 c12;clear HMO c12;rcases hk2 with rfl|rfl|rfl
      ·have HMX:=ZH HM8.out;go_wp2_with fail;exact bodyPost_ret (v:= .bool true) (by simp[results,Tryz.results7,go_sem]) rfl ⟨rfl,HMX.out.bel⟩
      ·have HMX:=ZH HM8.out;go_wp2_with fail;exact bodyPost_ret (v:= .bool true) (by simp[results,Tryz.results7,go_sem]) rfl ⟨rfl,HMX.out.bel⟩
      ·have HMX:=ZH HM8.out;go_wp2_with fail;exact bodyPost_ret (v:= .bool true) (by simp[results,Tryz.results7,go_sem]) rfl ⟨rfl,HMX.out.bel⟩
     ·have d3:(k1==12)=false:=beq_false_of_ne c12;by_cases c0:k1=0
      ·have d4:(k1 !=0)=false:=by rw[c0];rfl
       have hk2:=(HMO.out).2 c0;clear HMO c12 c0;rcases hk2 with rfl|⟨rfl,hf,hl⟩
       ·have HMX:=ZH HM8.out;go_wp2_with fail;exact bodyPost_ret (v:= .bool true) (by simp[results,Tryz.results7,go_sem]) rfl ⟨rfl,HMX.out.bel⟩
       ·have hb:=lessL_both hl;have hu:=less_under hl fun d hd=>⟨dom_set ((fit_parts hf).2.2.2.1 d hd),HZ.out.ds d hd⟩;have h64:=(fit_parts hf).2.1;have hlx:=hb.2.trans hb.1.symm;have HU:=ZH (under_any (c:=cc) (d:=cc2) (n:=X1.length) HX1'.out HX2.out rfl hlx (by rw[hb.1];omega) hu);rw[hlx];clear hb hu h64 hlx hf hl;go_wp2_with fail;refine HU.out.mono ?_;rintro e w9' ⟨rfl,q9⟩;have HM9:=ZH (HM8.out.below q9);clear q9 HU;have HMX:=ZH HM9.out;go_wp2_with fail;exact bodyPost_ret (v:= .bool true) (by simp[results,Tryz.results7,go_sem]) rfl ⟨rfl,HMX.out.bel⟩
      ·have d4:(k1 !=0)=true:=bne_iff_ne.2 c0;clear HMO c12 c0;have HMX:=ZH HM8.out;go_wp2_with fail;exact bodyPost_ret (v:= .bool true) (by simp[results,Tryz.results7,go_sem]) rfl ⟨rfl,HMX.out.bel⟩
end Go.Proofs.YtecfcjdgmpopjaaGreat

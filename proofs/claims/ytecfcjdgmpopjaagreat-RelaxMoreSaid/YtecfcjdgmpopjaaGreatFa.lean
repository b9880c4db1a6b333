/-
  Joined texts: KI, KL, KW, KX, KY, KZ, KM, KN, KO, KP, KQ, KR, KS, KT, KU, KV, Fa.
-/
import Derived.Test.YtecfcjdgmpopjaaGreatKK
import Derived.Test.YtecfcjdgmpopjaaGreatKb
set_option maxHeartbeats 16000000
set_option maxRecDepth 100000
set_option linter.unusedSimpArgs false
set_option linter.unusedVariables false
namespace Go.Proofs.YtecfcjdgmpopjaaGreat
open Go.RowKit Num
def addC (c:Option (List Int))(j:Nat)(d:Rat):Option Rat:=match c with
 |none=>some d
 |some c=>addO d (c.getD j 0)
theorem leastO_step (p:Pg)(y:List Rat)(c:Option (List Int))(j:Nat)(s:Rat)(l h:Int)(r:List (Int×Int)):leastO p y c j s ((l,h)::r)=(dotO 0 y (colL p j)).bind fun d0=>(addC c j d0).bind fun d=>((mulO d (if d<0 then(h:Rat) else(l:Rat))).bind fun m=>addO s m).bind fun t=>leastO p y c (j+1) t r:=by
 show((dotO 0 y (colL p j)).bind fun d0=>_)=_;congr 1;funext d0;have key:∀d:Rat,((mulO d (if d<0 then(h:Rat) else(l:Rat))).bind fun m=>(addO s m).bind fun t=>leastO p y c (j+1) t r)=((mulO d (if d<0 then(h:Rat) else(l:Rat))).bind fun m=>addO s m).bind fun t=>leastO p y c (j+1) t r:=fun d=>by
  cases mulO d (if d<0 then(h:Rat) else(l:Rat))<;>rfl
 cases c with
 |none=>exact key d0
 |some c=>
  show Option.bind (addO d0 (c.getD j 0)) _=Option.bind (addO d0 (c.getD j 0)) _;congr 1;funext d;exact key d
theorem colL_at {p:Pg}{i j:Nat}(hi:i<p.a.length):(colL p j).getD i 0=(p.a.getD i []).getD j 0:=by
 unfold colL;rw[gE,List.getElem?_map,gG hi];show p.a[i].getD j 0=_;congr 1;rw[gE,gG hi];rfl
theorem zip_drop {l h:List Int}{j:Nat}(hl:j<l.length)(hh:j<h.length):(l.zip h).drop j=(l.getD j 0,h.getD j 0)::(l.zip h).drop (j+1):=by
 rw[drop_at (z:=(0,0)) (by rw[List.length_zip];omega)];congr 1;have e:(l.zip h)[j]? =some (l[j],h[j]):=List.getElem?_zip_eq_some.2 ⟨gG hl,gG hh⟩;rw[gE,e,gE,gG hl,gE,gG hh];rfl
theorem lst1_run (args:Array Value)(w:World):Sem.run Tryz.prog (callFunc 117 args) w= .ok (.enter 117 args) w:=by kernel_rfl
theorem lst2_run (args:Array Value)(w:World):Sem.run Tryz.prog (callFunc 121 args) w= .ok (.enter 121 args) w:=by kernel_rfl
theorem lst2_any {w:World}{g:Nat}{m:Pa}{p:Pg}{j:Nat}(hb:Blk w g tyP (pgC m p))(hc:IRow w m.b.1 p.b)(hj:j<p.b.length):Calls Tryz.prog 121 #[iv6 j,vptr g] w fun e w2=>e= .returned (.int .i64 (p.b.getD j 0))∧Below w.heap.size w w2:=by
 obtain⟨h0,h1,h2,h3,h4⟩:=hb.fiveP;obtain⟨gc,oc,hA,cj⟩:=hc j hj;replace cj:w.cell? ⟨gc,oc+j,none⟩=some (.int .i64 (p.b.getD j 0)):=cj;rw[hA]at h3;generalize p.b.getD j 0=z at*;generalize p.b.length=l at*;generalize m.b.2=cc at*;clear hb hc hA h0 h1 h2 h4;go_enter Tryz.func121,Tryz.ntmps121;go_wp2_with fail;exact bodyPost_ret (v:= .int .i64 z) (by simp[results,Tryz.results121,go_sem]) rfl ⟨rfl,Below.refl _ _⟩
theorem lst1_any {w:World}{g gj:Nat}{m:Pa}{p:Pg}{i j:Nat}(hb:Blk w g tyP (pgC m p))(hc:PgAt w m p)(hi:i<p.a.length)(hj:j<(p.a.getD i []).length)(hjb:w.cell? ⟨gj,0,none⟩=some (iv6 j)):Calls Tryz.prog 117 #[iv6 i,vptr g,vptr gj] w fun e w2=>e= .returned (.int .i64 ((p.a.getD i []).getD j 0))∧Below w.heap.size w w2:=by
 obtain⟨h0,h1,h2,h3,h4⟩:=hb.fiveP;obtain⟨ga,oa,hA,ci⟩:=hc.ap i hi;replace ci:w.cell? ⟨ga,oa+i,none⟩=some (.slice (m.rs.getD i (none,0)).1 (p.a.getD i []).length (m.rs.getD i (none,0)).2):=ci;obtain⟨gr,or,hR,cj⟩:=hc.ar i hi j hj;replace cj:w.cell? ⟨gr,or+j,none⟩=some (.int .i64 ((p.a.getD i []).getD j 0)):=cj;rw[hA]at h2;rw[hR]at ci;have P2:=Lk.of h2;have CI:=Lk.of ci;have CJ:=Lk.of cj;have JB:=Lk.of hjb;clear hb hc hA hR h0 h1 h2 h3 h4 ci cj hjb;generalize (p.a.getD i []).getD j 0=z at*;generalize (p.a.getD i []).length=lr at*;generalize p.a.length=la at*;generalize m.a.2=ca at*;generalize (m.rs.getD i (none,0)).2=cr at*;have M:=Mem.start w;go_enter Tryz.func117,Tryz.ntmps117;go_upto_region 1 with fail;refine region_st (n:=9) (frame:= ?frame1) (fun jK=>[kP g 2,kF (.slice (some ⟨ga,oa,none⟩) la ca),kI ((i:Nat)),kP ga (oa+i),kF (.slice (some ⟨gr,or,none⟩) lr cr),kI ((j:Nat)),kP gr (or+j),kI z,kI z].getD jK .none) [] (by kernel_rfl) (by kernel_rfl) (by kernel_rfl) rfl M (fun _ h=>by cases h) (fun _ h=>by cases h) ?_ ?_ ?_
 case refine_1=>
  intro s;simp only[fr,Act.put,zA,zB,zC,zD,zE,zF,Nat.reduceAdd];rfl
 case refine_2=>
  iterate 9 (refine SN ?_ ?_;rotate_left)
  exact Steps.nil;all_goals (intro L s w9 hN hU hi hS K hK;dsimp only at hK⊢;simp only[Act.put,zD,zE,zF]at hK)
  ·go_simp;exact hS.o hK
  ·simp only[hS.f hN 0]at hK⊢;have u0:=P2 _ hS.mem.bel;go_simp;exact hS.o hK
  ·go_simp;exact hS.o hK
  ·simp only[hS.f hN 1,hS.f hN 2]at hK⊢;go_simp;exact hS.o hK
  ·simp only[hS.f hN 3]at hK⊢;have u0:=CI _ hS.mem.bel;go_simp;exact hS.o hK
  ·have u0:=JB _ hS.mem.bel;go_simp;exact hS.o hK
  ·simp only[hS.f hN 4,hS.f hN 5]at hK⊢;go_simp;exact hS.o hK
  ·simp only[hS.f hN 6]at hK⊢;have u0:=CJ _ hS.mem.bel;go_simp;exact hS.o hK
  ·simp only[hS.f hN 7]at hK⊢;go_simp;exact hS.o hK
 intro L s w9 hall hS;have e8:=hS.fx 8 rfl rfl (hall 8 (by decide));have q:=hS.mem.bel;simp only[e8];clear hS hall e8;go_wp2_with fail;exact bodyPost_ret (v:= .int .i64 z) (by simp[results,Tryz.results117,go_sem]) rfl ⟨rfl,q⟩
def CostV (w:World)(p:Pg)(c:Option (List Int))(v:Value):Prop:=(c=none∧v= .slice none 0 0)∨(c=some p.c∧(p.c=[]∨∃g o cc,v= .slice (some ⟨g,o,none⟩) p.c.length cc∧IRow w (some ⟨g,o,none⟩) p.c))
theorem PgAt.costV {w:World}{m:Pa}{p:Pg}(h:PgAt w m p):CostV w p (some p.c) (.slice m.c.1 p.c.length m.c.2):=by
 refine .inr ⟨rfl,?_⟩;by_cases h0:p.c=[]
 ·exact .inl h0
 ·obtain⟨g,o,h1,_⟩:=h.c 0 (List.length_pos_iff.2 h0);have h2:=h.c;rw[h1]at h2;exact .inr ⟨g,o,_,by rw[h1],h2⟩
theorem least_any {w:World}{m:Pa}{p:Pg}{y:List Rat}{AY:Option Addr}{cY:Nat}{c:Option (List Int)}{cv:Value}(hp:PgAt w m p)(hok:PgOk p)(hy:QRow w AY y)(hyl:y.length=p.a.length)(hc:CostV w p c cv):Calls Tryz.prog 71 #[.agg (pgC m p),.slice AY y.length cY,cv] w fun e w'=>RetP w w' e (leastP p y c):=by
 have HP:=ZH hp;have HOK:=ZH hok;have HY:=ZH hy;have HYL:=ZH hyl;have HCV:=ZH hc;obtain⟨R,hR⟩:∃R,leastP p y c=R:=⟨_,rfl⟩;rw[hR];have HR:Hid (R=(leastO p y c 0 0 ((p.lo.zip p.hi).drop 0)).bind fun s=>(dotO 0 y p.b).bind fun d=>subO s d):=hR.symm;have hmf:∀(fn:Fn)(first cap:Array Value)(w:World),(Instr.makeFunc fn first cap).run Tryz.prog w= .ok (.func fn first cap) w:=fun _ _ _ _=>rfl;have hyl2:y.length≤1000:=by have:=hok.a;omega
 have hll:=hok.n;clear hR hp hok hy hc hyl;have M:=((Mem.start w).new tyP (pgC m p)).newAt (g:=w.heap.size+1) (by simp) 72 z4;go_enter Tryz.func71,Tryz.ntmps71;go_wp2_with fail;refine(pof_any (z:=0) (by decide) (by decide)).mono ?_;rintro e w1 ⟨q1,A0,c0,B0,d0,rfl,hq0⟩;have HQ0:=ZH hq0;clear hq0;replace M:=M.below q1;have p1:=(M.k (i:=0) rfl).lt;replace M:=M.new 72 z4;clear q1;generalize hz0:((0:Int):Rat)=r0 at*;have HZ0:=ZH hz0;clear hz0;obtain⟨x0,x1,x2,x3,x4⟩:=(M.k (i:=2) rfl).fiveP;go_upto_region 2 with ((with_reducible refine st_ ?_);refine wP2 _ _ (M.k (i:=0) rfl) rfl rfl rfl rfl info_rat rfl rfl ?_;intro w4 b4 g4;have HQ4:=ZH ((HQ0.out.below (bA1 _ _)).boxed ((M.k (i:=0) rfl).box rfl) g4);replace M:=M.row (by omega) (by simp;omega) rfl b4 g4);have p2:=(M.k (i:=0) rfl).lt;have hg7:w.heap.size+1<w1.heap.size:=p1;generalize w1.heap.size=g7 at*;have HR1:Hid (R=(leastO p y c 0 r0 ((p.lo.zip p.hi).drop 0)).bind fun s=>(dotO 0 y p.b).bind fun d=>subO s d):=by
  show _=_;rw[HR.out,←HZ0.out];rfl
 clear HQ0 HR b4 g4 x0 x1 x2 x3 x4 p1 p2;obtain⟨x0,x1,x2,x3,x4⟩:=(M.k (i:=2) rfl).fiveP;go_wp2_with fail;go_loopg [15] p.lo.length (fun k pp wr=>∃(j:Nat)(s:Rat)(A:Option Addr)(c':Nat)(B:Option Addr)(e:Nat),k=p.lo.length-j∧j≤p.lo.length∧pp= .int .i64 (j:Nat)∧Hid (R=(leastO p y c j s ((p.lo.zip p.hi).drop j)).bind fun s=>(dotO 0 y p.b).bind fun d=>subO s d)∧Mem w wr [(g7,72,qcs s A c' B e),(w.heap.size+1,72,z4),(w.heap.size,tyP,pgC m p)] []∧Hid (QR wr A c' B e s))
 case atStart=>exact⟨0,r0,A0,c0,B0,d0,rfl,Nat.zero_le _,rfl,HR1.out,M,HQ4.out⟩
 case round=>
  clear HQ4 M HR1 HZ0 x0 x1 x2 x3 x4;obtain⟨j,sm,A,c',B,e,hk,hj,rfl,HL,M,HQ⟩:=hrel;have p2:=(M.k (i:=0) rfl).lt;have q0:=M.bel;by_cases hlt:j<p.lo.length
  ·have d1:decide ((j:Int)<(p.lo.length:Int))=true:=dT (by omega);have hlth:j<p.hi.length:=by rw[HOK.out.hi];exact hlt
   obtain⟨gl,ol,hA0,c0⟩:=(HP.out.lo.below q0) j hlt;obtain⟨gh,oh,hA1,c1⟩:=(HP.out.hi.below q0) j hlth;replace c0:wr.cell? ⟨gl,ol+j,none⟩=some (.int .i64 (p.lo.getD j 0)):=c0;replace c1:wr.cell? ⟨gh,oh+j,none⟩=some (.int .i64 (p.hi.getD j 0)):=c1;have HC:Hid (R=(((dotO 0 y (colL p j)).bind fun d0=>(addC c j d0).bind fun d=>((mulO d (if d<0 then((p.hi.getD j 0:Int):Rat) else((p.lo.getD j 0:Int):Rat))).bind fun m=>addO sm m).bind fun t=>leastO p y c (j+1) t ((p.lo.zip p.hi).drop (j+1)))).bind fun s=>(dotO 0 y p.b).bind fun d=>subO s d):=by
    show _=_;rw[HL.out,zip_drop hlt hlth,leastO_step]
   have C0:=Lk.of c0;have C1:=Lk.of c1;have I0:=ZH (HOK.out.ilo j hlt);have I1:=ZH (HOK.out.ihi j hlt);have M8:=M.new tyI #[iv6 j];have HB0:=ZH (M8.k (i:=3) rfl);have hjb:=(M8.k (i:=0) rfl).cell 0;have HJB:Hid ((wr.alloc (.cells #[iv6 j] tyI)).cell? ⟨wr.heap.size,0,none⟩=some (iv6 j)):=hjb;have HDT:Hid (Calls Tryz.prog 116 #[.slice AY y.length cY,.func (.func 117) #[] #[vptr w.heap.size,vptr wr.heap.size]] (wr.alloc (.cells #[iv6 j] tyI)) fun e w'=>RetP (wr.alloc (.cells #[iv6 j] tyI)) w' e (dotO 0 y (colL p j))):=by
    have h1:=pdot_any (caps:= #[vptr w.heap.size,vptr wr.heap.size]) (g:=117) (c:=cY) (f:=fun i=>(p.a.getD i []).getD j 0) (HY.out.below M8.bel) hyl2 (fun i hi=>HOK.out.ia i (by rw[←HYL.out];exact hi) j hlt) lst1_run (fun w' q i hi=>lst1_any (HB0.out.below q ZL) ((HP.out.below M8.bel).below q) (by rw[←HYL.out];exact hi) (by rw[HOK.out.rows i (by rw[←HYL.out];exact hi)];exact hlt) ((q.cell (p:=⟨wr.heap.size,0,none⟩) (World.block_lt_of_cell? _ _ HJB.out)).trans HJB.out));rw[dotF_eq _ (colL p j) y 0 0 (by unfold colL;rw[List.length_map,HYL.out];exact Nat.le_refl _) (fun i hi=>(colL_at (by unfold colL at hi;rw[List.length_map]at hi;exact hi)).symm)]at h1;exact h1
   clear hA0 hA1 c0 c1 HL hjb HB0 HJB q0;go_wp2_with fail;refine HDT.out.mono ?_;rintro e5 W5 ⟨q5,⟨dd,A5,c5,B5,e5',hd,rfl,hq5⟩|⟨hd,v,rfl⟩⟩
   ·have HC2:Hid (R=(((addC c j dd).bind fun d=>((mulO d (if d<0 then((p.hi.getD j 0:Int):Rat) else((p.lo.getD j 0:Int):Rat))).bind fun m=>addO sm m).bind fun t=>leastO p y c (j+1) t ((p.lo.zip p.hi).drop (j+1)))).bind fun s=>(dotO 0 y p.b).bind fun d=>subO s d):=HC.out.trans (by rw[hd];rfl);have HQ5:=ZH hq5;have HQS5:=ZH (HQ.out.below ((bA1 wr (.cells #[iv6 j] tyI)).trans (q5.mono (Nat.le_of_lt (by simp)))));replace M8:=M8.below q5;have M9:=M8.new 72 z4;have p5:=(M8.k (i:=0) rfl).lt;have p6:=(M8.k (i:=1) rfl).lt;clear HC HDT hd hq5 M;go_upto_region 6 with ((with_reducible refine st_ ?_);refine wP2 _ _ (M9.k (i:=0) rfl) rfl rfl rfl rfl info_rat rfl rfl ?_;intro w4 b4 g4;have HQ9:=ZH ((HQ5.out.below (bA1 _ _)).boxed ((M9.k (i:=0) rfl).box rfl) g4);have HQS9:=ZH ((HQS5.out.below (bA1 _ _)).boxed ((M9.k (i:=0) rfl).box rfl) g4);replace M9:=M9.row (by omega) (by simp;omega) rfl b4 g4;clear b4 g4);have HM9:=ZH M9;have I4:=ZH (HOK.out.ic j hlt);have hcl:p.c≠[]:=fun e=>by
     have h1:=HOK.out.c;rw[e]at h1;have h2:p.lo.length=0:=h1.symm;omega
    have HCL:=ZH hcl;clear hcl HQ5 HQS5 M8;simp only[Act.put];go_cut [22] (fun s22 wx=>s22= .bool c.isSome∧wx=w4)
    case first=>
     rcases HCV.out with ⟨rfl,rfl⟩|⟨rfl,h0|⟨gc,oc,cc,rfl,hrc⟩⟩
     ·go_wp2_with fail;go_meet;exact⟨rfl,rfl⟩
     ·exact absurd h0 HCL.out
     ·go_wp2_with fail;go_meet;exact⟨rfl,rfl⟩
    case rest=>
     obtain⟨rfl,rfl⟩:=hcut;go_upto_if 22 with fail;go_cut [] (fun wx=>∃d A5 c5 B5 e5,addC c j dd=some d∧Mem w wx [(W5.heap.size,72,qcs d A5 c5 B5 e5),(wr.heap.size,tyI,#[iv6 j]),(g7,72,qcs sm A c' B e),(w.heap.size+1,72,z4),(w.heap.size,tyP,pgC m p)] []∧QR wx A5 c5 B5 e5 d∧QR wx A c' B e sm)
     case first=>
      rcases HCV.out with ⟨rfl,rfl⟩|⟨rfl,h0|⟨gc,oc,cc,rfl,hrc⟩⟩
      ·go_wp2_with fail;go_meet;exact⟨dd,A5,c5,B5,e5',rfl,HM9.out,HQ9.out,HQS9.out⟩
      ·exact absurd h0 HCL.out
      ·have HC3:Hid (R=(((addO dd (p.c.getD j 0)).bind fun d=>((mulO d (if d<0 then((p.hi.getD j 0:Int):Rat) else((p.lo.getD j 0:Int):Rat))).bind fun m=>addO sm m).bind fun t=>leastO p y (some p.c) (j+1) t ((p.lo.zip p.hi).drop (j+1)))).bind fun s=>(dotO 0 y p.b).bind fun d=>subO s d):=HC2.out;have M:=HM9.out;obtain⟨gc',oc',hA4,c4⟩:=(hrc.below M.bel) j (by rw[HOK.out.c];exact hlt);injection hA4 with hA4;injection hA4 with e1 e2;subst e1 e2;replace c4:wc.cell? ⟨gc,oc+j,none⟩=some (.int .i64 (p.c.getD j 0)):=c4;have C4:=Lk.of c4;have hjc:j<p.c.length:=by rw[HOK.out.c];exact hlt
       clear c4 hrc;have HAD:Hid (addC (some p.c) j dd=addO dd ((p.c.getD j 0:Int):Rat)):=rfl;generalize p.c.getD j 0=zc at*;go_upto_region 7 with fail;refine region_tail (n:=7) (frame:= ?frame2) (fun jK=>[kF (.agg #[.bool (sN dd.num),.slice A5 (sD dd.num).length c5,.bool false,.slice B5 (dig dd.den).length e5']),kF (.slice (some ⟨gc,oc,none⟩) p.c.length cc),kI ((j:Nat)),kP gc (oc+j),kI zc,.val (Sh.rq (some (zc:Rat))),.val (Sh.rq (addO dd (zc:Rat)))].getD jK .none) (fun s' w'=>∃d A5 c5 B5 e5,addC (some p.c) j dd=some d∧Mem w w' [(W5.heap.size,72,qcs d A5 c5 B5 e5),(wr.heap.size,tyI,#[iv6 j]),(g7,72,qcs sm A c' B e),(w.heap.size+1,72,z4),(w.heap.size,tyP,pgC m p)] []∧QR w' A5 c5 B5 e5 d∧QR w' A c' B e sm) _ (by kernel_rfl) (by kernel_rfl) (by kernel_rfl) rfl rfl (by kernel_rfl) M.rebase ?_ ?_ ?_ ?_
       case refine_1=>
        intro s;simp only[fr,Act.put,zA,zB,zC,zD,zE,zF,Nat.reduceAdd];rfl
       case refine_2=>
        iterate 7 (refine SN ?_ ?_;rotate_left)
        exact Steps.nil;all_goals (intro L s w9 hN hU hi hS K hK;dsimp only at hK⊢;simp only[Act.put,zD,zE,zF]at hK)
        ·obtain⟨u1,u2,u3,u4⟩:=(hS.mem.k (i:=0) rfl).four;go_simp;exact hS.o hK
        ·go_simp;exact hS.o hK
        ·have u0:=(hS.mem.k (i:=1) rfl).cell 0;go_simp;exact hS.o hK
        ·simp only[hS.f hN 1,hS.f hN 2]at hK⊢;go_simp;exact hS.o hK
        ·simp only[hS.f hN 3]at hK⊢;have u0:=C4 _ hS.mem.bel;go_simp;exact hS.o hK
        ·simp only[hS.f hN 4]at hK⊢;go_simp;go_at_call 26;refine(pof_any I4.out.1 I4.out.2).mono ?_;rintro e9 w10 ⟨q,A9,c9,B9,d9,rfl,hq9⟩;exact hK.out _ _ (hS.val rfl (nSo rfl) q ⟨_,A9,c9,B9,d9,rfl,rfl,hq9⟩)
        ·simp only[hS.f hN 0]at hK⊢;obtain⟨q5,A5,c5,B5,d5,o5,e5,h5⟩:=hS.val_at 5 rfl (by decide) (hN.out 5 rfl);simp only[e5]at hK⊢;go_simp;go_at_call 118;refine(padd_any (HQ9.out.below hS.mem.bel) h5).mono ?_;rintro e9 w10 ⟨q,⟨q9,A9,c9,B9,d9,ho9,rfl,hq9⟩|⟨ho9,v9,rfl⟩⟩
         ·exact hK.out _ _ (hS.val rfl (nSo rfl) q ⟨q9,A9,c9,B9,d9,by have:=Option.some.inj o5;subst this;exact ho9,rfl,hq9⟩)
         ·exact⟨rfl,bT (bT M.bel hS.mem.bel) q,.inr ⟨HC3.out.trans (bind_n (bind_n (by have:=Option.some.inj o5;subst this;exact ho9))),v9,rfl⟩⟩
       case refine_3=>
        intro L s w9 hall hS K hK;dsimp only at hK⊢;simp only[Act.put,zD,zE,zF]at hK;obtain⟨q6,A6,c6,B6,d6,o6,e6,h6⟩:=hS.val_at 6 rfl (by decide) (hall 6 (by decide));simp only[e6]at hK⊢;refine ite_of rfl ?_;have m9:Mem w w9 [(W5.heap.size,72,qcs dd A5 c5 B5 e5'),(wr.heap.size,tyI,#[iv6 j]),(g7,72,qcs sm A c' B e),(w.heap.size+1,72,z4),(w.heap.size,tyP,pgC m p)] []:=M.below hS.mem.bel;have b9:=m9.k (i:=0) rfl;refine wp_store_row _ _ _ rfl W5.heap.size _ rfl rfl _ _ b9 info_rat rfl (by rw[←Array.all_toList];rfl) ?_;exact hK.out undef _ ⟨q6,A6,c6,B6,d6,HAD.out.trans o6,m9.row (by omega) (by simp;omega) rfl (b9.row _) (sRG _ _ _),h6.boxed (b9.box rfl) (sRG _ _ _),(HQS9.out.below hS.mem.bel).boxed (b9.box rfl) (sRG _ _ _)⟩
       intro s w9 hR;obtain⟨d,A6,c6,B6,e6,had,hm,hqd,hqs⟩:=hR;have HH:=ZH (show addC (some p.c) j dd=some d∧Mem w w9 _ _∧QR w9 A6 c6 B6 e6 d∧QR w9 A c' B e sm from⟨had,hm,hqd,hqs⟩);clear had hm hqd hqs;go_wp2_with fail;go_meet;exact⟨d,A6,c6,B6,e6,HH.out⟩
     case rest=>
      obtain⟨d,A6,c6,B6,e6,had,M,hqd,hqs⟩:=hcut;have HC3:Hid (R=(((mulO d (if d<0 then((p.hi.getD j 0:Int):Rat) else((p.lo.getD j 0:Int):Rat))).bind fun m=>addO sm m).bind fun t=>leastO p y c (j+1) t ((p.lo.zip p.hi).drop (j+1))).bind fun s=>(dotO 0 y p.b).bind fun d=>subO s d):=HC2.out.trans (by rw[had];rfl);have HQD:=ZH hqd;have HQS:=ZH hqs;have hE:Hid (∀z:Int,(if d<0 then p.hi.getD j 0 else p.lo.getD j 0)=z→(if d<0 then((p.hi.getD j 0:Int):Rat) else((p.lo.getD j 0:Int):Rat))=((z:Int):Rat)):=fun z e=>by
       rw[←e];split<;>rfl
      obtain⟨z,hz⟩:∃z:Int,(if d<0 then p.hi.getD j 0 else p.lo.getD j 0)=z:=⟨_,rfl⟩;rw[hE.out z hz]at HC3;have HIZ:Hid (-9223372036854775808≤z∧z≤9223372036854775807):=by
       show _∧_;rw[←hz];split
       ·exact I1.out
       ·exact I0.out
      obtain⟨gl,ol,hA0,c0⟩:=(HP.out.lo.below M.bel) j hlt;obtain⟨gh,oh,hA1,c1⟩:=(HP.out.hi.below M.bel) j hlth;replace c0:wc.cell? ⟨gl,ol+j,none⟩=some (.int .i64 (p.lo.getD j 0)):=c0;replace c1:wc.cell? ⟨gh,oh+j,none⟩=some (.int .i64 (p.hi.getD j 0)):=c1;have C0:=Lk.of c0;have C1:=Lk.of c1;have HM0:=ZH M;obtain⟨x0,x1,x2,x3,x4⟩:=(M.k (i:=4) rfl).fiveP;rw[hA0]at x0;rw[hA1]at x1;have X1:=Lk.of x1;have jb:wc.cell? ⟨wr.heap.size,0,none⟩=some (iv6 j):=(M.k (i:=1) rfl).cell 0;have JB:=Lk.of jb;obtain⟨y1,y2,y3,y4⟩:=(M.k (i:=0) rfl).four;have hs3:(sgnQ d=1∧¬d<0)∨(sgnQ d= -1∧d<0)∨(sgnQ d=0∧¬d<0):=by
       rcases sgn_three d with h|h|h
       ·exact .inl ⟨h,fun h2=>absurd (Std.lt_trans (sgn_pos h) h2) Rat.lt_irrefl⟩
       ·exact .inr (.inl ⟨h,sgn_neg h⟩)
       ·exact .inr (.inr ⟨h,(sgn_zero h).2⟩)
      have HZZ:=ZH hz;clear hz HC2 HM9 HQ9 HQS9 had hqd hqs I4 hA0 hA1 c1 hE;generalize p.lo.getD j 0=zl at*;generalize p.hi.getD j 0=zh at*;go_wp2_with fail;refine(psign_any (p:=d)).mono ?_;rintro e7 W6 ⟨rfl,q6⟩;have M6:=M.below q6;have HQD6:=ZH (HQD.out.below q6);have HQS6:=ZH (HQS.out.below q6);have x1:=X1 _ q6;have c1:=C1 _ q6;have jb:=JB _ q6;clear x0 x2 x3 x4 y1 y2 y3 y4 c0 C0 HQD HQS HM0 M;generalize sgnQ d=sg at*;go_upto_if 37 with fail;go_cut [10] (fun s10 wx=>s10= .int .i64 z∧wx=W6)
      case first=>
       rcases hs3 with ⟨rfl,hd⟩|⟨rfl,hd⟩|⟨rfl,hd⟩
       ·go_wp2_with fail;go_meet;exact⟨by rw[←HZZ.out,if_neg hd],rfl⟩
       ·go_wp2_with fail;go_meet;exact⟨by rw[←HZZ.out,if_pos hd],rfl⟩
       ·go_wp2_with fail;go_meet;exact⟨by rw[←HZZ.out,if_neg hd],rfl⟩
      case rest=>
       obtain⟨rfl,rfl⟩:=hcut;clear x1 c1 jb X1 C1 JB hs3 HZZ I0 I1;have M:=M6;clear M6 q6;go_upto_region 11 with fail;refine region_tail (n:=6) (frame:= ?frame3) (fun jK=>[kF (qv sm A c' B e),kF (qv d A6 c6 B6 e6),kI z,.val (Sh.rq (some (z:Rat))),.val (Sh.rq (mulO d (z:Rat))),.val (Sh.rq ((mulO d (z:Rat)).bind fun p=>addO sm p))].getD jK .none) (fun s' w'=>∃q9 A9 c9 B9 d9,Hid (R=(leastO p y c (j+1) q9 ((p.lo.zip p.hi).drop (j+1))).bind fun s=>(dotO 0 y p.b).bind fun d=>subO s d)∧Mem w w' [(g7,72,qcs q9 A9 c9 B9 d9),(w.heap.size+1,72,z4),(w.heap.size,tyP,pgC m p)] []∧Hid (QR w' A9 c9 B9 d9 q9)) _ (by kernel_rfl) (by kernel_rfl) (by kernel_rfl) rfl rfl (by kernel_rfl) M.rebase ?_ ?_ ?_ ?_
       case refine_1=>
        intro s;simp only[fr,Act.put,zA,zB,zC,zD,zE,zF,Nat.reduceAdd];rfl
       case refine_2=>
        iterate 6 (refine SN ?_ ?_;rotate_left)
        exact Steps.nil;all_goals (intro L s w9 hN hU hi hS K hK;dsimp only at hK⊢;simp only[Act.put,zD,zE,zF]at hK)
        ·obtain⟨u1,u2,u3,u4⟩:=(hS.mem.k (i:=2) rfl).four;go_simp;exact hS.o hK
        ·obtain⟨u1,u2,u3,u4⟩:=(hS.mem.k (i:=0) rfl).four;go_simp;exact hS.o hK
        ·go_simp;exact hS.o hK
        ·simp only[hS.f hN 2]at hK⊢;go_simp;go_at_call 26;refine(pof_any HIZ.out.1 HIZ.out.2).mono ?_;rintro e9 w10 ⟨q,A9,c9,B9,d9,rfl,hq9⟩;exact hK.out _ _ (hS.val rfl (nSo rfl) q ⟨_,A9,c9,B9,d9,rfl,rfl,hq9⟩)
        ·simp only[hS.f hN 1]at hK⊢;obtain⟨q3,A3,c3,B3,d3,o3,e3,h3⟩:=hS.val_at 3 rfl (by decide) (hN.out 3 rfl);simp only[e3]at hK⊢;go_simp;go_at_call 119;refine(pmul_any (HQD6.out.below hS.mem.bel) h3).mono ?_;rintro e9 w10 ⟨q,⟨q9,A9,c9,B9,d9,ho9,rfl,hq9⟩|⟨ho9,v9,rfl⟩⟩
         ·exact hK.out _ _ (hS.val rfl (nSo rfl) q ⟨q9,A9,c9,B9,d9,by have:=Option.some.inj o3;subst this;exact ho9,rfl,hq9⟩)
         ·exact⟨rfl,bT (bT M.bel hS.mem.bel) q,.inr ⟨HC3.out.trans (bind_n (bind_n (bind_n (by have:=Option.some.inj o3;subst this;exact ho9)))),v9,rfl⟩⟩
        ·simp only[hS.f hN 0]at hK⊢;obtain⟨q4,A4,c4,B4,d4,o4,e4,h4⟩:=hS.val_at 4 rfl (by decide) (hN.out 4 rfl);simp only[e4]at hK⊢;go_simp;go_at_call 118;refine(padd_any (HQS6.out.below hS.mem.bel) h4).mono ?_;rintro e9 w10 ⟨q,⟨q9,A9,c9,B9,d9,ho9,rfl,hq9⟩|⟨ho9,v9,rfl⟩⟩
         ·exact hK.out _ _ (hS.val rfl (nSo rfl) q ⟨q9,A9,c9,B9,d9,bind_s o4 ho9,rfl,hq9⟩)
         ·exact⟨rfl,bT (bT M.bel hS.mem.bel) q,.inr ⟨HC3.out.trans (bind_n (bind_n (bind_sn o4 ho9))),v9,rfl⟩⟩
       case refine_3=>
        intro L s w9 hall hS K hK;dsimp only at hK⊢;simp only[Act.put,zD,zE,zF]at hK;obtain⟨q5,A5,c5,B5,d5,o5,e5,h5⟩:=hS.val_at 5 rfl (by decide) (hall 5 (by decide));simp only[e5]at hK⊢;refine ite_of rfl ?_;have m9:Mem w w9 [(g7,72,qcs sm A c' B e),(w.heap.size+1,72,z4),(w.heap.size,tyP,pgC m p)] []:=(M.below hS.mem.bel).sub (by simp) (by simp);have b9:=m9.k (i:=0) rfl;refine wp_store_row _ _ _ rfl g7 _ rfl rfl _ _ b9 info_rat rfl (by rw[←Array.all_toList];rfl) ?_;exact hK.out undef _ ⟨q5,A5,c5,B5,d5,HC3.out.trans (by rw[o5];rfl),m9.row (by omega) (by simp;omega) rfl (b9.row _) (sRG _ _ _),h5.boxed (b9.box rfl) (sRG _ _ _)⟩
       intro s w9 hR;obtain⟨q9,A9,c9,B9,d9,HR9,M9,HQ9⟩:=hR;go_wp2_with fail;go_roundg (p.lo.length-(j+1))
       case measure=>omega
       case rel=>exact⟨j+1,q9,A9,c9,B9,d9,rfl,by omega,by simp,HR9.out,M9,HQ9⟩
   ·go_wp2_with fail;exact⟨rfl,bT M8.bel q5,.inr ⟨HC.out.trans (bind_n (bind_n hd)),v,rfl⟩⟩
  ·have d1:decide ((j:Int)<(p.lo.length:Int))=false:=dF (by omega);have HC2:Hid (R=(dotO 0 y p.b).bind fun d=>subO sm d):=by
    show _=_;rw[HL.out,List.drop_eq_nil_of_le (by rw[List.length_zip];omega)];rfl
   have HBP:=ZH (M.k (i:=2) rfl);have HDT:Hid (∀w',Below w.heap.size w w'→Blk w' w.heap.size tyP (pgC m p)→Calls Tryz.prog 116 #[.slice AY y.length cY,.func (.func 121) #[] #[vptr w.heap.size]] w' fun e w2=>RetP w' w2 e (dotO 0 y p.b)):=fun w' q hb=>by
    have h1:=pdot_any (caps:= #[vptr w.heap.size]) (g:=121) (c:=cY) (f:=fun i=>p.b.getD i 0) (HY.out.below q) hyl2 (fun i hi=>HOK.out.ib i (by rw[←HYL.out];exact hi)) lst2_run (fun w2 q2 i hi=>lst2_any (hb.below q2 ZL) (((HP.out.below q).below q2).b) (by rw[HOK.out.b,←HYL.out];exact hi));rw[dotF_eq _ p.b y 0 0 (by rw[HOK.out.b,HYL.out];exact Nat.le_refl _) (fun i hi=>rfl)]at h1;exact h1
   clear HL;go_upto_region 13 with fail;refine region_tail (n:=5) (frame:= ?frame4) (fun jK=>[kF (qv sm A c' B e),kF (.slice AY y.length cY),kF (.func (.func 121) #[] #[vptr w.heap.size]),.val (Sh.rq (dotO 0 y p.b)),.val (Sh.rq ((dotO 0 y p.b).bind fun d=>subO sm d))].getD jK .none) (fun s' w'=>∃q9 A9 c9 B9 d9,Hid (R=some q9)∧Mem w w' [(w.heap.size+1,72,qcs q9 A9 c9 B9 d9)] []∧Hid (QR w' A9 c9 B9 d9 q9)) _ (by kernel_rfl) (by kernel_rfl) (by kernel_rfl) rfl rfl (by kernel_rfl) M.rebase ?_ ?_ ?_ ?_
   case refine_1=>
    intro s;simp only[fr,Act.put,zA,zB,zC,zD,zE,zF,Nat.reduceAdd];rfl
   case refine_2=>
    iterate 5 (refine SN ?_ ?_;rotate_left)
    exact Steps.nil;all_goals (intro L s w9 hN hU hi hS K hK;dsimp only at hK⊢;simp only[Act.put,zD,zE,zF]at hK)
    ·obtain⟨u1,u2,u3,u4⟩:=(hS.mem.k (i:=0) rfl).four;go_simp;exact hS.o hK
    iterate 2 (go_simp;exact hS.o hK)
    ·simp only[hS.f hN 1,hS.f hN 2]at hK⊢;go_simp;go_at_call 116;refine(HDT.out _ (bT M.bel hS.mem.bel) (hS.mem.k (i:=2) rfl)).mono ?_;rintro e9 w10 ⟨q,⟨q9,A9,c9,B9,d9,ho9,rfl,hq9⟩|⟨ho9,v9,rfl⟩⟩
     ·exact hK.out _ _ (hS.val rfl (nSo rfl) q ⟨q9,A9,c9,B9,d9,ho9,rfl,hq9⟩)
     ·exact⟨rfl,bT (bT M.bel hS.mem.bel) q,.inr ⟨HC2.out.trans (bind_n ho9),v9,rfl⟩⟩
    ·simp only[hS.f hN 0]at hK⊢;obtain⟨q3,A3,c3,B3,d3,o3,e3,h3⟩:=hS.val_at 3 rfl (by decide) (hN.out 3 rfl);simp only[e3]at hK⊢;go_simp;go_at_call 120;refine(psub_any (HQ.out.below hS.mem.bel) h3).mono ?_;rintro e9 w10 ⟨q,⟨q9,A9,c9,B9,d9,ho9,rfl,hq9⟩|⟨ho9,v9,rfl⟩⟩
     ·exact hK.out _ _ (hS.val rfl (nSo rfl) q ⟨q9,A9,c9,B9,d9,bind_s o3 ho9,rfl,hq9⟩)
     ·exact⟨rfl,bT (bT M.bel hS.mem.bel) q,.inr ⟨HC2.out.trans (bind_sn o3 ho9),v9,rfl⟩⟩
   case refine_3=>
    intro L s w9 hall hS K hK;dsimp only at hK⊢;simp only[Act.put,zD,zE,zF]at hK;obtain⟨q4,A4,c4,B4,d4,o4,e4,h4⟩:=hS.val_at 4 rfl (by decide) (hall 4 (by decide));simp only[e4]at hK⊢;refine ite_of rfl ?_;have m9:Mem w w9 [(w.heap.size+1,72,z4)] []:=(M.below hS.mem.bel).sub (by simp) (by simp);have b9:=m9.k (i:=0) rfl;refine wp_store_row _ _ _ rfl (w.heap.size+1) _ rfl rfl _ _ b9 info_rat rfl (by rw[←Array.all_toList];rfl) ?_;exact hK.out undef _ ⟨q4,A4,c4,B4,d4,HC2.out.trans o4,m9.row (by omega) (by simp) rfl (b9.row _) (sRG _ _ _),h4.boxed (b9.box rfl) (sRG _ _ _)⟩
   intro s w9 hR;obtain⟨q9,A9,c9,B9,d9,HR9,M9,HQ9⟩:=hR;obtain⟨f1,f2,f3,f4⟩:=(M9.k (i:=0) rfl).four;clear HDT HC2 M;go_wp2_with fail;exact bodyPost_ret (v:=qv q9 A9 c9 B9 d9) (by simp[results,Tryz.results71,go_sem,f1,f2,f3,f4]) rfl ⟨M9.bel,.inl ⟨q9,A9,c9,B9,d9,HR9.out,rfl,HQ9.out⟩⟩
theorem bnd1_run (args:Array Value)(w:World):Sem.run Tryz.prog (callFunc 70 args) w= .ok (.enter 70 args) w:=by kernel_rfl
theorem bound1_any {w:World}{m:Pa}{p:Pg}{qs:List Rat}{A:Option Addr}{n c gp gy gq:Nat}{R:Option Rat}(hR:leastP p qs (some p.c)=R)(hn:n=qs.length)(hb:Blk w gp tyP (pgC m p))(hy:Blk w gy tyL #[.slice A n c])(hq:Blk w gq 72 z4)(hok:PgOk p)(hp:PgAt w m p)(hqs:QRow w A qs)(hl:qs.length=p.a.length):Calls Tryz.prog 70 #[vptr gp,vptr gy,vptr gq] w fun e w2=>Stp (fun k=>k=gq) w w2∧((e= .returned (.tuple #[])∧∃q A c B d,R=some q∧Blk w2 gq 72 (qcs q A c B d)∧QR w2 A c B d q)∨(ThrewX e∧R=none)):=by
 subst hn;have HL:=ZH (least_any (cY:=c) hp hok hqs hl hp.costV);rw[hR]at HL;have HQ:=ZH hq;have hgq:=hq.lt;obtain⟨p0,p1,p2,p3,p4⟩:=hb.fiveP;have y0:_=some (Value.slice A qs.length c):=hy.cell 0;clear hR hb hy hq hok hp hqs hl;go_enter Tryz.func70,Tryz.ntmps70;go_wp2_with fail;refine HL.out.mono ?_;rintro e w1 ⟨q1,⟨q,A1,c1,B1,d1,ho,rfl,hq1⟩|⟨ho,v9,rfl⟩⟩
 ·have HB:=ZH (HQ.out.below q1 ZL);have HO:=ZH ho;have HQ1:=ZH hq1;clear ho hq1;go_wp2_with ((with_reducible refine st_ ?_);refine wP2 _ _ HB.out rfl rfl rfl rfl info_rat rfl rfl ?_;intro w5 b5 g5');have hst:=Stp.grew (HB.out.box rfl) g5';exact⟨rfl,_,by simp[results,Tryz.results70,go_sem],(Stp.of q1).trans hst,.inl ⟨rfl,q,A1,c1,B1,d1,HO.out,b5,HQ1.out.boxed (HB.out.box rfl) g5'⟩⟩
 ·exact⟨rfl,Stp.of q1,.inr ⟨⟨v9,rfl⟩,ho⟩⟩
theorem bound_bad {w:World}{m:Pa}{p:Pg}{A:Option Addr}{c:Nat}{l:List Fr}(hp:PgAt w m p)(hz:PgSz p)(h:GRow w A l)(hs:l.length≤1000000)(hb:¬(rightPg p=true∧numbersB p l=true)):Calls Tryz.prog 39 #[.agg (pgC m p),.slice A l.length c] w fun e w'=>e= .returned (.tuple #[.agg z4,.int .i64 2])∧Below w.heap.size w w':=by
 have M:=(((Mem.start w).new tyP (pgC m p)).newAt (g:=w.heap.size+1) (by simp) tyL #[.slice A l.length c]).newAt (g:=w.heap.size+2) (by simp) 72 z4;have HR0:=ZH (pright_any (hp.below M.bel) hz);have HN0:=ZH (fun w' (q:Below w.heap.size w w')=>numbers_any (m:=m) (p:=p) (c:=c) (h.below q) hs);obtain⟨p0,p1,p2,p3,p4⟩:=(M.k (i:=2) rfl).fiveP;clear hp hz h hs;by_cases hR:rightPg p=true
 ·have hn:numbersB p l=false:=by
   cases hh:numbersB p l
   ·rfl
   ·exact absurd ⟨hR,hh⟩ hb
  rw[hR]at HR0;rw[hn]at HN0;clear hR hn hb;go_enter Tryz.func39,Tryz.ntmps39;go_wp2_with fail;refine HR0.out.mono ?_;rintro e w1 ⟨rfl,q1⟩;have M1:=M.below q1;have k1:_=some (Value.slice A l.length c):=(M1.k (i:=1) rfl).cell 0;obtain⟨p0,p1,p2,p3,p4⟩:=(M1.k (i:=2) rfl).fiveP;go_wp2_with fail;refine(HN0.out _ M1.bel).mono ?_;rintro e w2 ⟨rfl,q2⟩;have M2:=M1.below q2;go_wp2_with ((with_reducible refine st_ ?_);refine wP2 _ _ (M2.k (i:=0) rfl) rfl rfl rfl rfl info_rat rfl rfl ?_;intro w5 b5 g5';obtain⟨f0,f1,f2,f3⟩:=Blk.four b5);refine bodyPost_ret (v:= .tuple #[.agg z4,.int .i64 2]) (by simp[results,Tryz.results39,go_sem,f0,f1,f2,f3]) rfl ⟨rfl,?_⟩;exact((Stp.grew ((M2.k (i:=0) rfl).box rfl) g5').below M2.bel M2.bel.size (fun g e=>by omega))
 ·rw[Bool.not_eq_true]at hR;rw[hR]at HR0;clear hR hb;go_enter Tryz.func39,Tryz.ntmps39;go_wp2_with fail;refine HR0.out.mono ?_;rintro e w1 ⟨rfl,q1⟩;have M1:=M.below q1;go_wp2_with ((with_reducible refine st_ ?_);refine wP2 _ _ (M1.k (i:=0) rfl) rfl rfl rfl rfl info_rat rfl rfl ?_;intro w5 b5 g5';obtain⟨f0,f1,f2,f3⟩:=Blk.four b5);refine bodyPost_ret (v:= .tuple #[.agg z4,.int .i64 2]) (by simp[results,Tryz.results39,go_sem,f0,f1,f2,f3]) rfl ⟨rfl,?_⟩;exact((Stp.grew ((M1.k (i:=0) rfl).box rfl) g5').below M1.bel M1.bel.size (fun g e=>by omega))
def BndP (w w':World)(e:Ending)(o:Option Rat):Prop:=Below w.heap.size w w'∧((∃q A c B d,o=some q∧e= .returned (.tuple #[qv q A c B d,.int .i64 0])∧QR w' A c B d q)∨(o=none∧e= .returned (.tuple #[.agg z4,.int .i64 3])))
theorem bound_good {w:World}{m:Pa}{p:Pg}{A:Option Addr}{c n:Nat}{qs:List Rat}(hp:PgAt w m p)(hz:PgSz p)(h:GRow w A (qs.map frq))(hf:∀q∈qs,Few q)(hn:n=qs.length)(hr:rightPg p=true)(hb:numbersB p (qs.map frq)=true):Calls Tryz.prog 39 #[.agg (pgC m p),.slice A n c] w fun e w'=>BndP w w' e (leastP p qs (some p.c)):=by
 have hok:=ok_of_right hr;have hl:qs.length=p.a.length:=by
  unfold numbersB at hb;rw[Bool.and_eq_true,decide_eq_true_eq,List.length_map]at hb;exact hb.1
 have hmf:∀(fn:Fn)(first cap:Array Value)(w:World),(Instr.makeFunc fn first cap).run Tryz.prog w= .ok (.func fn first cap) w:=fun _ _ _ _=>rfl;have HN0:=ZH (fun w' (q:Below w.heap.size w w')=>numbers_any (m:=m) (p:=p) (c:=c) (h.below q) (by have:=hok.a;rw[List.length_map];omega));rw[hb,List.length_map,←hn]at HN0;have M:=(((Mem.start w).new tyP (pgC m p)).newAt (g:=w.heap.size+1) (by simp) tyL #[.slice A n c]).newAt (g:=w.heap.size+2) (by simp) 72 z4;have HR0:=ZH (pright_any (hp.below M.bel) hz);rw[hr]at HR0;obtain⟨R,hR⟩:∃R,leastP p qs (some p.c)=R:=⟨_,rfl⟩;have HB1:=ZH (fun(w':World)(gp gy gq:Nat)(q:Below w.heap.size w w')(b1:Blk w' gp tyP (pgC m p))(b2:Blk w' gy tyL #[.slice A n c])(b3:Blk w' gq 72 z4)=>bound1_any hR hn b1 b2 b3 hok (hp.below q) ((h.qrow hf).below q) hl);rw[hR];obtain⟨p0,p1,p2,p3,p4⟩:=(M.k (i:=2) rfl).fiveP;clear hp hz h hf hr hb hok hl hn hR;go_enter Tryz.func39,Tryz.ntmps39;go_wp2_with fail;refine HR0.out.mono ?_;rintro e w1 ⟨rfl,q1⟩;have M1:=M.below q1;have k1:_=some (Value.slice A n c):=(M1.k (i:=1) rfl).cell 0;clear p0 p1 p2 p3 p4;obtain⟨p0,p1,p2,p3,p4⟩:=(M1.k (i:=2) rfl).fiveP;go_wp2_with fail;refine(HN0.out _ M1.bel).mono ?_;rintro e w2 ⟨rfl,q2⟩;replace M1:=M1.below q2;clear M q1 q2 HR0 p0 p1 p2 p3 p4 k1;have M2:=M1.new 72 z4;have l1:=(M1.k (i:=0) rfl).lt;go_wp2_with fail;refine(guarded_any (Q:=fun w'=>∃q A c B d,R=some q∧Blk w' w2.heap.size 72 (qcs q A c B d)∧QR w' A c B d q) (N:=R=none) (S:=fun k=>k=w2.heap.size) bnd1_run ((HB1.out _ _ _ _ (bT M2.bel (bA1 _ _)) ((M2.k (i:=3) rfl).below (bA1 _ _) ZL) ((M2.k (i:=2) rfl).below (bA1 _ _) ZL) ((M2.k (i:=0) rfl).below (bA1 _ _) ZL)).mono ?_) ?_ ?_).mono ?_
 ·rintro e w3 ⟨hs,⟨rfl,h⟩|h⟩
  ·exact⟨hs,.inl ⟨rfl,h⟩⟩
  ·exact⟨hs,.inr h⟩
 ·intro k hk;subst hk;exact(M2.k (i:=0) rfl).lt
 ·rintro w3 w4 ⟨q,A,c,B,d,hr,hb,hq⟩ hbb k;exact⟨q,A,c,B,d,hr,hb.stp k (fun h=>by have:=(M2.k (i:=0) rfl).lt;omega),hq.stp k⟩
 rintro e w3 ⟨hs3,⟨rfl,q,A1,c1,B1,d1,hr,hb,hq⟩|⟨rfl,hn⟩⟩
 ·have hb2:Blk w3 (w.heap.size+2) 72 z4:=(M2.k (i:=1) rfl).stp hs3 (fun h=>by omega);obtain⟨x0,x1,x2,x3⟩:=hb.four;have HQ1:=ZH hq;have HB2:=ZH hb2;have HO:=ZH hr;have HQ:=ZH (hs3.below M2.bel M2.bel.size (fun g e=>by omega));clear hr hb hq hb2 hs3 HB1 HN0;go_wp2_with ((with_reducible refine st_ ?_);refine wP2 _ _ HB2.out rfl rfl rfl rfl info_rat rfl rfl ?_;intro w5 b5 g5';obtain⟨f0,f1,f2,f3⟩:=Blk.four b5);have hst:=Stp.grew (HB2.out.box rfl) g5';refine bodyPost_ret (v:= .tuple #[qv q A1 c1 B1 d1,.int .i64 0]) (by simp[results,Tryz.results39,go_sem,f0,f1,f2,f3]) rfl ⟨?_,.inl ⟨q,A1,c1,B1,d1,HO.out,rfl,HQ1.out.boxed (HB2.out.box rfl) g5'⟩⟩;exact hst.below HQ.out HQ.out.size (fun g e=>by omega)
 ·have hb2:Blk w3 (w.heap.size+2) 72 z4:=(M2.k (i:=1) rfl).stp hs3 (fun h=>by omega);have HB2:=ZH hb2;have HO:=ZH hn;have HQ:=ZH (hs3.below M2.bel M2.bel.size (fun g e=>by omega));clear hn hb2 hs3 HB1 HN0;go_wp2_with ((with_reducible refine st_ ?_);refine wP2 _ _ HB2.out rfl rfl rfl rfl info_rat rfl rfl ?_;intro w5 b5 g5';obtain⟨f0,f1,f2,f3⟩:=Blk.four b5);have hst:=Stp.grew (HB2.out.box rfl) g5';refine bodyPost_ret (v:= .tuple #[.agg z4,.int .i64 3]) (by simp[results,Tryz.results39,go_sem,f0,f1,f2,f3]) rfl ⟨?_,.inr ⟨HO.out,rfl⟩⟩;exact hst.below HQ.out HQ.out.size (fun g e=>by omega)
end Go.Proofs.YtecfcjdgmpopjaaGreat

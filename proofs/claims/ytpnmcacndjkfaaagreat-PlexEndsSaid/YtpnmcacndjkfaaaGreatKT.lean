/-
  Joined texts: KY, KZ, KM, KN, KO, KP, KQ, KR, KS, KT.
-/
import Derived.Test.YtpnmcacndjkfaaaGreatKX
import Derived.Test.YtpnmcacndjkfaaaGreatDat
set_option maxHeartbeats 8000000
set_option maxRecDepth 100000
set_option linter.unusedSimpArgs false
set_option linter.unusedVariables false
namespace Go.Proofs.YtpnmcacndjkfaaaGreat
open Go.RowKit Num
theorem QRow.grow {w:World}{A:Option Addr}{l:List Rat}(h:QRow w A l):GRow w A (l.map frq):=fun j hj=>by
 rw[List.length_map]at hj;obtain⟨g,o,hA,A',c,B,d,h1,h2,h3,h4,h5⟩:=h j hj;have e:(l.map frq).getD j fr0=frq (l.getD j 0):=by
  rw[List.getD_eq_getElem?_getD,List.getD_eq_getElem?_getD,List.getElem?_map,List.getElem?_eq_getElem hj];rfl
 rw[e];exact⟨g,o,hA,A',c,B,d,h1,h2,h3,h4,h5.num,h5.den⟩
theorem proved1_any {w:World}{gp ga gq:Nat}{m:Pa}{p:Pg}{x y:List Rat}{v:Rat}{AX AY A B:Option Addr}{cX cY c d:Nat}(hbp:Blk w gp tyP (pgC m p))(hba:Blk w ga tyA (anC 1 x y v AX cX AY cY A c B d))(hbq:Blk w gq tyB #[.bool false])(hp:PgAt w m p)(hr:rightPg p=true)(hx:QRow w AX x)(hy:QRow w AY y)(hv:QR w A c B d v)(ho:OptP p x y v):Calls Tryz.prog 53 #[vptr gp,vptr ga,vptr gq] w fun e w2=>Stp (fun k=>k=gq) w w2∧e= .returned (.tuple #[])∧Blk w2 gq tyB #[.bool true]:=by
 have HC:=ZH (proved_good (cX:=cX) (cY:=cY) hp hr hx hy hy.grow hv ho);have HQ:=ZH hbq;obtain⟨p0,p1,p2,p3,p4⟩:=hbp.fiveP;obtain⟨x0,x1,x2,x3,x4,x5,x6⟩:=hba.seven;clear hp hr hx hy hv ho hbp hba hbq;go_enter Tryz.func53,Tryz.ntmps53;go_wp2_with fail;refine HC.out.mono ?_;rintro e w1 ⟨rfl,q1⟩;have hb:=HQ.out.below q1 ZL;have k0:w1.cell? ⟨gq,0,none⟩=some (.bool false):=hb.cell 0;have k1:=hb.frozen 0;have hst:=ZH ((Stp.of q1:Stp (fun k=>k=gq) w w1).trans (Stp.grew (hb.box rfl) (grown_setCell w1 gq 0 (.bool true))));have HB2:=ZH (hb.set_ 0 (.bool true));clear hb;go_wp2_with fail;exact⟨rfl,_,by simp[results,Tryz.results53,go_sem],hst.out,rfl,HB2.out⟩
theorem pproved_good {w:World}{m:Pa}{p:Pg}{x y:List Rat}{v:Rat}{AX AY A B:Option Addr}{cX cY c d:Nat}(hp:PgAt w m p)(hz:PgSz p)(hr:rightPg p=true)(hx:QRow w AX x)(hy:QRow w AY y)(hv:QR w A c B d v)(ho:OptP p x y v):Calls Tryz.prog 27 #[.agg (pgC m p),.agg (anC 1 x y v AX cX AY cY A c B d)] w fun e w'=>e= .returned (.bool true)∧Below w.heap.size w w':=by
 have hmf:∀(fn:Fn)(first cap:Array Value)(w:World),(Instr.makeFunc fn first cap).run Tryz.prog w= .ok (.func fn first cap) w:=fun _ _ _ _=>rfl;have M:=(((Mem.start w).new tyP (pgC m p)).newAt (g:=w.heap.size+1) (by simp) tyA (anC 1 x y v AX cX AY cY A c B d)).newAt (g:=w.heap.size+2) (by simp) tyB #[.bool false];have HR0:=ZH (pright_any (hp.below M.bel) hz);rw[hr]at HR0;have HG:=ZH (fun(w':World)(q:Below w.heap.size w w')(b1:Blk w' w.heap.size tyP (pgC m p))(b2:Blk w' (w.heap.size+1) tyA (anC 1 x y v AX cX AY cY A c B d))(b3:Blk w' (w.heap.size+2) tyB #[.bool false])=>proved1_any b1 b2 b3 (hp.below q) hr (hx.below q) (hy.below q) (hv.below q) ho);obtain⟨p0,p1,p2,p3,p4⟩:=(M.k (i:=2) rfl).fiveP;clear hp hz hr hx hy hv ho;go_enter Tryz.func27,Tryz.ntmps27;go_wp2_with fail;refine HR0.out.mono ?_;rintro e w1 ⟨rfl,q1⟩;replace M:=M.below q1;have l1:=(M.k (i:=0) rfl).lt;clear q1 HR0 p0 p1 p2 p3 p4;go_wp2_with fail;refine(guarded_any (Q:=fun w'=>Blk w' (w.heap.size+2) tyB #[.bool true]) (N:=False) (S:=fun k=>k=w.heap.size+2) prd1_run ((HG.out _ (below_trans M.bel (below_alloc1 _ _)) ((M.k (i:=2) rfl).below (below_alloc1 _ _) ZL) ((M.k (i:=1) rfl).below (below_alloc1 _ _) ZL) ((M.k (i:=0) rfl).below (below_alloc1 _ _) ZL)).mono ?_) ?_ ?_).mono ?_
 ·rintro e w3 ⟨hs,rfl,h⟩;exact⟨hs,.inl ⟨rfl,h⟩⟩
 ·intro k hk;subst hk;exact l1
 ·rintro w3 w4 hb hbb k;exact hb.stp k (fun h=>by omega)
 rintro e w3 ⟨hs3,⟨rfl,hb⟩|⟨_,hn⟩⟩
 ·have k0:w3.cell? ⟨w.heap.size+2,0,none⟩=some (.bool true):=hb.cell 0;have HQ:=ZH (hs3.below M.bel M.bel.size (fun g e=>by omega));clear hs3 hb HG M;go_wp2_with fail;exact bodyPost_ret (v:= .bool true) (by simp[results,Tryz.results27,go_sem]) rfl ⟨rfl,HQ.out⟩
 ·exact hn.elim
def pA:Pg:=⟨[0,0],[3,3],[[1,2],[2,1]],[4,4],[-1,-1]⟩
def pB:Pg:=⟨[2],[3],[[1]],[1],[0]⟩
theorem sol_A:solveT pA 100=⟨1,[4/3,4/3],some (-8/3),[1/3,1/3]⟩:=by kernel_rfl
theorem sol_B:solveT pB 100=⟨2,[],none,[1]⟩:=by kernel_rfl
theorem right_A:rightPg pA=true:=by kernel_rfl
theorem right_B:rightPg pB=true:=by kernel_rfl
theorem IRow.blk {w:World}{g:Nat}{t:TypeId}{l:List Int}(h:Blk w g t (l.map fun z=>Value.int .i64 z).toArray):IRow w (some ⟨g,0,none⟩) l:=fun j hj=>by
 refine⟨g,0,rfl,?_⟩;have h1:=h.cell j;rw[Nat.zero_add];refine h1.trans ?_;rw[List.getElem?_toArray,List.getElem?_map,List.getElem?_eq_getElem hj];show _=some (Value.int .i64 (l.getD j 0));rw[List.getD_eq_getElem?_getD,List.getElem?_eq_getElem hj];rfl
theorem sz_of {p:Pg}(h:rightPg p=true):PgSz p:=by
 have hok:=ok_of_right h;have h1:=hok.hi;have h2:=hok.c;have h3:=hok.b;have h4:=hok.n;have h5:=hok.a;exact⟨by omega,by omega,by omega,by omega,by omega,fun i hi=>by have:=hok.rows i hi;omega⟩
abbrev mkA (a b r s e c d:Nat):Pa:=⟨(some ⟨a,0,none⟩,2),(some ⟨b,0,none⟩,2),(some ⟨e,0,none⟩,2),(some ⟨c,0,none⟩,2),(some ⟨d,0,none⟩,2),[(some ⟨r,0,none⟩,2),(some ⟨s,0,none⟩,2)]⟩
theorem pg_A {w:World}{a b r s e c d:Nat}(ha:Blk w a 2 #[.int .i64 0,.int .i64 0])(hb:Blk w b 2 #[.int .i64 3,.int .i64 3])(hr:Blk w r 2 #[.int .i64 1,.int .i64 2])(hs:Blk w s 2 #[.int .i64 2,.int .i64 1])(he:Blk w e tyW #[.slice (some ⟨r,0,none⟩) 2 2,.slice (some ⟨s,0,none⟩) 2 2])(hc:Blk w c 2 #[.int .i64 4,.int .i64 4])(hd:Blk w d 2 #[.int .i64 (-1),.int .i64 (-1)]):PgAt w (mkA a b r s e c d) pA:=by
 refine⟨IRow.blk ha,IRow.blk hb,IRow.blk hc,IRow.blk hd,fun i hi=> ?_,fun i hi=> ?_⟩
 ·match i,hi with
  |0,_=>exact⟨_,0,rfl,he.cell 0⟩
  |1,_=>exact⟨_,0,rfl,he.cell 1⟩
 ·match i,hi with
  |0,_=>exact IRow.blk hr
  |1,_=>exact IRow.blk hs
abbrev mkB (a b r e c d:Nat):Pa:=⟨(some ⟨a,0,none⟩,1),(some ⟨b,0,none⟩,1),(some ⟨e,0,none⟩,1),(some ⟨c,0,none⟩,1),(some ⟨d,0,none⟩,1),[(some ⟨r,0,none⟩,1)]⟩
theorem pg_B {w:World}{a b r e c d:Nat}(ha:Blk w a 2 #[.int .i64 2])(hb:Blk w b 2 #[.int .i64 3])(hr:Blk w r 2 #[.int .i64 1])(he:Blk w e tyW #[.slice (some ⟨r,0,none⟩) 1 1])(hc:Blk w c 2 #[.int .i64 1])(hd:Blk w d 2 #[.int .i64 0]):PgAt w (mkB a b r e c d) pB:=by
 refine⟨IRow.blk ha,IRow.blk hb,IRow.blk hc,IRow.blk hd,fun i hi=> ?_,fun i hi=> ?_⟩
 ·match i,hi with
  |0,_=>exact⟨_,0,rfl,he.cell 0⟩
 ·match i,hi with
  |0,_=>exact IRow.blk hr
theorem opt_A:OptP pA [4/3,4/3] [1/3,1/3] (-8/3):=by
 refine⟨⟨rfl,fun j hj=> ?_,fun j hj=> ?_,fun i hi=> ?_⟩,by kernel_rfl,fun q hq=> ?_,by kernel_rfl,by kernel_rfl⟩
 ·match j,hj with
  |0,_=>decide+kernel
  |1,_=>decide+kernel
 ·match j,hj with
  |0,_=>decide+kernel
  |1,_=>decide+kernel
 ·match i,hi with
  |0,_=>exact⟨4,by kernel_rfl,by decide+kernel⟩
  |1,_=>exact⟨4,by kernel_rfl,by decide+kernel⟩
 ·have:q=1/3:=by simpa using hq
  subst this;exact⟨by decide+kernel,by decide+kernel⟩
theorem sol_A2:∃(xs ys:List Rat)(v:Rat),solveT pA 100=⟨1,xs,some v,ys⟩∧OptP pA xs ys v∧qtextR (sN v.num) (sD v.num) false (dig v.den)=([45,56,47,51],0):=⟨_,_,_,sol_A,opt_A,by kernel_rfl⟩
theorem sol_B2:∃(ys:List Rat),solveT pB 100=⟨2,[],none,ys⟩∧ys.length=1:=⟨_,sol_B,rfl⟩
theorem plalive_any (w:World):Calls Tryz.prog 9 #[] w fun e w'=>e= .returned (.bool true)∧Below w.heap.size w w':=by
 go_enter Tryz.func9,Tryz.ntmps9;go_wp2_with fail;have M:=(((((((Mem.start w).new 2 #[.int .i64 0,.int .i64 0]).newAt (g:=w.heap.size+1) (by simp) 2 #[.int .i64 3,.int .i64 3]).newAt (g:=w.heap.size+1+1) (by simp) 2 #[.int .i64 1,.int .i64 2]).newAt (g:=w.heap.size+1+1+1) (by simp) 2 #[.int .i64 2,.int .i64 1]).newAt (g:=w.heap.size+1+1+1+1) (by simp) tyW #[.slice (some ⟨w.heap.size+1+1,0,none⟩) 2 2,.slice (some ⟨w.heap.size+1+1+1,0,none⟩) 2 2]).newAt (g:=w.heap.size+1+1+1+1+1) (by simp) 2 #[.int .i64 4,.int .i64 4]).newAt (g:=w.heap.size+1+1+1+1+1+1) (by simp) 2 #[.int .i64 (-1),.int .i64 (-1)];have HPA:=ZH (pg_A (M.k (i:=6) rfl) (M.k (i:=5) rfl) (M.k (i:=4) rfl) (M.k (i:=3) rfl) (M.k (i:=2) rfl) (M.k (i:=1) rfl) (M.k (i:=0) rfl));have hlt:=(M.k (i:=0) rfl).lt;have HQ0:=ZH M.bel;replace M:=(M.rebase).newAt (g:=w.heap.size+1+1+1+1+1+1+1) (by simp) tyP (pgC (mkA w.heap.size (w.heap.size+1) (w.heap.size+1+1) (w.heap.size+1+1+1) (w.heap.size+1+1+1+1) (w.heap.size+1+1+1+1+1) (w.heap.size+1+1+1+1+1+1)) pA);obtain⟨xs,ys,v,hsa,hoa,htx⟩:=sol_A2;obtain⟨zs,hsb,hzl⟩:=sol_B2;have HOA:=ZH hoa;have HTX:=ZH htx;have HSB:=ZH hsb;have HZL:=ZH hzl;have hs:=solve_good (n:=100) (HPA.out.below M.bel) (sz_of right_A) right_A;rw[hsa]at hs;refine hs.mono ?_;clear hsa hoa htx hsb hzl hs;rintro e w1 ⟨v1,rfl,⟨AX,cX,AY,cY,hx,hy,A,c,B,d,rfl,hv⟩,q1⟩;replace M:=M.below q1;have HX:=ZH hx;have HY:=ZH hy;have HV:=ZH hv;have HW1:=ZH M.bel;have hl1:=(M.k (i:=0) rfl).lt;clear hx hy hv q1;go_wp2_with fail;have M2:=((((((M.new tyA (anC 1 xs ys v AX cX AY cY A c B d)).newAt (g:=w1.heap.size+1) (by simp) 2 #[.int .i64 2]).newAt (g:=w1.heap.size+1+1) (by simp) 2 #[.int .i64 3]).newAt (g:=w1.heap.size+1+1+1) (by simp) 2 #[.int .i64 1]).newAt (g:=w1.heap.size+1+1+1+1) (by simp) tyW #[.slice (some ⟨w1.heap.size+1+1+1,0,none⟩) 1 1]).newAt (g:=w1.heap.size+1+1+1+1+1) (by simp) 2 #[.int .i64 1]).newAt (g:=w1.heap.size+1+1+1+1+1+1) (by simp) 2 #[.int .i64 0];have hpB:=pg_B (M2.k (i:=5) rfl) (M2.k (i:=4) rfl) (M2.k (i:=3) rfl) (M2.k (i:=2) rfl) (M2.k (i:=1) rfl) (M2.k (i:=0) rfl);have hs:=solve_good (n:=100) hpB (sz_of right_B) right_B;rw[HSB.out]at hs;refine hs.mono ?_;clear hs hpB HSB;rintro e w2 ⟨v2,rfl,⟨AX2,cX2,AZ,cZ,hx,hz,rfl⟩,q2⟩;replace M:=(M2.below q2).sub (Ks':=[(w1.heap.size,tyA,anC 1 xs ys v AX cX AY cY A c B d),(w.heap.size+1+1+1+1+1+1+1,tyP,pgC (mkA w.heap.size (w.heap.size+1) (w.heap.size+1+1) (w.heap.size+1+1+1) (w.heap.size+1+1+1+1) (w.heap.size+1+1+1+1+1) (w.heap.size+1+1+1+1+1+1)) pA)]) (Rs':=[]) (by simp) (by simp);have HS2:Hid (Below w1.heap.size w1 w2):=(((Mem.start w1).new tyA (anC 1 xs ys v AX cX AY cY A c B d)).newAt (g:=w1.heap.size+1) (by simp) 2 #[.int .i64 2]|>.newAt (g:=w1.heap.size+1+1) (by simp) 2 #[.int .i64 3]|>.newAt (g:=w1.heap.size+1+1+1) (by simp) 2 #[.int .i64 1]|>.newAt (g:=w1.heap.size+1+1+1+1) (by simp) tyW #[.slice (some ⟨w1.heap.size+1+1+1,0,none⟩) 1 1]|>.newAt (g:=w1.heap.size+1+1+1+1+1) (by simp) 2 #[.int .i64 1]|>.newAt (g:=w1.heap.size+1+1+1+1+1+1) (by simp) 2 #[.int .i64 0]|>.below q2).bel;have hl2:=(M.k (i:=0) rfl).lt;rw[HZL.out];clear hx hz q2 M2;have M3:=M.new tyA #[.int .i64 2,.slice AX2 0 cX2,.bool false,.slice none 0 0,.bool false,.slice none 0 0,.slice AZ 1 cZ];have HS3:Hid (Below w1.heap.size w1 (w2.alloc (.cells #[.int .i64 2,.slice AX2 0 cX2,.bool false,.slice none 0 0,.bool false,.slice none 0 0,.slice AZ 1 cZ] tyA))):=below_alloc HS2.out ZL _;obtain⟨x0,x1,x2,x3,x4,x5,x6⟩:=(M3.k (i:=1) rfl).seven;go_wp2_with fail;refine(qtext_any (n:=sN v.num) (m:=false) (HV.out.below HS3.out).num (HV.out.below HS3.out).den).mono ?_;rw[HTX.out];rintro e w4 ⟨rfl,q4⟩;have M4:=M3.below q4;have HS4:=ZH (below_trans HS3.out q4);have HB4:=ZH (HPA.out.below M4.bel);clear x0 x1 x2 x3 x4 x5 x6 M M3 HTX;obtain⟨x0,x1,x2,x3,x4,x5,x6⟩:=(M4.k (i:=1) rfl).seven;obtain⟨p0,p1,p2,p3,p4⟩:=(M4.k (i:=2) rfl).fiveP;go_wp2_with fail;refine(pproved_good (cX:=cX) (cY:=cY) HB4.out (sz_of right_A) right_A (HX.out.below HS4.out) (HY.out.below HS4.out) (HV.out.below HS4.out) HOA.out).mono ?_;rintro e w5 ⟨rfl,q5⟩;have M5:=M4.below q5;clear x0 x1 x2 x3 x4 x5 x6 p0 p1 p2 p3 p4 M4;obtain⟨x0,x1,x2,x3,x4,x5,x6⟩:=(M5.k (i:=0) rfl).seven;obtain⟨p0,p1,p2,p3,p4⟩:=(M5.k (i:=2) rfl).fiveP;go_wp2_with fail;have hr:=pright_any (HPA.out.below M5.bel) (sz_of right_A);rw[right_A]at hr;refine hr.mono ?_;rintro e w6 ⟨rfl,q6⟩;have M6:=M5.below q6;go_wp2;go_ret;exact⟨rfl,below_trans HQ0.out M6.bel⟩
structure Sr where
 n:Bool
 xs:List Nat
 m:Bool
 ys:List Nat
 big:Bool
def RetSm (w w':World)(e:Ending)(r:Sr):Prop:=(∃A c B d,e= .returned (.agg #[.bool r.n,.slice A r.xs.length c,.bool r.m,.slice B r.ys.length d,.bool r.big])∧Rd w' A c r.xs∧Rd w' B d r.ys)∧Below w.heap.size w w'
abbrev tyR:TypeId:=25
theorem rone_any {w:World}{z:Int}:Calls Tryz.prog 65 #[.int .i64 z] w fun e w'=>e= .returned (.bool (decide (-1048576≤z)&&decide (z≤1048576)))∧Below w.heap.size w w':=by
 by_cases h1: -1048576≤z
 ·have d1:decide (-1048576≤z)=true:=decide_eq_true h1;by_cases h2:z≤1048576
  ·have d2:decide (z≤1048576)=true:=decide_eq_true h2;have HR:Hid ((decide (-1048576≤z)&&decide (z≤1048576))=true):=by
    show _=_;rw[d1,d2];rfl
   obtain⟨R,hR⟩:∃R,(decide (-1048576≤z)&&decide (z≤1048576))=R:=⟨_,rfl⟩;rw[hR]at HR⊢;clear hR;go_enter Tryz.func65,Tryz.ntmps65;go_wp2_with fail;exact bodyPost_ret (v:= .bool true) (by simp[results,Tryz.results65,go_sem]) rfl ⟨by rw[HR.out],Below.refl _ _⟩
  ·have d2:decide (z≤1048576)=false:=decide_eq_false h2;have HR:Hid ((decide (-1048576≤z)&&decide (z≤1048576))=false):=by
    show _=_;rw[d1,d2];rfl
   obtain⟨R,hR⟩:∃R,(decide (-1048576≤z)&&decide (z≤1048576))=R:=⟨_,rfl⟩;rw[hR]at HR⊢;clear hR;go_enter Tryz.func65,Tryz.ntmps65;go_wp2_with fail;exact bodyPost_ret (v:= .bool false) (by simp[results,Tryz.results65,go_sem]) rfl ⟨by rw[HR.out],Below.refl _ _⟩
 ·have d1:decide (-1048576≤z)=false:=decide_eq_false h1;have HR:Hid ((decide (-1048576≤z)&&decide (z≤1048576))=false):=by
   show _=_;rw[d1];rfl
  obtain⟨R,hR⟩:∃R,(decide (-1048576≤z)&&decide (z≤1048576))=R:=⟨_,rfl⟩;rw[hR]at HR⊢;clear hR;go_enter Tryz.func65,Tryz.ntmps65;go_wp2_with fail;exact bodyPost_ret (v:= .bool false) (by simp[results,Tryz.results65,go_sem]) rfl ⟨by rw[HR.out],Below.refl _ _⟩
theorem rwithin_any {w:World}{A:Option Addr}{c:Nat}{l:List Int}(h:IRow w A l)(hs:l.length≤1000000):Calls Tryz.prog 33 #[.slice A l.length c] w fun e w'=>e= .returned (.bool (nearL 1048576 l))∧Below w.heap.size w w':=by
 have HI:=ZH h;obtain⟨R,hR⟩:∃R,nearL 1048576 l=R:=⟨_,rfl⟩;rw[hR];have HR:Hid (R=nearL 1048576 (l.drop 0)):=hR.symm;clear hR h;go_enter Tryz.func33,Tryz.ntmps33;go_wp2_with fail;go_loopg [3] l.length (fun k p wr=>∃j,k=l.length-j∧j≤l.length∧p= .int .i64 (j:Nat)∧Hid (R=nearL 1048576 (l.drop j))∧Below w.heap.size w wr)
 case atStart=>exact⟨0,rfl,Nat.zero_le _,rfl,HR.out,Below.refl _ _⟩
 case round=>
  clear HR;obtain⟨j,hk,hj,rfl,HL,hq⟩:=hrel;by_cases hlt:j<l.length
  ·have d1:decide ((j:Int)<(l.length:Int))=true:=decide_eq_true (by omega);obtain⟨g,o,rfl,cj⟩:=(HI.out.below hq) j hlt;replace cj:wr.cell? ⟨g,o+j,none⟩=some (.int .i64 (l.getD j 0)):=cj;have HC:Hid (R=((decide (-1048576≤l.getD j 0)&&decide (l.getD j 0≤1048576))&&nearL 1048576 (l.drop (j+1)))):=by
    show _=_;rw[HL.out,drop_at (z:=0) hlt,nearL_step]
   have HW:=ZH (fun w=>rone_any (w:=w) (z:=l.getD j 0));generalize (decide (-1048576≤l.getD j 0)&&decide (l.getD j 0≤1048576))=T at*;generalize l.getD j 0=z at*;clear HL;go_wp2_with fail;refine(HW.out _).mono ?_;rintro e w6 ⟨rfl,q6⟩;have hq6:=below_trans hq q6;cases T with
   |false=>
    have HC2:Hid (R=false):=HC.out.trans rfl;clear HC;go_wp2_with fail;exact bodyPost_ret (v:= .bool false) (by simp[results,Tryz.results33,go_sem]) rfl ⟨by rw[HC2.out],hq6⟩
   |true=>
    have HC2:Hid (R=nearL 1048576 (l.drop (j+1))):=HC.out.trans rfl;clear HC;go_wp2_with fail;go_roundg (l.length-(j+1))
    case measure=>omega
    case rel=>exact⟨j+1,rfl,by omega,by simp,HC2.out,hq6⟩
  ·have d1:decide ((j:Int)<(l.length:Int))=false:=decide_eq_false (by omega);have HC2:Hid (R=true):=by
    show _=_;rw[HL.out,drop_none hlt];rfl
   clear HL;go_wp2_with fail;exact bodyPost_ret (v:= .bool true) (by simp[results,Tryz.results33,go_sem]) rfl ⟨by rw[HC2.out],hq⟩
theorem RetSm.elim {w w':World}{e:Ending}{n:Bool}{xs:List Nat}{m:Bool}{ys:List Nat}{b:Bool}(h:RetSm w w' e ⟨n,xs,m,ys,b⟩):(∃A c B d,e= .returned (.agg #[.bool n,.slice A xs.length c,.bool m,.slice B ys.length d,.bool b])∧Rd w' A c xs∧Rd w' B d ys)∧Below w.heap.size w w':=h
theorem Mem.on {w0 w1 w:World}{Ks:List (Nat×TypeId×Array Value)}{Rs:List (Option Addr×Nat×List Nat)}(M:Mem w1 w Ks Rs)(q:Below w0.heap.size w0 w1):Mem w0 w Ks Rs:=⟨below_trans q M.bel,M.ks,M.rs⟩
end Go.Proofs.YtpnmcacndjkfaaaGreat

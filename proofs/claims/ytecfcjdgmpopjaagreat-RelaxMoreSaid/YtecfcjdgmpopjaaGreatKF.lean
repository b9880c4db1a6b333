import Derived.Test.YtecfcjdgmpopjaaGreatKE
set_option maxHeartbeats 16000000
set_option maxRecDepth 100000
set_option linter.unusedSimpArgs false
set_option linter.unusedVariables false
namespace Go.Proofs.YtecfcjdgmpopjaaGreat
open Go.RowKit Num
def in64 (z:Int):Prop:= -9223372036854775808≤z∧z≤9223372036854775807
structure PgOk (p:Pg):Prop where
 hi:p.hi.length=p.lo.length
 c:p.c.length=p.lo.length
 b:p.b.length=p.a.length
 n:p.lo.length≤64
 a:p.a.length≤160
 rows:∀i,i<p.a.length→(p.a.getD i []).length=p.lo.length
 ilo:∀j,j<p.lo.length→in64 (p.lo.getD j 0)
 ihi:∀j,j<p.lo.length→in64 (p.hi.getD j 0)
 ic:∀j,j<p.lo.length→in64 (p.c.getD j 0)
 ib:∀i,i<p.a.length→in64 (p.b.getD i 0)
 ia:∀i,i<p.a.length→∀j,j<p.lo.length→in64 ((p.a.getD i []).getD j 0)
def stJ (p:Pg)(P j:Nat):Tb:=⟨p.lo.length,(colsV p.lo p.hi).take j,[],List.range j,[],(p.c.map fun z:Int=>(z:Rat)).take j,min P 10000⟩
theorem colsV_len:∀(lo hi:List Int),hi.length=lo.length→(colsV lo hi).length=lo.length
 |[],[],_=>rfl
 |l::lo,h::hi,e=>by
  show(_::colsV lo hi).length=_;rw[List.length_cons,List.length_cons,colsV_len lo hi (by simpa using e)]
 |[],_::_,e=>by cases e
 |_::_,[],e=>by cases e
theorem colsV_at:∀(lo hi:List Int)(j:Nat),hi.length=lo.length→j<lo.length→(colsV lo hi).getD j vz=⟨some (lo.getD j 0:Int),some (hi.getD j 0:Int),(lo.getD j 0:Int)⟩
 |l::lo,h::hi,0,_,_=>rfl
 |l::lo,h::hi,j+1,e,hj=>colsV_at lo hi j (by simpa using e) (by simpa using hj)
 |[],_,j,_,hj=>by cases hj
 |_::_,[],_,e,_=>by cases e
theorem stJ_next {p:Pg}(h:PgOk p)(P:Nat){j:Nat}(hj:j<p.lo.length):stJ p P (j+1)={(stJ p P j) with vars:=(stJ p P j).vars++[⟨some (p.lo.getD j 0:Int),some (p.hi.getD j 0:Int),(p.lo.getD j 0:Int)⟩],free:=(stJ p P j).free++[j],cost:=(stJ p P j).cost++[((p.c.getD j 0:Int):Rat)]}:=by
 unfold stJ;have e1:(colsV p.lo p.hi).take (j+1)=(colsV p.lo p.hi).take j++[⟨some (p.lo.getD j 0:Int),some (p.hi.getD j 0:Int),(p.lo.getD j 0:Int)⟩]:=by
  rw[take_more (z:=vz) (by rw[colsV_len _ _ h.hi];exact hj),colsV_at _ _ _ h.hi hj]
 have e2:(p.c.map fun z:Int=>(z:Rat)).take (j+1)=(p.c.map fun z:Int=>(z:Rat)).take j++[((p.c.getD j 0:Int):Rat)]:=by
  rw[take_more (z:=0) (by rw[List.length_map,h.c];exact hj)];congr 2;rw[gE,List.getElem?_map,gG (by rw[h.c];exact hj),gE,gG (by rw[h.c];exact hj)];rfl
 rw[e1,e2,List.range_succ]
theorem stJ_vars {p:Pg}(h:PgOk p)(P:Nat){j:Nat}(hj:j≤p.lo.length):(stJ p P j).vars.length=j:=by
 show((colsV p.lo p.hi).take j).length=j;rw[List.length_take,colsV_len _ _ h.hi];omega
theorem stJ_cost {p:Pg}(h:PgOk p)(P:Nat){j:Nat}(hj:j≤p.lo.length):(stJ p P j).cost.length=j:=by
 show((p.c.map fun z:Int=>(z:Rat)).take j).length=j;rw[List.length_take,List.length_map,h.c];omega
theorem stJ_free (p:Pg)(P j:Nat):(stJ p P j).free.length=j:=List.length_range
theorem stJ_end {p:Pg}(h:PgOk p)(P:Nat):stJ p P p.lo.length=startT p P:=by
 unfold stJ startT;rw[List.take_of_length_le (by rw[colsV_len _ _ h.hi];exact Nat.le_refl _),List.take_of_length_le (by rw[List.length_map,h.c];exact Nat.le_refl _)]
structure Half (n i:Nat) (b:Tb):Prop where
 bn:b.n=n
 vl:b.vars.length=n+i
 bl:b.basic.length=i
 tl:b.t.length=i
 ft:∀r,r<i→(b.t.getD r []).length=n
 fr:b.free=List.range n
 fc:b.cost.length=n
 bv:∀j,j<i→b.basic.getD j 0<n+i
 hh:HasHi b
 sl:b.left≤10000
theorem Half.start {p:Pg}(h:PgOk p)(P:Nat):Half p.lo.length 0 (startT p P):=by
 refine⟨rfl,colsV_len _ _ h.hi,rfl,rfl,(fun r hr=>absurd hr (Nat.not_lt_zero _)),rfl,?_,(fun r hr=>absurd hr (Nat.not_lt_zero _)),fun v hv=> ?_,Nat.min_le_right _ _⟩
 ·show(p.c.map _).length=_;rw[List.length_map,h.c]
 ·replace hv:v<(colsV p.lo p.hi).length:=hv;rw[colsV_len _ _ h.hi]at hv;refine⟨((p.hi.getD v 0:Int):Rat),?_⟩;show((colsV p.lo p.hi).getD v vz).hi=_;rw[colsV_at _ _ _ h.hi hv]
def nextB (n i:Nat)(line:List Rat)(hq:Rat)(b:Tb):Tb:={b with vars:=b.vars++[⟨none,some hq,0⟩],basic:=b.basic++[n+i],t:=b.t++[line]}
theorem beginO_step (n i:Nat)(b:Tb)(row:List Int)(a:List (List Int))(h:Int)(bs:List Int):beginO n i b (row::a) (h::bs)=(sumO (nextB n i (row.map fun z:Int=>(z:Rat)) h b) 0 (row.map fun z:Int=>(z:Rat)) b.free).bind fun s=>beginO n (i+1) ((nextB n i (row.map fun z:Int=>(z:Rat)) h b).setV (n+i) s) a bs:=rfl
theorem Half.next {n i:Nat}{b:Tb}{line:List Rat}{hq s:Rat}(h:Half n i b)(hl:line.length=n):Half n (i+1) ((nextB n i line hq b).setV (n+i) s):=by
 have hvl:(nextB n i line hq b).vars.length=n+(i+1):=by
  show(b.vars++[_]).length=_;rw[List.length_append,List.length_singleton,h.vl];omega
 refine⟨h.bn,by simp[Tb.setV,hvl],?_,?_,fun r hr=> ?_,h.fr,h.fc,fun j hj=> ?_,?_,h.sl⟩
 ·show(b.basic++[n+i]).length=i+1;rw[List.length_append,List.length_singleton,h.bl]
 ·show(b.t++[line]).length=i+1;rw[List.length_append,List.length_singleton,h.tl]
 ·show((b.t++[line]).getD r []).length=n;rw[getD_app (by rw[h.tl];exact hr),h.tl];by_cases e:r<i
  ·rw[if_pos e];exact h.ft r e
  ·rw[if_neg e];exact hl
 ·show(b.basic++[n+i]).getD j 0<_;rw[getD_app (by rw[h.bl];exact hj),h.bl];by_cases e:j<i
  ·rw[if_pos e];have:=h.bv j e;omega
  ·rw[if_neg e];omega
 ·refine HasHi.same (b:=nextB n i line hq b) (fun v hv=> ?_) (SameEnds.setV _ _ _) (by simp[Tb.setV]);rw[hvl]at hv;show ∃x,((b.vars++[(⟨none,some hq,0⟩:Vr)]).getD v vz).hi=some x;rw[getD_app (by rw[h.vl];omega),h.vl];by_cases e:v<n+i
  ·rw[if_pos e];exact h.hh v (by rw[h.vl];exact e)
  ·rw[if_neg e];exact⟨hq,rfl⟩
theorem Half.wf {n m:Nat}{b:Tb}(h:Half n m b)(hn:n≤64)(hm:m≤160):Wf b:=
 ⟨by rw[h.bl,h.tl],fun i hi=>by rw[h.fr,List.length_range];exact h.ft i (by rw[←h.tl];exact hi),by rw[h.fc,h.fr,List.length_range],fun j hj=>by rw[h.vl];exact h.bv j (by rw[←h.bl];exact hj),fun j hj=>by
  rw[h.fr,List.length_range]at hj;rw[h.fr,h.vl,gE,List.getElem?_range hj];show j<_;omega,by rw[h.vl];omega,by rw[h.tl];omega,by rw[h.fr,List.length_range];omega,h.sl,by rw[h.bn,h.vl];omega⟩
abbrev tyX:TypeId:=185
theorem info_pv:(Tryz.prog.info? tyV).map (fun i=>(i.zero,i.size,i.bytes))=some (some (.pointer none),1,8):=by kernel_rfl
theorem info_pi:(Tryz.prog.info? tyI).map (fun i=>(i.zero,i.size,i.bytes))=some (some (.int .i64 0),1,8):=by kernel_rfl
theorem info_pl:(Tryz.prog.info? tyL).map (fun i=>(i.zero,i.size,i.bytes))=some (some (.slice none 0 0),1,24):=by kernel_rfl
abbrev fC (q:Rat)(A:Option Addr)(c:Nat)(B:Option Addr)(d:Nat):Array Value:= #[.bool true,.bool (sN q.num),.slice A (sD q.num).length c,.bool false,.slice B (dig q.den).length d]
abbrev vC (q:Rat)(A:Option Addr)(c:Nat)(B:Option Addr)(d:Nat)(r:Rat)(A':Option Addr)(c':Nat)(B':Option Addr)(d':Nat):Array Value:= #[.bool true,.bool (sN q.num),.slice A (sD q.num).length c,.bool false,.slice B (dig q.den).length d,
 .bool true,.bool (sN r.num),.slice A' (sD r.num).length c',.bool false,.slice B' (dig r.den).length d',.bool (sN q.num),.slice A (sD q.num).length c,.bool false,.slice B (dig q.den).length d]
abbrev hC (q:Rat)(A:Option Addr)(c:Nat)(B:Option Addr)(d:Nat):Array Value:= #[.bool false,.bool false,.slice none 0 0,.bool false,.slice none 0 0,.bool true,.bool (sN q.num),.slice A (sD q.num).length c,.bool false,.slice B (dig q.den).length d,.bool false,.slice none 0 0,.bool false,.slice none 0 0]
theorem vC_at {w:World}{g:Nat}{q r:Rat}{A B A' B':Option Addr}{c d c' d':Nat}(h:Blk w g tyX (vC q A c B d r A' c' B' d'))(hq:QR w A c B d q)(hr:QR w A' c' B' d' r):VAt w g ⟨some q,some r,q⟩:=
 ⟨⟨(h.cell 0).trans rfl,A,c,B,d,(h.cell 1).trans rfl,(h.cell 2).trans rfl,(h.cell 3).trans rfl,(h.cell 4).trans rfl,hq⟩,⟨(h.cell 5).trans rfl,A',c',B',d',(h.cell 6).trans rfl,(h.cell 7).trans rfl,(h.cell 8).trans rfl,(h.cell 9).trans rfl,hr⟩,
  A,c,B,d,(h.cell 10).trans rfl,(h.cell 11).trans rfl,(h.cell 12).trans rfl,(h.cell 13).trans rfl,hq⟩
theorem Gro.start {ok:Nat→Prop}{w:World}{t0 base:Nat}{b:Tb}(hb:Blk w t0 tyT #[.int .i64 (b.n:Nat),.slice none 0 0,.slice none 0 0,.slice none 0 0,.slice none 0 0,.slice none 0 0,.int .i64 (b.left:Nat)])(hbt:base≤t0)(hv:b.vars=[])(hba:b.basic=[])(hf:b.free=[])(ht:b.t=[])(hc:b.cost=[]):Gro ok w base ⟨t0,(none,0),(none,0),(none,0),(none,0),(none,0),[],[]⟩ b:=by
 obtain⟨n,vars,basic,free,t,cost,left⟩:=b;dsimp only at hv hba hf ht hc;subst hv hba hf ht hc;refine⟨⟨hb,rfl,(fun j hj=>absurd hj (Nat.not_lt_zero _)),(fun j hj=>absurd hj (Nat.not_lt_zero _)),(fun j hj=>absurd hj (Nat.not_lt_zero _)),(fun j hj=>absurd hj (Nat.not_lt_zero _)),rfl,(fun j hj=>absurd hj (Nat.not_lt_zero _)),(fun j hj=>absurd hj (Nat.not_lt_zero _)),(fun j hj=>absurd hj (Nat.not_lt_zero _)),fun x g hx=> ?_,fun x y g hx hy=> ?_⟩,
  NRow.nil _ _ _ _,NRow.nil _ _ _ _,NRow.nil _ _ _ _,NRow.nil _ _ _ _,QOwn.nil _ _,fun x g hx=> ?_⟩
 ·cases x with
  |h=>injection hx with hx;subst hx;exact hb.box rfl
  |v j=>cases (show([]:List Nat)[j]? =some g from hx)
  |l i=>cases (show bl (([]:List (Option Addr×Nat)).getD i (none,0)).1=some g from hx)
  |_=>cases hx
 ·have key:∀x g,Ad.at ⟨t0,(none,0),(none,0),(none,0),(none,0),(none,0),[],[]⟩ x=some g→x= .h:=fun x g hx=>by
   cases x with
   |h=>rfl
   |v j=>cases (show([]:List Nat)[j]? =some g from hx)
   |l i=>cases (show bl (([]:List (Option Addr×Nat)).getD i (none,0)).1=some g from hx)
   |_=>cases hx
  rw[key x g hx,key y g hy]
 ·cases x with
  |h=>injection hx with hx;subst hx;exact hbt
  |v j=>cases (show([]:List Nat)[j]? =some g from hx)
  |l i=>cases (show bl (([]:List (Option Addr×Nat)).getD i (none,0)).1=some g from hx)
  |_=>cases hx
theorem TAtO.headX {ok:Nat→Prop}{ty:TypeId}{w w3 w4:World}{d:Ad}{b:Tb}(h:TAtO ok ty w d b)(X:Tg)(hX:X≠.h)(q:Below w.heap.size w w3)(hgr:w3.grownBy w4 (d.at X)):Blk w4 d.t0 ty (headC d b):=
 (hgr.block d.t0 (h.below q).head.lt fun e=>hX (h.apart X .h d.t0 e.symm rfl)).trans (h.below q).head
theorem begin_any {w:World}{m:Pa}{p:Pg}{P:Nat}(hok:PgOk p)(hp:PgAt w m p):Calls Tryz.prog 84 #[.agg (pgC m p),.int .i64 (P:Nat)] w fun e w'=>Below w.heap.size w w'∧((∃d b,beginT p P=some b∧e= .returned (vptr d.t0)∧TAt tyT w' d b∧(∀g,d.S g→w.heap.size≤g)∧Wf b∧HasHi b∧b.n=p.lo.length∧b.vars.length≤d.V.2)∨(beginT p P=none∧ThrewX e)):=by
 have HOK:=ZH hok;have HP:=ZH hp;have hn64:=hok.n;obtain⟨R,hR⟩:∃R,beginT p P=R:=⟨_,rfl⟩;rw[hR];have HR:Hid (R=beginO p.lo.length 0 (startT p P) p.a p.b):=hR.symm;obtain⟨LP,hL⟩:∃LP,min P 10000=LP:=⟨_,rfl⟩;have HL:=ZH hL;have hmin:min (P:Int) (10000:Int)=(LP:Int):=by omega
 clear hR hok hp hL;have M:=(Mem.start w).new tyP (pgC m p);obtain⟨p0,p1,p2,p3,p4⟩:=(M.k (i:=0) rfl).fiveP;obtain⟨n,hn⟩:∃n,p.lo.length=n:=⟨_,rfl⟩;rw[hn]at p0 HR hn64;have HNL:=ZH hn;clear hn;replace M:=M.newAt (g:=w.heap.size+1) (by simp) tyT #[.int .i64 (n:Nat),.slice none 0 0,.slice none 0 0,.slice none 0 0,.slice none 0 0,.slice none 0 0,.int .i64 (LP:Nat)];have HG0:=ZH (Gro.start (ok:=fun _=>True) (base:=w.heap.size+1) (b:=stJ p P 0) (by
  show Blk _ _ tyT #[.int .i64 (p.lo.length:Nat),.slice none 0 0,.slice none 0 0,.slice none 0 0,.slice none 0 0,.slice none 0 0,.int .i64 (min P 10000:Nat)];rw[HNL.out,HL.out];exact M.k (i:=0) rfl) ZL rfl rfl rfl rfl rfl)
 have hp0:=M.k (i:=1) rfl;have hq0:=M.bel;go_enter Tryz.func84,Tryz.ntmps84;go_wp2_with fail;go_loopg [25] n (fun k pp wr=>∃(j:Nat)(d:Ad),k=n-j∧j≤n∧pp= .int .i64 (j:Nat)∧Hid (Gro (fun _=>True) wr (w.heap.size+1) d (stJ p P j))∧Hid (d.t0=w.heap.size+1)∧Below w.heap.size w wr∧Blk wr w.heap.size tyP (pgC m p))
 case atStart=>exact⟨0,_,rfl,Nat.zero_le _,rfl,HG0.out,rfl,hq0,hp0⟩
 case round=>
  clear HG0 hp0 hq0 M p0 p1 p2 p3 p4 hmin;obtain⟨j,d,hk,hj,rfl,HG,Ht0,hq,hpb⟩:=hrel;have HPB:=ZH hpb;obtain⟨p0,p1,p2,p3,p4⟩:=hpb.fiveP;rw[HNL.out]at p0;rw[HOK.out.hi,HNL.out]at p1;rw[HOK.out.c,HNL.out]at p4;have P0:=Lk.of p0;have P1:=Lk.of p1;have P4:=Lk.of p4;have HQ:=ZH hq;by_cases hlt:j<n
  ·have d1:decide ((j:Int)<(n:Int))=true:=dT (by omega);obtain⟨gl,ol,hA0,c0⟩:=(HP.out.lo.below hq) j (by rw[HNL.out];exact hlt);obtain⟨gh,oh,hA1,c1⟩:=(HP.out.hi.below hq) j (by rw[HOK.out.hi,HNL.out];exact hlt);obtain⟨gc,oc,hA4,c4⟩:=(HP.out.c.below hq) j (by rw[HOK.out.c,HNL.out];exact hlt);replace c0:wr.cell? ⟨gl,ol+j,none⟩=some (.int .i64 (p.lo.getD j 0)):=c0;replace c1:wr.cell? ⟨gh,oh+j,none⟩=some (.int .i64 (p.hi.getD j 0)):=c1;replace c4:wr.cell? ⟨gc,oc+j,none⟩=some (.int .i64 (p.c.getD j 0)):=c4;rw[hA0]at P0;rw[hA1]at P1;rw[hA4]at P4;have C0:=Lk.of c0;have C1:=Lk.of c1;have C4:=Lk.of c4;have I0:=ZH (HOK.out.ilo j (by rw[HNL.out];exact hlt));have I1:=ZH (HOK.out.ihi j (by rw[HNL.out];exact hlt));have I4:=ZH (HOK.out.ic j (by rw[HNL.out];exact hlt));have HNX:=ZH (stJ_next HOK.out P (j:=j) (by rw[HNL.out];exact hlt));have lv:=ZH (stJ_vars HOK.out P (j:=j) (by rw[HNL.out];exact hj));have lc:=ZH (stJ_cost HOK.out P (j:=j) (by rw[HNL.out];exact hj));have lf:=ZH (stJ_free p P j);clear hA0 hA1 hA4 c0 c1 c4 p0 p1 p2 p3 p4 hpb hq;generalize p.lo.getD j 0=zl at*;generalize p.hi.getD j 0=zh at*;obtain⟨zc,hzc⟩:∃zc,p.c.getD j 0=zc:=⟨_,rfl⟩;rw[hzc]at I4 HNX C4;have HZC:=ZH hzc;clear hzc;generalize m.lo.2=cl at*;generalize m.hi.2=ch at*;generalize m.c.2=cc at*;generalize stJ p P j=b at*;have M:=Mem.start wr;go_upto_region 6 with fail;refine region_st (n:=16) (frame:= ?frame1) (fun jK=>[kP w.heap.size 0,kF (.slice (some ⟨gl,ol,none⟩) n cl),kI ((j:Nat)),kP gl (ol+j),kI zl,.val (.rat (sN (zl:Rat).num) (sD (zl:Rat).num) (false) (dig (zl:Rat).den)),kP w.heap.size 1,kF (.slice (some ⟨gh,oh,none⟩) n ch),kI ((j:Nat)),kP gh (oh+j),kI zh,.val (.rat (sN (zh:Rat).num) (sD (zh:Rat).num) (false) (dig (zh:Rat).den)),.cell 14 72 #[.bool false,.slice none 0 0,.bool false,.slice none 0 0] (.rat (sN (zl:Rat).num) (sD (zl:Rat).num) (false) (dig (zl:Rat).den)),.cell 15 72 #[.bool false,.slice none 0 0,.bool false,.slice none 0 0] (.rat (sN (zh:Rat).num) (sD (zh:Rat).num) (false) (dig (zh:Rat).den)),.none,.none].getD jK .none) [] (by kernel_rfl) (by kernel_rfl) (by kernel_rfl) rfl M (fun _ h=>by cases h) (fun _ h=>by cases h) ?_ ?_ ?_
   case refine_1=>
    intro s;simp only[fr,Act.put,zA,zB,zC,zD,zE,zF,Nat.reduceAdd];rfl
   case refine_2=>
    iterate 16 (refine SN ?_ ?_;rotate_left)
    exact Steps.nil;all_goals (intro L s w9 hN hU hi hS K hK;dsimp only at hK⊢;simp only[Act.put,zD,zE,zF]at hK)
    ·go_simp;exact hS.o1 hK
    ·simp only[hS.f hN 0]at hK⊢;have u0:=P0 _ hS.mem.bel;go_simp;exact hS.o1 hK
    ·go_simp;exact hS.o1 hK
    ·simp only[hS.f hN 1,hS.f hN 2]at hK⊢;go_simp;exact hS.o1 hK
    ·simp only[hS.f hN 3]at hK⊢;have u0:=C0 _ hS.mem.bel;go_simp;exact hS.o1 hK
    ·simp only[hS.f hN 4]at hK⊢;go_simp;go_at_call 26;refine(pof_any I0.out.1 I0.out.2).mono ?_;rintro e9 w10 ⟨q,A9,c9,B9,d9,rfl,hq9⟩;exact hK.out _ _ (hS.val rfl rfl q ⟨A9,c9,B9,d9,rfl,hq9.num,hq9.den⟩)
    ·go_simp;exact hS.o1 hK
    ·simp only[hS.f hN 6]at hK⊢;have u0:=P1 _ hS.mem.bel;go_simp;exact hS.o1 hK
    ·go_simp;exact hS.o1 hK
    ·simp only[hS.f hN 7,hS.f hN 8]at hK⊢;go_simp;exact hS.o1 hK
    ·simp only[hS.f hN 9]at hK⊢;have u0:=C1 _ hS.mem.bel;go_simp;exact hS.o1 hK
    ·simp only[hS.f hN 10]at hK⊢;go_simp;go_at_call 26;refine(pof_any I1.out.1 I1.out.2).mono ?_;rintro e9 w10 ⟨q,A9,c9,B9,d9,rfl,hq9⟩;exact hK.out _ _ (hS.val rfl rfl q ⟨A9,c9,B9,d9,rfl,hq9.num,hq9.den⟩)
    ·go_simp;exact hK.out _ _ (hS.new rfl rfl hi.out (fun _=>hU.out 14 _ rfl rfl) rfl)
    ·go_simp;exact hK.out _ _ (hS.new rfl rfl hi.out (fun _=>hU.out 15 _ rfl rfl) rfl)
    ·obtain⟨A5,c5,B5,d5,e5,h5,k5⟩:=hS.val_at 5 rfl (by decide) (hN.out 5 rfl);simp only[e5]at hK⊢;obtain⟨g9,cs9,e9,l9,b9,n9,z9,_⟩:=hS.cell_at 12 rfl (by decide) (hN.out 12 rfl);obtain rfl:=z9 hi.out;simp only[e9]at hK⊢;refine ite_of rfl ?_;refine wp_store_row _ _ _ rfl g9 _ rfl rfl _ _ b9 info_rat rfl (by rw[←Array.all_toList];rfl) ?_;simp only[Act.put];exact hK.out undef _ (hS.fill (u:=undef) (c:= .rat (sN (zl:Rat).num) (sD (zl:Rat).num) (false) (dig (zl:Rat).den)) rfl rfl (by decide) rfl (hN.out 12 rfl) hi.out e9 (sRG _ _ _) (b9.row _) rfl ⟨A5,c5,B5,d5,rfl,h5,k5⟩)
    ·obtain⟨A11,c11,B11,d11,e11,h11,k11⟩:=hS.val_at 11 rfl (by decide) (hN.out 11 rfl);simp only[e11]at hK⊢;obtain⟨g9,cs9,e9,l9,b9,n9,z9,_⟩:=hS.cell_at 13 rfl (by decide) (hN.out 13 rfl);obtain rfl:=z9 hi.out;simp only[e9]at hK⊢;refine ite_of rfl ?_;refine wp_store_row _ _ _ rfl g9 _ rfl rfl _ _ b9 info_rat rfl (by rw[←Array.all_toList];rfl) ?_;simp only[Act.put];exact hK.out undef _ (hS.fill (u:=undef) (c:= .rat (sN (zh:Rat).num) (sD (zh:Rat).num) (false) (dig (zh:Rat).den)) rfl rfl (by decide) rfl (hN.out 13 rfl) hi.out e9 (sRG _ _ _) (b9.row _) rfl ⟨A11,c11,B11,d11,rfl,h11,k11⟩)
   intro L s w9 hall hS;obtain⟨g12,cs12,e12,l12,b12,n12,_,z12⟩:=hS.cell_at 12 rfl (by decide) (hall 12 (by decide));obtain⟨A12,c12,B12,d12,rfl,h12,k12⟩:=z12 (hall 14 (by decide));rw[e12];obtain⟨g13,cs13,e13,l13,b13,n13,_,z13⟩:=hS.cell_at 13 rfl (by decide) (hall 13 (by decide));obtain⟨A13,c13,B13,d13,rfl,h13,k13⟩:=z13 (hall 15 (by decide));rw[e13];obtain⟨W6,hW6⟩:∃W6,W6=w9:=⟨_,rfl⟩;subst hW6;have HL12:=ZH (⟨h12,k12,few_int (Nat.le_trans (sD_small (k:=2) (by have:=I0.out.1;have:=I0.out.2;omega)) (by decide))⟩:QR W6 A12 c12 B12 d12 (zl:Rat));have HH13:=ZH (⟨h13,k13,few_int (Nat.le_trans (sD_small (k:=2) (by have:=I1.out.1;have:=I1.out.2;omega)) (by decide))⟩:QR W6 A13 c13 B13 d13 (zh:Rat));have q6:=hS.mem.bel;replace b12:Blk W6 g12 72 (qcs (zl:Rat) A12 c12 B12 d12):=b12;replace b13:Blk W6 g13 72 (qcs (zh:Rat) A13 c13 B13 d13):=b13;obtain⟨x1,x2,x3,x4⟩:=b12.four;obtain⟨y1,y2,y3,y4⟩:=b13.four;have X1:=Lk.of x1;have X2:=Lk.of x2;have X3:=Lk.of x3;have X4:=Lk.of x4;have Y1:=Lk.of y1;have Y2:=Lk.of y2;have Y3:=Lk.of y3;have Y4:=Lk.of y4;have hv1:=((HG.out.t.below q6).head.cell 1).trans rfl;replace hv1:W6.cell? ⟨d.t0,1,none⟩=some (.slice d.V.1 b.vars.length d.V.2):=hv1;rw[Ht0.out,lv.out]at hv1;have V1:=Lk.of hv1;have HGV:=ZH HG.out.V;rw[lv.out]at HGV;have hbs:w.heap.size+1≤W6.heap.size:=by have h1:=HG.out.t.head.lt;rw[Ht0.out]at h1;have h2:=q6.size;omega
   have HQ6:=ZH q6;have hj6:j≤1000000:=by omega
   clear hS hall h12 k12 h13 k13 l12 l13 n12 n13 b12 b13 x1 x2 x3 x4 y1 y2 y3 y4 hv1 M P0 P1 C0 C1 q6;generalize (zl:Rat)=lo at*;generalize (zh:Rat)=hi at*;generalize d.V.2=cV at*;generalize hVA:d.V.1=VA at*;have HVA:=ZH hVA;clear hVA;go_upto_region 7 with fail;refine region_gen0 (n:=17) (frame:= ?frame2) (fun L s w'=>Vs [oP (w.heap.size+1) 0,oP (w.heap.size+1) 0,oP (w.heap.size+1) 0,oP (w.heap.size+1) 1,oF (.slice VA j cV),oF (qv lo A12 c12 B12 d12),oF (.agg (fC lo A12 c12 B12 d12)),oF (qv hi A13 c13 B13 d13),oF (.agg (fC hi A13 c13 B13 d13)),oF (qv lo A12 c12 B12 d12),oF (.agg (vC lo A12 c12 B12 d12 hi A13 c13 B13 d13)),none,none,none,oP (w.heap.size+1) 0,oP (w.heap.size+1) 1,none] L s∧(L 11=false→(Below W6.heap.size W6 w'))∧(L 11=true→L 12=false→(Below W6.heap.size W6 w'∧∃g,s 11= .pointer (some ⟨g,0,none⟩)∧Blk w' g tyX (vC lo A12 c12 B12 d12 hi A13 c13 B13 d13)∧W6.heap.size≤g))∧(L 12=true→L 13=false→(Below W6.heap.size W6 w'∧∃g w4,w'=w4.alloc (.cells #[vptr g] tyV)∧s 12= .slice (some ⟨w4.heap.size,0,none⟩) 1 1∧Below W6.heap.size W6 w4∧Blk w4 g tyX (vC lo A12 c12 B12 d12 hi A13 c13 B13 d13)∧W6.heap.size≤g))∧(L 13=true→L 16=false→(∃g w4 A' c',s 13= .slice A' (j+1) c'∧Below W6.heap.size W6 w4∧Blk w4 g tyX (vC lo A12 c12 B12 d12 hi A13 c13 B13 d13)∧W6.heap.size≤g∧NRow w' (w.heap.size+1) tyV 1 (.slice A' (j+1) c') (j+1) (d.vs.map vptr++[vptr g])∧w4.grownBy w' (bl VA)∧(bl A'=bl VA∨∀k,bl A'=some k→w4.heap.size≤k)))∧(L 16=true→(∃d',d'.t0=w.heap.size+1∧Gro (fun _=>True) w' (w.heap.size+1) d' {b with vars:=b.vars++[⟨some lo,some hi,lo⟩]}∧Stp (fun k=>w.heap.size+1≤k) wr w'))) (by kernel_rfl) (by kernel_rfl) (by kernel_rfl) rfl ?_ ?_ ?_ ?_
   case refine_1=>exact⟨fun _ _ _ h=>no_f h,fun _=>(Read.refl _).drew.below _,fun h=>no_f h,fun h=>no_f h,fun h=>no_f h,fun h=>no_f h⟩
   case refine_2=>
    intro s;simp only[fr,Act.put,zA,zB,zC,zD,zE,zF,Nat.reduceAdd];rfl
   case refine_3=>
    iterate 17 (refine SN ?_ ?_;rotate_left)
    exact Steps.nil;all_goals (intro L s w9 hN hU hi hC hS K hK;dsimp only at hK⊢;simp only[Act.put,zD,zE,zF]at hK;obtain⟨hV,c_0,c_1,c_2,c_3,c_4⟩:=hS;refine ite_of rfl ?_)
    ·go_simp;exact hK.out _ _ ⟨hV.put 0,c_0,c_1,c_2,c_3,c_4⟩
    ·go_simp;exact hK.out _ _ ⟨hV.put 1,c_0,c_1,c_2,c_3,c_4⟩
    ·rw[hV.at 1 (hN.out 1 rfl)]at hK⊢;go_simp;exact hK.out _ _ ⟨hV.put 2,c_0,c_1,c_2,c_3,c_4⟩
    ·rw[hV.at 2 (hN.out 2 rfl)]at hK⊢;go_simp;exact hK.out _ _ ⟨hV.put 3,c_0,c_1,c_2,c_3,c_4⟩
    ·rw[hV.at 3 (hN.out 3 rfl)]at hK⊢;have hE:Below W6.heap.size W6 w9:=(match hL0:L 11 with|false=>(c_0 hL0)|true=>(match hL1:L 12 with|false=>(c_1 hL0 hL1).1|true=>(c_2 hL1 (hU.out 13 _ rfl rfl)).1));have u0:=V1 _ hE;go_simp;exact hK.out _ _ ⟨hV.put 4,c_0,c_1,c_2,c_3,c_4⟩
    ·have hE:Below W6.heap.size W6 w9:=(c_0 (Shut.no hC 11 10 rfl rfl (Shut.no hC 10 6 rfl rfl (hU.out 6 _ rfl rfl))));have u1:=X1 _ hE;have u2:=X2 _ hE;have u3:=X3 _ hE;have u4:=X4 _ hE;go_simp;exact hK.out _ _ ⟨hV.put 5,c_0,c_1,c_2,c_3,c_4⟩
    ·rw[hV.at 5 (hN.out 5 rfl)]at hK⊢;go_simp;exact hK.out _ _ ⟨hV.put 6,c_0,c_1,c_2,c_3,c_4⟩
    ·have hE:Below W6.heap.size W6 w9:=(c_0 (Shut.no hC 11 10 rfl rfl (Shut.no hC 10 8 rfl rfl (hU.out 8 _ rfl rfl))));have u1:=Y1 _ hE;have u2:=Y2 _ hE;have u3:=Y3 _ hE;have u4:=Y4 _ hE;go_simp;exact hK.out _ _ ⟨hV.put 7,c_0,c_1,c_2,c_3,c_4⟩
    ·rw[hV.at 7 (hN.out 7 rfl)]at hK⊢;go_simp;exact hK.out _ _ ⟨hV.put 8,c_0,c_1,c_2,c_3,c_4⟩
    ·have hE:Below W6.heap.size W6 w9:=(c_0 (Shut.no hC 11 10 rfl rfl (hU.out 10 _ rfl rfl)));have u1:=X1 _ hE;have u2:=X2 _ hE;have u3:=X3 _ hE;have u4:=X4 _ hE;go_simp;exact hK.out _ _ ⟨hV.put 9,c_0,c_1,c_2,c_3,c_4⟩
    ·rw[hV.at 6 (hN.out 6 rfl)]at hK⊢;rw[hV.at 8 (hN.out 8 rfl)]at hK⊢;rw[hV.at 9 (hN.out 9 rfl)]at hK⊢;go_simp;exact hK.out _ _ ⟨hV.put 10,c_0,c_1,c_2,c_3,c_4⟩
    ·rw[hV.at 10 (hN.out 10 rfl)]at hK⊢;have hP:=c_0 hi.out;go_simp;exact hK.out _ _ ⟨hV.eff 11,fun h=>no_t h,fun _ _=>⟨below_alloc hP ZL _,_,rfl,Blk.new _ _ _,hP.size⟩,fun h=>no_f (Eq.trans (Eq.symm (hU.out 12 _ rfl rfl)) h),fun h=>no_f (Eq.trans (Eq.symm (Shut.no hC 13 12 rfl rfl (hU.out 12 _ rfl rfl))) h),fun h=>no_f (Eq.trans (Eq.symm (Shut.no hC 16 13 rfl rfl (Shut.no hC 13 12 rfl rfl (hU.out 12 _ rfl rfl)))) h)⟩
    ·have hP:=c_1 (hN.out 11 rfl) hi.out;obtain⟨hP0,g,e11,hb,hgl⟩:=hP;simp only[e11]at hK⊢;go_simp;exact hK.out _ _ ⟨hV.eff 12,fun h=>no_f (Eq.trans (Eq.symm h) (hN.out 11 rfl)),fun _ h=>no_t h,fun _ _=>⟨below_alloc hP0 ZL _,g,_,rfl,rfl,hP0,hb,hgl⟩,fun h=>no_f (Eq.trans (Eq.symm (hU.out 13 _ rfl rfl)) h),fun h=>no_f (Eq.trans (Eq.symm (Shut.no hC 16 13 rfl rfl (hU.out 13 _ rfl rfl))) h)⟩
    ·rw[hV.at 4 (hN.out 4 rfl)]at hK⊢;have hP:=c_2 (hN.out 12 rfl) hi.out;obtain⟨_,g,w4,rfl,e12,hq4,hb,hgl⟩:=hP;simp only[e12]at hK⊢;refine wp_appNu_op _ _ w4 (w.heap.size+1) tyV 1 (.slice VA j cV) j (d.vs.map vptr) #[vptr g] rfl Tryz.underlying177 info_pv rfl rfl (by decide) (by decide) (HGV.out.below (bT HQ6.out hq4)) (Nat.le_trans hbs hq4.size) hj6 rfl rfl rfl rfl rfl rfl ?_;intro v4 w5 r1 r2 r3 r4;obtain⟨A',c',rfl⟩:=r1.slice;rw[own_bl]at r2 r4;exact hK.out _ _ ⟨hV.eff 13,fun h=>no_f (Eq.trans (Eq.symm h) (hC.out 12 _ rfl (hN.out 12 rfl) 11 rfl)),fun _ h=>no_f (Eq.trans (Eq.symm h) (hN.out 12 rfl)),fun _ h=>no_t h,fun _ _=>⟨g,w4,A',c',rfl,hq4,hb,hgl,r1,r2,by rw[own_bl]at r4;exact r4⟩,fun h=>no_f (Eq.trans (Eq.symm (hU.out 16 _ rfl rfl)) h)⟩
    ·rw[hV.at 0 (hN.out 0 rfl)]at hK⊢;go_simp;exact hK.out _ _ ⟨hV.put 14,c_0,c_1,c_2,c_3,c_4⟩
    ·rw[hV.at 14 (hN.out 14 rfl)]at hK⊢;go_simp;exact hK.out _ _ ⟨hV.put 15,c_0,c_1,c_2,c_3,c_4⟩
    ·rw[hV.at 15 (hN.out 15 rfl)]at hK⊢;have hP:=c_3 (hN.out 13 rfl) hi.out;obtain⟨g,w4,A',c',e13,hq4,hb,hgl,hr,hgr,hat⟩:=hP;simp only[e13]at hK⊢;have hq5:=bT HQ6.out hq4;have hh:=HG.out.t.headX .V (fun e=>by cases e) hq5 (by show w4.grownBy w9 (bl d.V.1);rw[HVA.out];exact hgr);rw[Ht0.out]at hh;have k0:w9.cell? ⟨w.heap.size+1,1,none⟩=some (.slice d.V.1 b.vars.length d.V.2):=(hh.cell 1).trans rfl;have k1:=hh.frozen 1;have hpv:=HG.out.pushV (A':=A') (c':=c') hq5 (fun _=>vC_at hb (HL12.out.below hq4) (HH13.out.below hq4)) (hb.box rfl) (fun hs=>by have h1:=HG.out.t.lt _ hs;have h2:=HQ6.out.size;omega) (Nat.le_trans hbs hgl) (by rw[lv.out];exact hr) (by rw[HVA.out];exact hgr) (by rw[HVA.out];exact hat);rw[lv.out,Ht0.out]at hpv;go_simp;exact hK.out undef _ ⟨hV.eff 16,fun h=>no_f (Eq.trans (Eq.symm h) (hC.out 12 _ rfl (hC.out 13 _ rfl (hN.out 13 rfl) 12 rfl) 11 rfl)),fun _ h=>no_f (Eq.trans (Eq.symm h) (hC.out 13 _ rfl (hN.out 13 rfl) 12 rfl)),fun _ h=>no_f (Eq.trans (Eq.symm h) (hN.out 13 rfl)),fun _ h=>no_t h,fun _=>⟨_,rfl,hpv.2.1,hpv.1.mono fun k hk=>hk.elim (fun e=>by rw[e];exact Nat.le_refl _) fun e=>HG.out.V.lo e⟩⟩
   intro L s w9 hall hS;obtain⟨hV,c_0,c_1,c_2,c_3,c_4⟩:=hS;have hPm:=c_4 (hall 16 (by decide));clear hall hV c_0 c_1 c_2 c_3 c_4;obtain⟨d1,Ht1,hg1,hs1⟩:=hPm;obtain⟨W7,hW7⟩:∃W7,W7=w9:=⟨_,rfl⟩;subst hW7;obtain⟨b1,hb1⟩:∃b1:Tb,{b with vars:=b.vars++[⟨some lo,some hi,lo⟩]}=b1:=⟨_,rfl⟩;rw[hb1]at hg1;have HB1:=ZH hb1;have lf1:Hid (b1.free.length=j):=by
    show _=_;rw[←hb1];exact lf.out
   have lc1:Hid (b1.cost.length=j):=by
    show _=_;rw[←hb1];exact lc.out
   have HG1:=ZH hg1;have HS1:=ZH hs1;have HT1:=ZH Ht1;have hwb:w.heap.size+1≤wr.heap.size:=by have h1:=HG.out.t.head.lt;rw[Ht0.out]at h1;omega
   clear hb1 hg1 hs1 Ht1 HL12 HH13 X1 X2 X3 X4 Y1 Y2 Y3 Y4 V1 HGV HQ6 HVA hbs;have hv3:=(HG1.out.t.head.cell 3).trans rfl;replace hv3:W7.cell? ⟨d1.t0,3,none⟩=some (.slice d1.F.1 b1.free.length d1.F.2):=hv3;rw[HT1.out,lf1.out]at hv3;have HGF:=ZH HG1.out.F;rw[lf1.out]at HGF;have hbs7:w.heap.size+1≤W7.heap.size:=Nat.le_trans hwb HS1.out.size;generalize hFA:d1.F.1=FA at*;have HFA:=ZH hFA;generalize d1.F.2=cF at*;clear hFA;go_upto_region 9 with (at_builtin;refine wp_appNu _ _ W7 (w.heap.size+1) tyI 1 (.slice FA j cF) j (b1.free.map iv6) #[iv6 j] (by first|rfl|simp) Tryz.underlying67 info_pi rfl rfl (by decide) (by decide) HGF.out hbs7 hj6 rfl rfl rfl rfl rfl rfl rfl ?_;intro v7 w7 r1 r2 r3 r4;obtain⟨A7,c7,rfl⟩:=r1.slice;rw[own_bl]at r2 r4;rw[own_bl]at r4;have hh:=HG1.out.t.headX .F (fun e=>by cases e) (Below.refl _ _) (by show W7.grownBy w7 (bl d1.F.1);rw[HFA.out];exact r2);rw[HT1.out]at hh;have k0:=(hh.cell 3).trans rfl;have k1:=hh.frozen 3);have hpf:=HG1.out.pushF (A':=A7) (c':=c7) (v:=j) (Below.refl _ _) (by rw[lf1.out];exact r1) (by rw[HFA.out];exact r2) (by rw[HFA.out];exact r4);rw[lf1.out,HT1.out]at hpf;obtain⟨W8,hW8⟩:∃W8,W8=w7.setCell ⟨w.heap.size+1,3,none⟩ (.slice A7 (j+1) c7):=⟨_,rfl⟩;rw[←hW8]at hpf⊢;obtain⟨b2,hb2⟩:∃b2:Tb,{b1 with free:=b1.free++[j]}=b2:=⟨_,rfl⟩;obtain⟨d2,hd2⟩:∃d2:Ad,(⟨w.heap.size+1,d1.V,d1.B,(A7,c7),d1.T,d1.C,d1.vs,d1.ls⟩:Ad)=d2:=⟨_,rfl⟩;have ht2:d2.t0=w.heap.size+1:=by rw[←hd2]
   have lc2:Hid (b2.cost.length=j):=by
    show _=_;rw[←hb2];exact lc1.out
   have HB2:Hid (b2={b with vars:=b.vars++[⟨some lo,some hi,lo⟩],free:=b.free++[j]}):=by
    show _=_;rw[←hb2,←HB1.out]
   have HG2:Hid (Gro (fun _=>True) W8 (w.heap.size+1) d2 b2):=by
    show Gro _ _ _ _ _;rw[←hd2,←hb2];exact hpf.2.1
   have HT2:=ZH ht2;have HS2:Hid (Stp (fun k=>w.heap.size+1≤k) wr W8):=HS1.out.trans (hpf.1.mono fun k hk=>hk.elim (fun e=>by rw[e];exact Nat.le_refl _) fun e=>HG1.out.F.lo e);have hb8:Blk W8 w.heap.size tyP (pgC m p):=HPB.out.stp HS2.out (by omega);have hq8:Below w.heap.size w W8:=HS2.out.below HQ.out HQ.out.size (fun k hk=>by omega);have HPB8:=ZH hb8;have HQ8:=ZH hq8;obtain⟨_,_,_,_,p4⟩:=hb8.fiveP;rw[HOK.out.c,HNL.out]at p4;obtain⟨gc',oc',hA4,c4⟩:=(HP.out.c.below hq8) j (by rw[HOK.out.c,HNL.out];exact hlt);replace c4:W8.cell? ⟨gc',oc'+j,none⟩=some (.int .i64 (p.c.getD j 0)):=c4;rw[hA4]at p4;rw[HZC.out]at c4;have P4:=Lk.of p4;have C4:=Lk.of c4;have hv5:=(HG2.out.t.head.cell 5).trans rfl;replace hv5:W8.cell? ⟨d2.t0,5,none⟩=some (.slice d2.C.1 b2.cost.length d2.C.2):=hv5;rw[HT2.out,lc2.out]at hv5;have V5:=Lk.of hv5;have HGC:=ZH HG2.out.C;rw[lc2.out]at HGC;have hbs8:w.heap.size+1≤W8.heap.size:=Nat.le_trans hwb HS2.out.size;have hj8:b2.cost.length≤1000000:=by rw[lc2.out];omega
   have HJ8:=ZH hj8;clear hpf hW8 hb2 hd2 ht2 r1 r2 r3 r4 hh k0 k1 hv3 HGF hbs7 HFA HB1 lf1 lc1 HG1 HS1 HT1 hb8 hq8 p4 c4 hA4 hv5 hj8;generalize hCA:d2.C.1=CA at*;have HCA:=ZH hCA;generalize d2.C.2=cC at*;clear hCA;refine region_gen0 (n:=16) (frame:= ?frame3) (fun L s w'=>Vs [oP (w.heap.size+1) 0,oP (w.heap.size+1) 0,oP (w.heap.size+1) 0,oP (w.heap.size+1) 5,oF (.slice CA j cC),oP w.heap.size 4,oF (.slice (some ⟨gc',oc',none⟩) n m.c.2),oI ((j:Nat)),oP gc' (oc'+j),oI zc,none,none,none,oP (w.heap.size+1) 0,oP (w.heap.size+1) 5,none] L s∧(L 10=false→(Below W8.heap.size W8 w'))∧(L 10=true→L 11=false→(Below W8.heap.size W8 w'∧∃A c B e,s 10=qv (zc:Rat) A c B e∧QR w' A c B e (zc:Rat)))∧(L 11=true→L 12=false→(Below W8.heap.size W8 w'∧∃w4 A c B e,w'=w4.alloc (.cells (qcs (zc:Rat) A c B e) 72)∧s 11= .slice (some ⟨w4.heap.size,0,none⟩) 1 1∧Below W8.heap.size W8 w4∧QR w4 A c B e (zc:Rat)))∧(L 12=true→L 15=false→(∃w4 A' c',s 12= .slice A' (j+1) c'∧Below W8.heap.size W8 w4∧QOwn w' (w.heap.size+1) (.slice A' (j+1) c') (b2.cost++[(zc:Rat)])∧w4.grownBy w' (bl CA)∧(bl A'=bl CA∨∀k,bl A'=some k→w4.heap.size≤k)))∧(L 15=true→(∃d',d'.t0=w.heap.size+1∧Gro (fun _=>True) w' (w.heap.size+1) d' {b2 with cost:=b2.cost++[(zc:Rat)]}∧Stp (fun k=>w.heap.size+1≤k) W8 w'))) (by kernel_rfl) (by kernel_rfl) (by kernel_rfl) rfl ?_ ?_ ?_ ?_
   case refine_1=>exact⟨fun _ _ _ h=>no_f h,fun _=>(Read.refl _).drew.below _,fun h=>no_f h,fun h=>no_f h,fun h=>no_f h,fun h=>no_f h⟩
   case refine_2=>
    intro s;simp only[fr,Act.put,zA,zB,zC,zD,zE,zF,Nat.reduceAdd];rfl
   case refine_3=>
    iterate 16 (refine SN ?_ ?_;rotate_left)
    exact Steps.nil;all_goals (intro L s w9 hN hU hi hC hS K hK;dsimp only at hK⊢;simp only[Act.put,zD,zE,zF]at hK;obtain⟨hV,c_0,c_1,c_2,c_3,c_4⟩:=hS;refine ite_of rfl ?_)
    ·go_simp;exact hK.out _ _ ⟨hV.put 0,c_0,c_1,c_2,c_3,c_4⟩
    ·go_simp;exact hK.out _ _ ⟨hV.put 1,c_0,c_1,c_2,c_3,c_4⟩
    ·rw[hV.at 1 (hN.out 1 rfl)]at hK⊢;go_simp;exact hK.out _ _ ⟨hV.put 2,c_0,c_1,c_2,c_3,c_4⟩
    ·rw[hV.at 2 (hN.out 2 rfl)]at hK⊢;go_simp;exact hK.out _ _ ⟨hV.put 3,c_0,c_1,c_2,c_3,c_4⟩
    ·rw[hV.at 3 (hN.out 3 rfl)]at hK⊢;have hE:Below W8.heap.size W8 w9:=(match hL0:L 10 with|false=>(c_0 hL0)|true=>(match hL1:L 11 with|false=>(c_1 hL0 hL1).1|true=>(c_2 hL1 (hU.out 12 _ rfl rfl)).1));have u0:=V5 _ hE;go_simp;exact hK.out _ _ ⟨hV.put 4,c_0,c_1,c_2,c_3,c_4⟩
    ·go_simp;exact hK.out _ _ ⟨hV.put 5,c_0,c_1,c_2,c_3,c_4⟩
    ·rw[hV.at 5 (hN.out 5 rfl)]at hK⊢;have hE:Below W8.heap.size W8 w9:=(c_0 (Shut.no hC 10 9 rfl rfl (Shut.no hC 9 8 rfl rfl (hU.out 8 _ rfl rfl))));have u0:=P4 _ hE;go_simp;exact hK.out _ _ ⟨hV.put 6,c_0,c_1,c_2,c_3,c_4⟩
    ·go_simp;exact hK.out _ _ ⟨hV.put 7,c_0,c_1,c_2,c_3,c_4⟩
    ·rw[hV.at 6 (hN.out 6 rfl)]at hK⊢;rw[hV.at 7 (hN.out 7 rfl)]at hK⊢;go_simp;exact hK.out _ _ ⟨hV.put 8,c_0,c_1,c_2,c_3,c_4⟩
    ·rw[hV.at 8 (hN.out 8 rfl)]at hK⊢;have hE:Below W8.heap.size W8 w9:=(c_0 (hU.out 10 _ rfl rfl));have u0:=C4 _ hE;go_simp;exact hK.out _ _ ⟨hV.put 9,c_0,c_1,c_2,c_3,c_4⟩
    ·rw[hV.at 9 (hN.out 9 rfl)]at hK⊢;have hP:=c_0 hi.out;go_simp;go_at_call 26;refine(pof_any I4.out.1 I4.out.2).mono ?_;rintro e9 w10 ⟨q,A,c,B,e,rfl,hq⟩;exact hK.out _ _ ⟨hV.eff 10,fun h=>no_t h,fun _ _=>⟨bT hP q,A,c,B,e,rfl,hq⟩,fun h=>no_f (Eq.trans (Eq.symm (hU.out 11 _ rfl rfl)) h),fun h=>no_f (Eq.trans (Eq.symm (Shut.no hC 12 11 rfl rfl (hU.out 11 _ rfl rfl))) h),fun h=>no_f (Eq.trans (Eq.symm (Shut.no hC 15 12 rfl rfl (Shut.no hC 12 11 rfl rfl (hU.out 11 _ rfl rfl)))) h)⟩
    ·have hP:=c_1 (hN.out 10 rfl) hi.out;obtain⟨hP0,A,c,B,e,e10,hq⟩:=hP;simp only[e10]at hK⊢;go_simp;exact hK.out _ _ ⟨hV.eff 11,fun h=>no_f (Eq.trans (Eq.symm h) (hN.out 10 rfl)),fun _ h=>no_t h,fun _ _=>⟨below_alloc hP0 ZL _,_,A,c,B,e,rfl,rfl,hP0,hq⟩,fun h=>no_f (Eq.trans (Eq.symm (hU.out 12 _ rfl rfl)) h),fun h=>no_f (Eq.trans (Eq.symm (Shut.no hC 15 12 rfl rfl (hU.out 12 _ rfl rfl))) h)⟩
    ·rw[hV.at 4 (hN.out 4 rfl)]at hK⊢;have hP:=c_2 (hN.out 11 rfl) hi.out;obtain⟨_,w4,A,c,B,e,rfl,e11,hq4,hq⟩:=hP;simp only[e11]at hK⊢;refine wp_appQ_op _ _ w4 (w.heap.size+1) (.slice CA j cC) b2.cost (zc:Rat) A c B e rfl Tryz.underlying45 (HGC.out.below hq4) hq (Nat.le_trans hbs8 hq4.size) HJ8.out rfl rfl rfl ?_;intro v4 w5 r1 r2 r3 r4;obtain⟨A',c',e4⟩:=r1.slice;rw[List.length_append,List.length_singleton,lc2.out]at e4;subst e4;rw[own_bl]at r2 r4;exact hK.out _ _ ⟨hV.eff 12,fun h=>no_f (Eq.trans (Eq.symm h) (hC.out 11 _ rfl (hN.out 11 rfl) 10 rfl)),fun _ h=>no_f (Eq.trans (Eq.symm h) (hN.out 11 rfl)),fun _ h=>no_t h,fun _ _=>⟨w4,A',c',rfl,hq4,r1,r2,by rw[own_bl]at r4;exact r4⟩,fun h=>no_f (Eq.trans (Eq.symm (hU.out 15 _ rfl rfl)) h)⟩
    ·rw[hV.at 0 (hN.out 0 rfl)]at hK⊢;go_simp;exact hK.out _ _ ⟨hV.put 13,c_0,c_1,c_2,c_3,c_4⟩
    ·rw[hV.at 13 (hN.out 13 rfl)]at hK⊢;go_simp;exact hK.out _ _ ⟨hV.put 14,c_0,c_1,c_2,c_3,c_4⟩
    ·rw[hV.at 14 (hN.out 14 rfl)]at hK⊢;have hP:=c_3 (hN.out 12 rfl) hi.out;obtain⟨w4,A',c',e12,hq4,hr,hgr,hat⟩:=hP;simp only[e12]at hK⊢;have hh:=HG2.out.t.headX .C (fun e=>by cases e) hq4 (by show w4.grownBy w9 (bl d2.C.1);rw[HCA.out];exact hgr);rw[HT2.out]at hh;have k0:w9.cell? ⟨w.heap.size+1,5,none⟩=some (.slice d2.C.1 b2.cost.length d2.C.2):=(hh.cell 5).trans rfl;have k1:=hh.frozen 5;have hpv:=HG2.out.pushC (A':=A') (c':=c') (z:=(zc:Rat)) hq4 (by rw[lc2.out];exact hr) (by rw[HCA.out];exact hgr) (by rw[HCA.out];exact hat);rw[lc2.out,HT2.out]at hpv;go_simp;exact hK.out undef _ ⟨hV.eff 15,fun h=>no_f (Eq.trans (Eq.symm h) (hC.out 11 _ rfl (hC.out 12 _ rfl (hN.out 12 rfl) 11 rfl) 10 rfl)),fun _ h=>no_f (Eq.trans (Eq.symm h) (hC.out 12 _ rfl (hN.out 12 rfl) 11 rfl)),fun _ h=>no_f (Eq.trans (Eq.symm h) (hN.out 12 rfl)),fun _ h=>no_t h,fun _=>⟨_,rfl,hpv.2.1,hpv.1.mono fun k hk=>hk.elim (fun e=>by rw[e];exact Nat.le_refl _) fun e=>HG2.out.C.lo e⟩⟩
   intro L s w9 hall hS;obtain⟨hV,c_0,c_1,c_2,c_3,c_4⟩:=hS;have hPm:=c_4 (hall 15 (by decide));clear hall hV c_0 c_1 c_2 c_3 c_4;obtain⟨d3,Ht3,hg3,hs3⟩:=hPm;have HG3:Hid (Gro (fun _=>True) w9 (w.heap.size+1) d3 (stJ p P (j+1))):=by
    show Gro _ _ _ _ _;rw[HNX.out];rw[HB2.out]at hg3;exact hg3
   have hb9:=HPB8.out.stp hs3 (by omega);have hq9:=hs3.below HQ8.out HQ8.out.size (fun k hk=>by omega);have HT3:=ZH Ht3;clear hg3 hs3 Ht3 HB2 HG2 HT2 HS2 HGC HCA V5 P4 C4;go_wp2_with fail;go_roundg (n-(j+1))
   case measure=>omega
   case rel=>exact⟨j+1,d3,rfl,by omega,by simp,HG3.out,HT3.out,hq9,hb9⟩
  ·have d1:decide ((j:Int)<(n:Int))=false:=dF (by omega);have hjn:j=n:=by omega
   subst hjn;have HG1:Hid (Gro (fun _=>True) wr (w.heap.size+1) d (startT p P)):=by
    show Gro _ _ _ _ _;have:=HG.out;rw[←HNL.out,stJ_end HOK.out]at this;exact this
   have HF0:Hid (Half j 0 (startT p P)):=by
    show Half _ _ _;have:=Half.start HOK.out P;rw[HNL.out]at this;exact this
   have HR0:Hid (R=beginO j 0 (startT p P) (p.a.drop 0) (p.b.drop 0)):=HR;have HLB:=ZH HOK.out.b;have hal:=HOK.out.a;clear HG p0 p1 p3 p4 P0 P1 P4 HR d1;obtain⟨AA,hAA⟩:∃AA,m.a.1=AA:=⟨_,rfl⟩;rw[hAA]at p2;have HAA:=ZH hAA;clear hAA;generalize m.a.2=cA at*;obtain⟨W0,rfl⟩:∃W0,W0=wr:=⟨_,rfl⟩;obtain⟨n,rfl⟩:∃n,n=j:=⟨_,rfl⟩;go_wp2_with fail;go_loopg [85] p.a.length (fun k pp wr=>∃(i:Nat)(d:Ad)(b:Tb),k=p.a.length-i∧i≤p.a.length∧pp= .int .i64 (i:Nat)∧Hid (R=beginO n i b (p.a.drop i) (p.b.drop i))∧Hid (Gro (fun _=>True) wr (w.heap.size+1) d b)∧Hid (d.t0=w.heap.size+1)∧Hid (Half n i b)∧Below w.heap.size w wr∧Blk wr w.heap.size tyP (pgC m p))
   case atStart=>exact⟨0,d,startT p P,rfl,Nat.zero_le _,rfl,HR0.out,HG1.out,Ht0.out,HF0.out,HQ.out,HPB.out⟩
   case round=>
    clear HG1 HF0 HR0 HPB HQ p2 Ht0;obtain⟨i,d,b,hk,hi,rfl,HL,HG,Ht0,HF,hq,hpb⟩:=hrel;have HPB:=ZH hpb;have HQ:=ZH hq;by_cases hlt:i<p.a.length
    ·have d1:decide ((i:Int)<(p.a.length:Int))=true:=dT (by omega);have hlb:i<p.b.length:=by rw[HLB.out];exact hlt
     obtain⟨row,hrow⟩:∃row,p.a.getD i []=row:=⟨_,rfl⟩;have HC:Hid (R=(sumO (nextB n i (row.map fun z:Int=>(z:Rat)) (p.b.getD i 0:Int) b) 0 (row.map fun z:Int=>(z:Rat)) b.free).bind fun s=>beginO n (i+1) ((nextB n i (row.map fun z:Int=>(z:Rat)) (p.b.getD i 0:Int) b).setV (n+i) s) (p.a.drop (i+1)) (p.b.drop (i+1))):=by
      show _=_;rw[HL.out,drop_at (z:=[]) hlt,drop_at (z:=0) hlb,beginO_step,hrow]
     obtain⟨ga,oa,hA2,ci⟩:=(HP.out.ap.below hq) i hlt;replace ci:wr.cell? ⟨ga,oa+i,none⟩=some (.slice (m.rs.getD i (none,0)).1 (p.a.getD i []).length (m.rs.getD i (none,0)).2):=ci;rw[HAA.out]at hA2;subst hA2;have HIR:Hid (∀w',Below w.heap.size w w'→IRow w' (m.rs.getD i (none,0)).1 row):=fun w' q=>by
      have:=(HP.out.below q).ar i hlt;rw[hrow]at this;exact this
     have hrl:row.length=n:=by rw[←hrow,HOK.out.rows i hlt,HNL.out]
     have HRL:=ZH hrl;rw[hrow,hrl]at ci;obtain⟨_,_,_,p3,_⟩:=hpb.fiveP;rw[HLB.out]at p3;obtain⟨gb,ob,hA3,cb⟩:=(HP.out.b.below hq) i hlb;replace cb:wr.cell? ⟨gb,ob+i,none⟩=some (.int .i64 (p.b.getD i 0)):=cb;rw[hA3]at p3;have I3:=ZH (HOK.out.ib i hlt);have IA:Hid (∀j,j<n→in64 (row.getD j 0)):=fun j hj=>by
      have:=HOK.out.ia i hlt j (by rw[HNL.out];exact hj);rw[hrow]at this;exact this
     clear hrow hrl hA3 HL hq hpb;generalize p.b.getD i 0=zb at*;obtain⟨RA,hRA⟩:∃RA,(m.rs.getD i (none,0)).1=RA:=⟨_,rfl⟩;rw[hRA]at ci HIR;clear hRA;generalize (m.rs.getD i (none,0)).2=cR at*;go_wp2_with fail;refine(pof_any I3.out.1 I3.out.2).mono ?_;rintro e W1 ⟨q1,A1,c1,B1,e1,rfl,hq1⟩;generalize ((zb:Int):Rat)=zq at*;have HQ1:=ZH (hq1.below (bA1 W1 (.cells (hC zq A1 c1 B1 e1) tyX)));have HX0:=ZH (Blk.new W1 tyX (hC zq A1 c1 B1 e1));have HQW:=ZH (below_alloc q1 ZL (.cells (hC zq A1 c1 B1 e1) tyX));have hgx:wr.heap.size≤W1.heap.size:=q1.size;have hx1:W1.heap.size+1≤(W1.alloc (.cells (hC zq A1 c1 B1 e1) tyX)).heap.size:=by simp
     obtain⟨line,hline⟩:∃line,(row.map fun z:Int=>(z:Rat))=line:=⟨_,rfl⟩;rw[hline]at HC;have HLN:Hid (∀j,j<n→line.getD j 0=((row.getD j 0:Int):Rat)):=fun j hj=>by
      rw[←hline,gE,List.getElem?_map,gG (by rw[HRL.out];exact hj),gE,gG (by rw[HRL.out];exact hj)];rfl
     have HLL:Hid (line.length=n):=by
      show _=_;rw[←hline,List.length_map];exact HRL.out
     clear hq1 hline q1 ci cb p3;obtain⟨W0',rfl⟩:∃W0',W0'=wr:=⟨_,rfl⟩;go_wp2_with fail;obtain⟨W2,hW2⟩:∃W2,W2=W1.alloc (.cells (hC zq A1 c1 B1 e1) tyX):=⟨_,rfl⟩;rw[←hW2]at HQ1 HX0 HQW hx1;rw[←hW2];clear hW2;go_loopg [101,13] n (fun k pp v wr=>∃(l:List Rat),k=n-l.length∧l.length≤n∧pp= .int .i64 (l.length:Nat)∧Hid (l=line.take l.length)∧Below W2.heap.size W2 wr∧QOwn wr W2.heap.size v l)
     case atStart=>exact⟨[],rfl,Nat.zero_le _,rfl,rfl,Below.refl _ _,QOwn.nil _ _⟩
     case round=>
      obtain⟨l,hkl,hll,rfl,HLT,hq2,how⟩:=hrel;by_cases hlt3:l.length<n
      ·have d3:decide ((l.length:Int)<(n:Int))=true:=dT (by omega);obtain⟨gr,or,rfl,ca⟩:=HIR.out wr (bT (bT HQ.out HQW.out) hq2) l.length (by rw[HRL.out];exact hlt3);replace ca:wr.cell? ⟨gr,or+l.length,none⟩=some (.int .i64 (row.getD l.length 0)):=ca;have I5:=ZH (IA.out l.length hlt3);have HLX:Hid (l++[((row.getD l.length 0:Int):Rat)]=line.take (l.length+1)):=by
        show _=_;rw[take_more (z:=0) (by rw[HLL.out];exact hlt3),HLN.out _ hlt3,←HLT.out]
       generalize row.getD l.length 0=za at*;obtain⟨A2,c2,rfl⟩:=how.slice;have hl6:l.length≤1000000:=by omega
       clear HLT;go_wp2_with fail;refine(pof_any I5.out.1 I5.out.2).mono ?_;rintro e W3 ⟨q3,A3,c3,B3,e3,rfl,hq3⟩;generalize ((za:Int):Rat)=zr at*;have how3:=how.below q3;have hq3':=bT hq2 q3;clear how hq2 q3 ca;go_wp2_with (at_builtin;refine wp_appQ _ _ W3 W2.heap.size (.slice A2 l.length c2) l zr A3 c3 B3 e3 (by first|rfl|simp) Tryz.underlying45 how3 hq3 hq3'.size hl6 rfl rfl rfl rfl ?_;intro v7 w7 ho7 hg7 hb7 hat7);have hl7:(l++[zr]).length=l.length+1:=by rw[List.length_append,List.length_singleton]
       have HL7:=ZH hl7;clear hl7;go_roundg (n-(l.length+1))
       case measure=>omega
       case rel=>exact⟨l++[zr],by rw[HL7.out],by rw[HL7.out];omega,by rw[HL7.out];simp,by rw[HL7.out];exact HLX.out,hq3'.trans hb7,ho7⟩
      ·have d3:decide ((l.length:Int)<(n:Int))=false:=dF (by omega);have hle:l=line:=HLT.out.trans (List.take_of_length_le (by rw[HLL.out];omega));subst hle;obtain⟨LA,cL,rfl⟩:=how.slice;have q:=bT HQW.out hq2;have HX2:=ZH (HX0.out.below hq2 ZL);have HQ2:=ZH (HQ1.out.below hq2);have HLR:=ZH how.row;have HLB:Hid (∀g,bl LA=some g→Box wr g∧W2.heap.size≤g):=fun g hg=>by
        have h1:=how.box g (by rw[own_bl];exact hg);exact⟨h1.2,h1.1⟩
       have HG1:=ZH ((HG.out.weak (ok':=fun k=>k≠n+i) (fun _ _=>trivial)).below q);have HOL:=ZH HG.out.t.lt;have HLO:=ZH HG.out.lo;have hbw:w.heap.size+1<W0'.heap.size:=by have h1:=HOL.out d.t0 ⟨.h,rfl⟩;rw[Ht0.out]at h1;exact h1
       have HNX:Hid (¬d.S W1.heap.size):=fun hs=>by have:=HOL.out _ hs;omega
       have HNN:Hid (∀g,bl LA=some g→¬d.S g∧g≠W1.heap.size∧g<wr.heap.size∧w.heap.size+1≤g):=fun g hg=>by
        have h2:=HLB.out g hg;exact⟨fun hs=>by have h1:=HOL.out _ hs;omega,by omega,h2.1.lt,by omega⟩
       have HQw:=ZH (bT HQ.out q);have HPw:=ZH (HPB.out.below q ZL);have hwr:w.heap.size+1≤wr.heap.size:=Nat.le_trans (Nat.le_of_lt hbw) q.size;have hv1:=(HG1.out.t.head.cell 1).trans rfl;replace hv1:wr.cell? ⟨d.t0,1,none⟩=some (.slice d.V.1 b.vars.length d.V.2):=hv1;rw[HF.out.vl,Ht0.out]at hv1;have HGV:=ZH HG1.out.V;rw[HF.out.vl]at HGV;have hni:n+i≤1000000:=by omega
       rw[HLL.out];clear how HLT HX0 HQ1 HQW HIR IA HG q hq2;obtain⟨VA,hVA⟩:∃VA,d.V.1=VA:=⟨_,rfl⟩;rw[hVA]at hv1 HGV;have HVA:=ZH hVA;clear hVA;generalize d.V.2=cV at*;obtain⟨W3,hW3e⟩:∃W3,W3=wr:=⟨_,rfl⟩;subst hW3e;go_upto_region 22 with (at_builtin;refine wp_appNu _ _ W3 (w.heap.size+1) tyV 1 (.slice VA (n+i) cV) (n+i) (d.vs.map vptr) #[vptr W1.heap.size] (by first|rfl|simp) Tryz.underlying177 info_pv rfl rfl (by decide) (by decide) HGV.out hwr hni rfl rfl rfl rfl rfl rfl rfl ?_;intro v7 w7 r1 r2 r3 r4;obtain⟨A7,c7,rfl⟩:=r1.slice;rw[own_bl]at r2 r4;rw[own_bl]at r4;have hh:=HG1.out.t.headX .V (fun e=>by cases e) (Below.refl _ _) (by show W3.grownBy w7 (bl d.V.1);rw[HVA.out];exact r2);rw[Ht0.out]at hh;have k0:=(hh.cell 1).trans rfl;have k1:=hh.frozen 1);have hpf:=HG1.out.pushV (A':=A7) (c':=c7) (x:=⟨none,some zq,0⟩) (Below.refl _ _) (fun ho=>absurd HF.out.vl ho) (HX2.out.box rfl) HNX.out (by omega) (by rw[HF.out.vl];exact r1) (by rw[HVA.out];exact r2) (by rw[HVA.out];exact r4);rw[HF.out.vl,Ht0.out]at hpf;obtain⟨W4,hW4⟩:∃W4,W4=w7.setCell ⟨w.heap.size+1,1,none⟩ (.slice A7 (n+i+1) c7):=⟨_,rfl⟩;rw[←hW4]at hpf⊢;obtain⟨b1,hb1⟩:∃b1:Tb,{b with vars:=b.vars++[⟨none,some zq,0⟩]}=b1:=⟨_,rfl⟩;obtain⟨d1,hd1⟩:∃d1:Ad,(⟨w.heap.size+1,(A7,c7),d.B,d.F,d.T,d.C,d.vs++[W1.heap.size],d.ls⟩:Ad)=d1:=⟨_,rfl⟩;have HT1:Hid (d1.t0=w.heap.size+1):=by
        show _=_;rw[←hd1]
       have HG2:Hid (Gro (fun k=>k≠n+i) W4 (w.heap.size+1) d1 b1):=by
        show Gro _ _ _ _ _;rw[←hd1,←hb1];exact hpf.2.1
       have HD1:Hid (∀g,d1.S g→d.S g∨(g=W1.heap.size∨W3.heap.size≤g)):=by
        show ∀g,_;rw[←hd1];exact hpf.2.2
       have HS4:Hid (Stp (fun k=>w.heap.size+1≤k∧k≠W1.heap.size∧bl LA≠some k) W3 W4):=hpf.1.mono fun k hk=>by
        have hs:d.S k:=hk.elim (fun e=>⟨.h,by rw[e,←Ht0.out];rfl⟩) (fun e=>⟨.V,e⟩);exact⟨by obtain⟨y,hy⟩:=hs;exact HLO.out y k hy,fun e=>HNX.out (e▸hs),fun e=>(HNN.out k e).1 hs⟩
       have HB1:Hid (b1={b with vars:=b.vars++[⟨none,some zq,0⟩]}):=hb1.symm;have hvx:d1.at (.v (n+i))=some W1.heap.size:=by
        rw[←hd1];show(d.vs++[W1.heap.size])[n+i]? =_;have hvl:d.vs.length=n+i:=HG1.out.t.vl.trans HF.out.vl;rw[List.getElem?_append_right (by omega),hvl,Nat.sub_self];rfl
       have HVX:=ZH hvx;have lb1:Hid (b1.basic.length=i):=by
        show _=_;rw[←hb1];exact HF.out.bl
       have lt1:Hid (b1.t.length=i):=by
        show _=_;rw[←hb1];exact HF.out.tl
       clear hW4 hpf hb1 hd1 hvx r1 r2 r3 r4 hh k0 k1 hv1 HGV HVA HG1;have hv2:=(HG2.out.t.head.cell 2).trans rfl;replace hv2:W4.cell? ⟨d1.t0,2,none⟩=some (.slice d1.B.1 b1.basic.length d1.B.2):=hv2;rw[lb1.out,HT1.out]at hv2;have HGB:=ZH HG2.out.B;rw[lb1.out]at HGB;have hw4:w.heap.size+1≤W4.heap.size:=Nat.le_trans hwr HS4.out.size;have hi6:i≤1000000:=by omega
       obtain⟨BA,hBA⟩:∃BA,d1.B.1=BA:=⟨_,rfl⟩;rw[hBA]at hv2 HGB;have HBA:=ZH hBA;clear hBA;generalize d1.B.2=cB at*;go_upto_region 23 with (at_builtin;refine wp_appNu _ _ W4 (w.heap.size+1) tyI 1 (.slice BA i cB) i (b1.basic.map iv6) #[.int .i64 ((n:Int)+(i:Int))] (by first|rfl|simp) Tryz.underlying67 info_pi rfl rfl (by decide) (by decide) HGB.out hw4 hi6 rfl rfl rfl rfl rfl rfl rfl ?_;intro v7 w7 r1 r2 r3 r4;obtain⟨A8,c8,rfl⟩:=r1.slice;rw[own_bl]at r2 r4;rw[own_bl]at r4;have hh:=HG2.out.t.headX .B (fun e=>by cases e) (Below.refl _ _) (by show W4.grownBy w7 (bl d1.B.1);rw[HBA.out];exact r2);rw[HT1.out]at hh;have k0:=(hh.cell 2).trans rfl;have k1:=hh.frozen 2);have hpf:=HG2.out.pushB (A':=A8) (c':=c8) (v:=n+i) (Below.refl _ _) (by rw[lb1.out];exact r1) (by rw[HBA.out];exact r2) (by rw[HBA.out];exact r4);rw[lb1.out,HT1.out]at hpf;obtain⟨W5,hW5⟩:∃W5,W5=w7.setCell ⟨w.heap.size+1,2,none⟩ (.slice A8 (i+1) c8):=⟨_,rfl⟩;rw[←hW5]at hpf⊢;obtain⟨b2,hb2⟩:∃b2:Tb,{b1 with basic:=b1.basic++[n+i]}=b2:=⟨_,rfl⟩;obtain⟨d2,hd2⟩:∃d2:Ad,(⟨w.heap.size+1,d1.V,(A8,c8),d1.F,d1.T,d1.C,d1.vs,d1.ls⟩:Ad)=d2:=⟨_,rfl⟩;have HT2:Hid (d2.t0=w.heap.size+1):=by
        show _=_;rw[←hd2]
       have HG3:Hid (Gro (fun k=>k≠n+i) W5 (w.heap.size+1) d2 b2):=by
        show Gro _ _ _ _ _;rw[←hd2,←hb2];exact hpf.2.1
       have HD2:Hid (∀g,d2.S g→d1.S g∨W4.heap.size≤g):=by
        show ∀g,_;rw[←hd2];exact hpf.2.2
       have HS5:Hid (Stp (fun k=>w.heap.size+1≤k∧k≠W1.heap.size∧bl LA≠some k) W4 W5):=hpf.1.mono fun k hk=>by
        have hs:d1.S k:=hk.elim (fun e=>⟨.h,by rw[e,←HT1.out];rfl⟩) (fun e=>⟨.B,e⟩);have hx:k≠W1.heap.size:=fun e=>by
         rcases hk with h1|h1
         ·have:=HG2.out.t.apart .h (.v (n+i)) k (by rw[h1,←HT1.out];rfl) (by rw[e];exact HVX.out);cases this
         ·have:=HG2.out.t.apart .B (.v (n+i)) k h1 (by rw[e];exact HVX.out);cases this
        refine⟨by obtain⟨y,hy⟩:=hs;exact HG2.out.lo y k hy,hx,fun e=> ?_⟩;rcases HD1.out k hs with h1|h1|h1
        ·exact(HNN.out k e).1 h1
        ·exact hx h1
        ·have:=(HNN.out k e).2.2.1;omega
       have HB2:Hid (b2={b with vars:=b.vars++[⟨none,some zq,0⟩],basic:=b.basic++[n+i]}):=by
        show _=_;rw[←hb2,HB1.out]
       have HVX2:Hid (d2.at (.v (n+i))=some W1.heap.size):=by
        show _=_;rw[←hd2];exact HVX.out
       have lt2:Hid (b2.t.length=i):=by
        show _=_;rw[←hb2];exact lt1.out
       clear hW5 hpf hb2 hd2 r1 r2 r3 r4 hh k0 k1 hv2 HGB HBA HG2 HT1 HVX lb1 lt1 HB1;have hv4:=(HG3.out.t.head.cell 4).trans rfl;replace hv4:W5.cell? ⟨d2.t0,4,none⟩=some (.slice d2.T.1 b2.t.length d2.T.2):=hv4;rw[lt2.out,HT2.out]at hv4;have HGT:=ZH HG3.out.T;rw[lt2.out]at HGT;have hw5:w.heap.size+1≤W5.heap.size:=Nat.le_trans hw4 HS5.out.size;have HSL:Hid (Stp (fun k=>w.heap.size+1≤k∧k≠W1.heap.size∧bl LA≠some k) W3 W5):=HS4.out.trans HS5.out;have HLR5:Hid (QRow W5 LA l):=HLR.out.stp HSL.out fun g hg e=>e.2.2 hg;have HLB5:Hid (∀g,bl LA=some g→Box W5 g∧¬d2.S g∧w.heap.size+1≤g):=fun g hg=>⟨(HLB.out g hg).1.stp HSL.out fun e=>e.2.2 hg,fun hs=>by
        have h1:=HNN.out g hg;have h3:=HS4.out.size;rcases HD2.out g hs with h2|h2
        ·rcases HD1.out g h2 with h2|h2|h2
         ·exact h1.1 h2
         ·exact h1.2.1 h2
         ·omega
        ·omega,(HNN.out g hg).2.2.2⟩
       obtain⟨TA,hTA⟩:∃TA,d2.T.1=TA:=⟨_,rfl⟩;rw[hTA]at hv4 HGT;have HTA:=ZH hTA;clear hTA;generalize d2.T.2=cT at*;go_upto_region 24 with (at_builtin;refine wp_appNu _ _ W5 (w.heap.size+1) tyL 1 (.slice TA i cT) i (lineVs d2 b2.t) #[.slice LA n cL] (by first|rfl|simp) Tryz.underlying178 info_pl rfl rfl (by decide) (by decide) HGT.out hw5 hi6 rfl rfl rfl rfl rfl rfl rfl ?_;intro v7 w7 r1 r2 r3 r4;obtain⟨A9,c9,rfl⟩:=r1.slice;rw[own_bl]at r2 r4;rw[own_bl]at r4;have hh:=HG3.out.t.headX .T (fun e=>by cases e) (Below.refl _ _) (by show W5.grownBy w7 (bl d2.T.1);rw[HTA.out];exact r2);rw[HT2.out]at hh;have k0:=(hh.cell 4).trans rfl;have k1:=hh.frozen 4);have hpf:=HG3.out.pushT (A':=A9) (c':=c9) (LA:=LA) (cL:=cL) (line:=l) (Below.refl _ _) HLR5.out HLB5.out (by rw[lt2.out,HLL.out];exact r1) (by rw[HTA.out];exact r2) (by rw[HTA.out];exact r4);rw[lt2.out,HT2.out]at hpf;obtain⟨W6,hW6⟩:∃W6,W6=w7.setCell ⟨w.heap.size+1,4,none⟩ (.slice A9 (i+1) c9):=⟨_,rfl⟩;rw[←hW6]at hpf⊢;obtain⟨d3,hd3⟩:∃d3:Ad,(⟨w.heap.size+1,d2.V,d2.B,d2.F,(A9,c9),d2.C,d2.vs,d2.ls++[(LA,cL)]⟩:Ad)=d3:=⟨_,rfl⟩;have HT3:Hid (d3.t0=w.heap.size+1):=by
        show _=_;rw[←hd3]
       have HG4:Hid (Gro (fun k=>k≠n+i) W6 (w.heap.size+1) d3 (nextB n i l zq b)):=by
        show Gro _ _ _ _ _;have h1:=hpf.2;rw[HB2.out]at h1;rw[←hd3];exact h1
       have HS6:Hid (Stp (fun k=>w.heap.size+1≤k∧k≠W1.heap.size) W5 W6):=hpf.1.mono fun k hk=>by
        have hs:d2.S k:=hk.elim (fun e=>⟨.h,by rw[e,←HT2.out];rfl⟩) (fun e=>⟨.T,e⟩);refine⟨by obtain⟨y,hy⟩:=hs;exact HG3.out.lo y k hy,fun e=> ?_⟩;rcases hk with h1|h1
        ·have:=HG3.out.t.apart .h (.v (n+i)) k (by rw[h1,←HT2.out];rfl) (by rw[e];exact HVX2.out);cases this
        ·have:=HG3.out.t.apart .T (.v (n+i)) k h1 (by rw[e];exact HVX2.out);cases this
       have HVX3:Hid (d3.vs.getD (n+i) 0=W1.heap.size):=by
        show _=_;rw[←hd3,gE,show d2.vs[n+i]? =some W1.heap.size from HVX2.out];rfl
       have HSA:Hid (Stp (fun k=>w.heap.size+1≤k∧k≠W1.heap.size) W3 W6):=(HSL.out.mono fun k hk=>⟨hk.1,hk.2.1⟩).trans HS6.out;have HX6:=ZH (HX2.out.stp HSA.out fun e=>e.2 rfl);have HQ6:=ZH (HQ2.out.stp HSA.out);have HP6:=ZH (HPw.out.stp HSA.out fun e=>by have:=e.1;omega);have HW6:=ZH (HSA.out.below HQw.out HQw.out.size (fun k hk=>by omega));clear hW6 hpf hd3 r1 r2 r3 r4 hh k0 k1 hv4 HGT HTA HG3 HT2 HVX2 lt2 HB2 HLR HLR5 HLB HLB5 HS4 HS5 HS6 HSL HSA HX2 HQ2 HPw HQw HD1 HD2;have HF2:=ZH (HF.out.next (line:=l) (hq:=zq) (s:=0) HLL.out);have hnl:(nextB n i l zq b).t.getD i []=l:=by
        show(b.t++[l]).getD i []=l;rw[getD_app (by rw[HF.out.tl];omega),HF.out.tl,if_neg (by omega)]
       have hnf:(nextB n i l zq b).free.length=n:=by
        show b.free.length=n;rw[HF.out.fr,List.length_range]
       have hnv:(nextB n i l zq b).vars.length=n+i+1:=by
        show(b.vars++[_]).length=_;rw[List.length_append,List.length_singleton,HF.out.vl]
       have hnt:i<(nextB n i l zq b).t.length:=by
        show i<(b.t++[l]).length;rw[List.length_append,List.length_singleton,HF.out.tl];omega
       have hng:∀j,j<n→(nextB n i l zq b).free.getD j 0=j:=fun j hj=>by
        show b.free.getD j 0=j;rw[HF.out.fr,gE,List.getElem?_range hj];rfl
       have HSM:Hid (Calls Tryz.prog 137 #[vptr (w.heap.size+1),iv6 i] W6 fun e w'=>RetP W6 w' e (sumO (nextB n i l zq b) 0 l b.free)):=by
        have h1:=sum_any HG4.out.t (i:=i) hnt (by rw[hnl,hnf];exact HLL.out) (by rw[hnf];omega) (fun j hj=>by rw[hnf]at hj;rw[hng j hj,hnv];omega) (fun j hj=>by rw[hnf]at hj;rw[hng j hj];omega);rw[hnl,HT3.out]at h1;exact h1
       have HNV:=ZH hnv;clear hnl hnf hnv hnt hng;go_wp2_with fail;refine HSM.out.mono ?_;rintro e W7 ⟨q7,⟨s,A7,c7,B7,e7,hs,rfl,hqs⟩|⟨hs,v,rfl⟩⟩
       ·have HC2:Hid (R=beginO n (i+1) ((nextB n i l zq b).setV (n+i) s) (p.a.drop (i+1)) (p.b.drop (i+1))):=HC.out.trans (by rw[hs];rfl);have hx7:=HX6.out.below q7 ZL;have HTH:Hid (W7.there W1.heap.size 10 4):=(hx7.box rfl).there fun j hj=>by
         match j,hj with
         |0,_=>rw[(hx7.cell 10).trans rfl];rfl
         |1,_=>rw[(hx7.cell 11).trans rfl];rfl
         |2,_=>rw[(hx7.cell 12).trans rfl];rfl
         |3,_=>rw[(hx7.cell 13).trans rfl];rfl
        have HQ7:=ZH (HQ6.out.below q7);have HQS:=ZH hqs;have hvar:(nextB n i l zq b).var (n+i)=⟨none,some zq,0⟩:=by
         show(b.vars++[(⟨none,some zq,0⟩:Vr)]).getD (n+i) vz=_;rw[getD_app (by rw[HF.out.vl];omega),HF.out.vl,if_neg (by omega)]
        have HALL:Hid (∀W8,W8=W7.setCells W1.heap.size 10 (qcs s A7 c7 B7 e7).toList→Stp (fun k=>k=W1.heap.size) W7 W8∧Gro (fun _=>True) W8 (w.heap.size+1) d3 ((nextB n i l zq b).setV (n+i) s)):=fun W8 e=>by
         subst e;have hgr:=(cells_put (qcs s A7 c7 B7 e7).toList 10 W7 (hx7.box rfl) rfl).1;have hb8:=(((hx7.set_ 10 (.bool (sN s.num))).set_ 11 (.slice A7 (sD s.num).length c7)).set_ 12 (.bool false)).set_ 13 (.slice B7 (dig s.den).length e7);have hst:=Stp.grew (hx7.box rfl) hgr;refine⟨hst,(HG4.out.below q7).fill (by rw[HNV.out];omega) HVX3.out (fun k hk=>hk) hst ?_ (hb8.box rfl)⟩;rw[hvar];exact⟨(hb8.cell 0).trans rfl,⟨(hb8.cell 5).trans rfl,A1,c1,B1,e1,(hb8.cell 6).trans rfl,(hb8.cell 7).trans rfl,(hb8.cell 8).trans rfl,(hb8.cell 9).trans rfl,HQ7.out.stp hst⟩,A7,c7,B7,e7,(hb8.cell 10).trans rfl,(hb8.cell 11).trans rfl,(hb8.cell 12).trans rfl,(hb8.cell 13).trans rfl,HQS.out.stp hst⟩
        have hpx:w.heap.size≠W1.heap.size:=by omega
        have HP7:=ZH (HP6.out.below q7 ZL);have HW7:=ZH (bT HW6.out q7);have HF3:Hid (Half n (i+1) ((nextB n i l zq b).setV (n+i) s)):=HF.out.next HLL.out;clear hs hqs hx7 q7 HSM HQ6 HX6 hvar HP6 HW6;go_wp2_with ((with_reducible refine st_ ?_);refine wpList_store_mid rfl _ _ _ rfl W1.heap.size 10 (qcs s A7 c7 B7 e7) rfl rfl HTH.out info_rat (by rw[←Array.all_toList];rfl) ?_;obtain⟨W8,hW8⟩:∃W8,W8=W7.setCells W1.heap.size 10 (qcs s A7 c7 B7 e7).toList:=⟨_,rfl⟩;rw[←hW8];obtain⟨hs8,hg8⟩:=HALL.out _ hW8;have HS8:=ZH hs8;have HG8:=ZH hg8;clear hs8 hg8 hW8);go_roundg (p.a.length-(i+1))
        case measure=>omega
        case rel=>exact⟨i+1,d3,_,rfl,by omega,by simp,HC2.out,HG8.out,HT3.out,HF3.out,HS8.out.below HW7.out HW7.out.size (fun k hk=>by omega),HP7.out.stp HS8.out hpx⟩
       ·go_wp2_with fail;exact⟨rfl,bT HW6.out q7,.inr ⟨HC.out.trans (bind_n hs),v,rfl⟩⟩
    ·have d1:decide ((i:Int)<(p.a.length:Int))=false:=dF (by omega);have HC2:Hid (R=some b):=by
      show _=_;rw[HL.out,drop_none hlt];rfl
     have hia:i=p.a.length:=by omega
     have HWF:=ZH (HF.out.wf hn64 (by omega));clear HL hq hpb hia;go_wp2_with fail;exact bodyPost_ret (v:=vptr (w.heap.size+1)) (by simp[results,Tryz.results84,go_sem]) rfl ⟨HQ.out,.inl ⟨d,b,HC2.out,by rw[Ht0.out],HG.out.t,fun g ⟨y,hy⟩=>by have:=HG.out.lo y g hy;omega,HWF.out,HF.out.hh,HF.out.bn.trans HNL.out.symm,HG.out.V.cap⟩⟩
end Go.Proofs.YtecfcjdgmpopjaaGreat

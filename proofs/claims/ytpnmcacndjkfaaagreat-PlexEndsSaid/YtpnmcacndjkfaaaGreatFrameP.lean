/-
  What the rows' proofs share: a linear program and rows of fractions that came in.
-/
import Derived.Test.YtpnmcacndjkfaaaGreatQc
import Derived.Test.YtpnmcacndjkfaaaGreatFa
import Derived.Deep.Slices
set_option maxRecDepth 100000
set_option linter.unusedVariables false
namespace Go.Proofs.YtpnmcacndjkfaaaGreat
open Go.ChangeShapes Go.WideShapes Go.ChangeAt Go.RowKit Go.Joins Go.Deep Num
theorem trod_struct5 {H:Type}{enc:TypeId×Value→H}{P:Program}{w:World}{base:Nat}{spare:Nat→Bool}{held:Bool}{t:TypeId}{f0 f1 f2 f3 f4:Field}{fuel:Nat}{cs:List Value}{x:DataW H×List MemPlace}(ht:P.underlying t=some (.struct #[f0,f1,f2,f3,f4]))(h:DataW.trod enc P w base spare held fuel t cs=some x):∃y0 y1 y2 y3 y4 n,DataW.trod enc P w base spare held n f0.type ((cs.drop f0.offset).take (P.cellsOf f0.type))=some y0∧DataW.trod enc P w base spare held n f1.type ((cs.drop f1.offset).take (P.cellsOf f1.type))=some y1∧DataW.trod enc P w base spare held n f2.type ((cs.drop f2.offset).take (P.cellsOf f2.type))=some y2∧DataW.trod enc P w base spare held n f3.type ((cs.drop f3.offset).take (P.cellsOf f3.type))=some y3∧DataW.trod enc P w base spare held n f4.type ((cs.drop f4.offset).take (P.cellsOf f4.type))=some y4:=by
 obtain⟨xs,n,_,rfl,hl,hlen,hf⟩:=DataW.trod_struct ht h;match xs,hlen with
 |[y0,y1,y2,y3,y4],_=>exact⟨y0,y1,y2,y3,y4,n,by simpa using hf 0 f0 rfl,by simpa using hf 1 f1 rfl,by simpa using hf 2 f2 rfl,by simpa using hf 3 f3 rfl,by simpa using hf 4 f4 rfl⟩
theorem open_row {H:Type}{enc:TypeId×Value→H}{W:World}{α:Type}(Q:List Value→α→Prop)(d:α){t e:TypeId}{sz:Nat}(ht:Tryz.prog.underlying t=some (.slice e))(hsz:Tryz.prog.cellsOf e=sz)(hpos:0<sz)(hel:∀(n:Nat)(cs:List Value)(y:DataW H×List MemPlace),DataW.trod enc Tryz.prog W 0 (fun _=>true) true n e cs=some y→cs.length=sz→∃a:α,Q cs a){fuel:Nat}{cs:List Value}{x:DataW H×List MemPlace}(h:DataW.trod enc Tryz.prog W 0 (fun _=>true) true fuel t cs=some x):∃(A:Option Addr)(l:List α)(c:Nat),cs=[.slice A l.length c]∧∀j,j<l.length→∃g o,A=some ⟨g,o,none⟩∧∃cs',(∀k,k<sz→W.cell? ⟨g,o+j*sz+k,none⟩=cs'[k]?)∧cs'.length=sz∧Q cs' (l.getD j d):=by
 rcases open_slice ht h with ⟨hcs,_⟩|⟨a,len,cap,m,n,D,Pl,hcs,_,hl,hm,hmm,_,hi⟩
 ·exact⟨none,[],0,hcs,fun j hj=>absurd hj (Nat.not_lt_zero _)⟩
 ·rw[hsz]at hi;simp only[if_true]at hmm;subst hmm;by_cases h0:len=0
  ·subst h0;exact⟨some a,[],m,hcs,fun j hj=>absurd hj (Nat.not_lt_zero _)⟩
  obtain⟨b,o,spot⟩:=a;obtain⟨cs0,hc0,_⟩:=hi 0 (by omega);have hspot:spot=none:=by
   obtain⟨_,hl0,hcell⟩:=World.cells?_some hc0;have h1:=hcell 0 hpos;rw[List.getElem?_eq_getElem (by omega:0<cs0.length)]at h1;have:=World.cell?_spot h1;simpa[Addr.add]using this
  subst hspot;have hadd:∀o k,(⟨b,o,none⟩:Addr).add k=⟨b,o+k,none⟩:=fun o k=>by simp[Addr.add]
  have hex:∀i,∃t:α,i<len→∃cs',(∀k,k<sz→W.cell? ⟨b,o+i*sz+k,none⟩=cs'[k]?)∧cs'.length=sz∧Q cs' t:=by
   intro i;by_cases hil:i<len
   ·obtain⟨cs',hc,ht⟩:=hi i (by omega);obtain⟨_,hl4,hcell⟩:=World.cells?_some hc;obtain⟨t,hq⟩:=hel _ cs' _ ht hl4;refine⟨t,fun _=>⟨cs',fun k hk'=> ?_,hl4,hq⟩⟩;have:=hcell k hk';rw[hadd,hadd]at this;exact this
   ·exact⟨d,fun h=>absurd h hil⟩
  let f:Nat→α:=fun i=>(hex i).choose;have hf:∀i,i<len→∃cs',(∀k,k<sz→W.cell? ⟨b,o+i*sz+k,none⟩=cs'[k]?)∧cs'.length=sz∧Q cs' (f i):=fun i h=>(hex i).choose_spec h;have hlen:((List.range len).map f).length=len:=by simp
  refine⟨some ⟨b,o,none⟩,(List.range len).map f,m,by rw[hlen];exact hcs,fun j hj=>⟨b,o,rfl,?_⟩⟩;rw[hlen]at hj;have e:((List.range len).map f).getD j d=f j:=by
   rw[List.getD_eq_getElem?_getD,List.getElem?_map,List.getElem?_range hj];rfl
  rw[e];exact hf j hj
def IsInt (cs:List Value)(z:Int):Prop:=cs=[.int .i64 z]∧-9223372036854775808≤z∧z≤9223372036854775807
theorem getD_mem {α:Type}{l:List α}{d x:α}(h:x∈l):∃j,j<l.length∧l.getD j d=x:=by
 obtain⟨j,hj,rfl⟩:=List.getElem_of_mem h;exact⟨j,hj,by rw[List.getD_eq_getElem?_getD,List.getElem?_eq_getElem hj];rfl⟩
theorem open_i64s {H:Type}{enc:TypeId×Value→H}{W:World}{fuel:Nat}{cs:List Value}{x:DataW H×List MemPlace}(h:DataW.trod enc Tryz.prog W 0 (fun _=>true) true fuel 22 cs=some x):∃(A:Option Addr)(l:List Int)(c:Nat),cs=[.slice A l.length c]∧IRow W A l∧∀z∈l,-9223372036854775808≤z∧z≤9223372036854775807:=by
 obtain⟨A,l,c,h1,h2⟩:=open_row (α:=Int) IsInt 0 Tryz.underlying22 (sz:=1) (by kernel_rfl) (by decide) (fun n cs y ht hl=>by
  obtain⟨i0,q0,_,w0⟩:=DataW.trod_int Tryz.underlying2 ht;simp only[Lit.wf,Bool.and_eq_true,decide_eq_true_eq]at w0;exact⟨i0,q0,w0.1,w0.2⟩) h
 refine⟨A,l,c,h1,fun j hj=> ?_,fun z hz=> ?_⟩
 ·obtain⟨g,o,hA,cs',h3,h4,h5,_⟩:=h2 j hj;refine⟨g,o,hA,?_⟩;have:=h3 0 (by decide);rw[h5]at this;rw[Nat.mul_one,Nat.add_zero]at this;exact this
 ·obtain⟨j,hj,rfl⟩:=getD_mem (d:=0) hz;obtain⟨_,_,_,_,_,_,_,h6⟩:=h2 j hj;exact h6
def IsFr (W:World)(cs:List Value)(f:Fr):Prop:=∃A c B d,cs=[.bool f.n,.slice A f.xs.length c,.bool f.m,.slice B f.ys.length d]∧Rd W A c f.xs∧Rd W B d f.ys
theorem open_fr {H:Type}{enc:TypeId×Value→H}{W:World}(n:Nat)(cs:List Value)(y:DataW H×List MemPlace)(h:DataW.trod enc Tryz.prog W 0 (fun _=>true) true n 45 cs=some y)(hl:cs.length=4):∃f:Fr,IsFr W cs f:=by
 match cs,hl with
 |[c0,c1,c2,c3],_=>
  obtain⟨y0,y1,k,_,_,h0,h1⟩:=trod_struct2 Tryz.underlying45 h;have e0:Tryz.prog.cellsOf 43=2:=by kernel_rfl
  simp only[e0]at h0 h1;replace h0:DataW.trod enc Tryz.prog W 0 (fun _=>true) true k 43 [c0,c1]=some y0:=h0;replace h1:DataW.trod enc Tryz.prog W 0 (fun _=>true) true k 43 [c2,c3]=some y1:=h1;obtain⟨n,A,xs,c,rfl,rfl,ha⟩:=open_num h0;obtain⟨m,B,ys,d',rfl,rfl,hb⟩:=open_num h1;exact⟨⟨n,xs,m,ys⟩,A,c,B,d',rfl,ha,hb⟩
theorem open_frs {H:Type}{enc:TypeId×Value→H}{W:World}{base:Nat}{v:Value}{d:DataW H}{p:List MemPlace}(hv:Value.okWide Tryz.prog W .any base 42 v)(h:DataW.Trod enc Tryz.prog W 0 (fun _=>true) true 42 v d p):∃(A:Option Addr)(l:List Fr)(c:Nat),v= .slice A l.length c∧GRow W A l:=by
 obtain⟨A0,len,cap,rfl⟩:=okWide_slice Tryz.underlying42 hv;obtain⟨fuel,hf⟩:=h;obtain⟨A,l,c,h1,h2⟩:=open_row (IsFr W) fr0 Tryz.underlying42 (sz:=4) (by kernel_rfl) (by decide) open_fr hf;refine⟨A,l,c,by simpa[Value.cells]using h1,fun j hj=> ?_⟩;obtain⟨g,o,hA,cs',h3,h4,A',c',B',d',rfl,h5,h6⟩:=h2 j hj;exact⟨g,o,hA,A',c',B',d',h3 0 (by decide),h3 1 (by decide),h3 2 (by decide),h3 3 (by decide),h5,h6⟩
theorem open_ints64 {H:Type}{enc:TypeId×Value→H}{W:World}{base:Nat}{v:Value}{d:DataW H}{p:List MemPlace}(hv:Value.okWide Tryz.prog W .any base 22 v)(h:DataW.Trod enc Tryz.prog W 0 (fun _=>true) true 22 v d p):∃(A:Option Addr)(l:List Int)(c:Nat),v= .slice A l.length c∧IRow W A l∧∀z∈l,-9223372036854775808≤z∧z≤9223372036854775807:=by
 obtain⟨A0,len,cap,rfl⟩:=okWide_slice Tryz.underlying22 hv;obtain⟨fuel,hf⟩:=h;obtain⟨A,l,c,h1,h2,h3⟩:=open_i64s hf;exact⟨A,l,c,by simpa[Value.cells]using h1,h2,h3⟩
structure Rw where
 l:List Int
 A:Option Addr
 c:Nat
def IsRw (W:World)(cs:List Value)(r:Rw):Prop:=cs=[.slice r.A r.l.length r.c]∧IRow W r.A r.l
theorem open_pg {H:Type}{enc:TypeId×Value→H}{W:World}{base:Nat}{v:Value}{d:DataW H}{p:List MemPlace}(hv:Value.okWide Tryz.prog W .any base 25 v)(h:DataW.Trod enc Tryz.prog W 0 (fun _=>true) true 25 v d p):∃(m:Pa)(p:Pg),v= .agg (pgC m p)∧PgAt W m p:=by
 obtain⟨cs,rfl,hsz⟩:=okWide_struct Tryz.underlying25 hv;have hs5:cs.size=5:=hsz.trans (show Tryz.prog.cellsOf 25=5 by kernel_rfl);obtain⟨c0,c1,c2,c3,c4,rfl⟩:∃c0 c1 c2 c3 c4,cs= #[c0,c1,c2,c3,c4]:=by
  obtain⟨l⟩:=cs;match l,hs5 with
  |[c0,c1,c2,c3,c4],_=>exact⟨c0,c1,c2,c3,c4,rfl⟩
 obtain⟨fuel,hf⟩:=h;obtain⟨y0,y1,y2,y3,y4,k,h0,h1,h2,h3,h4⟩:=trod_struct5 Tryz.underlying25 hf;have e0:Tryz.prog.cellsOf 22=1:=by kernel_rfl
 have e1:Tryz.prog.cellsOf 23=1:=by kernel_rfl
 simp only[e0,e1]at h0 h1 h2 h3 h4;replace h0:DataW.trod enc Tryz.prog W 0 (fun _=>true) true k 22 [c0]=some y0:=h0;replace h1:DataW.trod enc Tryz.prog W 0 (fun _=>true) true k 22 [c1]=some y1:=h1;replace h2:DataW.trod enc Tryz.prog W 0 (fun _=>true) true k 23 [c2]=some y2:=h2;replace h3:DataW.trod enc Tryz.prog W 0 (fun _=>true) true k 22 [c3]=some y3:=h3;replace h4:DataW.trod enc Tryz.prog W 0 (fun _=>true) true k 22 [c4]=some y4:=h4;obtain⟨A0,l0,d0,q0,r0,_⟩:=open_i64s h0;obtain⟨A1,l1,d1,q1,r1,_⟩:=open_i64s h1;obtain⟨A3,l3,d3,q3,r3,_⟩:=open_i64s h3;obtain⟨A4,l4,d4,q4,r4,_⟩:=open_i64s h4;obtain⟨A2,l2,d2,q2,r2⟩:=open_row (IsRw W) ⟨[],none,0⟩ Tryz.underlying23 (sz:=1) (by kernel_rfl) (by decide) (fun n cs y ht hl=>by
  obtain⟨A,l,c,e,r,_⟩:=open_i64s ht;exact⟨⟨l,A,c⟩,e,r⟩) h2
 obtain rfl:c0= .slice A0 l0.length d0:=by simpa using q0
 obtain rfl:c1= .slice A1 l1.length d1:=by simpa using q1
 obtain rfl:c2= .slice A2 l2.length d2:=by simpa using q2
 obtain rfl:c3= .slice A3 l3.length d3:=by simpa using q3
 obtain rfl:c4= .slice A4 l4.length d4:=by simpa using q4
 have hrow:∀i,i<l2.length→(l2.map (·.l)).getD i []=(l2.getD i ⟨[],none,0⟩).l∧(l2.map fun r=>(r.A,r.c)).getD i (none,0)=((l2.getD i ⟨[],none,0⟩).A,(l2.getD i ⟨[],none,0⟩).c):=fun i hi=>by
  constructor
  ·rw[List.getD_eq_getElem?_getD,List.getElem?_map,List.getD_eq_getElem?_getD,List.getElem?_eq_getElem hi];rfl
  ·rw[List.getD_eq_getElem?_getD,List.getElem?_map,List.getD_eq_getElem?_getD,List.getElem?_eq_getElem hi];rfl
 refine⟨⟨(A0,d0),(A1,d1),(A2,d2),(A3,d3),(A4,d4),l2.map fun r=>(r.A,r.c)⟩,⟨l0,l1,l2.map (·.l),l3,l4⟩,?_,⟨r0,r1,r3,r4,?_,?_⟩⟩
 ·show _=Value.agg #[.slice A0 l0.length d0,.slice A1 l1.length d1,.slice A2 (l2.map (·.l)).length d2,.slice A3 l3.length d3,.slice A4 l4.length d4];rw[List.length_map]
 ·show CRow W A2 (l2.map (·.l)).length _;rw[List.length_map];intro i hi;obtain⟨g,o,hA,cs',h5,h6,h7,_⟩:=r2 i hi;obtain⟨e2,e3⟩:=hrow i hi;refine⟨g,o,hA,?_⟩;have h8:=h5 0 (by decide);rw[h7,Nat.mul_one,Nat.add_zero]at h8;show _=some (Value.slice ((l2.map fun r=>(r.A,r.c)).getD i (none,0)).1 ((l2.map (·.l)).getD i []).length ((l2.map fun r=>(r.A,r.c)).getD i (none,0)).2);rw[e2,e3];exact h8
 ·intro i hi;have hi':i<l2.length:=by
   have:i<(l2.map (·.l)).length:=hi;rwa[List.length_map]at this
  obtain⟨g,o,hA,cs',h5,h6,_,h8⟩:=r2 i hi';obtain⟨e2,e3⟩:=hrow i hi';show IRow W ((l2.map fun r=>(r.A,r.c)).getD i (none,0)).1 ((l2.map (·.l)).getD i []);rw[e2,e3];exact h8
end Go.Proofs.YtpnmcacndjkfaaaGreat

/-
  What the rows' proofs share: a linear program and rows of fractions that came in.
-/
import Derived.Test.YtecfcjdgmpopjaaGreatQc
import Derived.Test.YtecfcjdgmpopjaaGreatFa
import Derived.Deep.Slices
set_option maxRecDepth 100000
set_option linter.unusedVariables false
namespace Go.Proofs.YtecfcjdgmpopjaaGreat
open Go.ChangeShapes Go.WideShapes Go.ChangeAt Go.RowKit Go.Joins Go.Deep Num
theorem open_row {H:Type}{enc:TypeId×Value→H}{W:World}{α:Type}(Q:List Value→α→Prop)(d:α){t e:TypeId}{sz:Nat}(ht:Tryz.prog.underlying t=some (.slice e))(hsz:Tryz.prog.cellsOf e=sz)(hpos:0<sz)(hel:∀(n:Nat)(cs:List Value)(y:DataW H×List MemPlace),DataW.trod enc Tryz.prog W 0 (fun _=>true) true n e cs=some y→cs.length=sz→∃a:α,Q cs a){fuel:Nat}{cs:List Value}{x:DataW H×List MemPlace}(h:DataW.trod enc Tryz.prog W 0 (fun _=>true) true fuel t cs=some x):∃(A:Option Addr)(l:List α)(c:Nat),cs=[.slice A l.length c]∧∀j,j<l.length→∃g o,A=some ⟨g,o,none⟩∧∃cs',(∀k,k<sz→W.cell? ⟨g,o+j*sz+k,none⟩=cs'[k]?)∧cs'.length=sz∧Q cs' (l.getD j d):=by
 rcases open_slice ht h with ⟨hcs,_⟩|⟨a,len,cap,m,n,D,Pl,hcs,_,hl,hm,hmm,_,hi⟩
 ·exact⟨none,[],0,hcs,fun j hj=>absurd hj (Nat.not_lt_zero _)⟩
 ·rw[hsz]at hi;simp only[if_true]at hmm;subst hmm;by_cases h0:len=0
  ·subst h0;exact⟨some a,[],m,hcs,fun j hj=>absurd hj (Nat.not_lt_zero _)⟩
  obtain⟨b,o,spot⟩:=a;obtain⟨cs0,hc0,_⟩:=hi 0 (by omega);have hspot:spot=none:=by
   obtain⟨_,hl0,hcell⟩:=World.cells?_some hc0;have h1:=hcell 0 hpos;rw[gG (by omega:0<cs0.length)]at h1;have:=World.cell?_spot h1;simpa[Addr.add]using this
  subst hspot;have hadd:∀o k,(⟨b,o,none⟩:Addr).add k=⟨b,o+k,none⟩:=fun o k=>by simp[Addr.add]
  have hex:∀i,∃t:α,i<len→∃cs',(∀k,k<sz→W.cell? ⟨b,o+i*sz+k,none⟩=cs'[k]?)∧cs'.length=sz∧Q cs' t:=by
   intro i;by_cases hil:i<len
   ·obtain⟨cs',hc,ht⟩:=hi i (by omega);obtain⟨_,hl4,hcell⟩:=World.cells?_some hc;obtain⟨t,hq⟩:=hel _ cs' _ ht hl4;refine⟨t,fun _=>⟨cs',fun k hk'=> ?_,hl4,hq⟩⟩;have:=hcell k hk';rw[hadd,hadd]at this;exact this
   ·exact⟨d,fun h=>absurd h hil⟩
  let f:Nat→α:=fun i=>(hex i).choose;have hf:∀i,i<len→∃cs',(∀k,k<sz→W.cell? ⟨b,o+i*sz+k,none⟩=cs'[k]?)∧cs'.length=sz∧Q cs' (f i):=fun i h=>(hex i).choose_spec h;have hlen:((List.range len).map f).length=len:=by simp
  refine⟨some ⟨b,o,none⟩,(List.range len).map f,m,by rw[hlen];exact hcs,fun j hj=>⟨b,o,rfl,?_⟩⟩;rw[hlen]at hj;have e:((List.range len).map f).getD j d=f j:=by
   rw[gE,List.getElem?_map,List.getElem?_range hj];rfl
  rw[e];exact hf j hj
def IsInt (cs:List Value)(z:Int):Prop:=cs=[.int .i64 z]∧-9223372036854775808≤z∧z≤9223372036854775807
theorem getD_mem {α:Type}{l:List α}{d x:α}(h:x∈l):∃j,j<l.length∧l.getD j d=x:=by
 obtain⟨j,hj,rfl⟩:=List.getElem_of_mem h;exact⟨j,hj,by rw[gE,gG hj];rfl⟩
theorem open_i64s {H:Type}{enc:TypeId×Value→H}{W:World}{fuel:Nat}{cs:List Value}{x:DataW H×List MemPlace}(h:DataW.trod enc Tryz.prog W 0 (fun _=>true) true fuel 28 cs=some x):∃(A:Option Addr)(l:List Int)(c:Nat),cs=[.slice A l.length c]∧IRow W A l∧∀z∈l,-9223372036854775808≤z∧z≤9223372036854775807:=by
 obtain⟨A,l,c,h1,h2⟩:=open_row (α:=Int) IsInt 0 Tryz.underlying28 (sz:=1) (by kernel_rfl) (by decide) (fun n cs y ht hl=>by
  obtain⟨i0,q0,_,w0⟩:=DataW.trod_int Tryz.underlying2 ht;simp only[Lit.wf,Bool.and_eq_true,decide_eq_true_eq]at w0;exact⟨i0,q0,w0.1,w0.2⟩) h
 refine⟨A,l,c,h1,fun j hj=> ?_,fun z hz=> ?_⟩
 ·obtain⟨g,o,hA,cs',h3,h4,h5,_⟩:=h2 j hj;refine⟨g,o,hA,?_⟩;have:=h3 0 (by decide);rw[h5]at this;rw[Nat.mul_one,Nat.add_zero]at this;exact this
 ·obtain⟨j,hj,rfl⟩:=getD_mem (d:=0) hz;obtain⟨_,_,_,_,_,_,_,h6⟩:=h2 j hj;exact h6
def IsFr (W:World)(cs:List Value)(f:Fr):Prop:=∃A c B d,cs=[.bool f.n,.slice A f.xs.length c,.bool f.m,.slice B f.ys.length d]∧Rd W A c f.xs∧Rd W B d f.ys
theorem open_fr {H:Type}{enc:TypeId×Value→H}{W:World}(n:Nat)(cs:List Value)(y:DataW H×List MemPlace)(h:DataW.trod enc Tryz.prog W 0 (fun _=>true) true n 57 cs=some y)(hl:cs.length=4):∃f:Fr,IsFr W cs f:=by
 match cs,hl with
 |[c0,c1,c2,c3],_=>
  obtain⟨y0,y1,k,_,_,h0,h1⟩:=trod_struct2 Tryz.underlying57 h;have e0:Tryz.prog.cellsOf 55=2:=by kernel_rfl
  simp only[e0]at h0 h1;replace h0:DataW.trod enc Tryz.prog W 0 (fun _=>true) true k 55 [c0,c1]=some y0:=h0;replace h1:DataW.trod enc Tryz.prog W 0 (fun _=>true) true k 55 [c2,c3]=some y1:=h1;obtain⟨n,A,xs,c,rfl,rfl,ha⟩:=open_num h0;obtain⟨m,B,ys,d',rfl,rfl,hb⟩:=open_num h1;exact⟨⟨n,xs,m,ys⟩,A,c,B,d',rfl,ha,hb⟩
theorem open_frs {H:Type}{enc:TypeId×Value→H}{W:World}{base:Nat}{v:Value}{d:DataW H}{p:List MemPlace}(hv:Value.okWide Tryz.prog W .any base 40 v)(h:DataW.Trod enc Tryz.prog W 0 (fun _=>true) true 40 v d p):∃(A:Option Addr)(l:List Fr)(c:Nat),v= .slice A l.length c∧GRow W A l:=by
 obtain⟨A0,len,cap,rfl⟩:=okWide_slice Tryz.underlying40 hv;obtain⟨fuel,hf⟩:=h;obtain⟨A,l,c,h1,h2⟩:=open_row (IsFr W) fr0 Tryz.underlying40 (sz:=4) (by kernel_rfl) (by decide) open_fr hf;refine⟨A,l,c,by simpa[Value.cells]using h1,fun j hj=> ?_⟩;obtain⟨g,o,hA,cs',h3,h4,A',c',B',d',rfl,h5,h6⟩:=h2 j hj;exact⟨g,o,hA,A',c',B',d',h3 0 (by decide),h3 1 (by decide),h3 2 (by decide),h3 3 (by decide),h5,h6⟩
end Go.Proofs.YtecfcjdgmpopjaaGreat

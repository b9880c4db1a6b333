import Derived.Test.YtpfhgkielakmoaaGreatDoorFrame
import Derived.Test.YtpfhgkielakmoaaGreatDoorPn
import Derived.Test.YtpfhgkielakmoaaGreatDoorVf
import Derived.Lib.SmallJoins
import Derived.Deep.Slices
import Derived.LaidMore
import Derived.MakeChecks
set_option maxRecDepth 100000
set_option linter.unusedVariables false
namespace Go.Proofs.YtpfhgkielakmoaaGreatDoor
open Go.ChangeShapes Go.WideShapes Go.ChangeAt Go.RowKit Go.Joins Go.Deep Num
theorem trod_struct8 {H : Type} {enc : TypeId × Value → H} {P : Program} {w : World} {base : Nat} {spare : Nat → Bool} {held : Bool} {t : TypeId} {f0 f1 f2 f3 f4 f5 f6 f7 : Field} {fuel : Nat} {cs : List Value} {x : DataW H × List MemPlace}
    (ht : P.underlying t = some (.struct #[f0, f1, f2, f3, f4, f5, f6, f7])) (h : DataW.trod enc P w base spare held fuel t cs = some x) :
    ∃ y0 y1 y2 y3 y4 y5 y6 y7 n, DataW.trod enc P w base spare held n f0.type ((cs.drop f0.offset).take (P.cellsOf f0.type)) = some y0 ∧
      DataW.trod enc P w base spare held n f1.type ((cs.drop f1.offset).take (P.cellsOf f1.type)) = some y1 ∧ DataW.trod enc P w base spare held n f2.type ((cs.drop f2.offset).take (P.cellsOf f2.type)) = some y2 ∧
      DataW.trod enc P w base spare held n f3.type ((cs.drop f3.offset).take (P.cellsOf f3.type)) = some y3 ∧ DataW.trod enc P w base spare held n f4.type ((cs.drop f4.offset).take (P.cellsOf f4.type)) = some y4 ∧
      DataW.trod enc P w base spare held n f5.type ((cs.drop f5.offset).take (P.cellsOf f5.type)) = some y5 ∧ DataW.trod enc P w base spare held n f6.type ((cs.drop f6.offset).take (P.cellsOf f6.type)) = some y6 ∧
      DataW.trod enc P w base spare held n f7.type ((cs.drop f7.offset).take (P.cellsOf f7.type)) = some y7 := by
  obtain ⟨xs, n, _, rfl, hl, hlen, hf⟩ := DataW.trod_struct ht h
  match xs, hlen with
  | [y0, y1, y2, y3, y4, y5, y6, y7], _ => exact ⟨y0, y1, y2, y3, y4, y5, y6, y7, n, by simpa using hf 0 f0 rfl, by simpa using hf 1 f1 rfl, by simpa using hf 2 f2 rfl, by simpa using hf 3 f3 rfl, by simpa using hf 4 f4 rfl, by simpa using hf 5 f5 rfl, by simpa using hf 6 f6 rfl, by simpa using hf 7 f7 rfl⟩
theorem range_of {n:Int} (h:(Lit.int .i64 n).wf=true):I64 n:=by
 simp only[Lit.wf,Bool.and_eq_true,decide_eq_true_eq]at h;exact ⟨h.1,h.2⟩
theorem open_lay {H:Type} {enc:TypeId×Value→H} {W:World} {α:Type} (L:Lay α) (Q:α→Prop) (d:α) {t:TypeId} (ht:Tryz.prog.underlying t=some (.slice L.ty)) (hsz:Tryz.prog.cellsOf L.ty=L.sz) (hpos:0<L.sz) (hel:∀(n:Nat) (cs:List Value) (y:DataW H×List MemPlace),DataW.trod enc Tryz.prog W 0 (fun _=>true) true n L.ty cs=some y→cs.length=L.sz→∃a:α,Q a∧∀k,k<L.sz→∃x,cs[k]? =some x∧(L.C k).P (fun _=>True) W x a) {fuel:Nat} {cs:List Value} {x:DataW H×List MemPlace} (h:DataW.trod enc Tryz.prog W 0 (fun _=>true) true fuel t cs=some x):∃(A:Option Addr) (l:List α) (c:Nat),cs=[.slice A l.length c]∧L.row.P (fun _=>True) W (.slice A l.length c) l∧(∀a∈l,Q a)∧(A=none→c=0):=by
 rcases open_slice ht h with ⟨hcs,_⟩|⟨a,len,cap,m,n,D,Pl,hcs,_,hl,hm,hmm,_,hi⟩
 ·exact ⟨none,[],0,hcs,Lay.row_nil (Nat.zero_le _),(fun _ h=>absurd h List.not_mem_nil),fun _=>rfl⟩
 ·rw[hsz]at hi;simp only[if_true]at hmm;subst hmm;by_cases h0:len=0
  ·subst h0;exact ⟨some a,[],m,hcs,Lay.row_nil hm,(fun _ h=>absurd h List.not_mem_nil),fun h=>by cases h⟩
  obtain ⟨b,o,spot⟩:=a;obtain ⟨cs0,hc0,_⟩:=hi 0 (by omega);have hspot:spot=none:=by
   obtain ⟨_,hl0,hcell⟩:=World.cells?_some hc0;have h1:=hcell 0 hpos;rw[List.getElem?_eq_getElem (by omega:0<cs0.length)]at h1;have:=World.cell?_spot h1;simpa[Addr.add]using this
  subst hspot;have hadd:∀o k,(⟨b,o,none⟩:Addr).add k=⟨b,o+k,none⟩:=fun o k=>by simp[Addr.add]
  have hex:∀i,∃t:α,i<len→Q t∧∀k,k<L.sz→∃x,W.cell? ⟨b,o+i*L.sz+k,none⟩=some x∧(L.C k).P (fun _=>True) W x t:=by
   intro i;by_cases hil:i<len
   ·obtain ⟨cs',hc,ht⟩:=hi i (by omega);obtain ⟨_,hl4,hcell⟩:=World.cells?_some hc;obtain ⟨t,hq,hk⟩:=hel _ cs' _ ht hl4;refine ⟨t,fun _=>⟨hq,fun k hk'=> ?_⟩⟩;obtain ⟨x,hx,hp⟩:=hk k hk';have:=hcell k hk';rw[hadd,hadd]at this;exact ⟨x,this.trans hx,hp⟩
   ·exact ⟨d,fun h=>absurd h hil⟩
  let f:Nat→α:=fun i=>(hex i).choose;have hf:∀i,i<len→Q (f i)∧∀k,k<L.sz→∃x,W.cell? ⟨b,o+i*L.sz+k,none⟩=some x∧(L.C k).P (fun _=>True) W x (f i):=fun i h=>(hex i).choose_spec h;have hlen:((List.range len).map f).length=len:=by simp
  refine ⟨some ⟨b,o,none⟩,(List.range len).map f,m,by rw[hlen];exact hcs,⟨_,_,rfl,by rw[hlen];exact hl,hm,fun _=>⟨b,o,rfl,trivial,?_,fun j hj=> ?_⟩⟩,(fun a ha=> ?_),fun h=>by cases h⟩
  ·obtain ⟨x,hx,_⟩:=(hf 0 (by omega)).2 0 hpos;exact World.block_lt_of_cell? W _ hx
  ·rw[hlen]at hj;have e:((List.range len).map f)[j]'(by simpa using hj)=f j:=by simp
   rw[e];exact (hf j hj).2
  ·obtain ⟨i,hi',rfl⟩:=List.mem_map.1 ha;exact (hf i (List.mem_range.1 hi')).1
theorem open_range {H:Type} {enc:TypeId×Value→H} {W:World} (n:Nat) (cs:List Value) (y:DataW H×List MemPlace) (h:DataW.trod enc Tryz.prog W 0 (fun _=>true) true n 44 cs=some y) (hl:cs.length=2):∃a:Int×Int,(I64 a.1∧I64 a.2)∧∀k,k<2→∃x,cs[k]? =some x∧(layR.C k).P (fun _=>True) W x a:=by
 match cs,hl with
 |[a,b],_=>
  obtain ⟨y0,y1,k,_,_,h0,h1⟩:=trod_struct2 Tryz.underlying44 h;have e0:Tryz.prog.cellsOf 2=1:=by kernel_rfl
  simp only[e0]at h0 h1;replace h0:DataW.trod enc Tryz.prog W 0 (fun _=>true) true k 2 [a]=some y0:=h0;replace h1:DataW.trod enc Tryz.prog W 0 (fun _=>true) true k 2 [b]=some y1:=h1;obtain ⟨i0,q0,_,w0⟩:=DataW.trod_int Tryz.underlying2 h0;obtain ⟨i1,q1,_,w1⟩:=DataW.trod_int Tryz.underlying2 h1;obtain rfl:a= .int .i64 i0:=by simpa using q0
  obtain rfl:b= .int .i64 i1:=by simpa using q1
  refine ⟨(i0,i1),⟨range_of w0,range_of w1⟩,fun k hk=> ?_⟩;match k,hk with
  |0,_=>exact ⟨_,rfl,rfl⟩
  |1,_=>exact ⟨_,rfl,rfl⟩
theorem open_ex0 {H:Type} {enc:TypeId×Value→H} {W:World} (n:Nat) (cs:List Value) (y:DataW H×List MemPlace) (h:DataW.trod enc Tryz.prog W 0 (fun _=>true) true n 50 cs=some y) (hl:cs.length=4):∃a:Ex0,I64 a.n∧∀k,k<4→∃x,cs[k]? =some x∧((layE0 50).C k).P (fun _=>True) W x a:=by
 match cs,hl with
 |[a,b,c,d],_=>
  obtain ⟨y0,y1,y2,y3,k,_,_,h0,h1,h2,h3⟩:=trod_struct4 Tryz.underlying50 h;have e0:Tryz.prog.cellsOf 3=1:=by kernel_rfl
  have e1:Tryz.prog.cellsOf 9=1:=by kernel_rfl
  have e2:Tryz.prog.cellsOf 2=1:=by kernel_rfl
  have e3:Tryz.prog.cellsOf 26=1:=by kernel_rfl
  simp only[e0,e1,e2,e3]at h0 h1 h2 h3;replace h0:DataW.trod enc Tryz.prog W 0 (fun _=>true) true k 3 [a]=some y0:=h0;replace h1:DataW.trod enc Tryz.prog W 0 (fun _=>true) true k 2 [b]=some y1:=h1;replace h2:DataW.trod enc Tryz.prog W 0 (fun _=>true) true k 9 [c]=some y2:=h2;replace h3:DataW.trod enc Tryz.prog W 0 (fun _=>true) true k 26 [d]=some y3:=h3;obtain ⟨i0,q0,_⟩:=DataW.trod_int Tryz.underlying3 h0;obtain ⟨i1,q1,_,w1⟩:=DataW.trod_int Tryz.underlying2 h1;obtain ⟨s2,q2,_⟩:=DataW.trod_string Tryz.underlying9 h2;obtain rfl:a= .int .i64 i0:=by simpa using q0
  obtain rfl:b= .int .i64 i1:=by simpa using q1
  obtain rfl:c= .string s2:=by simpa using q2
  have hd:∃A m c,d= .slice A m c:=by
   rcases open_slice Tryz.underlying26 h3 with ⟨hcs,_⟩|⟨a,len,cap,m,n,D,Pl,hcs,_⟩
   ·exact ⟨none,0,0,by simpa using hcs⟩
   ·exact ⟨some a,len,cap,by simpa using hcs⟩
  obtain ⟨A,m,c,rfl⟩:=hd;refine ⟨⟨i0,i1,s2.data.toList,m⟩,range_of w1,fun k hk=> ?_⟩;match k,hk with
  |0,_=>exact ⟨_,rfl,rfl⟩
  |1,_=>exact ⟨_,rfl,rfl⟩
  |2,_=>exact ⟨_,rfl,rfl⟩
  |3,_=>exact ⟨_,rfl,A,c,rfl⟩
theorem open_ex {H:Type} {enc:TypeId×Value→H} {W:World} (n:Nat) (cs:List Value) (y:DataW H×List MemPlace) (h:DataW.trod enc Tryz.prog W 0 (fun _=>true) true n 50 cs=some y) (hl:cs.length=4):∃a:Ex,RngE a∧∀k,k<4→∃x,cs[k]? =some x∧((layE 50).C k).P (fun _=>True) W x a:=by
 match cs,hl with
 |[a,b,c,d],_=>
  obtain ⟨y0,y1,y2,y3,k,_,_,h0,h1,h2,h3⟩:=trod_struct4 Tryz.underlying50 h;have e0:Tryz.prog.cellsOf 3=1:=by kernel_rfl
  have e1:Tryz.prog.cellsOf 9=1:=by kernel_rfl
  have e2:Tryz.prog.cellsOf 2=1:=by kernel_rfl
  have e3:Tryz.prog.cellsOf 26=1:=by kernel_rfl
  simp only[e0,e1,e2,e3]at h0 h1 h2 h3;replace h0:DataW.trod enc Tryz.prog W 0 (fun _=>true) true k 3 [a]=some y0:=h0;replace h1:DataW.trod enc Tryz.prog W 0 (fun _=>true) true k 2 [b]=some y1:=h1;replace h2:DataW.trod enc Tryz.prog W 0 (fun _=>true) true k 9 [c]=some y2:=h2;replace h3:DataW.trod enc Tryz.prog W 0 (fun _=>true) true k 26 [d]=some y3:=h3;obtain ⟨i0,q0,_⟩:=DataW.trod_int Tryz.underlying3 h0;obtain ⟨i1,q1,_,w1⟩:=DataW.trod_int Tryz.underlying2 h1;obtain ⟨s2,q2,_⟩:=DataW.trod_string Tryz.underlying9 h2;obtain rfl:a= .int .i64 i0:=by simpa using q0
  obtain rfl:b= .int .i64 i1:=by simpa using q1
  obtain rfl:c= .string s2:=by simpa using q2
  obtain ⟨A,l,c,hd,hrow,hq,-⟩:=open_lay (layE0 50) (fun y=>I64 y.n) ⟨0,0,[],0⟩ Tryz.underlying26 (by kernel_rfl) (by decide) open_ex0 h3;obtain rfl:d= .slice A l.length c:=by simpa using hd
  refine ⟨⟨i0,i1,s2.data.toList,l⟩,⟨range_of w1,hq⟩,fun k hk=> ?_⟩;match k,hk with
  |0,_=>exact ⟨_,rfl,rfl⟩
  |1,_=>exact ⟨_,rfl,rfl⟩
  |2,_=>exact ⟨_,rfl,rfl⟩
  |3,_=>exact ⟨_,rfl,hrow⟩
theorem open_it {H:Type} {enc:TypeId×Value→H} {W:World} (n:Nat) (cs:List Value) (y:DataW H×List MemPlace) (h:DataW.trod enc Tryz.prog W 0 (fun _=>true) true n 28 cs=some y) (hl:cs.length=8):∃a:It,RngI a∧∀k,k<8→∃x,cs[k]? =some x∧((layI 28 50).C k).P (fun _=>True) W x a:=by
 match cs,hl with
 |[a,b,c,d,e,f,g,p],_=>
  obtain ⟨y0,y1,y2,y3,y4,y5,y6,y7,k,h0,h1,h2,h3,h4,h5,h6,h7⟩:=trod_struct8 Tryz.underlying28 h;have e0:Tryz.prog.cellsOf 3=1:=by kernel_rfl
  have e1:Tryz.prog.cellsOf 9=1:=by kernel_rfl
  have e2:Tryz.prog.cellsOf 2=1:=by kernel_rfl
  have e3:Tryz.prog.cellsOf 26=1:=by kernel_rfl
  have e4:Tryz.prog.cellsOf 4=1:=by kernel_rfl
  have e5:Tryz.prog.cellsOf 25=1:=by kernel_rfl
  simp only[e0,e1,e2,e3,e4,e5]at h0 h1 h2 h3 h4 h5 h6 h7;replace h0:DataW.trod enc Tryz.prog W 0 (fun _=>true) true k 3 [a]=some y0:=h0;replace h1:DataW.trod enc Tryz.prog W 0 (fun _=>true) true k 9 [b]=some y1:=h1;replace h2:DataW.trod enc Tryz.prog W 0 (fun _=>true) true k 4 [c]=some y2:=h2;replace h3:DataW.trod enc Tryz.prog W 0 (fun _=>true) true k 25 [d]=some y3:=h3;replace h4:DataW.trod enc Tryz.prog W 0 (fun _=>true) true k 2 [e]=some y4:=h4;replace h5:DataW.trod enc Tryz.prog W 0 (fun _=>true) true k 4 [f]=some y5:=h5;replace h6:DataW.trod enc Tryz.prog W 0 (fun _=>true) true k 26 [g]=some y6:=h6;replace h7:DataW.trod enc Tryz.prog W 0 (fun _=>true) true k 3 [p]=some y7:=h7;obtain ⟨i0,q0,_⟩:=DataW.trod_int Tryz.underlying3 h0;obtain ⟨s1,q1,_⟩:=DataW.trod_string Tryz.underlying9 h1;obtain ⟨b2,q2,_⟩:=DataW.trod_bool Tryz.underlying4 h2;obtain ⟨i4,q4,_,w4⟩:=DataW.trod_int Tryz.underlying2 h4;obtain ⟨b5,q5,_⟩:=DataW.trod_bool Tryz.underlying4 h5;obtain ⟨i7,q7,_⟩:=DataW.trod_int Tryz.underlying3 h7;obtain rfl:a= .int .i64 i0:=by simpa using q0
  obtain rfl:b= .string s1:=by simpa using q1
  obtain rfl:c= .bool b2:=by simpa using q2
  obtain rfl:e= .int .i64 i4:=by simpa using q4
  obtain rfl:f= .bool b5:=by simpa using q5
  obtain rfl:p= .int .i64 i7:=by simpa using q7
  obtain ⟨A,dm,cd,hd,hrow,hq,-⟩:=open_lay layR (fun r=>I64 r.1∧I64 r.2) (0,0) Tryz.underlying25 (by kernel_rfl) (by decide) open_range h3;obtain ⟨B,vs,cv,hd2,hrow2,hq2,-⟩:=open_lay (layE 50) RngE ⟨0,0,[],[]⟩ Tryz.underlying26 (by kernel_rfl) (by decide) open_ex h6;obtain rfl:d= .slice A dm.length cd:=by simpa using hd
  obtain rfl:g= .slice B vs.length cv:=by simpa using hd2
  refine ⟨⟨i0,s1.data.toList,b2,dm,i4,b5,vs,i7⟩,⟨range_of w4,hq,hq2⟩,fun k hk=> ?_⟩;match k,hk with
  |0,_=>exact ⟨_,rfl,rfl⟩
  |1,_=>exact ⟨_,rfl,rfl⟩
  |2,_=>exact ⟨_,rfl,rfl⟩
  |3,_=>exact ⟨_,rfl,hrow⟩
  |4,_=>exact ⟨_,rfl,rfl⟩
  |5,_=>exact ⟨_,rfl,rfl⟩
  |6,_=>exact ⟨_,rfl,hrow2⟩
  |7,_=>exact ⟨_,rfl,rfl⟩
theorem open_items {H:Type} {enc:TypeId×Value→H} {W:World} {base:Nat} {v:Value} {d:DataW H} {p:List MemPlace} (hv:Value.okWide Tryz.prog W .any base 22 v) (h:DataW.Trod enc Tryz.prog W 0 (fun _=>true) true 22 v d p):∃(A:Option Addr) (l:List It) (c:Nat),v= .slice A l.length c∧(layI 28 50).row.P (fun _=>True) W (.slice A l.length c) l∧(∀x∈l,RngI x)∧(A=none→c=0):=by
 obtain ⟨A,len,cap,rfl⟩:=okWide_slice Tryz.underlying22 hv;obtain ⟨fuel,hf⟩:=h;obtain ⟨A',l,c,h1,h2,h3,h4⟩:=open_lay (layI 28 50) RngI ⟨0,[],false,[],0,false,[],0⟩ Tryz.underlying22 (by kernel_rfl) (by decide) open_it hf;have e:(Value.slice A len cap)= .slice A' l.length c:=by simpa[Value.cells]using h1
 exact ⟨A',l,c,e,h2,h3,h4⟩
end Go.Proofs.YtpfhgkielakmoaaGreatDoor

/-
  Joined texts: Fb, Ea, Eb, Ec.
-/
import Derived.Test.YtpnmcacndjkfaaaGreatFa
import Derived.Test.YtpnmcacndjkfaaaGreatKu
set_option linter.unusedSimpArgs false
set_option linter.unusedVariables false
namespace Go.Proofs.YtpnmcacndjkfaaaGreat
open Go.RowKit Num
abbrev fcs (f:Fr)(A:Option Addr)(c:Nat)(B:Option Addr)(d:Nat):Array Value:= #[.bool f.n,.slice A f.xs.length c,.bool f.m,.slice B f.ys.length d]
def GOwn (t:TypeId)(w:World)(base:Nat)(v:Value)(l:List Fr):Prop:=∃xs,NRow w base t 4 v l.length xs∧∀j,j<l.length→∃A c B d,xs[j*4]? =some (.bool (l.getD j fr0).n)∧xs[j*4+1]? =some (.slice A (l.getD j fr0).xs.length c)∧xs[j*4+2]? =some (.bool (l.getD j fr0).m)∧
 xs[j*4+3]? =some (.slice B (l.getD j fr0).ys.length d)∧Rd w A c (l.getD j fr0).xs∧Rd w B d (l.getD j fr0).ys
theorem GOwn.nil (t:TypeId)(w:World)(base:Nat):GOwn t w base (.slice none 0 0) []:=⟨[],NRow.nil _ _ _ _,fun j hj=>absurd hj (Nat.not_lt_zero _)⟩
theorem GOwn.slice {t:TypeId}{w:World}{base:Nat}{v:Value}{l:List Fr}(h:GOwn t w base v l):∃A c,v= .slice A l.length c:=by
 obtain⟨xs,h1,_⟩:=h;exact h1.slice
theorem GOwn.below {t:TypeId}{w w':World}{base:Nat}{v:Value}{l:List Fr}(h:GOwn t w base v l)(q:Below w.heap.size w w'):GOwn t w' base v l:=by
 obtain⟨xs,h1,h2⟩:=h;refine⟨xs,h1.below q,fun j hj=> ?_⟩;obtain⟨A,c,B,d,e1,e2,e3,e4,e5,e6⟩:=h2 j hj;exact⟨A,c,B,d,e1,e2,e3,e4,e5.below q ZL,e6.below q ZL⟩
theorem GOwn.row {t:TypeId}{w:World}{base:Nat}{A:Option Addr}{c:Nat}{l:List Fr}(h:GOwn t w base (.slice A l.length c) l):GRow w A l:=fun j hj=>by
 obtain⟨xs,h1,h2⟩:=h;obtain⟨A',c',B',d',e1,e2,e3,e4,e5,e6⟩:=h2 j hj;obtain⟨g,rfl,k1⟩:=h1.cell e1;obtain⟨g2,hg2,k2⟩:=h1.cell e2;obtain⟨g3,hg3,k3⟩:=h1.cell e3;obtain⟨g4,hg4,k4⟩:=h1.cell e4;cases hg2;cases hg3;cases hg4;refine⟨g,0,rfl,A',c',B',d',?_,?_,?_,?_,e5,e6⟩
 ·rw[Nat.zero_add];exact k1
 ·rw[Nat.zero_add];exact k2
 ·rw[Nat.zero_add];exact k3
 ·rw[Nat.zero_add];exact k4
theorem GOwn.push {t:TypeId}{w w':World}{base:Nat}{v v':Value}{l:List Fr}{f:Fr}{A:Option Addr}{c:Nat}{B:Option Addr}{d:Nat}{xs:List Value}(h2:∀j,j<l.length→∃A c B d,xs[j*4]? =some (.bool (l.getD j fr0).n)∧xs[j*4+1]? =some (.slice A (l.getD j fr0).xs.length c)∧xs[j*4+2]? =some (.bool (l.getD j fr0).m)∧xs[j*4+3]? =some (.slice B (l.getD j fr0).ys.length d)∧Rd w A c (l.getD j fr0).xs∧Rd w B d (l.getD j fr0).ys)(hx:Rd w A c f.xs)(hy:Rd w B d f.ys)(hn:NRow w base t 4 v l.length xs)(h3:NRow w' base t 4 v' (l.length+1) (xs++(fcs f A c B d).toList))(hg:w.grownBy w' v.ownBlock):GOwn t w' base v' (l++[f]):=by
 have hxl:xs.length=l.length*4:=hn.1.1;have up:∀{A c ds},Rd w A c ds→Rd w' A c ds:=fun{A c ds} h=>by
  cases hb:v.ownBlock with
  |none=>
   rw[hb]at hg;exact Rd.below h ⟨hg.os,hg.tape,hg.output,hg.size,fun k hk=>hg.block k hk (by simp)⟩ ZL
  |some g=>
   rw[hb]at hg;exact h.boxed (hn.2 g hb) hg
 refine⟨_,by rw[List.length_append];exact h3,fun j hj=> ?_⟩;rw[List.length_append,List.length_singleton]at hj;by_cases hjl:j<l.length
 ·obtain⟨A',c',B',d',e1,e2,e3,e4,e5,e6⟩:=h2 j hjl;have hl:(l++[f]).getD j fr0=l.getD j fr0:=by rw[List.getD_eq_getElem?_getD,List.getElem?_append_left hjl,←List.getD_eq_getElem?_getD]
  rw[hl];refine⟨A',c',B',d',?_,?_,?_,?_,up e5,up e6⟩
  ·rw[List.getElem?_append_left (by omega)];exact e1
  ·rw[List.getElem?_append_left (by omega)];exact e2
  ·rw[List.getElem?_append_left (by omega)];exact e3
  ·rw[List.getElem?_append_left (by omega)];exact e4
 ·have hjj:j=l.length:=by omega
  subst hjj;have hl:(l++[f]).getD l.length fr0=f:=by rw[List.getD_eq_getElem?_getD,List.getElem?_append_right ZL,Nat.sub_self];rfl
  rw[hl];refine⟨A,c,B,d,?_,?_,?_,?_,up hx,up hy⟩
  ·rw[List.getElem?_append_right (by omega),hxl,Nat.sub_self];rfl
  ·rw[List.getElem?_append_right (by omega),hxl,Nat.add_sub_cancel_left];rfl
  ·rw[List.getElem?_append_right (by omega),hxl,Nat.add_sub_cancel_left];rfl
  ·rw[List.getElem?_append_right (by omega),hxl,Nat.add_sub_cancel_left];rfl
def rowM (ξ:Nat→Rat)(a:List Int):Nat→Nat→Rat
 |0,_=>0
 |m+1,j=>((a.getD j 0:Int):Rat)*ξ j+rowM ξ a m (j+1)
def pairQ (ξ:Nat→Rat)(m j:Nat):List Rat→List (List Int)→Rat
 |y::ys,a::rs=>y*rowM ξ a m j+pairQ ξ m j ys rs
 |_,_=>0
theorem pair_zero (ξ:Nat→Rat)(j:Nat):∀(y:List Rat)(rs:List (List Int)),pairQ ξ 0 j y rs=0
 |[],_=>rfl
 |_::_,[]=>rfl
 |y::ys,a::rs=>by
  show y*0+pairQ ξ 0 j ys rs=0;rw[pair_zero ξ j ys rs];grind
theorem pair_step (ξ:Nat→Rat)(m j:Nat):∀(y:List Rat)(rs:List (List Int)),pairQ ξ (m+1) j y rs=dotQ y (rs.map fun r=>r.getD j 0)*ξ j+pairQ ξ m (j+1) y rs
 |[],rs=>by
  show(0:Rat)=0*ξ j+0;grind
 |_::_,[]=>by
  show(0:Rat)=0*ξ j+0;grind
 |y::ys,a::rs=>by
  show y*(((a.getD j 0:Int):Rat)*ξ j+rowM ξ a m (j+1))+pairQ ξ (m+1) j ys rs=(y*((a.getD j 0:Int):Rat)+dotQ ys (rs.map fun r=>r.getD j 0))*ξ j+(y*rowM ξ a m (j+1)+pairQ ξ m (j+1) ys rs);rw[pair_step ξ m j ys rs];grind
def colC (c:Option (List Int))(j:Nat):Rat:=match c with
 |none=>0
 |some c=>((c.getD j 0:Int):Rat)
def colD (p:Pg)(y:List Rat)(c:Option (List Int))(j:Nat):Rat:=dotQ y (colL p j)+colC c j
def leastQ (p:Pg)(y:List Rat)(c:Option (List Int)):Nat→List (Int×Int)→Rat
 |_,[]=>0
 |j,(l,h)::r=>colD p y c j*(if colD p y c j<0 then(h:Rat) else(l:Rat))+leastQ p y c (j+1) r
def sumD (p:Pg)(y:List Rat)(c:Option (List Int))(ξ:Nat→Rat):Nat→Nat→Rat
 |0,_=>0
 |m+1,j=>colD p y c j*ξ j+sumD p y c ξ m (j+1)
def rowC (ξ:Nat→Rat)(c:Option (List Int))(m j:Nat):Rat:=match c with
 |none=>0
 |some c=>rowM ξ c m j
theorem sum_split (p:Pg)(y:List Rat)(c:Option (List Int))(ξ:Nat→Rat):∀(m j:Nat),sumD p y c ξ m j=pairQ ξ m j y p.a+rowC ξ c m j
 |0,j=>by
  rw[pair_zero];cases c<;>(show(0:Rat)=0+0;grind)
 |m+1,j=>by
  show colD p y c j*ξ j+sumD p y c ξ m (j+1)=_;rw[sum_split p y c ξ m (j+1),pair_step];unfold colD colL;cases c with
  |none=>
   show(_+(0:Rat))*ξ j+(_+(0:Rat))=_+_+(0:Rat);grind
  |some c=>
   show(_+((c.getD j 0:Int):Rat))*ξ j+(_+rowM ξ c m (j+1))=_+_+(((c.getD j 0:Int):Rat)*ξ j+rowM ξ c m (j+1));grind
theorem end_le {d l h x:Rat}(h1:l≤x)(h2:x≤h):d*(if d<0 then h else l)≤d*x:=by
 by_cases hd:d<0
 ·rw[if_pos hd];have:=Rat.mul_le_mul_of_nonneg_left h2 (show(0:Rat)≤-d by grind);grind
 ·rw[if_neg hd];exact Rat.mul_le_mul_of_nonneg_left h1 (by grind)
theorem least_le (p:Pg)(y:List Rat)(c:Option (List Int))(ξ:Nat→Rat):∀(r:List (Int×Int))(j:Nat),(∀k,k<r.length→(((r.getD k (0,0)).1:Int):Rat)≤ξ (j+k)∧ξ (j+k)≤(((r.getD k (0,0)).2:Int):Rat))→leastQ p y c j r≤sumD p y c ξ r.length j
 |[],j,_=>Rat.le_refl
 |(l,h)::r,j,hb=>by
  have h0:=hb 0 (by simp);have h1:=least_le p y c ξ r (j+1) fun k hk=>by
   have:=hb (k+1) (by simpa using hk);rw[show j+1+k=j+(k+1) by omega];exact this
  have h2:colD p y c j*(if colD p y c j<0 then(h:Rat) else(l:Rat))≤colD p y c j*ξ j:=end_le h0.1 h0.2;show _+leastQ p y c (j+1) r≤_*ξ j+sumD p y c ξ r.length (j+1);grind
structure Fits (p:Pg) (ξ:Nat→Rat):Prop where
 lo:∀j,j<p.lo.length→((p.lo.getD j 0:Int):Rat)≤ξ j
 hi:∀j,j<p.lo.length→ξ j≤((p.hi.getD j 0:Int):Rat)
 row:∀i,i<p.a.length→rowM ξ (p.a.getD i []) p.lo.length 0≤((p.b.getD i 0:Int):Rat)
theorem pair_le (ξ:Nat→Rat)(n:Nat):∀(y:List Rat)(rs:List (List Int))(b:List Int),(∀q∈y,0≤q)→rs.length=b.length→y.length=rs.length→(∀i,i<rs.length→rowM ξ (rs.getD i []) n 0≤((b.getD i 0:Int):Rat))→pairQ ξ n 0 y rs≤dotQ y b
 |[],rs,b,_,_,_,_=>Rat.le_refl
 |_::_,[],_,_,_,h,_=>by cases h
 |_::_,_::_,[],_,h,_,_=>by cases h
 |y::ys,a::rs,b::bs,h0,h1,h2,h3=>by
  have r0:=h3 0 (by simp);have r1:=pair_le ξ n ys rs bs (fun q hq=>h0 q (List.mem_cons_of_mem _ hq)) (by simpa using h1) (by simpa using h2) fun i hi=>h3 (i+1) (by simpa using hi);have r2:=Rat.mul_le_mul_of_nonneg_left r0 (h0 y List.mem_cons_self);have r3:y*rowM ξ a n 0≤y*((b:Int):Rat):=r2;show y*rowM ξ a n 0+pairQ ξ n 0 ys rs≤y*((b:Int):Rat)+dotQ ys bs;grind
theorem zip_at {l h:List Int}{k:Nat}(hl:k<l.length)(hh:k<h.length):(l.zip h).getD k (0,0)=(l.getD k 0,h.getD k 0):=by
 have e:(l.zip h)[k]? =some (l[k],h[k]):=List.getElem?_zip_eq_some.2 ⟨List.getElem?_eq_getElem hl,List.getElem?_eq_getElem hh⟩;rw[List.getD_eq_getElem?_getD,e,List.getD_eq_getElem?_getD,List.getElem?_eq_getElem hl,List.getD_eq_getElem?_getD,List.getElem?_eq_getElem hh];rfl
def boundQ (p:Pg)(y:List Rat)(c:Option (List Int)):Rat:=leastQ p y c 0 (p.lo.zip p.hi)-dotQ y p.b
theorem weak {p:Pg}{y:List Rat}{c:Option (List Int)}{ξ:Nat→Rat}(hh:p.hi.length=p.lo.length)(hb:p.a.length=p.b.length)(hy:∀q∈y,0≤q)(hl:y.length=p.a.length)(hf:Fits p ξ):boundQ p y c≤rowC ξ c p.lo.length 0:=by
 have hz:(p.lo.zip p.hi).length=p.lo.length:=by rw[List.length_zip];omega
 have h1:=least_le p y c ξ (p.lo.zip p.hi) 0 fun k hk=>by
  rw[hz]at hk;rw[zip_at hk (by omega),Nat.zero_add];exact⟨hf.lo k hk,hf.hi k hk⟩
 rw[hz,sum_split]at h1;have h2:=pair_le ξ p.lo.length y p.a p.b hy hb hl hf.row;unfold boundQ;grind
def Sat (p:Pg)(ξ:Nat→Rat):Prop:=∀i,i<p.a.length→ξ (p.lo.length+i)=rowM ξ (p.a.getD i []) p.lo.length 0
def Tb.val (b:Tb)(v:Nat):Rat:=(b.var v).v
def Tb.B (b:Tb)(i:Nat):Nat:=b.basic.getD i 0
def Tb.F (b:Tb)(k:Nat):Nat:=b.free.getD k 0
def Tb.at_ (b:Tb)(i k:Nat):Rat:=(b.t.getD i []).getD k 0
def Inn (x:Vr):Prop:=x.below=false∧x.above=false
def Rest (x:Vr):Prop:=Inn x∧(x.lo=some x.v∨x.hi=some x.v)
def Lines (b:Tb)(ξ:Nat→Rat):Prop:=∀r,r<b.t.length→ξ (b.B r)=lin ξ (b.t.getD r []) b.free
structure Good (p:Pg) (b:Tb):Prop where
 wf:Wf b
 n:b.n=p.lo.length
 nv:b.vars.length=p.lo.length+p.a.length
 eq:∀ξ,Sat p ξ↔Lines b ξ
 cost:∀ξ,Sat p ξ→rowM ξ p.c p.lo.length 0=lin ξ b.cost b.free
 val:Sat p b.val
 db:∀i j,i<b.basic.length→j<b.basic.length→b.B i=b.B j→i=j
 df:∀i j,i<b.free.length→j<b.free.length→b.F i=b.F j→i=j
 dd:∀i k,i<b.basic.length→k<b.free.length→b.B i≠b.F k
 all:∀v,v<b.vars.length→(∃i,i<b.basic.length∧b.B i=v)∨∃k,k<b.free.length∧b.F k=v
 elo:∀j,j<p.lo.length→(b.var j).lo=some ((p.lo.getD j 0:Int):Rat)∧(b.var j).hi=some ((p.hi.getD j 0:Int):Rat)
 erow:∀i,i<p.a.length→(b.var (p.lo.length+i)).lo=none∧(b.var (p.lo.length+i)).hi=some ((p.b.getD i 0:Int):Rat)
 rest:∀k,k<b.free.length→Rest (b.var (b.F k))
 fl:b.free.length=p.lo.length
theorem Good.inn {p:Pg}{b:Tb}(h:Good p b):∀k,k<b.free.length→Inn (b.var (b.F k)):=fun k hk=>(h.rest k hk).1
theorem Good.left {p:Pg}{b:Tb}{n:Nat}(h:Good p b)(hn:n≤10000):Good p {b with left:=n}:=⟨h.wf.setLeft hn,h.n,h.nv,h.eq,h.cost,h.val,h.db,h.df,h.dd,h.all,h.elo,h.erow,h.rest,h.fl⟩
theorem col_part {α β:Type}(z:α)(u:β){l:List α}{f:List β}{k:Nat}(h:l.length=f.length)(hk:k<f.length):∃l1 l2 f1 f2,l=l1++l.getD k z::l2∧f=f1++f.getD k u::f2∧l1.length=k∧f1.length=k∧l1.length=f1.length∧l2.length=f2.length∧(∀y,l.set k y=l1++y::l2)∧(∀y,f.set k y=f1++y::f2):=by
 obtain⟨l1,l2,h1,h2,h3⟩:=part_at z l k (by omega);obtain⟨f1,f2,g1,g2,g3⟩:=part_at u f k hk;refine⟨l1,l2,f1,f2,h1,g1,h2,g2,by omega,?_,h3,g3⟩;have e1:=congrArg List.length h1;have e2:=congrArg List.length g1;rw[List.length_append,List.length_cons]at e1 e2;omega
theorem Pivoted.lines {b b':Tb}{i k:Nat}(P:Pivoted b i k b')(h:Wf b)(hi:i<b.t.length)(hk:k<b.free.length)(ξ:Nat→Rat):(Lines b ξ↔Lines b' ξ)∧(Lines b ξ→lin ξ b'.cost b'.free=lin ξ b.cost b.free):=by
 obtain⟨l1,l2,f1,f2,hl,hf,c1,c2,c3,c4,s1,s2⟩:=col_part (0:Rat) (0:Nat) (h.ft i hi) hk;have hib:i<b.basic.length:=by rw[h.bt];exact hi
 have a0:=P.ne;generalize ha:(b.t.getD i []).getD k 0=a at*;generalize hq:b.free.getD k 0=q at*;have hline:=P.line hi;have hcost:=P.cost;have hother:=P.other;rw[ha]at hline hcost;simp only[ha]at hother;have ht:turnQ a k 0 (b.t.getD i [])=(l1.map fun x=> -(x/a))++1/a::l2.map fun x=> -(x/a):=by
  rw[hl];exact turnQ_split a k a l2 l1 0 (by omega)
 have hfree:b'.free=f1++b.B i::f2:=by rw[P.free];exact s2 _
 have m1:(l1.map fun x=> -(x/a)).length=f1.length:=by rw[List.length_map];exact c3
 have m2:(l2.map fun x=> -(x/a)).length=f2.length:=by rw[List.length_map];exact c4
 have key:ξ (b.B i)=lin ξ (b.t.getD i []) b.free↔ξ q=lin ξ ((l1.map fun x=> -(x/a))++1/a::l2.map fun x=> -(x/a)) (f1++b.B i::f2):=by
  rw[hl,hf];exact pivot_line c3 c4 a0
 have other:∀L:List Rat,L.length=b.free.length→ξ q=lin ξ ((l1.map fun x=> -(x/a))++1/a::l2.map fun x=> -(x/a)) (f1++b.B i::f2)→lin ξ (layQ (L.getD k 0) k 0 L (turnQ a k 0 (b.t.getD i []))) b'.free=lin ξ L b.free:=fun L hL hx=>by
  obtain⟨n1,n2,g1,g2,e1,e2,e3,e4,e5,e6,_,_⟩:=col_part (0:Rat) (0:Nat) hL hk;have z1:n1.length=l1.length:=by omega
  have z2:n2.length=l2.length:=by
   have e7:=congrArg List.length hf;have e8:=congrArg List.length e2;rw[List.length_append,List.length_cons]at e7 e8;omega
  generalize hy:L.getD k 0=y at*;rw[ht,hfree,hf];conv=>lhs;rw[e1]
  conv=>rhs;rw[e1]
  rw[layQ_split y k y (1/a) n2 (l2.map fun x=> -(x/a)) (by rw[List.length_map];exact z2) n1 (l1.map fun x=> -(x/a)) 0 (by omega) (by rw[List.length_map];exact z1)];exact pivot_other m1 m2 (by omega) (by omega) hx
 have cst:ξ q=lin ξ ((l1.map fun x=> -(x/a))++1/a::l2.map fun x=> -(x/a)) (f1++b.B i::f2)→lin ξ b'.cost b'.free=lin ξ b.cost b.free:=fun hx=>by
  rw[hcost];exact other b.cost h.fc hx
 have bas:∀r,r<b.basic.length→b'.B r=if r=i then q else b.B r:=fun r hr=>by
  show b'.basic.getD r 0=_;rw[P.basic,getD_set hib,hq];rfl
 refine⟨⟨fun H=> ?_,fun H=> ?_⟩,fun H=>cst (key.1 (H i hi))⟩
 ·have hx:=key.1 (H i hi);intro r hr;rw[P.tl]at hr;rw[bas r (by rw[h.bt];exact hr)];by_cases e:r=i
  ·subst e;rw[if_pos rfl,hline,ht,hfree];exact hx
  ·rw[if_neg e,hother r hr e,other _ (h.ft r hr) hx];exact H r hr
 ·have hx:ξ q=lin ξ ((l1.map fun x=> -(x/a))++1/a::l2.map fun x=> -(x/a)) (f1++b.B i::f2):=by
   have:=H i (by rw[P.tl];exact hi);rw[bas i hib,if_pos rfl,hline,ht,hfree]at this;exact this
  intro r hr;by_cases e:r=i
  ·subst e;exact key.2 hx
  ·have:=H r (by rw[P.tl];exact hr);rw[bas r (by rw[h.bt];exact hr),if_neg e,hother r hr e,other _ (h.ft r hr) hx]at this;exact this
theorem Good.pivot {p:Pg}{b b':Tb}{i k:Nat}(h:Good p b)(hi:i<b.t.length)(hk:k<b.free.length)(hp:pivotT b i k=some b')(hin:Rest (b.var (b.B i))):Good p b':=by
 have P:=pivot_form (h.wf.line_ne hi hk) hp;have hib:i<b.basic.length:=by rw[h.wf.bt];exact hi
 have var:∀v,b'.var v=b.var v:=fun v=>by unfold Tb.var;rw[P.vars]
 have hB:∀r,r<b.basic.length→b'.B r=if r=i then b.F k else b.B r:=fun r hr=>by
  show b'.basic.getD r 0=_;rw[P.basic,getD_set hib];rfl
 have hF:∀r,b'.F r=if r=k then b.B i else b.F r:=fun r=>by
  show b'.free.getD r 0=_;rw[P.free,getD_set hk];rfl
 have lb:b'.basic.length=b.basic.length:=by rw[P.basic,List.length_set]
 have lf:b'.free.length=b.free.length:=by rw[P.free,List.length_set]
 refine⟨P.wf h.wf hi hk,P.n.trans h.n,by rw[P.vars];exact h.nv,fun ξ=>(h.eq ξ).trans (P.lines h.wf hi hk ξ).1,fun ξ hs=> ?_,?_,fun r s hr hs e=> ?_,fun r s hr hs e=> ?_,fun r s hr hs e=> ?_,fun v hv=> ?_,fun j hj=>by rw[var];exact h.elo j hj,fun j hj=>by rw[var];exact h.erow j hj,fun r hr=> ?_,by rw[lf];exact h.fl⟩
 ·rw[h.cost ξ hs];exact((P.lines h.wf hi hk ξ).2 ((h.eq ξ).1 hs)).symm
 ·have:b'.val=b.val:=funext fun v=>by unfold Tb.val;rw[var]
  rw[this];exact h.val
 ·rw[lb]at hr hs;rw[hB r hr,hB s hs]at e;by_cases e1:r=i
  ·by_cases e2:s=i
   ·omega
   ·rw[if_pos e1,if_neg e2]at e;exact absurd e.symm (h.dd s k hs hk)
  ·by_cases e2:s=i
   ·rw[if_neg e1,if_pos e2]at e;exact absurd e (h.dd r k hr hk)
   ·rw[if_neg e1,if_neg e2]at e;exact h.db r s hr hs e
 ·rw[lf]at hr hs;rw[hF,hF]at e;by_cases e1:r=k
  ·by_cases e2:s=k
   ·omega
   ·rw[if_pos e1,if_neg e2]at e;exact absurd e (h.dd i s hib hs)
  ·by_cases e2:s=k
   ·rw[if_neg e1,if_pos e2]at e;exact absurd e.symm (h.dd i r hib hr)
   ·rw[if_neg e1,if_neg e2]at e;exact h.df r s hr hs e
 ·rw[lb]at hr;rw[lf]at hs;rw[hB r hr,hF]at e;by_cases e1:r=i
  ·by_cases e2:s=k
   ·rw[if_pos e1,if_pos e2]at e;exact h.dd i k hib hk e.symm
   ·rw[if_pos e1,if_neg e2]at e;exact e2 (h.df k s hk hs e).symm
  ·by_cases e2:s=k
   ·rw[if_neg e1,if_pos e2]at e;exact e1 (h.db r i hr hib e)
   ·rw[if_neg e1,if_neg e2]at e;exact h.dd r s hr hs e
 ·rw[P.vars]at hv;rcases h.all v hv with ⟨r,hr,e⟩|⟨r,hr,e⟩
  ·by_cases e1:r=i
   ·subst e1;exact .inr ⟨k,by rw[lf];exact hk,by rw[hF,if_pos rfl];exact e⟩
   ·exact .inl ⟨r,by rw[lb];exact hr,by rw[hB r hr,if_neg e1];exact e⟩
  ·by_cases e1:r=k
   ·subst e1;exact .inl ⟨i,by rw[lb];exact hib,by rw[hB i hib,if_pos rfl];exact e⟩
   ·exact .inr ⟨r,by rw[lf];exact hr,by rw[hF,if_neg e1];exact e⟩
 ·rw[lf]at hr;rw[hF,var];by_cases e1:r=k
  ·rw[if_pos e1];exact hin
  ·rw[if_neg e1];exact h.rest r hr
def Tb.withV (b:Tb)(vs:List Vr):Tb:={b with vars:=vs}
theorem moveL_vals (by_:Rat)(k:Nat):∀(ls:List (List Rat))(vs:List Nat)(b:Tb){b':Tb},moveL by_ k b ls vs=some b'→ls.length=vs.length→(∀i j,i<vs.length→j<vs.length→vs.getD i 0=vs.getD j 0→i=j)→(∀i,i<vs.length→vs.getD i 0<b.vars.length)→(∃us,b'=b.withV us∧us.length=b.vars.length)∧(∀i,i<vs.length→b'.val (vs.getD i 0)=b.val (vs.getD i 0)+(ls.getD i []).getD k 0*by_)∧∀v,(∀i,i<vs.length→vs.getD i 0≠v)→b'.val v=b.val v
 |[],[],b,b',h,_,_,_=>by
  unfold moveL at h;cases h;exact⟨⟨b.vars,rfl,rfl⟩,fun i hi=>absurd hi (Nat.not_lt_zero _),fun v _=>rfl⟩
 |[],_::_,b,b',h,hl,_,_=>by cases hl
 |_::_,[],b,b',h,hl,_,_=>by cases hl
 |l::ls,v::vs,b,b',h,hl,hd,hv=>by
  unfold moveL at h;obtain⟨p,hp,h⟩:=Option.bind_eq_some_iff.1 h;obtain⟨q,hq,h⟩:=Option.bind_eq_some_iff.1 h;obtain⟨e1,_⟩:=qfit_some hp;obtain⟨e2,_⟩:=qfit_some hq;have hv0:v<b.vars.length:=hv 0 (by simp);have hsl:(b.setV v q).vars.length=b.vars.length:=by
   show(b.vars.set v _).length=_;rw[List.length_set]
  have hval:∀u,(b.setV v q).val u=if u=v then q else b.val u:=fun u=>by
   unfold Tb.val;rw[var_setV];by_cases e:u=v
   ·rw[if_pos ⟨e,hv0⟩,if_pos e]
   ·rw[if_neg (fun h=>e h.1),if_neg e]
  obtain⟨⟨us,r1,r2⟩,r3,r4⟩:=moveL_vals by_ k ls vs (b.setV v q) h (by simpa using hl) (fun i j hi hj e=>by
   have:=hd (i+1) (j+1) (by simpa using hi) (by simpa using hj) e;omega) (fun i hi=>by rw[hsl];exact hv (i+1) (by simpa using hi))
  have hne:∀i,i<vs.length→vs.getD i 0≠v:=fun i hi e=>by
   have:=hd (i+1) 0 (by simpa using hi) (by simp) e;omega
  refine⟨⟨us,r1,by rw[r2,hsl]⟩,fun i hi=> ?_,fun u hu=> ?_⟩
  ·cases i with
   |zero=>
    show b'.val v=b.val v+l.getD k 0*by_;rw[r4 v hne,hval,if_pos rfl,←e2,←e1];rfl
   |succ i=>
    have hi':i<vs.length:=by simpa using hi
    show b'.val (vs.getD i 0)=b.val (vs.getD i 0)+(ls.getD i []).getD k 0*by_;rw[r3 i hi',hval,if_neg (hne i hi')]
  ·rw[r4 u (fun i hi=>hu (i+1) (by simpa using hi)),hval,if_neg];exact fun e=>hu 0 (by simp) e.symm
theorem lin_move {ξ η:Nat→Rat}{l:List Rat}{f:List Nat}{k:Nat}{δ:Rat}(hl:l.length=f.length)(hk:k<f.length)(hd:∀i j,i<f.length→j<f.length→f.getD i 0=f.getD j 0→i=j)(h1:η (f.getD k 0)=ξ (f.getD k 0)+δ)(h2:∀j,j<f.length→j≠k→η (f.getD j 0)=ξ (f.getD j 0)):lin η l f=lin ξ l f+l.getD k 0*δ:=by
 obtain⟨l1,l2,f1,f2,e1,e2,c1,c2,c3,c4,_,_⟩:=col_part (0:Rat) (0:Nat) hl hk;have g1:∀v∈f1,η v=ξ v:=fun v hv=>by
  obtain⟨j,hj,rfl⟩:=List.getElem_of_mem hv;have e3:f.getD j 0=f1[j]:=by
   rw[List.getD_eq_getElem?_getD,e2,List.getElem?_append_left hj,List.getElem?_eq_getElem hj];rfl
  rw[←e3];exact h2 j (by omega) (by omega)
 have g2:∀v∈f2,η v=ξ v:=fun v hv=>by
  obtain⟨j,hj,rfl⟩:=List.getElem_of_mem hv;have e3:f.getD (k+1+j) 0=f2[j]:=by
   rw[List.getD_eq_getElem?_getD,e2,List.getElem?_append_right (by omega),show k+1+j-f1.length=j+1 by omega,List.getElem?_cons_succ,List.getElem?_eq_getElem hj];rfl
  have e4:k+1+j<f.length:=by
   rw[e2,List.length_append,List.length_cons];omega
  rw[←e3];exact h2 _ e4 (by omega)
 generalize hx:l.getD k 0=x at*;generalize hq:f.getD k 0=q at*;rw[e1,e2,lin_app η l1 f1 c3,lin_app ξ l1 f1 c3];show lin η l1 f1+(x*η q+lin η l2 f2)=lin ξ l1 f1+(x*ξ q+lin ξ l2 f2)+x*δ;rw[lin_congr l1 f1 g1,lin_congr l2 f2 g2,h1];grind
structure Moved (b:Tb) (k:Nat) (δ:Rat) (b':Tb):Prop where
 form:∃us,b'=b.withV us∧us.length=b.vars.length
 col:b'.val (b.F k)=b.val (b.F k)+δ
 line:∀i,i<b.basic.length→b'.val (b.B i)=b.val (b.B i)+b.at_ i k*δ
 rest:∀j,j<b.free.length→j≠k→b'.val (b.F j)=b.val (b.F j)
 ends:SameEnds b b'
theorem Good.moved {p:Pg}{b b':Tb}{k:Nat}{δ:Rat}(h:Good p b)(hk:k<b.free.length)(hm:moveT b k δ=some b'):Moved b k δ b':=by
 have hen:=move_ends hm;unfold moveT at hm;obtain⟨q,hq,hm⟩:=Option.bind_eq_some_iff.1 hm;obtain⟨e1,_⟩:=qfit_some hq;have hfv:=h.wf.fv k hk;have hsl:(b.setV (b.F k) q).vars.length=b.vars.length:=by
  show(b.vars.set _ _).length=_;rw[List.length_set]
 have hval:∀u,(b.setV (b.F k) q).val u=if u=b.F k then q else b.val u:=fun u=>by
  unfold Tb.val;rw[var_setV];by_cases e:u=b.F k
  ·rw[if_pos ⟨e,hfv⟩,if_pos e]
  ·rw[if_neg (fun h=>e h.1),if_neg e]
 obtain⟨⟨us,r1,r2⟩,r3,r4⟩:=moveL_vals δ k b.t b.basic (b.setV (b.F k) q) hm h.wf.bt.symm (fun i j hi hj e=>h.db i j hi hj e) (fun i hi=>by rw[hsl];exact h.wf.bv i hi);refine⟨⟨us,r1,by rw[r2,hsl]⟩,?_,fun i hi=> ?_,fun j hj hjk=> ?_,hen⟩
 ·rw[r4 (b.F k) (fun i hi=>h.dd i k hi hk),hval,if_pos rfl,←e1];rfl
 ·have:=r3 i hi;rw[hval,if_neg (show ¬b.basic.getD i 0=b.F k from h.dd i k hi hk)]at this;exact this
 ·rw[r4 (b.F j) (fun i hi=>h.dd i j hi hj),hval,if_neg];exact fun e=>hjk (h.df j k hj hk e)
theorem Good.move {p:Pg}{b b':Tb}{k:Nat}{δ:Rat}(h:Good p b)(hk:k<b.free.length)(M:Moved b k δ b')(hin:Rest (b'.var (b.F k))):Good p b':=by
 obtain⟨us,rfl,hus⟩:=M.form;refine⟨h.wf.setVars hus,h.n,hus.trans h.nv,h.eq,h.cost,?_,h.db,h.df,h.dd,fun v hv=>h.all v (by rw[←hus];exact hv),fun j hj=> ?_,fun j hj=> ?_,fun j hj=> ?_,h.fl⟩
 ·refine(h.eq _).2 fun r hr=> ?_;have hl:=(h.eq _).1 h.val r hr;have hm:=lin_move (ξ:=b.val) (η:=(b.withV us).val) (h.wf.ft r hr) hk h.df M.col (fun j hj e=>M.rest j hj e);show(b.withV us).val (b.B r)=lin _ (b.t.getD r []) b.free;rw[M.line r (by rw[h.wf.bt];exact hr),hl,hm];rfl
 ·rw[(M.ends j).1,(M.ends j).2];exact h.elo j hj
 ·rw[(M.ends _).1,(M.ends _).2];exact h.erow j hj
 ·by_cases e:j=k
  ·subst e;exact hin
  ·have h1:=h.rest j hj;have h2:=M.rest j hj e;have h3:=M.ends (b.F j);show Rest ((b.withV us).var (b.F j));unfold Tb.val at h2;unfold Rest Inn Vr.below Vr.above at h1⊢;rw[h2,h3.1,h3.2];exact h1
theorem beyond_left (b:Tb)(n:Nat):beyondT {b with left:=n}=beyondT b:=by
 unfold beyondT;rw[beyond_pick,beyond_pick];rfl
def EndsOk (p:Pg):Prop:=∀j,j<p.lo.length→p.lo.getD j 0≤p.hi.getD j 0
theorem endsL_at:∀{lo hi:List Int},endsL lo hi=true→hi.length=lo.length→∀j,j<lo.length→lo.getD j 0≤hi.getD j 0
 |[],_,_,_,j,hj=>absurd hj (Nat.not_lt_zero _)
 |l::ls,[],_,hl,j,hj=>by cases hl
 |l::ls,h::hs,he,hl,j,hj=>by
  have he':(decide (l≤h)&&endsL ls hs)=true:=he;rw[Bool.and_eq_true,decide_eq_true_eq]at he';cases j with
  |zero=>exact he'.1
  |succ j=>exact endsL_at he'.2 (by simpa using hl) j (by simpa using hj)
theorem Good.two {p:Pg}{b:Tb}(h:Good p b)(he:EndsOk p){v:Nat}(hv:v<b.vars.length){l u:Rat}(h1:(b.var v).lo=some l)(h2:(b.var v).hi=some u):l≤u:=by
 rw[h.nv]at hv;by_cases hj:v<p.lo.length
 ·obtain⟨e1,e2⟩:=h.elo v hj;rw[e1]at h1;rw[e2]at h2;cases h1;cases h2;exact Rat.intCast_le_intCast.2 (he v hj)
 ·obtain⟨i,rfl⟩:∃i,v=p.lo.length+i:=⟨v-p.lo.length,by omega⟩;rw[(h.erow i (by omega)).1]at h1;cases h1
theorem inn_iff {x:Vr}:Inn x↔(∀l,x.lo=some l→l≤x.v)∧∀u,x.hi=some u→x.v≤u:=by
 unfold Inn Vr.below Vr.above;obtain⟨lo,hi,v⟩:=x;cases lo with
 |none=>
  cases hi with
  |none=>simp
  |some u=>simp[Rat.not_lt]
 |some l=>
  cases hi with
  |none=>simp[Rat.not_lt]
  |some u=>simp[Rat.not_lt]
theorem below_iff {x:Vr}:x.below=true↔∃l,x.lo=some l∧x.v<l:=by
 unfold Vr.below;cases x.lo with
 |none=>simp
 |some l=>simp
theorem above_iff {x:Vr}:x.above=true↔∃u,x.hi=some u∧u<x.v:=by
 unfold Vr.above;cases x.hi with
 |none=>simp
 |some l=>simp
theorem helpB_ne {up:Bool}{a:Rat}{x:Vr}(h:helpB up a x=true):a≠0:=fun e=>by
 subst e;unfold helpB at h;cases up<;>simp at h
theorem vr_eta {x:Vr}{lo hi:Option Rat}{v:Rat}(h1:x.lo=lo)(h2:x.hi=hi)(h3:x.v=v):x=⟨lo,hi,v⟩:=by
 cases x;cases h1;cases h2;cases h3;rfl
theorem Good.step {p:Pg}{b b2 b3:Tb}{i k:Nat}{δ:Rat}(h:Good p b)(hi:i<b.t.length)(hk:k<b.free.length)(hm:moveT b k δ=some b2)(hp:pivotT b2 i k=some b3)(hin:Rest (b2.var (b.B i))):Good p b3:=by
 have M:=h.moved hk hm;have hib:i<b.basic.length:=by rw[h.wf.bt];exact hi
 obtain⟨us,rfl,hus⟩:=M.form;have wf2:Wf (b.withV us):=h.wf.setVars hus;have P:=pivot_form (wf2.line_ne hi hk) hp;have h1:∃b1:Tb,b3=b1.withV us∧Pivoted b i k b1:=by
  refine⟨b3.withV b.vars,?_,⟨P.ne,P.n,rfl,P.left,P.basic,P.free,P.tl,P.line,P.other,P.cost⟩⟩;have hv:=P.vars;cases b3;cases hv;rfl
 obtain⟨b1,rfl,P1⟩:=h1;have hval:Sat p (b.withV us).val:=by
  refine(h.eq _).2 fun r hr=> ?_;have hl:=(h.eq _).1 h.val r hr;have hm:=lin_move (ξ:=b.val) (η:=(b.withV us).val) (h.wf.ft r hr) hk h.df M.col (fun j hj e=>M.rest j hj e);rw[M.line r (by rw[h.wf.bt];exact hr),hl,hm];rfl
 have hB:∀r,r<b.basic.length→b1.B r=if r=i then b.F k else b.B r:=fun r hr=>by
  show b1.basic.getD r 0=_;rw[P1.basic,getD_set hib];rfl
 have hF:∀r,b1.F r=if r=k then b.B i else b.F r:=fun r=>by
  show b1.free.getD r 0=_;rw[P1.free,getD_set hk];rfl
 have lb:b1.basic.length=b.basic.length:=by rw[P1.basic,List.length_set]
 have lf:b1.free.length=b.free.length:=by rw[P1.free,List.length_set]
 have wf3:Wf (b1.withV us):=(P1.wf h.wf hi hk).setVars (by rw[hus,P1.vars]);refine⟨wf3,P1.n.trans h.n,hus.trans h.nv,fun ξ=>(h.eq ξ).trans (P1.lines h.wf hi hk ξ).1,fun ξ hs=> ?_,hval,fun r s hr hs e=> ?_,fun r s hr hs e=> ?_,fun r s hr hs e=> ?_,fun v hv=> ?_,fun j hj=> ?_,fun j hj=> ?_,fun r hr=> ?_,by show b1.free.length=_;rw[lf];exact h.fl⟩
 ·rw[h.cost ξ hs];exact((P1.lines h.wf hi hk ξ).2 ((h.eq ξ).1 hs)).symm
 ·have hr:r<b.basic.length:=by rw[←lb];exact hr
  have hs:s<b.basic.length:=by rw[←lb];exact hs
  have e:b1.B r=b1.B s:=e;rw[hB r hr,hB s hs]at e;by_cases e1:r=i
  ·by_cases e2:s=i
   ·omega
   ·rw[if_pos e1,if_neg e2]at e;exact absurd e.symm (h.dd s k hs hk)
  ·by_cases e2:s=i
   ·rw[if_neg e1,if_pos e2]at e;exact absurd e (h.dd r k hr hk)
   ·rw[if_neg e1,if_neg e2]at e;exact h.db r s hr hs e
 ·have hr:r<b.free.length:=by rw[←lf];exact hr
  have hs:s<b.free.length:=by rw[←lf];exact hs
  have e:b1.F r=b1.F s:=e;rw[hF,hF]at e;by_cases e1:r=k
  ·by_cases e2:s=k
   ·omega
   ·rw[if_pos e1,if_neg e2]at e;exact absurd e (h.dd i s hib hs)
  ·by_cases e2:s=k
   ·rw[if_neg e1,if_pos e2]at e;exact absurd e.symm (h.dd i r hib hr)
   ·rw[if_neg e1,if_neg e2]at e;exact h.df r s hr hs e
 ·have hr:r<b.basic.length:=by rw[←lb];exact hr
  have hs:s<b.free.length:=by rw[←lf];exact hs
  have e:b1.B r=b1.F s:=e;rw[hB r hr,hF]at e;by_cases e1:r=i
  ·by_cases e2:s=k
   ·rw[if_pos e1,if_pos e2]at e;exact h.dd i k hib hk e.symm
   ·rw[if_pos e1,if_neg e2]at e;exact e2 (h.df k s hk hs e).symm
  ·by_cases e2:s=k
   ·rw[if_neg e1,if_pos e2]at e;exact e1 (h.db r i hr hib e)
   ·rw[if_neg e1,if_neg e2]at e;exact h.dd r s hr hs e
 ·rcases h.all v (by rw[←hus];exact hv) with ⟨r,hr,e⟩|⟨r,hr,e⟩
  ·by_cases e1:r=i
   ·subst e1;exact .inr ⟨k,by show k<b1.free.length;rw[lf];exact hk,by show b1.F k=v;rw[hF,if_pos rfl];exact e⟩
   ·exact .inl ⟨r,by show r<b1.basic.length;rw[lb];exact hr,by show b1.B r=v;rw[hB r hr,if_neg e1];exact e⟩
  ·by_cases e1:r=k
   ·subst e1;exact .inl ⟨i,by show i<b1.basic.length;rw[lb];exact hib,by show b1.B i=v;rw[hB i hib,if_pos rfl];exact e⟩
   ·exact .inr ⟨r,by show r<b1.free.length;rw[lf];exact hr,by show b1.F r=v;rw[hF,if_neg e1];exact e⟩
 ·have e1:=M.ends j;have e2:=h.elo j hj;exact⟨e1.1.trans e2.1,e1.2.trans e2.2⟩
 ·have e1:=M.ends (p.lo.length+j);have e2:=h.erow j hj;exact⟨e1.1.trans e2.1,e1.2.trans e2.2⟩
 ·have hr:r<b.free.length:=by rw[←lf];exact hr
  show Rest ((b.withV us).var (b1.F r));rw[hF];by_cases e1:r=k
  ·rw[if_pos e1];exact hin
  ·rw[if_neg e1];have h1:=h.rest r hr;have h2:=M.rest r hr e1;have h3:=M.ends (b.F r);unfold Rest at h1⊢;rw[inn_iff]at h1⊢;rw[h3.1,h3.2];unfold Tb.val at h2;rw[h2];exact h1
structure FeasEnd (p:Pg) (b:Tb) (o:Option Nat):Prop where
 good:Good p b
 none:o=none→beyondT b=Option.none
 some:∀i,o=Option.some i→beyondT b=Option.some i∧helpsT b i (b.var (b.B i)).below=Option.none
theorem feas_good {p:Pg}(he:EndsOk p):∀(fuel:Nat)(b:Tb){r:Tb×Option Nat},Good p b→feasT fuel b=some r→FeasEnd p r.1 r.2
 |fuel,b,r,h,hf=>by
  unfold feasT at hf;cases hb:beyondT b with
  |none=>
   rw[hb]at hf;cases hf;exact⟨h,fun _=>hb,fun i e=>by cases e⟩
  |some i=>
   rw[hb]at hf;cases fuel with
   |zero=>cases hf
   |succ fuel=>
    have h1:Good p {b with left:=b.left-1}:=h.left (by have:=h.wf.sl;omega);have hb1:beyondT {b with left:=b.left-1}=some i:=by rw[beyond_left,hb]
    simp only at hf;have eB:b.basic=({b with left:=b.left-1}:Tb).basic:=rfl;have eT:b.t=({b with left:=b.left-1}:Tb).t:=rfl;generalize {b with left:=b.left-1}=b1 at*;rw[eB,eT]at hf;obtain⟨s1,s2,s3⟩:=beyond_some hb1;have hit:i<b1.t.length:=by rw[←h1.wf.bt];exact s1
    cases hk:helpsT b1 i (b1.var (b1.basic.getD i 0)).below with
    |none=>
     rw[hk]at hf;cases hf;exact⟨h1,(fun e=>by cases e),(fun j e=>by cases e;exact⟨hb1,hk⟩)⟩
    |some k=>
     rw[hk]at hf;simp only at hf;obtain⟨d,hd,hf⟩:=Option.bind_eq_some_iff.1 hf;obtain⟨δ,hδ,hf⟩:=Option.bind_eq_some_iff.1 hf;obtain⟨b2,hm,hf⟩:=Option.bind_eq_some_iff.1 hf;obtain⟨b3,hp,hf⟩:=Option.bind_eq_some_iff.1 hf;obtain⟨k1,k2,k3⟩:=helps_some (h1.wf.ft i hit) hk;have M:=h1.moved k1 hm;obtain⟨hd1,_⟩:=qfit_some hd;obtain⟨hq1,hq2,_⟩:=div_some hδ;have hgoal:b2.val (b1.B i)=if (b1.var (b1.basic.getD i 0)).below=true then(b1.var (b1.basic.getD i 0)).lo.getD 0 else(b1.var (b1.basic.getD i 0)).hi.getD 0:=by
      rw[M.line i s1,hq1];have e:b1.at_ i k*(d/(b1.t.getD i []).getD k 0)=d:=by
       show(b1.t.getD i []).getD k 0*(d/(b1.t.getD i []).getD k 0)=d;generalize (b1.t.getD i []).getD k 0=a at*;grind
      rw[e,←hd1];show(b1.var (b1.basic.getD i 0)).v+(_+ -(b1.var (b1.basic.getD i 0)).v)=_;grind
     have hin:Rest (b2.var (b1.B i)):=by
      have hvl:=h1.wf.bv i s1;have e1:=M.ends (b1.B i);unfold Rest;rw[inn_iff,e1.1,e1.2];have ev:(b2.var (b1.B i)).v=b2.val (b1.B i):=rfl;rw[ev,hgoal];rw[Bool.or_eq_true]at s2;by_cases hbe:(b1.var (b1.basic.getD i 0)).below=true
      ·rw[if_pos hbe];obtain⟨l,hl1,hl2⟩:=below_iff.1 hbe;have hl1':(b1.var (b1.B i)).lo=some l:=hl1;rw[hl1,hl1'];refine⟨⟨fun l' e=> ?_,fun u hu=>h1.two he hvl hl1 hu⟩,.inl rfl⟩;cases e;exact Rat.le_refl
      ·rw[if_neg hbe];obtain⟨u,hu1,hu2⟩:=above_iff.1 (s2.resolve_left hbe);have hu1':(b1.var (b1.B i)).hi=some u:=hu1;rw[hu1,hu1'];refine⟨⟨fun l hl=>h1.two he hvl hl hu1,fun u' e=> ?_⟩,.inr rfl⟩;cases e;exact Rat.le_refl
     exact feas_good he fuel b3 (h1.step hit k1 hm hp hin) hf
theorem Good.all_in {p:Pg}{b:Tb}(h:Good p b)(hb:beyondT b=none){v:Nat}(hv:v<b.vars.length):Inn (b.var v):=by
 rcases h.all v hv with ⟨i,hi,rfl⟩|⟨k,hk,rfl⟩
 ·have:=beyond_none hb i hi;rw[Bool.or_eq_false_iff]at this;exact this
 ·exact h.inn k hk
end Go.Proofs.YtpnmcacndjkfaaaGreat

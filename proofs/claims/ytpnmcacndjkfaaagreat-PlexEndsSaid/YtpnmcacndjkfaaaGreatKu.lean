/-
  Joined texts: Kc, Kt, Ku.
-/
import Derived.Test.YtpnmcacndjkfaaaGreatDat
set_option linter.unusedSimpArgs false
set_option linter.unusedVariables false
namespace Go.Proofs.YtpnmcacndjkfaaaGreat
open Go.RowKit Num
def lin (ξ:Nat→Rat):List Rat→List Nat→Rat
 |a::l,k::f=>a*ξ k+lin ξ l f
 |_,_=>0
theorem lin_app (ξ:Nat→Rat):∀(l1:List Rat)(f1:List Nat),l1.length=f1.length→∀l2 f2,lin ξ (l1++l2) (f1++f2)=lin ξ l1 f1+lin ξ l2 f2
 |[],[],_,l2,f2=>by
  show lin ξ l2 f2=0+lin ξ l2 f2;rw[Rat.zero_add]
 |a::l1,k::f1,h,l2,f2=>by
  show a*ξ k+lin ξ (l1++l2) (f1++f2)=a*ξ k+lin ξ l1 f1+lin ξ l2 f2;rw[lin_app ξ l1 f1 (by simpa using h),Rat.add_assoc]
 |[],_::_,h,_,_=>by cases h
 |_::_,[],h,_,_=>by cases h
theorem lin_congr {ξ η:Nat→Rat}:∀(l:List Rat)(f:List Nat),(∀k∈f,ξ k=η k)→lin ξ l f=lin η l f
 |[],_,_=>rfl
 |_::_,[],_=>rfl
 |a::l,k::f,h=>by
  show a*ξ k+lin ξ l f=a*η k+lin η l f;rw[h k List.mem_cons_self,lin_congr l f fun j hj=>h j (List.mem_cons_of_mem _ hj)]
theorem lin_neg_div (ξ:Nat→Rat)(a:Rat):∀(l:List Rat)(f:List Nat),lin ξ (l.map fun x=> -(x/a)) f= -(lin ξ l f/a)
 |[],f=>by
  show(0:Rat)= -(0/a);grind
 |x::l,[]=>by
  show(0:Rat)= -(0/a);grind
 |x::l,k::f=>by
  show-(x/a)*ξ k+lin ξ (l.map fun x=> -(x/a)) f= -((x*ξ k+lin ξ l f)/a);rw[lin_neg_div ξ a l f];grind
theorem lin_lay (ξ:Nat→Rat)(q:Rat):∀(l m:List Rat)(f:List Nat),l.length=m.length→lin ξ (List.zipWith (fun x y=>x+q*y) l m) f=lin ξ l f+q*lin ξ m f
 |[],[],f,_=>by
  show(0:Rat)=0+q*0;grind
 |x::l,y::m,[],_=>by
  show(0:Rat)=0+q*0;grind
 |x::l,y::m,k::f,h=>by
  show(x+q*y)*ξ k+lin ξ (List.zipWith (fun x y=>x+q*y) l m) f=x*ξ k+lin ξ l f+q*(y*ξ k+lin ξ m f);rw[lin_lay ξ q l m f (by simpa using h)];grind
 |[],_::_,_,h=>by cases h
 |_::_,[],_,h=>by cases h
def turnQ (a:Rat)(k:Nat):Nat→List Rat→List Rat
 |_,[]=>[]
 |c,x::l=>(if c=k then 1/a else-(x/a))::turnQ a k (c+1) l
def layQ (q:Rat)(k:Nat):Nat→List Rat→List Rat→List Rat
 |c,x::l,y::m=>(if c=k then q*y else x+q*y)::layQ q k (c+1) l m
 |_,_,_=>[]
theorem div_some {a b q:Rat}(h:divO a b=some q):q=a/b∧b≠0∧Few q:=by
 unfold divO at h;split at h
 ·cases h
 ·rename_i h0;obtain⟨rfl,hf⟩:=qfit_some h;exact⟨rfl,h0,hf⟩
theorem turn_exact (a:Rat)(k:Nat):∀(l:List Rat)(c:Nat){l':List Rat},turnL a k c l=some l'→l'=turnQ a k c l∧(∀q∈l',Few q)∧(l≠[]→a≠0)
 |[],c,l',h=>by
  cases h;exact⟨rfl,(fun q hq=>by cases hq),fun h=>absurd rfl h⟩
 |x::l,c,l',h=>by
  unfold turnL at h;obtain⟨y,hy,h⟩:=Option.bind_eq_some_iff.1 h;obtain⟨m,hm,rfl⟩:=Option.map_eq_some_iff.1 h;obtain⟨e1,e2,e3⟩:=turn_exact a k l (c+1) hm;have hy2:y=(if c=k then 1/a else-(x/a))∧Few y∧a≠0:=by
   split at hy
   ·rename_i hc;rw[if_pos hc];obtain⟨h1,h2,h3⟩:=div_some hy;exact⟨h1,h3,h2⟩
   ·rename_i hc;rw[if_neg hc];obtain⟨q,hq,rfl⟩:=Option.map_eq_some_iff.1 hy;obtain⟨h1,h2,h3⟩:=div_some hq;refine⟨by rw[h1],?_,h2⟩;exact((sz_neg (j:=64) h3).few ZL)
  refine⟨?_,fun q hq=> ?_,fun _=>hy2.2.2⟩
  ·show y::m=_::turnQ a k (c+1) l;rw[←hy2.1,←e1]
  ·rcases List.mem_cons.1 hq with rfl|hq
   ·exact hy2.2.1
   ·exact e2 q hq
theorem lay_exact (f:Rat)(k:Nat):∀(l m:List Rat)(c:Nat){l':List Rat},layL f k c l m=some l'→l'=layQ f k c l m∧∀q∈l',Few q
 |[],m,c,l',h=>by
  unfold layL at h;cases h;unfold layQ;exact⟨rfl,(fun q hq=>by cases hq)⟩
 |x::l,[],c,l',h=>by
  unfold layL at h;cases h;exact⟨rfl,(fun q hq=>by cases hq)⟩
 |x::l,y::m,c,l',h=>by
  unfold layL at h;obtain⟨z,hz,h⟩:=Option.bind_eq_some_iff.1 h;obtain⟨r,hr,rfl⟩:=Option.map_eq_some_iff.1 h;obtain⟨e1,e2⟩:=lay_exact f k l m (c+1) hr;have hz2:z=(if c=k then f*y else x+f*y)∧Few z:=by
   split at hz
   ·rename_i hc;rw[if_pos hc];obtain⟨h1,h2⟩:=qfit_some hz;exact⟨h1.symm,h2⟩
   ·rename_i hc;rw[if_neg hc];obtain⟨p,hp,hz⟩:=Option.bind_eq_some_iff.1 hz;obtain⟨rfl,_⟩:=qfit_some hp;obtain⟨h1,h2⟩:=qfit_some hz;exact⟨h1.symm,h2⟩
  refine⟨?_,fun q hq=> ?_⟩
  ·show z::r=_::layQ f k (c+1) l m;rw[←hz2.1,←e1]
  ·rcases List.mem_cons.1 hq with rfl|hq
   ·exact hz2.2
   ·exact e2 q hq
theorem turnQ_behind (a:Rat)(k:Nat):∀(l:List Rat)(c:Nat),k<c→turnQ a k c l=l.map fun x=> -(x/a)
 |[],c,_=>rfl
 |x::l,c,h=>by
  show(if c=k then _ else _)::turnQ a k (c+1) l= -(x/a)::_;rw[if_neg (by omega),turnQ_behind a k l (c+1) (by omega)]
theorem turnQ_split (a:Rat)(k:Nat)(x:Rat)(l2:List Rat):∀(l1:List Rat)(c:Nat),c+l1.length=k→turnQ a k c (l1++x::l2)=(l1.map fun x=> -(x/a))++1/a::l2.map fun x=> -(x/a)
 |[],c,h=>by
  show(if c=k then _ else _)::turnQ a k (c+1) l2=1/a::_;rw[if_pos (by simpa using h),turnQ_behind a k l2 (c+1) (by simp at h;omega)]
 |y::l1,c,h=>by
  show(if c=k then _ else _)::turnQ a k (c+1) (l1++x::l2)= -(y/a)::_;rw[if_neg (by simp at h;omega),turnQ_split a k x l2 l1 (c+1) (by simp at h;omega)];rfl
theorem layQ_behind (q:Rat)(k:Nat):∀(l m:List Rat)(c:Nat),k<c→l.length=m.length→layQ q k c l m=List.zipWith (fun x y=>x+q*y) l m
 |[],[],c,_,_=>by unfold layQ;rfl
 |x::l,y::m,c,h,hl=>by
  show(if c=k then _ else _)::layQ q k (c+1) l m=(x+q*y)::_;rw[if_neg (by omega),layQ_behind q k l m (c+1) (by omega) (by simpa using hl)]
 |[],_::_,_,_,h=>by cases h
 |_::_,[],_,_,h=>by cases h
theorem layQ_split (q:Rat)(k:Nat)(x y:Rat)(l2 m2:List Rat)(h2:l2.length=m2.length):∀(l1 m1:List Rat)(c:Nat),c+l1.length=k→l1.length=m1.length→layQ q k c (l1++x::l2) (m1++y::m2)=List.zipWith (fun x y=>x+q*y) l1 m1++(q*y)::List.zipWith (fun x y=>x+q*y) l2 m2
 |[],[],c,h,_=>by
  show(if c=k then _ else _)::layQ q k (c+1) l2 m2=(q*y)::_;rw[if_pos (by simpa using h),layQ_behind q k l2 m2 (c+1) (by simp at h;omega) h2]
 |a::l1,b::m1,c,h,hl=>by
  show(if c=k then _ else _)::layQ q k (c+1) (l1++x::l2) (m1++y::m2)=(a+q*b)::_;rw[if_neg (by simp at h;omega),layQ_split q k x y l2 m2 h2 l1 m1 (c+1) (by simp at h;omega) (by simpa using hl)];rfl
 |[],_::_,_,_,h=>by cases h
 |_::_,[],_,_,h=>by cases h
theorem pivot_line {ξ:Nat→Rat}{a:Rat}{l1 l2:List Rat}{f1 f2:List Nat}{fk B:Nat}(h1:l1.length=f1.length)(h2:l2.length=f2.length)(ha:a≠0):ξ B=lin ξ (l1++a::l2) (f1++fk::f2)↔ξ fk=lin ξ ((l1.map fun x=> -(x/a))++1/a::l2.map fun x=> -(x/a)) (f1++B::f2):=by
 rw[lin_app ξ l1 f1 h1,lin_app ξ _ f1 (by rw[List.length_map];exact h1)];show ξ B=lin ξ l1 f1+(a*ξ fk+lin ξ l2 f2)↔ξ fk=lin ξ (l1.map fun x=> -(x/a)) f1+(1/a*ξ B+lin ξ (l2.map fun x=> -(x/a)) f2);rw[lin_neg_div,lin_neg_div];constructor<;>intro h<;>grind
theorem pivot_other {ξ:Nat→Rat}{x y:Rat}{m1 m2 l1 l2:List Rat}{f1 f2:List Nat}{fk B:Nat}(h1:l1.length=f1.length)(h2:l2.length=f2.length)(g1:m1.length=f1.length)(g2:m2.length=f2.length)(h:ξ fk=lin ξ (l1++y::l2) (f1++B::f2)):lin ξ (List.zipWith (fun a b=>a+x*b) m1 l1++(x*y)::List.zipWith (fun a b=>a+x*b) m2 l2) (f1++B::f2)=lin ξ (m1++x::m2) (f1++fk::f2):=by
 rw[lin_app ξ l1 f1 h1]at h;rw[lin_app ξ _ f1 (by rw[List.length_zipWith];omega),lin_app ξ m1 f1 g1];have h':ξ fk=lin ξ l1 f1+(y*ξ B+lin ξ l2 f2):=h;show lin ξ (List.zipWith (fun a b=>a+x*b) m1 l1) f1+(x*y*ξ B+lin ξ (List.zipWith (fun a b=>a+x*b) m2 l2) f2)=lin ξ m1 f1+(x*ξ fk+lin ξ m2 f2);rw[lin_lay ξ x m1 l1 f1 (by omega),lin_lay ξ x m2 l2 f2 (by omega),h'];grind
def bestB (v:Nat):Option (Nat×Nat)→Bool
 |none=>true
 |some p=>decide (v<p.2)
def pickGo (P:Nat→Nat→Bool):Nat→Option (Nat×Nat)→List Nat→Option (Nat×Nat)
 |_,best,[]=>best
 |k,best,v::f=>pickGo P (k+1) (if P k v&&bestB v best then some (k,v) else best) f
theorem pick_none (P:Nat→Nat→Bool):∀(f:List Nat)(k:Nat)(best:Option (Nat×Nat)),pickGo P k best f=none→best=none∧∀j,j<f.length→P (k+j) (f.getD j 0)=false
 |[],k,best,h=>⟨h,fun j hj=>absurd hj (Nat.not_lt_zero _)⟩
 |v::f,k,best,h=>by
  obtain⟨h1,h2⟩:=pick_none P f (k+1) _ h;by_cases hc:(P k v&&bestB v best)=true
  ·rw[if_pos hc]at h1;cases h1
  ·rw[if_neg hc]at h1;subst h1;have hp:P k v=false:=by
    cases hp:P k v with
    |false=>rfl
    |true=>rw[hp]at hc;exact absurd rfl hc
   refine⟨rfl,fun j hj=> ?_⟩;cases j with
   |zero=>exact hp
   |succ j=>
    have:=h2 j (by simpa using hj);rw[show k+(j+1)=k+1+j by omega];exact this
theorem pick_some (P:Nat→Nat→Bool):∀(f:List Nat)(k:Nat)(best:Option (Nat×Nat)){j u:Nat},pickGo P k best f=some (j,u)→(best=some (j,u)∨(k≤j∧j<k+f.length∧f.getD (j-k) 0=u∧P j u=true))∧(∀i,i<f.length→P (k+i) (f.getD i 0)=true→u≤f.getD i 0)∧(∀j' u',best=some (j',u')→u≤u')
 |[],k,best,j,u,h=>by
  have h':best=some (j,u):=h;refine⟨.inl h,fun i hi _=>absurd hi (Nat.not_lt_zero _),fun j' u' e=> ?_⟩;rw[e]at h';cases h';exact Nat.le_refl _
 |v::f,k,best,j,u,h=>by
  obtain⟨h1,h2,h3⟩:=pick_some P f (k+1) _ h;have shift:(k+1≤j∧j<k+1+f.length∧f.getD (j-(k+1)) 0=u∧P j u=true)→(k≤j∧j<k+(v::f).length∧(v::f).getD (j-k) 0=u∧P j u=true):=fun⟨a,b,c,d⟩=>by
   refine⟨by omega,by rw[List.length_cons];omega,?_,d⟩;rw[show j-k=(j-(k+1))+1 by omega];exact c
  have rest:∀i,i<(v::f).length→P (k+i) ((v::f).getD i 0)=true→(P k v=true→u≤v)→u≤(v::f).getD i 0:=fun i hi hp h0=>by
   cases i with
   |zero=>exact h0 hp
   |succ i=>exact h2 i (by simpa using hi) (by rw[show k+1+i=k+(i+1) by omega];exact hp)
  by_cases hc:(P k v&&bestB v best)=true
  ·rw[if_pos hc]at h1 h3;have huv:=h3 k v rfl;rw[Bool.and_eq_true]at hc;refine⟨?_,fun i hi hp=>rest i hi hp fun _=>huv,fun j' u' e=> ?_⟩
   ·rcases h1 with h1|h1
    ·cases h1;exact .inr ⟨Nat.le_refl _,by rw[List.length_cons];omega,by rw[Nat.sub_self];rfl,hc.1⟩
    ·exact .inr (shift h1)
   ·subst e;have:=of_decide_eq_true hc.2;omega
  ·rw[if_neg hc]at h1 h3;refine⟨?_,fun i hi hp=>rest i hi hp fun hp=> ?_,h3⟩
   ·rcases h1 with h1|h1
    ·exact .inl h1
    ·exact .inr (shift h1)
   ·rw[hp,Bool.true_and]at hc;cases best with
    |none=>exact absurd rfl hc
    |some q=>
     obtain⟨j',u'⟩:=q;have h4:=h3 j' u' rfl;have:¬v<u':=fun h=>hc (decide_eq_true h);omega
theorem beyond_pick (b:Tb):∀(l:List Nat)(i:Nat)(best:Option (Nat×Nat)),beyondGo b i best l=pickGo (fun _ v=>(b.var v).below||(b.var v).above) i best l
 |[],_,_=>rfl
 |v::l,i,best=>by
  show beyondGo b (i+1) _ l=pickGo _ (i+1) _ l;rw[beyond_pick b l];cases best<;>rfl
theorem helps_pick (b:Tb)(up:Bool)(L:List Rat):∀(f:List Nat)(k:Nat)(best:Option (Nat×Nat)),L.length=k+f.length→helpsGo b up k best (L.drop k) f=pickGo (fun j v=>helpB up (L.getD j 0) (b.var v)) k best f
 |[],k,best,h=>by
  cases L.drop k<;>rfl
 |v::f,k,best,h=>by
  rw[List.length_cons]at h;rw[drop_at (z:=0) (by omega)];show helpsGo b up (k+1) _ (L.drop (k+1)) f=pickGo _ (k+1) _ f;rw[helps_pick b up L f (k+1) _ (by omega)];cases best<;>rfl
theorem cheap_pick (b:Tb)(L:List Rat):∀(f:List Nat)(k:Nat)(best:Option (Nat×Nat×Bool)),L.length=k+f.length→(cheapGo b k best (L.drop k) f).map (fun r=>(r.1,r.2.1))=pickGo (fun j v=>cheapB (L.getD j 0) (b.var v)||decide (0<L.getD j 0)&&(b.var v).mayFall) k (best.map fun r=>(r.1,r.2.1)) f
 |[],k,best,h=>by
  cases L.drop k<;>rfl
 |v::f,k,best,h=>by
  rw[List.length_cons]at h;rw[drop_at (z:=0) (by omega)];show Option.map _ (cheapGo b (k+1) _ (L.drop (k+1)) f)=pickGo _ (k+1) _ f;rw[cheap_pick b L f (k+1) _ (by omega)];congr 1;cases best with
  |none=>
   show Option.map _ (if ((cheapB (L.getD k 0) (b.var v)||decide (0<L.getD k 0)&&(b.var v).mayFall)&&true)=true then _ else _)=if ((cheapB (L.getD k 0) (b.var v)||decide (0<L.getD k 0)&&(b.var v).mayFall)&&true)=true then _ else _
   split<;>rfl
  |some q=>
   obtain⟨j',u',r'⟩:=q;show Option.map _ (if ((cheapB (L.getD k 0) (b.var v)||decide (0<L.getD k 0)&&(b.var v).mayFall)&&decide (v<u'))=true then _ else _)=if ((cheapB (L.getD k 0) (b.var v)||decide (0<L.getD k 0)&&(b.var v).mayFall)&&decide (v<u'))=true then _ else _
   split<;>rfl
theorem cheap_rise (b:Tb)(L:List Rat):∀(f:List Nat)(k:Nat)(best:Option (Nat×Nat×Bool)){j u:Nat}{r:Bool},L.length=k+f.length→cheapGo b k best (L.drop k) f=some (j,u,r)→best=some (j,u,r)∨r=cheapB (L.getD j 0) (b.var u)
 |[],k,best,j,u,r,h,h0=>by
  left;rw[←h0];cases L.drop k<;>rfl
 |v::f,k,best,j,u,r,h,h0=>by
  rw[List.length_cons]at h;rw[drop_at (z:=0) (by omega)]at h0;rcases cheap_rise b L f (k+1) _ (by omega) h0 with h1|h1
  ·have key:∀(C:Bool)(A B x:Option (Nat×Nat×Bool)),(if C=true then A else B)=x→A=x∨B=x:=by
    intro C A B x h;cases C
    ·exact .inr h
    ·exact .inl h
   rcases key _ _ _ _ h1 with h1|h1
   ·cases h1;exact .inr rfl
   ·exact .inl h1
  ·exact .inr h1
theorem beyond_none {b:Tb}(h:beyondT b=none):∀j,j<b.basic.length→((b.var (b.basic.getD j 0)).below||(b.var (b.basic.getD j 0)).above)=false:=fun j hj=>by
 unfold beyondT at h;rw[Option.map_eq_none_iff,beyond_pick]at h;exact(pick_none _ _ _ _ h).2 j hj
theorem beyond_some {b:Tb}{i:Nat}(h:beyondT b=some i):i<b.basic.length∧((b.var (b.basic.getD i 0)).below||(b.var (b.basic.getD i 0)).above)=true∧∀j,j<b.basic.length→((b.var (b.basic.getD j 0)).below||(b.var (b.basic.getD j 0)).above)=true→b.basic.getD i 0≤b.basic.getD j 0:=by
 unfold beyondT at h;rw[Option.map_eq_some_iff]at h;obtain⟨⟨i',u⟩,h,rfl⟩:=h;rw[beyond_pick]at h;obtain⟨h1,h2,_⟩:=pick_some _ _ _ _ h;rcases h1 with h1|⟨_,h3,h4,h5⟩
 ·cases h1
 ·have e:b.basic.getD i' 0=u:=h4;refine⟨by simpa using h3,by rw[e];exact h5,fun j hj hp=> ?_⟩;rw[e];exact h2 j hj hp
theorem helps_none {b:Tb}{i:Nat}{up:Bool}(hl:(b.t.getD i []).length=b.free.length)(h:helpsT b i up=none):∀j,j<b.free.length→helpB up ((b.t.getD i []).getD j 0) (b.var (b.free.getD j 0))=false:=fun j hj=>by
 unfold helpsT at h;rw[Option.map_eq_none_iff]at h;have h':=(helps_pick b up (b.t.getD i []) b.free 0 none (by omega)).symm.trans h;have:=(pick_none _ _ _ _ h').2 j hj;rwa[Nat.zero_add]at this
theorem helps_some {b:Tb}{i k:Nat}{up:Bool}(hl:(b.t.getD i []).length=b.free.length)(h:helpsT b i up=some k):k<b.free.length∧helpB up ((b.t.getD i []).getD k 0) (b.var (b.free.getD k 0))=true∧∀j,j<b.free.length→helpB up ((b.t.getD i []).getD j 0) (b.var (b.free.getD j 0))=true→b.free.getD k 0≤b.free.getD j 0:=by
 unfold helpsT at h;rw[Option.map_eq_some_iff]at h;obtain⟨⟨k',u⟩,h,rfl⟩:=h;have h':=(helps_pick b up (b.t.getD i []) b.free 0 none (by omega)).symm.trans h;obtain⟨h1,h2,_⟩:=pick_some _ _ _ _ h';rcases h1 with h1|⟨_,h3,h4,h5⟩
 ·cases h1
 ·have e:b.free.getD k' 0=u:=h4;refine⟨by simpa using h3,by rw[e];exact h5,fun j hj hp=> ?_⟩;rw[e];exact h2 j hj (by rw[Nat.zero_add];exact hp)
theorem cheap_none {b:Tb}(hl:b.cost.length=b.free.length)(h:cheapT b=none):∀j,j<b.free.length→(cheapB (b.cost.getD j 0) (b.var (b.free.getD j 0))||decide (0<b.cost.getD j 0)&&(b.var (b.free.getD j 0)).mayFall)=false:=fun j hj=>by
 unfold cheapT at h;rw[Option.map_eq_none_iff]at h;have h1:=cheap_pick b b.cost b.free 0 none (by omega);have h2:Option.map (fun r=>(r.1,r.2.1)) (cheapGo b 0 none (b.cost.drop 0) b.free)=none:=by
  show Option.map _ (cheapGo b 0 none b.cost b.free)=none;rw[h];rfl
 have:=(pick_none _ _ _ _ (h1.symm.trans h2)).2 j hj;rwa[Nat.zero_add]at this
theorem cheap_some {b:Tb}{k:Nat}{up:Bool}(hl:b.cost.length=b.free.length)(h:cheapT b=some (k,up)):k<b.free.length∧up=cheapB (b.cost.getD k 0) (b.var (b.free.getD k 0))∧(cheapB (b.cost.getD k 0) (b.var (b.free.getD k 0))||decide (0<b.cost.getD k 0)&&(b.var (b.free.getD k 0)).mayFall)=true∧∀j,j<b.free.length→(cheapB (b.cost.getD j 0) (b.var (b.free.getD j 0))||decide (0<b.cost.getD j 0)&&(b.var (b.free.getD j 0)).mayFall)=true→b.free.getD k 0≤b.free.getD j 0:=by
 unfold cheapT at h;rw[Option.map_eq_some_iff]at h;obtain⟨⟨k',u,r⟩,h,e⟩:=h;cases e;have h1:=cheap_pick b b.cost b.free 0 none (by omega);have h2:Option.map (fun r=>(r.1,r.2.1)) (cheapGo b 0 none (b.cost.drop 0) b.free)=some (k',u):=by
  show Option.map _ (cheapGo b 0 none b.cost b.free)=_;rw[h];rfl
 obtain⟨h3,h4,_⟩:=pick_some _ _ _ _ (h1.symm.trans h2);have h5:=cheap_rise b b.cost b.free 0 none (by omega) h;rcases h5 with h5|h5
 ·cases h5
 rcases h3 with h3|⟨_,h6,h7,h8⟩
 ·cases h3
 ·have e:b.free.getD k' 0=u:=h7;refine⟨by simpa using h6,by rw[e];exact h5,by rw[e];exact h8,fun j hj hp=> ?_⟩;rw[e];exact h4 j hj (by rw[Nat.zero_add];exact hp)
theorem part_at {α:Type}(z:α):∀(l:List α)(k:Nat),k<l.length→∃l1 l2,l=l1++l.getD k z::l2∧l1.length=k∧∀y,l.set k y=l1++y::l2
 |[],k,h=>by cases h
 |x::l,0,_=>⟨[],l,rfl,rfl,fun y=>rfl⟩
 |x::l,k+1,h=>by
  obtain⟨l1,l2,h1,h2,h3⟩:=part_at z l k (by simpa using h);refine⟨x::l1,l2,?_,by simp[h2],fun y=> ?_⟩
  ·show x::l=x::(l1++l.getD k z::l2);rw[←h1]
  ·show x::l.set k y=x::(l1++y::l2);rw[h3 y]
theorem turnQ_len (a:Rat)(k:Nat):∀(l:List Rat)(c:Nat),(turnQ a k c l).length=l.length
 |[],_=>rfl
 |x::l,c=>by
  show(_::turnQ a k (c+1) l).length=_;rw[List.length_cons,List.length_cons,turnQ_len a k l (c+1)]
theorem layQ_len (q:Rat)(k:Nat):∀(l m:List Rat)(c:Nat),l.length=m.length→(layQ q k c l m).length=l.length
 |[],m,c,_=>by unfold layQ;rfl
 |x::l,[],c,h=>by cases h
 |x::l,y::m,c,h=>by
  show(_::layQ q k (c+1) l m).length=_;rw[List.length_cons,List.length_cons,layQ_len q k l m (c+1) (by simpa using h)]
theorem layT_exact (line:List Rat)(k i:Nat):∀(ls:List (List Rat))(r:Nat){t':List (List Rat)},layT line k i r ls=some t'→t'.length=ls.length∧∀j,j<ls.length→t'.getD j []=if r+j=i then line else layQ ((ls.getD j []).getD k 0) k 0 (ls.getD j []) line
 |[],r,t',h=>by
  unfold layT at h;cases h;exact⟨rfl,fun j hj=>absurd hj (Nat.not_lt_zero _)⟩
 |l::ls,r,t',h=>by
  unfold layT at h;obtain⟨z,hz,h⟩:=Option.bind_eq_some_iff.1 h;obtain⟨t2,h2,rfl⟩:=Option.map_eq_some_iff.1 h;obtain⟨e1,e2⟩:=layT_exact line k i ls (r+1) h2;refine⟨by rw[List.length_cons,List.length_cons,e1],fun j hj=> ?_⟩;cases j with
  |zero=>
   show z=if r=i then line else layQ (l.getD k 0) k 0 l line
   by_cases hc:r=i
   ·rw[if_pos hc]at hz⊢;injection hz with hz;exact hz.symm
   ·rw[if_neg hc]at hz⊢;exact(lay_exact _ k l line 0 hz).1
  |succ j=>
   have:=e2 j (by simpa using hj);rw[show r+(j+1)=r+1+j by omega];exact this
structure Pivoted (b:Tb) (i k:Nat) (b':Tb):Prop where
 ne:(b.t.getD i []).getD k 0≠0
 n:b'.n=b.n
 vars:b'.vars=b.vars
 left:b'.left=b.left
 basic:b'.basic=b.basic.set i (b.free.getD k 0)
 free:b'.free=b.free.set k (b.basic.getD i 0)
 tl:b'.t.length=b.t.length
 line:i<b.t.length→b'.t.getD i []=turnQ ((b.t.getD i []).getD k 0) k 0 (b.t.getD i [])
 other:∀r,r<b.t.length→r≠i→b'.t.getD r []=layQ ((b.t.getD r []).getD k 0) k 0 (b.t.getD r []) (turnQ ((b.t.getD i []).getD k 0) k 0 (b.t.getD i []))
 cost:b'.cost=layQ (b.cost.getD k 0) k 0 b.cost (turnQ ((b.t.getD i []).getD k 0) k 0 (b.t.getD i []))
theorem pivot_form {b b':Tb}{i k:Nat}(hn:b.t.getD i []≠[])(h:pivotT b i k=some b'):Pivoted b i k b':=by
 unfold pivotT at h;obtain⟨line,h1,h⟩:=Option.bind_eq_some_iff.1 h;obtain⟨t',h2,h⟩:=Option.bind_eq_some_iff.1 h;obtain⟨cost,h3,rfl⟩:=Option.map_eq_some_iff.1 h;obtain⟨e1,_,e2⟩:=turn_exact _ k _ 0 h1;obtain⟨e3,e4⟩:=layT_exact line k i b.t 0 h2;obtain⟨e5,_⟩:=lay_exact _ k _ _ 0 h3;subst e1;refine⟨e2 hn,rfl,rfl,rfl,rfl,rfl,e3,fun hi=> ?_,fun r hr hri=> ?_,e5⟩
 ·have:=e4 i hi;rwa[if_pos (Nat.zero_add _)]at this
 ·have:=e4 r hr;rwa[if_neg (by rw[Nat.zero_add];exact hri)]at this
theorem getD_set {α:Type}{l:List α}{i j:Nat}{v z:α}(hi:i<l.length):(l.set i v).getD j z=if j=i then v else l.getD j z:=by
 rw[List.getD_eq_getElem?_getD];by_cases e:j=i
 ·subst e;rw[List.getElem?_set_self hi,if_pos rfl];rfl
 ·rw[List.getElem?_set_ne (fun e2=>e e2.symm),if_neg e,←List.getD_eq_getElem?_getD]
theorem Pivoted.wf {b b':Tb}{i k:Nat}(p:Pivoted b i k b')(h:Wf b)(hi:i<b.t.length)(hk:k<b.free.length):Wf b':=by
 have hib:i<b.basic.length:=by rw[h.bt];exact hi
 have hll:(turnQ ((b.t.getD i []).getD k 0) k 0 (b.t.getD i [])).length=b.free.length:=by rw[turnQ_len,h.ft i hi]
 have hfl:b'.free.length=b.free.length:=by rw[p.free,List.length_set]
 refine⟨by rw[p.basic,List.length_set,p.tl,h.bt],fun r hr=> ?_,?_,fun j hj=> ?_,fun j hj=> ?_,by rw[p.vars];exact h.sv,by rw[p.tl];exact h.st,by rw[hfl];exact h.sf,by rw[p.left];exact h.sl,by rw[p.n,p.vars];exact h.nv⟩
 ·rw[p.tl]at hr;rw[hfl];by_cases e:r=i
  ·subst e;rw[p.line hr,hll]
  ·rw[p.other r hr e,layQ_len _ _ _ _ _ (by rw[hll,h.ft r hr]),h.ft r hr]
 ·rw[p.cost,hfl,layQ_len _ _ _ _ _ (by rw[hll,h.fc]),h.fc]
 ·rw[p.basic,List.length_set]at hj;rw[p.basic,p.vars,getD_set hib];split
  ·exact h.fv k hk
  ·exact h.bv j hj
 ·rw[p.free,List.length_set]at hj;rw[p.free,p.vars,getD_set hk];split
  ·exact h.bv i hib
  ·exact h.fv j hj
theorem Wf.line_ne {b:Tb}{i k:Nat}(h:Wf b)(hi:i<b.t.length)(hk:k<b.free.length):b.t.getD i []≠[]:=fun e=>by
 have:=h.ft i hi;rw[e]at this;simp at this;omega
theorem Wf.pivot {b b':Tb}{i k:Nat}(h:Wf b)(hi:i<b.t.length)(hk:k<b.free.length)(hp:pivotT b i k=some b'):Wf b':=(pivot_form (h.line_ne hi hk) hp).wf h hi hk
theorem Wf.setLeft {b:Tb}{n:Nat}(h:Wf b)(hn:n≤10000):Wf {b with left:=n}:=⟨h.bt,h.ft,h.fc,h.bv,h.fv,h.sv,h.st,h.sf,hn,h.nv⟩
theorem Wf.setVars {b:Tb}{vs:List Vr}(h:Wf b)(hl:vs.length=b.vars.length):Wf {b with vars:=vs}:=⟨h.bt,h.ft,h.fc,fun j hj=>by show _<vs.length;rw[hl];exact h.bv j hj,fun j hj=>by show _<vs.length;rw[hl];exact h.fv j hj,by show vs.length≤1000;rw[hl];exact h.sv,h.st,h.sf,h.sl,by show _≤vs.length;rw[hl];exact h.nv⟩
def SameEnds (b b':Tb):Prop:=∀v,(b'.var v).lo=(b.var v).lo∧(b'.var v).hi=(b.var v).hi
theorem SameEnds.refl (b:Tb):SameEnds b b:=fun _=>⟨rfl,rfl⟩
theorem SameEnds.trans {a b c:Tb}(h:SameEnds a b)(k:SameEnds b c):SameEnds a c:=fun v=>⟨(k v).1.trans (h v).1,(k v).2.trans (h v).2⟩
theorem var_setV (b:Tb)(j:Nat)(q:Rat)(v:Nat):(b.setV j q).var v=if v=j∧j<b.vars.length then{b.var j with v:=q} else b.var v:=by
 unfold Tb.setV Tb.var;show(b.vars.set j _).getD v vz=_;by_cases hj:j<b.vars.length
 ·rw[getD_set hj];by_cases e:v=j
  ·rw[if_pos e,if_pos ⟨e,hj⟩]
  ·rw[if_neg e,if_neg (fun h=>e h.1)]
 ·rw[List.set_eq_of_length_le (by omega),if_neg (fun h=>hj h.2)]
theorem SameEnds.setV (b:Tb)(j:Nat)(q:Rat):SameEnds b (b.setV j q):=fun v=>by
 rw[var_setV];split
 ·rename_i h;rw[h.1];exact⟨rfl,rfl⟩
 ·exact⟨rfl,rfl⟩
theorem moveL_ends (by_:Rat)(k:Nat):∀(ls:List (List Rat))(vs:List Nat)(b:Tb){b':Tb},moveL by_ k b ls vs=some b'→SameEnds b b'
 |[],vs,b,b',h=>by
  unfold moveL at h;cases h;exact SameEnds.refl b
 |l::ls,[],b,b',h=>by
  unfold moveL at h;cases h;exact SameEnds.refl b
 |l::ls,v::vs,b,b',h=>by
  unfold moveL at h;obtain⟨p,_,h⟩:=Option.bind_eq_some_iff.1 h;obtain⟨q,_,h⟩:=Option.bind_eq_some_iff.1 h;exact(SameEnds.setV b v q).trans (moveL_ends by_ k ls vs _ h)
theorem move_ends {b b':Tb}{k:Nat}{q:Rat}(h:moveT b k q=some b'):SameEnds b b':=by
 unfold moveT at h;obtain⟨p,_,h⟩:=Option.bind_eq_some_iff.1 h;exact(SameEnds.setV b _ p).trans (moveL_ends q k _ _ _ h)
theorem Pivoted.ends {b b':Tb}{i k:Nat}(p:Pivoted b i k b'):SameEnds b b':=fun v=>by
 unfold Tb.var;rw[p.vars];exact⟨rfl,rfl⟩
def HasHi (b:Tb):Prop:=∀v,v<b.vars.length→∃h,(b.var v).hi=some h
theorem HasHi.same {b b':Tb}(h:HasHi b)(s:SameEnds b b')(hl:b'.vars.length=b.vars.length):HasHi b':=fun v hv=>by
 rw[(s v).2];exact h v (by omega)
end Go.Proofs.YtpnmcacndjkfaaaGreat

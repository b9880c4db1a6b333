/-
  Joined texts: Ee, Ef.
-/
import Derived.Test.YtpnmcacndjkfaaaGreatEd
set_option linter.unusedSimpArgs false
set_option linter.unusedVariables false
namespace Go.Proofs.YtpnmcacndjkfaaaGreat
open Go.RowKit Num
theorem rowM_congr {ξ η:Nat→Rat}(a:List Int):∀(m j:Nat),(∀k,j≤k→k<j+m→ξ k=η k)→rowM ξ a m j=rowM η a m j
 |0,_,_=>rfl
 |m+1,j,h=>by
  show _*ξ j+rowM ξ a m (j+1)=_*η j+rowM η a m (j+1);rw[h j ZL (by omega),rowM_congr a m (j+1) fun k h1 h2=>h k (by omega) (by omega)]
theorem lin_range (ξ:Nat→Rat)(row:List Int):∀(m j:Nat),j+m=row.length→lin ξ ((row.drop j).map fun z:Int=>(z:Rat)) (List.range' j m)=rowM ξ row m j
 |0,j,h=>by
  rw[List.drop_eq_nil_of_le (by omega)];rfl
 |m+1,j,h=>by
  rw[drop_at (z:=0) (by omega)];show((row.getD j 0:Int):Rat)*ξ j+lin ξ ((row.drop (j+1)).map fun z:Int=>(z:Rat)) (List.range' (j+1) m)=_;rw[lin_range ξ row m (j+1) (by omega)];rfl
theorem sum_exact (b:Tb):∀(l:List Rat)(f:List Nat){s t:Rat},sumO b s l f=some t→t=s+lin b.val l f
 |[],f,s,t,h=>by
  unfold sumO at h;cases h;show s=s+0;rw[Rat.add_zero]
 |a::l,[],s,t,h=>by
  unfold sumO at h;cases h;show s=s+0;rw[Rat.add_zero]
 |a::l,k::f,s,t,h=>by
  unfold sumO at h;obtain⟨p,hp,h⟩:=Option.bind_eq_some_iff.1 h;obtain⟨u,hu,h⟩:=Option.bind_eq_some_iff.1 h;obtain⟨rfl,_⟩:=qfit_some hp;obtain⟨rfl,_⟩:=qfit_some hu;rw[sum_exact b l f h];show s+a*b.val k+lin b.val l f=s+(a*b.val k+lin b.val l f);rw[Rat.add_assoc]
theorem colsV_both:∀(lo hi:List Int),hi.length=lo.length→(colsV lo hi).length=lo.length∧∀j,j<lo.length→(colsV lo hi).getD j vz=⟨some ((lo.getD j 0:Int):Rat),some ((hi.getD j 0:Int):Rat),((lo.getD j 0:Int):Rat)⟩
 |[],_,_=>by
  refine⟨?_,fun j hj=>absurd hj (Nat.not_lt_zero _)⟩;unfold colsV;rfl
 |l::lo,[],h=>by cases h
 |l::lo,h::hi,hl=>by
  obtain⟨h1,h2⟩:=colsV_both lo hi (by simpa using hl);refine⟨?_,fun j hj=> ?_⟩
  ·show(_::colsV lo hi).length=_;rw[List.length_cons,List.length_cons,h1]
  ·cases j with
   |zero=>rfl
   |succ j=>exact h2 j (by simpa using hj)
structure Part (p:Pg) (i:Nat) (b:Tb):Prop where
 n:b.n=p.lo.length
 free:b.free=List.range p.lo.length
 cost:b.cost=p.c.map fun z:Int=>(z:Rat)
 t:b.t=(p.a.take i).map fun r=>r.map fun z:Int=>(z:Rat)
 basic:b.basic=(List.range i).map fun r=>p.lo.length+r
 nv:b.vars.length=p.lo.length+i
 left:b.left≤10000
 col:∀j,j<p.lo.length→b.var j=⟨some ((p.lo.getD j 0:Int):Rat),some ((p.hi.getD j 0:Int):Rat),((p.lo.getD j 0:Int):Rat)⟩
 row:∀r,r<i→b.var (p.lo.length+r)=⟨none,some ((p.b.getD r 0:Int):Rat),rowM (fun j=>((p.lo.getD j 0:Int):Rat)) (p.a.getD r []) p.lo.length 0⟩
theorem var_app {b:Tb}{x:Vr}{v:Nat}(hv:v<b.vars.length):(b.vars++[x]).getD v vz=b.var v:=by
 unfold Tb.var;rw[List.getD_eq_getElem?_getD,List.getElem?_append_left hv,←List.getD_eq_getElem?_getD]
theorem begin_part {p:Pg}(hr:rightPg p=true):∀(a:List (List Int))(bs:List Int)(i:Nat)(b:Tb){b':Tb},a=p.a.drop i→bs=p.b.drop i→i≤p.a.length→Part p i b→beginO p.lo.length i b a bs=some b'→Part p p.a.length b'
 |[],bs,i,b,b',ha,hb,hi,h,hf=>by
  unfold beginO at hf;cases hf;have:p.a.length≤i:=List.drop_eq_nil_iff.1 ha.symm;have:i=p.a.length:=by omega
  subst this;exact h
 |row::a,[],i,b,b',ha,hb,hi,h,hf=>by
  exfalso;have h1:p.b.length≤i:=List.drop_eq_nil_iff.1 hb.symm;have h2:=congrArg List.length ha;rw[List.length_cons,List.length_drop]at h2;rw[rightPg]at hr;simp only[Bool.and_eq_true,decide_eq_true_eq]at hr;omega
 |row::a,h0::bs,i,b,b',ha,hb,hi,h,hf=>by
  have hr':=hr;rw[rightPg]at hr';simp only[Bool.and_eq_true,decide_eq_true_eq]at hr';obtain⟨_,_,_,h4,_,_,_,_,_,_,h11⟩:=hr';have hil:i<p.a.length:=by
   have h2:=congrArg List.length ha;rw[List.length_cons,List.length_drop]at h2;omega
  have ha2:=ha.trans (drop_at (z:=[]) hil);have hb2:=hb.trans (drop_at (z:=0) (show i<p.b.length by omega));injection ha2 with ea1 ea2;injection hb2 with eb1 eb2;have hrl:row.length=p.lo.length:=by
   have h12:=List.all_eq_true.1 h11 row (by rw[ea1,List.getD_eq_getElem?_getD,List.getElem?_eq_getElem hil];exact List.getElem_mem hil);rw[Bool.and_eq_true,decide_eq_true_eq]at h12;exact h12.1
  unfold beginO at hf;obtain⟨s,hs,hf⟩:=Option.bind_eq_some_iff.1 hf;have hnv:=h.nv;refine begin_part hr a bs (i+1) _ ea2 eb2 (by omega) ?_ hf;have es:=sum_exact _ _ _ hs;have vlo:∀v,v<p.lo.length+i→(b.vars++[(⟨none,some (h0:Rat),0⟩:Vr)]).getD v vz=b.var v:=fun v hv=>var_app (by omega);have es2:s=rowM (fun j=>((p.lo.getD j 0:Int):Rat)) row p.lo.length 0:=by
   rw[es,Rat.zero_add];have e1:(row.map fun z:Int=>(z:Rat))=((row.drop 0).map fun z:Int=>(z:Rat)):=rfl;show lin _ (row.map fun z:Int=>(z:Rat)) b.free=_;rw[h.free,List.range_eq_range',e1,lin_range _ row p.lo.length 0 (by omega)];refine rowM_congr row _ _ fun k _ hk=> ?_;show((b.vars++[(⟨none,some (h0:Rat),0⟩:Vr)]).getD k vz).v=_;rw[vlo k (by omega),h.col k (by omega)]
  have hlen:(b.vars++[(⟨none,some (h0:Rat),0⟩:Vr)]).length=p.lo.length+i+1:=by rw[List.length_append,hnv];rfl
  refine⟨h.n,h.free,h.cost,?_,?_,?_,h.left,fun j hj=> ?_,fun r hr2=> ?_⟩
  ·show b.t++[row.map fun z:Int=>(z:Rat)]=_;rw[h.t,List.take_add_one,List.map_append,List.getElem?_eq_getElem hil,ea1,List.getD_eq_getElem?_getD,List.getElem?_eq_getElem hil];rfl
  ·show b.basic++[p.lo.length+i]=_;rw[h.basic,List.range_succ,List.map_append];rfl
  ·show(List.set _ _ _).length=_;rw[List.length_set];show(b.vars++[(⟨none,some (h0:Rat),0⟩:Vr)]).length=_;omega
  ·rw[var_setV,if_neg (fun e=>by have:=e.1;omega)];exact(vlo j (by omega)).trans (h.col j hj)
  ·rw[var_setV];by_cases e:r=i
   ·subst e;rw[if_pos ⟨rfl,by show _<(b.vars++[(⟨none,some (h0:Rat),0⟩:Vr)]).length;omega⟩];have e1:(b.vars++[(⟨none,some (h0:Rat),0⟩:Vr)]).getD (p.lo.length+r) vz=⟨none,some (h0:Rat),0⟩:=by
     rw[List.getD_eq_getElem?_getD,List.getElem?_append_right (by omega),show p.lo.length+r-b.vars.length=0 by omega];rfl
    refine vr_eta ?_ ?_ ?_
    ·show((b.vars++[(⟨none,some (h0:Rat),0⟩:Vr)]).getD (p.lo.length+r) vz).lo=_;rw[e1]
    ·show((b.vars++[(⟨none,some (h0:Rat),0⟩:Vr)]).getD (p.lo.length+r) vz).hi=_;rw[e1,←eb1]
    ·show s=_;rw[es2,←ea1]
   ·rw[if_neg (fun e2=>e (by have:=e2.1;omega))];exact(vlo _ (by omega)).trans (h.row r (by omega))
theorem start_part {p:Pg}(hr:rightPg p=true)(P:Nat):Part p 0 (startT p P):=by
 rw[rightPg]at hr;simp only[Bool.and_eq_true,decide_eq_true_eq]at hr;obtain⟨_,h2,_⟩:=hr;obtain⟨h3,h4⟩:=colsV_both p.lo p.hi h2;exact⟨rfl,rfl,rfl,rfl,rfl,h3,Nat.min_le_right _ _,h4,fun r hr=>absurd hr (Nat.not_lt_zero _)⟩
theorem Part.good {p:Pg}{b:Tb}(hr:rightPg p=true)(h:Part p p.a.length b):Good p b:=by
 have hr':=hr;rw[rightPg]at hr';simp only[Bool.and_eq_true,decide_eq_true_eq]at hr';obtain⟨h1,h2,h3,h4,h5,_,_,_,_,h10,h11⟩:=hr';have hrl:∀i,i<p.a.length→(p.a.getD i []).length=p.lo.length:=fun i hi=>by
  have h12:=List.all_eq_true.1 h11 (p.a.getD i []) (by rw[List.getD_eq_getElem?_getD,List.getElem?_eq_getElem hi];exact List.getElem_mem hi);rw[Bool.and_eq_true,decide_eq_true_eq]at h12;exact h12.1
 have hends:EndsOk p:=endsL_at h10 h2;have hB:∀i,i<p.a.length→b.B i=p.lo.length+i:=fun i hi=>by
  unfold Tb.B;rw[h.basic,List.getD_eq_getElem?_getD,List.getElem?_map,List.getElem?_range hi];rfl
 have hF:∀k,k<p.lo.length→b.F k=k:=fun k hk=>by
  unfold Tb.F;rw[h.free,List.getD_eq_getElem?_getD,List.getElem?_range hk];rfl
 have lb:b.basic.length=p.a.length:=by rw[h.basic,List.length_map,List.length_range]
 have lf:b.free.length=p.lo.length:=by rw[h.free,List.length_range]
 have lt:b.t.length=p.a.length:=by rw[h.t,List.length_map,List.length_take,Nat.min_self]
 have ht:∀r,r<p.a.length→b.t.getD r []=(p.a.getD r []).map fun z:Int=>(z:Rat):=fun r hr=>by
  rw[h.t,List.take_length,List.getD_eq_getElem?_getD,List.getElem?_map,List.getElem?_eq_getElem hr,List.getD_eq_getElem?_getD,List.getElem?_eq_getElem hr];rfl
 have hlin:∀(ξ:Nat→Rat)(row:List Int),row.length=p.lo.length→lin ξ (row.map fun z:Int=>(z:Rat)) b.free=rowM ξ row p.lo.length 0:=fun ξ row hl=>by
  rw[h.free,List.range_eq_range'];exact lin_range ξ row p.lo.length 0 (by omega)
 have hnv:=h.nv;refine⟨⟨by omega,fun i hi=> ?_,by rw[h.cost,List.length_map,lf,h3],fun j hj=> ?_,fun j hj=> ?_,by omega,by omega,by omega,h.left,by rw[h.n];omega⟩,h.n,hnv,fun ξ=>⟨fun hs r hr2=> ?_,fun hl i hi=> ?_⟩,fun ξ hs=> ?_,fun i hi=> ?_,fun i j hi hj e=> ?_,fun i j hi hj e=> ?_,fun i k hi hk e=> ?_,fun v hv=> ?_,fun j hj=> ?_,fun i hi=> ?_,fun k hk=> ?_,lf⟩
 ·rw[lt]at hi;rw[ht i hi,List.length_map,lf,hrl i hi]
 ·rw[lb]at hj;have:=hB j hj;unfold Tb.B at this;omega
 ·rw[lf]at hj;have:=hF j hj;unfold Tb.F at this;omega
 ·rw[lt]at hr2;rw[hB r hr2,ht r hr2,hlin ξ _ (hrl r hr2)];exact hs r hr2
 ·have:=hl i (by rw[lt];exact hi);rw[hB i hi,ht i hi,hlin ξ _ (hrl i hi)]at this;exact this
 ·rw[h.cost,hlin ξ _ h3]
 ·unfold Tb.val;rw[h.row i hi];exact rowM_congr _ _ _ fun k _ hk=>by rw[h.col k (by omega)]
 ·rw[lb]at hi hj;rw[hB i hi,hB j hj]at e;omega
 ·rw[lf]at hi hj;rw[hF i hi,hF j hj]at e;exact e
 ·rw[lb]at hi;rw[lf]at hk;rw[hB i hi,hF k hk]at e;omega
 ·by_cases e:v<p.lo.length
  ·exact .inr ⟨v,by omega,hF v e⟩
  ·exact .inl ⟨v-p.lo.length,by omega,by rw[hB _ (by omega)];omega⟩
 ·rw[h.col j hj];exact⟨rfl,rfl⟩
 ·rw[h.row i hi];exact⟨rfl,rfl⟩
 ·rw[lf]at hk;unfold Rest;rw[hF k hk,h.col k hk,inn_iff];refine⟨⟨fun l e=> ?_,fun u e=> ?_⟩,.inl rfl⟩
  ·cases e;exact Rat.le_refl
  ·cases e;exact Rat.intCast_le_intCast.2 (hends k hk)
theorem begin_good {p:Pg}{P:Nat}{b:Tb}(hr:rightPg p=true)(h:beginT p P=some b):Good p b:=
 (begin_part hr p.a p.b 0 _ rfl rfl (Nat.zero_le _) (start_part hr P) h).good hr
def sumR (g:Nat→Rat):Nat→Nat→Rat
 |0,_=>0
 |m+1,j=>g j+sumR g m (j+1)
theorem sumR_app (g:Nat→Rat):∀(n m j:Nat),sumR g (n+m) j=sumR g n j+sumR g m (j+n)
 |0,m,j=>by
  rw[Nat.zero_add,Nat.add_zero];show _=0+_;rw[Rat.zero_add]
 |n+1,m,j=>by
  rw[show n+1+m=(n+m)+1 by omega];show g j+sumR g (n+m) (j+1)=g j+sumR g n (j+1)+sumR g m (j+(n+1));rw[sumR_app g n m (j+1),show j+1+n=j+(n+1) by omega,Rat.add_assoc]
theorem sumR_congr {g h:Nat→Rat}:∀(m j:Nat),(∀v,j≤v→v<j+m→g v=h v)→sumR g m j=sumR h m j
 |0,_,_=>rfl
 |m+1,j,H=>by
  show g j+_=h j+_;rw[H j ZL (by omega),sumR_congr m (j+1) fun v h1 h2=>H v (by omega) (by omega)]
theorem sumR_zero {g:Nat→Rat}(m j:Nat)(h:∀v,j≤v→v<j+m→g v=0):sumR g m j=0:=by
 rw[sumR_congr m j (h:=fun _=>0) h];clear h;induction m generalizing j with
 |zero=>rfl
 |succ m ih=>
  show(0:Rat)+sumR (fun _=>0) m (j+1)=0;rw[ih,Rat.zero_add]
theorem sumR_plus (g h:Nat→Rat):∀(m j:Nat),sumR (fun v=>g v+h v) m j=sumR g m j+sumR h m j
 |0,_=>by
  show(0:Rat)=0+0;grind
 |m+1,j=>by
  show g j+h j+sumR (fun v=>g v+h v) m (j+1)=g j+sumR g m (j+1)+(h j+sumR h m (j+1));rw[sumR_plus g h m (j+1)];grind
theorem sumR_one {g:Nat→Rat}:∀(m j u:Nat),j≤u→u<j+m→(∀v,v≠u→g v=0)→sumR g m j=g u
 |0,j,u,h1,h2,_=>by omega
 |m+1,j,u,h1,h2,h=>by
  show g j+sumR g m (j+1)=g u;by_cases e:j=u
  ·subst e;rw[sumR_zero m (j+1) (fun v h3 _=>h v (by omega)),Rat.add_zero]
  ·rw[h j e,Rat.zero_add];exact sumR_one m (j+1) u (by omega) (by omega) h
theorem sumR_lt {g h:Nat→Rat}(m j u:Nat)(h1:j≤u)(h2:u<j+m)(h3:∀v,j≤v→v<j+m→v≠u→g v=h v)(h4:g u<h u):sumR g m j<sumR h m j:=by
 have e:=sumR_plus g (fun v=>if v=u then h u-g u else 0) m j;have e2:sumR (fun v=>g v+if v=u then h u-g u else 0) m j=sumR h m j:=sumR_congr m j fun v v1 v2=>by
  by_cases ev:v=u
  ·subst ev;rw[if_pos rfl];grind
  ·rw[if_neg ev,h3 v v1 v2 ev,Rat.add_zero]
 have e3:=sumR_one (g:=fun v=>if v=u then h u-g u else 0) m j u h1 h2 (fun v hv=>if_neg hv);simp only[if_pos]at e3;grind
theorem sumD_R (p:Pg)(y:List Rat)(c:Option (List Int))(ξ:Nat→Rat):∀(m j:Nat),sumD p y c ξ m j=sumR (fun v=>colD p y c v*ξ v) m j
 |0,_=>rfl
 |m+1,j=>by
  show _+sumD p y c ξ m (j+1)=_+sumR _ m (j+1);rw[sumD_R p y c ξ m (j+1)]
theorem pair_sum {z ξ:Nat→Rat}{n:Nat}:∀(y:List Rat)(rs:List (List Int))(s:Nat),y.length=rs.length→(∀i,i<rs.length→y.getD i 0= -z (s+i))→(∀i,i<rs.length→ξ (s+i)=rowM ξ (rs.getD i []) n 0)→pairQ ξ n 0 y rs= -sumR (fun v=>z v*ξ v) rs.length s
 |[],[],s,_,_,_=>by
  show(0:Rat)= -0;grind
 |[],_::_,_,h,_,_=>by cases h
 |_::_,[],_,h,_,_=>by cases h
 |y::ys,r::rs,s,hl,h1,h2=>by
  have a1:=h1 0 (by simp);have a2:=h2 0 (by simp);have ih:=pair_sum (z:=z) (ξ:=ξ) (n:=n) ys rs (s+1) (by simpa using hl) (fun i hi=>by
   rw[show s+1+i=s+(i+1) by omega];exact h1 (i+1) (by simpa using hi)) (fun i hi=>by
   rw[show s+1+i=s+(i+1) by omega];exact h2 (i+1) (by simpa using hi))
  have b1:y= -z s:=a1;have b2:ξ s=rowM ξ r n 0:=a2;show y*rowM ξ r n 0+pairQ ξ n 0 ys rs= -(z s*ξ s+sumR _ rs.length (s+1));rw[ih,b1,←b2];grind
theorem dot_sum {z E:Nat→Rat}:∀(y:List Rat)(b:List Int)(s:Nat),y.length=b.length→(∀i,i<b.length→y.getD i 0= -z (s+i))→(∀i,i<b.length→E (s+i)=((b.getD i 0:Int):Rat))→dotQ y b= -sumR (fun v=>z v*E v) b.length s
 |[],[],s,_,_,_=>by
  show(0:Rat)= -0;grind
 |[],_::_,_,h,_,_=>by cases h
 |_::_,[],_,h,_,_=>by cases h
 |y::ys,r::rs,s,hl,h1,h2=>by
  have a1:=h1 0 (by simp);have a2:=h2 0 (by simp);have ih:=dot_sum (z:=z) (E:=E) ys rs (s+1) (by simpa using hl) (fun i hi=>by
   rw[show s+1+i=s+(i+1) by omega];exact h1 (i+1) (by simpa using hi)) (fun i hi=>by
   rw[show s+1+i=s+(i+1) by omega];exact h2 (i+1) (by simpa using hi))
  have b1:y= -z s:=a1;have b2:E s=((r:Int):Rat):=a2;show y*((r:Int):Rat)+dotQ ys rs= -(z s*E s+sumR _ rs.length (s+1));rw[ih,b1,←b2];grind
structure Dual (p:Pg) (c:Option (List Int)) (z:Nat→Rat) (y:List Rat):Prop where
 len:y.length=p.a.length
 y:∀i,i<p.a.length→y.getD i 0= -z (p.lo.length+i)
 sat:∀ξ,Sat p ξ→sumR (fun v=>z v*ξ v) (p.lo.length+p.a.length) 0=rowC ξ c p.lo.length 0
def spread (p:Pg)(x:Nat→Rat)(v:Nat):Rat:=if v<p.lo.length then x v else rowM x (p.a.getD (v-p.lo.length) []) p.lo.length 0
theorem spread_sat (p:Pg)(x:Nat→Rat):Sat p (spread p x):=fun i hi=>by
 have e:spread p x (p.lo.length+i)=rowM x (p.a.getD i []) p.lo.length 0:=by
  unfold spread;rw[if_neg (by omega),show p.lo.length+i-p.lo.length=i by omega]
 rw[e];exact rowM_congr _ _ _ fun k _ hk=>by
  unfold spread;rw[if_pos (by omega)]
theorem Dual.col {p:Pg}{c:Option (List Int)}{z:Nat→Rat}{y:List Rat}(h:Dual p c z y){j:Nat}(hj:j<p.lo.length):colD p y c j=z j:=by
 have key:∀x:Nat→Rat,sumR (fun v=>colD p y c v*x v) p.lo.length 0=sumR (fun v=>z v*x v) p.lo.length 0:=fun x=>by
  have hs:=h.sat _ (spread_sat p x);rw[sumR_app,Nat.zero_add]at hs;have e1:sumR (fun v=>z v*spread p x v) p.lo.length 0=sumR (fun v=>z v*x v) p.lo.length 0:=sumR_congr _ _ fun v _ hv=>by
   unfold spread;rw[if_pos (by omega)]
  have e2:=pair_sum (z:=z) (ξ:=spread p x) (n:=p.lo.length) y p.a p.lo.length h.len h.y (spread_sat p x);have e3:=sum_split p y c (spread p x) p.lo.length 0;rw[sumD_R,e2,←hs,e1]at e3;have e4:sumR (fun v=>colD p y c v*spread p x v) p.lo.length 0=sumR (fun v=>colD p y c v*x v) p.lo.length 0:=sumR_congr _ _ fun v _ hv=>by
   unfold spread;rw[if_pos (by omega)]
  rw[e4]at e3;grind
 have hk:=key fun v=>if v=j then 1 else 0
 rw[sumR_one p.lo.length 0 j (Nat.zero_le _) (by omega) (fun v hv=>by rw[if_neg hv,Rat.mul_zero]),sumR_one p.lo.length 0 j (Nat.zero_le _) (by omega) (fun v hv=>by rw[if_neg hv,Rat.mul_zero])]at hk;rw[if_pos rfl,Rat.mul_one,Rat.mul_one]at hk;exact hk
theorem least_sum {p:Pg}{y:List Rat}{c:Option (List Int)}{E:Nat→Rat}:∀(r:List (Int×Int))(j:Nat),(∀k,k<r.length→(if colD p y c (j+k)<0 then(((r.getD k (0,0)).2:Int):Rat) else(((r.getD k (0,0)).1:Int):Rat))=E (j+k))→leastQ p y c j r=sumR (fun v=>colD p y c v*E v) r.length j
 |[],_,_=>rfl
 |(l,h)::r,j,H=>by
  have h0:=H 0 (by simp);have ih:=least_sum (p:=p) (y:=y) (c:=c) (E:=E) r (j+1) fun k hk=>by
   rw[show j+1+k=j+(k+1) by omega];exact H (k+1) (by simpa using hk)
  have h0':(if colD p y c j<0 then((h:Int):Rat) else((l:Int):Rat))=E j:=h0;show colD p y c j*(if colD p y c j<0 then(h:Rat) else(l:Rat))+leastQ p y c (j+1) r=colD p y c j*E j+sumR _ r.length (j+1);rw[ih,h0']
def endE (p:Pg)(z:Nat→Rat)(v:Nat):Rat:=if v<p.lo.length then(if z v<0 then((p.hi.getD v 0:Int):Rat) else((p.lo.getD v 0:Int):Rat)) else((p.b.getD (v-p.lo.length) 0:Int):Rat)
theorem Dual.bound {p:Pg}{c:Option (List Int)}{z:Nat→Rat}{y:List Rat}(h:Dual p c z y)(hh:p.hi.length=p.lo.length)(hb:p.a.length=p.b.length):boundQ p y c=sumR (fun v=>z v*endE p z v) (p.lo.length+p.a.length) 0:=by
 have hz:(p.lo.zip p.hi).length=p.lo.length:=by rw[List.length_zip];omega
 have e1:=least_sum (p:=p) (y:=y) (c:=c) (E:=endE p z) (p.lo.zip p.hi) 0 fun k hk=>by
  rw[hz]at hk;rw[zip_at hk (by omega),Nat.zero_add,h.col hk];unfold endE;rw[if_pos hk]
 rw[hz]at e1;have e2:sumR (fun v=>colD p y c v*endE p z v) p.lo.length 0=sumR (fun v=>z v*endE p z v) p.lo.length 0:=sumR_congr _ _ fun v _ hv=>by rw[h.col (by omega)]
 have e3:=dot_sum (z:=z) (E:=endE p z) y p.b p.lo.length (by rw[h.len,hb]) (fun i hi=>h.y i (by omega)) (fun i hi=>by
  unfold endE;rw[if_neg (by omega),show p.lo.length+i-p.lo.length=i by omega])
 unfold boundQ;rw[e1,e2,e3,sumR_app,Nat.zero_add,hb];grind
def coef:List Rat→List Nat→Nat→Rat
 |a::l,k::f,v=>if v=k then a else coef l f v
 |_,_,_=>0
theorem coef_out:∀(l:List Rat)(f:List Nat)(v:Nat),v∉f→coef l f v=0
 |[],_,_,_=>rfl
 |_::_,[],_,_=>rfl
 |a::l,k::f,v,h=>by
  show(if v=k then a else coef l f v)=0;rw[if_neg (fun e=>h (by rw[e];exact List.mem_cons_self)),coef_out l f v (fun e=>h (List.mem_cons_of_mem _ e))]
theorem coef_at:∀(l:List Rat)(f:List Nat)(k:Nat),f.Nodup→l.length=f.length→k<f.length→coef l f (f.getD k 0)=l.getD k 0
 |[],[],_,_,_,h=>absurd h (Nat.not_lt_zero _)
 |[],_::_,_,_,h,_=>by cases h
 |_::_,[],_,_,h,_=>by cases h
 |a::l,v::f,k,hn,hl,hk=>by
  rw[List.nodup_cons]at hn;cases k with
  |zero=>
   show(if v=v then a else _)=a;rw[if_pos rfl]
  |succ k=>
   have hk':k<f.length:=by simpa using hk
   show(if f.getD k 0=v then a else coef l f (f.getD k 0))=l.getD k 0;rw[if_neg,coef_at l f k hn.2 (by simpa using hl) hk'];intro e;apply hn.1;rw[←e,List.getD_eq_getElem?_getD,List.getElem?_eq_getElem hk'];exact List.getElem_mem hk'
theorem lin_coef (ξ:Nat→Rat)(N:Nat):∀(l:List Rat)(f:List Nat),f.Nodup→(∀v∈f,v<N)→lin ξ l f=sumR (fun v=>coef l f v*ξ v) N 0
 |[],f,_,_=>by
  rw[sumR_zero N 0 (fun v _ _=>by show(0:Rat)*ξ v=0;rw[Rat.zero_mul])];rfl
 |a::l,[],_,_=>by
  rw[sumR_zero N 0 (fun v _ _=>by show(0:Rat)*ξ v=0;rw[Rat.zero_mul])];rfl
 |a::l,k::f,hn,hN=>by
  rw[List.nodup_cons]at hn;show a*ξ k+lin ξ l f=_;rw[lin_coef ξ N l f hn.2 (fun v hv=>hN v (List.mem_cons_of_mem _ hv))];have e1:=sumR_one (g:=fun v=>if v=k then a*ξ k else 0) N 0 k (Nat.zero_le _) (by have:=hN k List.mem_cons_self;omega) (fun v hv=>if_neg hv);have e2:=sumR_plus (fun v=>if v=k then a*ξ k else 0) (fun v=>coef l f v*ξ v) N 0;simp only[if_pos]at e1;rw[←e1,←e2];refine(sumR_congr N 0 fun v _ _=> ?_).symm;show(if v=k then a else coef l f v)*ξ v=_;by_cases e:v=k
  ·subst e;rw[if_pos rfl,if_pos rfl,coef_out l f v hn.1];grind
  ·rw[if_neg e,if_neg e,Rat.zero_add]
theorem nodup_of {f:List Nat}(h:∀i j,i<f.length→j<f.length→f.getD i 0=f.getD j 0→i=j):f.Nodup:=by
 rw[List.Nodup,List.pairwise_iff_getElem];intro i j hi hj hij e;have:=h i j hi hj (by rw[List.getD_eq_getElem?_getD,List.getElem?_eq_getElem hi,List.getD_eq_getElem?_getD,List.getElem?_eq_getElem hj];exact e);omega
theorem mem_iff_at {f:List Nat}{v:Nat}:v∈f↔∃k,k<f.length∧f.getD k 0=v:=by
 refine⟨fun h=> ?_,fun⟨k,hk,e⟩=> ?_⟩
 ·obtain⟨k,hk,e⟩:=List.getElem_of_mem h;exact⟨k,hk,by rw[List.getD_eq_getElem?_getD,List.getElem?_eq_getElem hk];exact e⟩
 ·rw[←e,List.getD_eq_getElem?_getD,List.getElem?_eq_getElem hk];exact List.getElem_mem hk
theorem set_at {y:List Rat}{i j:Nat}{q:Rat}(hi:i<y.length):(y.set i q).getD j 0=if j=i then q else y.getD j 0:=getD_set hi
theorem dual_at (n:Nat):∀(l:List Rat)(f:List Nat)(y:List Rat),f.Nodup→(∀v∈f,v<n+y.length)→l.length=f.length→(dualGo n y l f).length=y.length∧∀i,i<y.length→(dualGo n y l f).getD i 0=if n+i∈f then-coef l f (n+i) else y.getD i 0
 |[],[],y,_,_,_=>by
  unfold dualGo;exact⟨rfl,fun i hi=>by rw[if_neg (by simp)]⟩
 |[],_::_,_,_,_,h=>by cases h
 |_::_,[],_,_,_,h=>by cases h
 |a::l,v::f,y,hn,hN,hl=>by
  rw[List.nodup_cons]at hn;have hv:=hN v List.mem_cons_self;have hyl:(if v<n then y else y.set (v-n) (-a)).length=y.length:=by
   split
   ·rfl
   ·rw[List.length_set]
  obtain⟨h1,h2⟩:=dual_at n l f (if v<n then y else y.set (v-n) (-a)) hn.2 (fun u hu=>by rw[hyl];exact hN u (List.mem_cons_of_mem _ hu)) (by simpa using hl);rw[hyl]at h1 h2;refine⟨h1,fun i hi=> ?_⟩;show(dualGo n (if v<n then y else y.set (v-n) (-a)) l f).getD i 0=if n+i∈v::f then-(if n+i=v then a else coef l f (n+i)) else y.getD i 0
  rw[h2 i hi];by_cases e:n+i=v
  ·have hnv:¬v<n:=by omega
   have hnf:¬n+i∈f:=by rw[e];exact hn.1
   have hin:n+i∈v::f:=by rw[e];exact List.mem_cons_self
   rw[if_neg hnf,if_pos hin,if_pos e,if_neg hnv,set_at (by omega),if_pos (show i=v-n by omega)]
  ·rw[if_neg e];by_cases hm:n+i∈f
   ·rw[if_pos hm,if_pos (List.mem_cons_of_mem _ hm)]
   ·rw[if_neg hm,if_neg (fun h=>(List.mem_cons.1 h).elim e hm)];split
    ·rfl
    ·rw[set_at (by omega),if_neg (show ¬i=v-n by omega)]
theorem proof_dual (n:Nat)(up:Bool):∀(l:List Rat)(f:List Nat)(y:List Rat),proofGo n up y l f=dualGo n y (l.map fun a=>if up then-a else a) f
 |[],f,y=>by
  unfold proofGo dualGo;rfl
 |a::l,[],y=>by
  unfold proofGo dualGo;rfl
 |a::l,v::f,y=>by
  show proofGo n up (if v<n then y else y.set (v-n) (if up then a else-a)) l f=dualGo n (if v<n then y else y.set (v-n) (-(if up then-a else a))) (l.map fun a=>if up then-a else a) f;rw[proof_dual n up l f];congr 1;split
  ·rfl
  ·congr 1;cases up
   ·rfl
   ·show a= - -a;grind
end Go.Proofs.YtpnmcacndjkfaaaGreat

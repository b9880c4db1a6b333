/-
  Joined texts: FrameQ, Qa, Qb, Qc.
-/
import Derived.Test.YtecfcjdgmpopjaaGreatFrame
import Derived.Test.YtecfcjdgmpopjaaGreatReg
import Derived.Lib.SmallJoins
import Derived.Deep.DeepCutAuto
set_option maxRecDepth 100000
namespace Go.Proofs.YtecfcjdgmpopjaaGreat
open Go.ChangeShapes Go.WideShapes Go.ChangeAt Go.RowKit Go.Joins Num
theorem open_num {H:Type}{enc:TypeId×Value→H}{W:World}{fuel:Nat}{v0 v1:Value}{x:DataW H×List MemPlace}(h:DataW.trod enc Tryz.prog W 0 (fun _=>true) true fuel 55 [v0,v1]=some x):∃(n:Bool)(A:Option Addr)(xs:List Nat)(c:Nat),v0= .bool n∧v1= .slice A xs.length c∧Rd W A c xs:=by
 obtain⟨y0,y1,k,_,_,h0,h1⟩:=trod_struct2 Tryz.underlying55 h;have e0:Tryz.prog.cellsOf 4=1:=by kernel_rfl
 have e1:Tryz.prog.cellsOf 53=1:=by kernel_rfl
 simp only[e0,e1]at h0 h1;replace h0:DataW.trod enc Tryz.prog W 0 (fun _=>true) true k 4 [v0]=some y0:=h0;replace h1:DataW.trod enc Tryz.prog W 0 (fun _=>true) true k 53 [v1]=some y1:=h1;obtain⟨b,hb,_⟩:=DataW.trod_bool Tryz.underlying4 h0;obtain rfl:v0= .bool b:=by simpa using hb
 rcases open_ints Tryz.underlying53 Tryz.underlying152 (by kernel_rfl) h1 with ⟨hcs,_⟩|⟨x,l,c,zs,hcs,_,hl,hm,hz,_,hcell,hwz⟩
 ·obtain rfl:v1= .slice none 0 0:=by simpa using hcs
  exact⟨b,none,[],0,rfl,rfl,Rd.nil⟩
 ·obtain rfl:v1= .slice (some x) l c:=by simpa using hcs
  obtain⟨xs,hxs,hr⟩:=(IsRow.of_cells hl hm (by simpa using hz) hcell hwz).rd;exact⟨b,some x,xs,c,rfl,by rw[hxs],hr⟩
set_option linter.unusedSimpArgs false
set_option linter.unusedVariables false
open Go.RowKit Num
def qright (n:Bool)(xs:List Nat)(m:Bool)(ys:List Nat):Bool:=
 sright n xs&&(sright m ys&&(decide (xs.length≤64)&&(decide (ys.length≤64)&&(!m&&(decide (ys≠[])&&decide (Nat.gcd (val xs) (val ys)=1))))))
def toQ (n:Bool)(xs:List Nat)(m:Bool)(ys:List Nat):Rat:=Rat.divInt (sv n xs) (sv m ys)
def qok (q:Rat):R5:=(sN q.num,sD q.num,false,dig q.den,0)
def fitQ (q:Rat):R5:=if (sD q.num).length≤64∧(dig q.den).length≤64 then qok q else dbad 3
def qmakeR (n:Bool)(xs:List Nat)(m:Bool)(ys:List Nat):R5:=if sright n xs&&(sright m ys&&decide (ys≠[])) then fitQ (toQ n xs m ys) else dbad 2
def Few (q:Rat):Prop:=(sD q.num).length≤64∧(dig q.den).length≤64
theorem qright_iff {n m:Bool}{xs ys:List Nat}:qright n xs m ys=true↔sright n xs=true∧sright m ys=true∧xs.length≤64∧ys.length≤64∧m=false∧ys≠[]∧Nat.gcd (val xs) (val ys)=1:=by
 simp only[qright,Bool.and_eq_true,decide_eq_true_eq,Bool.not_eq_true']
theorem rat_of {n m:Bool}{xs ys:List Nat}(ho:Ok xs)(ho':Ok ys)(h:qright n xs m ys=true):∃q:Rat,n=sN q.num∧xs=sD q.num∧m=false∧ys=dig q.den∧Few q:=by
 obtain⟨h1,h2,h3,h4,h5,h6,h7⟩:=qright_iff.1 h;have hv:=val_pos_right ho' (sRB h2) h6;have hd:=right_dig ho' (sRB h2);refine⟨⟨sv n xs,val ys,Nat.pos_iff_ne_zero.1 hv,by rw[sv_abs];exact h7⟩,(sv_neg ho h1).symm,(sv_dig ho h1).symm,h5,hd.symm,?_,?_⟩
 ·show(sD (sv n xs)).length≤64;rw[sv_dig ho h1];exact h3
 ·show(dig (val ys)).length≤64;rw[hd];exact h4
theorem sv_den (q:Rat):sv false (dig q.den)=(q.den:Int):=by unfold sv;rw[val_dig];rfl
theorem den_ne (q:Rat):dig q.den≠[]:=fun h=>q.den_nz (by rw[←val_dig q.den,h];rfl)
theorem sright_den {q:Rat}(h:Few q):sright false (dig q.den)=true:=sright_of (right_dig' (by have:=h.2;omega)) (fun e=>by cases e)
theorem sright_num {q:Rat}(h:Few q):sright (sN q.num) (sD q.num)=true:=sright_sd (by have:=h.1;omega)
theorem qright_rat {q:Rat}(h:Few q):qright (sN q.num) (sD q.num) false (dig q.den)=true:=
 qright_iff.2 ⟨sright_num h,sright_den h,h.1,h.2,rfl,den_ne q,by unfold sD;rw[val_dig,val_dig];exact q.reduced⟩
theorem toQ_rat (q:Rat):toQ (sN q.num) (sD q.num) false (dig q.den)=q:=by
 unfold toQ;rw[sv_sd,sv_den];exact Rat.num_divInt_den q
theorem sD_cast (k:Nat):sD (k:Int)=dig k:=rfl
theorem sN_cast (k:Nat):sN (k:Int)=false:=by unfold sN;simp
theorem divInt_parts {a b:Int}(hb:b≠0):∃m:Int,m≠0∧a=(Rat.divInt a b).num*m∧b=(Rat.divInt a b).den*m∧Nat.gcd a.natAbs b.natAbs=m.natAbs∧(b<0↔m<0):=by
 obtain⟨m,h1,h2,h3⟩:=Rat.divInt_num_den (n:=a) (d:=b) (n':=(Rat.divInt a b).num) (d':=(Rat.divInt a b).den) (z':=(Rat.divInt a b).den_nz) (c:=(Rat.divInt a b).reduced) hb rfl;refine⟨m,h1,h2,h3,?_,?_⟩
 ·have h4:a.natAbs=(Rat.divInt a b).num.natAbs*m.natAbs:=by rw[←Int.natAbs_mul,←h2]
  have h5:b.natAbs=(Rat.divInt a b).den*m.natAbs:=by
   have:=congrArg Int.natAbs h3;rw[Int.natAbs_mul,Int.natAbs_natCast]at this;exact this
  rw[h4,h5,Nat.gcd_mul_right,(Rat.divInt a b).reduced,Nat.one_mul]
 ·have hd:(0:Int)<(Rat.divInt a b).den:=by have:=(Rat.divInt a b).den_pos;omega
  constructor
  ·intro h;rcases Int.lt_trichotomy m 0 with h6|h6|h6
   ·exact h6
   ·exact absurd h6 h1
   ·have:=Int.mul_pos hd h6;omega
  ·intro h;rw[h3];exact Int.mul_neg_of_pos_of_neg hd h
theorem fdiv_mul {a m:Int}(h:m≠0):Int.fdiv (a*m) m=a∧Int.fmod (a*m) m=0:=by
 have h1:Int.fdiv (a*m) m=a:=Int.mul_fdiv_cancel a h;have:=Int.mul_fdiv_add_fmod (a*m) m;rw[h1,Int.mul_comm m a]at this;exact⟨h1,by omega⟩
theorem abs_le_mul {a m:Int}(h:m≠0):a.natAbs≤(a*m).natAbs:=by
 rw[Int.natAbs_mul];exact Nat.le_mul_of_pos_right _ (by omega)
theorem abs_le_mul' {a m:Int}(h:a≠0):m.natAbs≤(a*m).natAbs:=by
 rw[Int.natAbs_mul];exact Nat.le_mul_of_pos_left _ (by omega)
theorem sdiv_exact {a m:Int}(h:m≠0)(hm:(sD m).length≤256)(hl:(sD (a*m)).length≤256):sdivR (sN (a*m)) (sD (a*m)) (sN m) (sD m)=(sN a,sD a,false,[],0):=by
 obtain⟨h1,h2⟩:=fdiv_mul (a:=a) h;have:=sdiv_sd hl hm h (by rw[h1];exact Nat.le_trans (dig_len_mono (abs_le_mul h)) hl);rw[h1,h2]at this;exact this
theorem make_facts {n m:Bool}{xs ys:List Nat}(ho:Ok xs)(ho':Ok ys)(h1:sright n xs=true)(h2:sright m ys=true)(hne:ys≠[]):∃gd:List Nat,sgcdR n xs m ys=(false,gd,0)∧snegR false gd=(true,gd,0)∧sdivR n xs m gd=(sN (toQ n xs m ys).num,sD (toQ n xs m ys).num,false,[],0)∧sdivR m ys m gd=(false,dig (toQ n xs m ys).den,false,[],0)∧sdivR n xs false gd=(sN (if m then-(toQ n xs m ys).num else(toQ n xs m ys).num),sD (toQ n xs m ys).num,false,[],0)∧sdivR m ys false gd=(m,dig (toQ n xs m ys).den,false,[],0)∧snegR (sN (-(toQ n xs m ys).num)) (sD (toQ n xs m ys).num)=(sN (toQ n xs m ys).num,sD (toQ n xs m ys).num,0)∧snegR true (dig (toQ n xs m ys).den)=(false,dig (toQ n xs m ys).den,0)∧(sD (toQ n xs m ys).num).length≤256∧(dig (toQ n xs m ys).den).length≤256:=by
 have hv:=val_pos_right ho' (sRB h2) hne;have lx:xs.length≤256:=by have:=sRB h1;unfold rightB at this;simp at this;omega
 have ly:ys.length≤256:=by have:=sRB h2;unfold rightB at this;simp at this;omega
 have hb:sv m ys≠0:=by have:=sv_abs m ys;omega
 have hG:=sgcdR_eq h1 h2;unfold toQ;obtain⟨k,hk,ea,eb,eg,es⟩:=divInt_parts (a:=sv n xs) hb;have en:=sv_neg ho h1;have ex:=sv_dig ho h1;have em:=sv_neg ho' h2;have ey:=sv_dig ho' h2;generalize Rat.divInt (sv n xs) (sv m ys)=q at*;rw[sv_abs,sv_abs]at eg;rw[eg]at hG;generalize sv n xs=a at*;generalize sv m ys=b at*;subst en ex em ey;have hd:(q.den:Int)≠0:=by have:=q.den_nz;omega
 subst ea eb;have lk:(sD k).length≤256:=Nat.le_trans (dig_len_mono (abs_le_mul' hd)) ly;have lq:(sD q.num).length≤256:=Nat.le_trans (dig_len_mono (abs_le_mul hk)) lx;have ld:(sD (q.den:Int)).length≤256:=Nat.le_trans (dig_len_mono (abs_le_mul hk)) ly;have eN:sN (q.den*k)=sN k:=by unfold sN;rw[decide_eq_decide];exact es
 have ka:sD (k.natAbs:Int)=sD k:=by unfold sD;simp
 have hk2:(k.natAbs:Int)≠0:=by omega
 have nk:sN (k.natAbs:Int)=false:=sN_cast _;refine⟨sD k,?_,?_,?_,?_,?_,?_,?_,?_,lq,ld⟩
 ·rw[hG];unfold sok;rw[nk,ka]
 ·have h:=sright_sd (z:=(k.natAbs:Int)) (by rw[ka];exact lk);rw[nk,ka]at h;unfold snegR;rw[if_pos h];have e:sv false (sD k)=(k.natAbs:Int):=by unfold sv sD;rw[val_dig];rfl
  rw[e];unfold sok;rw[sD_neg,ka];unfold sN;rw[dT (by omega)]
 ·rw[eN];exact sdiv_exact hk lk lx
 ·have e:=sdiv_exact (a:=(q.den:Int)) hk lk ly;rw[←eN]at e;rw[sN_cast]at e;exact e
 ·rw[eN];have e:q.num*k=(if sN k then-q.num else q.num)*(k.natAbs:Int):=by
   unfold sN;by_cases h:k<0
   ·rw[dT h,if_pos rfl,show(k.natAbs:Int)= -k by omega,Int.neg_mul_neg]
   ·rw[dF h,if_neg (by simp),show(k.natAbs:Int)=k by omega]
  have l2:=lx;rw[e]at l2⊢;have:=sdiv_exact (a:=(if sN k then-q.num else q.num)) hk2 (by rw[ka];exact lk) l2;rw[nk,ka]at this;rw[this];congr 2;split
  ·exact sD_neg _
  ·rfl
 ·have e:(q.den:Int)*k=(if sN k then-(q.den:Int) else q.den)*(k.natAbs:Int):=by
   unfold sN;by_cases h:k<0
   ·rw[dT h,if_pos rfl,show(k.natAbs:Int)= -k by omega,Int.neg_mul_neg]
   ·rw[dF h,if_neg (by simp),show(k.natAbs:Int)=k by omega]
  have l2:=ly;rw[e]at l2;have:=sdiv_exact (a:=(if sN k then-(q.den:Int) else q.den)) hk2 (by rw[ka];exact lk) l2;rw[nk,ka,←e]at this;rw[this,eN];have hp:=q.den_pos;congr 1
  ·unfold sN;by_cases h:k<0
   ·rw[dT h,if_pos rfl,dT (by omega)]
   ·rw[dF h,if_neg (by simp),dF (by omega)]
  ·congr 1;split
   ·exact sD_neg _
   ·rfl
 ·have h:=sright_sd (z:= -q.num) (by rw[sD_neg];exact lq);have e:=sv_sd (-q.num);rw[sD_neg]at h e;unfold snegR;rw[if_pos h,e,Int.neg_neg];rfl
 ·have hp:=q.den_pos;have h:=sright_sd (z:= -(q.den:Int)) (by rw[sD_neg];exact ld);have e:=sv_sd (-(q.den:Int));have hn:sN (-(q.den:Int))=true:=by unfold sN;exact dT (by omega)
  rw[sD_neg,hn]at h e;have e2:sD (q.den:Int)=dig q.den:=rfl;rw[e2]at h e;unfold snegR;rw[if_pos h,e,Int.neg_neg];unfold sok;rw[sN_cast,e2]
theorem add_make (a b:Rat):Rat.divInt (a.num*b.den+b.num*a.den) ((a.den:Int)*b.den)=a+b:=by
 rw[Rat.add_def',←Rat.divInt_ofNat];simp
theorem mul_make (a b:Rat):Rat.divInt (a.num*b.num) ((a.den:Int)*b.den)=a*b:=by
 rw[Rat.mul_def',←Rat.divInt_ofNat];simp
theorem div_make (a b:Rat):Rat.divInt (a.num*b.den) ((a.den:Int)*b.num)=a/b:=by
 rw[Rat.div_def,Rat.inv_def];conv=>rhs;rw[←Rat.num_divInt_den a]
 rw[Rat.divInt_mul_divInt]
theorem cmp_make (a b:Rat):cmpZ (a.num*b.den) (b.num*a.den)=if a<b then-1 else if b<a then 1 else 0:=by
 unfold cmpZ;simp only[Rat.lt_iff]
def isR (n:Bool)(xs:List Nat)(z:Int):Bool:=decide ((ssmallR n xs).2=0)&&decide ((ssmallR n xs).1=z)
theorem isR_dig {g:Nat}(h:(dig g).length≤256):isR false (dig g) 1=decide (g=1):=by
 have hr:sright false (dig g)=true:=sright_of (right_dig' h) (fun e=>by cases e);have hv:sv false (dig g)=(g:Int):=by unfold sv;rw[val_dig];rfl
 unfold isR ssmallR;rw[if_pos hr,hv];by_cases hg:(-9223372036854775808:Int)≤g∧(g:Int)<9223372036854775808
 ·rw[if_pos hg];simp;omega
 ·rw[if_neg hg];simp;omega
theorem gcd_len2 {xs ys:List Nat}(hx:Ok xs)(hy:Ok ys)(h1:xs.length≤256)(h2:ys.length≤256):(dig (Nat.gcd (val xs) (val ys))).length≤256:=by
 rcases Nat.eq_zero_or_pos (val xs) with h0|h0
 ·rw[h0,Nat.gcd_zero_left];exact Nat.le_trans (dig_len_le ys hy) h2
 ·exact Nat.le_trans (Nat.le_trans (dig_len_mono (Nat.gcd_le_left _ h0)) (dig_len_le xs hx)) h1
theorem sright_len {n:Bool}{xs:List Nat}(h:sright n xs=true):xs.length≤256:=by have:=sRB h;unfold rightB at this;simp at this;omega
theorem sgcd_sok {n m:Bool}{xs ys:List Nat}(h1:sright n xs=true)(h2:sright m ys=true):sgcdR n xs m ys=(false,dig (Nat.gcd (val xs) (val ys)),0):=by
 rw[sgcdR_eq h1 h2];unfold sok;rw[sN_cast,sD_cast]
theorem sD_ltQ {z:Int}{k:Nat}(h:(sD z).length≤k):z.natAbs<4294967296^k:=by
 have h1:=val_lt (sD_ok z);have h2:val (sD z)=z.natAbs:=val_dig _;rw[h2]at h1;exact Nat.lt_of_lt_of_le h1 (Nat.pow_le_pow_right (by decide) h)
theorem sD_addQ {a b:Int}{k:Nat}(ha:(sD a).length≤k)(hb:(sD b).length≤k):(sD (a+b)).length≤k+1:=by
 have la:=sD_ltQ ha;have lb:=sD_ltQ hb;refine sD_small ?_;rw[Nat.pow_succ];generalize (4294967296:Nat)^k=K at*;omega
theorem sD_mulQ {a b:Int}{k l:Nat}(ha:(sD a).length≤k)(hb:(sD b).length≤l):(sD (a*b)).length≤k+l:=by
 have la:=sD_ltQ ha;have lb:=sD_ltQ hb;refine sD_small ?_;rw[Nat.pow_add,Int.natAbs_mul];exact Nat.mul_lt_mul_of_lt_of_le (Nat.lt_of_lt_of_le la ZL) (Nat.le_of_lt lb) (Nat.lt_of_le_of_lt (Nat.zero_le _) lb)
theorem saddQ {a b:Int}(ha:(sD a).length≤256)(hb:(sD b).length≤256)(hs:(sD (a+b)).length≤256):saddR (sN a) (sD a) (sN b) (sD b)=(sN (a+b),sD (a+b),0):=by
 rw[saddR_eq (sright_sd ha) (sright_sd hb),sv_sd,sv_sd,sfit_of hs];rfl
theorem smulQ {a b:Int}(ha:(sD a).length≤256)(hb:(sD b).length≤256)(hs:(sD (a*b)).length≤256):smulR (sN a) (sD a) (sN b) (sD b)=(sN (a*b),sD (a*b),0):=by
 rw[smulR_eq (sright_sd ha) (sright_sd hb),sv_sd,sv_sd,sfit_of hs];rfl
theorem make_sd {a b:Int}(ha:(sD a).length≤256)(hb:(sD b).length≤256)(hne:b≠0):qmakeR (sN a) (sD a) (sN b) (sD b)=fitQ (Rat.divInt a b):=by
 unfold qmakeR toQ;rw[sright_sd ha,sright_sd hb,sv_sd,sv_sd,dT (p:=sD b≠[]) (fun e=>hne (sD_nil.1 e))];rfl
theorem toQ_of {n m:Bool}{xs ys:List Nat}{q:Rat}(h1:n=sN q.num)(h2:xs=sD q.num)(h3:m=false)(h4:ys=dig q.den):toQ n xs m ys=q:=by subst h1 h2 h3 h4;exact toQ_rat q
theorem add_facts {n m n' m':Bool}{xs ys xs' ys':List Nat}(ox:Ok xs)(oy:Ok ys)(ox':Ok xs')(oy':Ok ys')(h:qright n xs m ys=true)(h':qright n' xs' m' ys'=true):∃(an:Bool)(ad:List Nat)(bn:Bool)(bd:List Nat)(sn:Bool)(sd:List Nat)(dn:Bool)(dd:List Nat),smulR n xs m' ys'=(an,ad,0)∧smulR n' xs' m ys=(bn,bd,0)∧saddR an ad bn bd=(sn,sd,0)∧smulR m ys m' ys'=(dn,dd,0)∧qmakeR sn sd dn dd=fitQ (toQ n xs m ys+toQ n' xs' m' ys')∧sright an ad=true∧sright bn bd=true∧sright sn sd=true∧sright dn dd=true∧dd≠[]∧scmpR an ad bn bd=(cmpZ ((toQ n xs m ys).num*(toQ n' xs' m' ys').den) ((toQ n' xs' m' ys').num*(toQ n xs m ys).den),0):=by
 obtain⟨p,e1,e2,e3,e4,f1,f2⟩:=rat_of ox oy h;obtain⟨q,g1,g2,g3,g4,k1,k2⟩:=rat_of ox' oy' h';rw[toQ_of e1 e2 e3 e4,toQ_of g1 g2 g3 g4];subst e1 e2 e3 e4 g1 g2 g3 g4;have pd:(sD (p.den:Int)).length≤64:=f2;have qd:(sD (q.den:Int)).length≤64:=k2;have l1:=sD_mulQ f1 qd;have l2:=sD_mulQ k1 pd;have l3:=sD_mulQ pd qd;have l4:=sD_addQ l1 l2;have m1:=smulQ (a:=p.num) (b:=(q.den:Int)) (by omega) (by omega) (by omega);have m2:=smulQ (a:=q.num) (b:=(p.den:Int)) (by omega) (by omega) (by omega);have m3:=smulQ (a:=(p.den:Int)) (b:=(q.den:Int)) (by omega) (by omega) (by omega);rw[sN_cast]at m1 m2;rw[sN_cast,sN_cast]at m3;have hp:=p.den_nz;have hq:=q.den_nz;have hne:(p.den:Int)*q.den≠0:=Int.mul_ne_zero (by omega) (by omega);refine⟨_,_,_,_,_,_,_,_,m1,m2,saddQ (by omega) (by omega) (by omega),m3,?_,sright_sd (by omega),sright_sd (by omega),sright_sd (by omega),sright_sd (by omega),fun e=>hne (sD_nil.1 e),?_⟩
 ·rw[make_sd (by omega) (by omega) hne,add_make]
 ·rw[scmpR_eq (sright_sd (by omega)) (sright_sd (by omega)),sv_sd,sv_sd]
theorem mul_facts {n m n' m':Bool}{xs ys xs' ys':List Nat}(ox:Ok xs)(oy:Ok ys)(ox':Ok xs')(oy':Ok ys')(h:qright n xs m ys=true)(h':qright n' xs' m' ys'=true):∃(an:Bool)(ad:List Nat)(dn:Bool)(dd:List Nat),smulR n xs n' xs'=(an,ad,0)∧smulR m ys m' ys'=(dn,dd,0)∧qmakeR an ad dn dd=fitQ (toQ n xs m ys*toQ n' xs' m' ys')∧sright an ad=true∧sright dn dd=true∧dd≠[]:=by
 obtain⟨p,e1,e2,e3,e4,f1,f2⟩:=rat_of ox oy h;obtain⟨q,g1,g2,g3,g4,k1,k2⟩:=rat_of ox' oy' h';rw[toQ_of e1 e2 e3 e4,toQ_of g1 g2 g3 g4];subst e1 e2 e3 e4 g1 g2 g3 g4;have pd:(sD (p.den:Int)).length≤64:=f2;have qd:(sD (q.den:Int)).length≤64:=k2;have l1:=sD_mulQ f1 k1;have l3:=sD_mulQ pd qd;have m1:=smulQ (a:=p.num) (b:=q.num) (by omega) (by omega) (by omega);have m3:=smulQ (a:=(p.den:Int)) (b:=(q.den:Int)) (by omega) (by omega) (by omega);rw[sN_cast,sN_cast]at m3;have hp:=p.den_nz;have hq:=q.den_nz;have hne:(p.den:Int)*q.den≠0:=Int.mul_ne_zero (by omega) (by omega);refine⟨_,_,_,_,m1,m3,?_,sright_sd (by omega),sright_sd (by omega),fun e=>hne (sD_nil.1 e)⟩;rw[make_sd (by omega) (by omega) hne,mul_make]
theorem div_facts {n m n' m':Bool}{xs ys xs' ys':List Nat}(ox:Ok xs)(oy:Ok ys)(ox':Ok xs')(oy':Ok ys')(h:qright n xs m ys=true)(h':qright n' xs' m' ys'=true)(hx:xs'≠[]):∃(an:Bool)(ad:List Nat)(dn:Bool)(dd:List Nat),smulR n xs m' ys'=(an,ad,0)∧smulR m ys n' xs'=(dn,dd,0)∧qmakeR an ad dn dd=fitQ (toQ n xs m ys/toQ n' xs' m' ys')∧sright an ad=true∧sright dn dd=true∧dd≠[]:=by
 obtain⟨p,e1,e2,e3,e4,f1,f2⟩:=rat_of ox oy h;obtain⟨q,g1,g2,g3,g4,k1,k2⟩:=rat_of ox' oy' h';rw[toQ_of e1 e2 e3 e4,toQ_of g1 g2 g3 g4];subst e1 e2 e3 e4 g1 g2 g3 g4;have pd:(sD (p.den:Int)).length≤64:=f2;have qd:(sD (q.den:Int)).length≤64:=k2;have l1:=sD_mulQ f1 qd;have l3:=sD_mulQ pd k1;have m1:=smulQ (a:=p.num) (b:=(q.den:Int)) (by omega) (by omega) (by omega);have m3:=smulQ (a:=(p.den:Int)) (b:=q.num) (by omega) (by omega) (by omega);rw[sN_cast]at m1 m3;have hp:=p.den_nz;have hne:(p.den:Int)*q.num≠0:=Int.mul_ne_zero (by omega) (fun e=>hx (sD_nil.2 e));refine⟨_,_,_,_,m1,m3,?_,sright_sd (by omega),sright_sd (by omega),fun e=>hne (sD_nil.1 e)⟩;rw[make_sd (by omega) (by omega) hne,div_make]
def qaddR (n:Bool)(xs:List Nat)(m:Bool)(ys:List Nat)(n':Bool)(xs':List Nat)(m':Bool)(ys':List Nat):R5:=if qright n xs m ys&&qright n' xs' m' ys' then fitQ (toQ n xs m ys+toQ n' xs' m' ys') else dbad 2
def qmulR (n:Bool)(xs:List Nat)(m:Bool)(ys:List Nat)(n':Bool)(xs':List Nat)(m':Bool)(ys':List Nat):R5:=if qright n xs m ys&&qright n' xs' m' ys' then fitQ (toQ n xs m ys*toQ n' xs' m' ys') else dbad 2
def qdivR (n:Bool)(xs:List Nat)(m:Bool)(ys:List Nat)(n':Bool)(xs':List Nat)(m':Bool)(ys':List Nat):R5:=if qright n xs m ys&&(qright n' xs' m' ys'&&decide (xs'≠[])) then fitQ (toQ n xs m ys/toQ n' xs' m' ys') else dbad 2
def cmpQ (a b:Rat):Int:=if a<b then-1 else if b<a then 1 else 0
def qcmpR (n:Bool)(xs:List Nat)(m:Bool)(ys:List Nat)(n':Bool)(xs':List Nat)(m':Bool)(ys':List Nat):Int×Int:=if qright n xs m ys&&qright n' xs' m' ys' then(cmpQ (toQ n xs m ys) (toQ n' xs' m' ys'),0) else(0,2)
def qnegR (n:Bool)(xs:List Nat)(m:Bool)(ys:List Nat):R5:=if qright n xs m ys then qok (-(toQ n xs m ys)) else dbad 2
def qfloorR (n:Bool)(xs:List Nat)(m:Bool)(ys:List Nat):R3:=if qright n xs m ys then sok (toQ n xs m ys).floor else sbad 2
theorem neg_facts {n m:Bool}{xs ys:List Nat}(ox:Ok xs)(oy:Ok ys)(h:qright n xs m ys=true):∃nn:Bool,snegR n xs=(nn,xs,0)∧qnegR n xs m ys=(nn,xs,m,ys,0)∧saddR m ys false []=(m,ys,0):=by
 obtain⟨h1,h2,h3,h4,h5,h6,h7⟩:=qright_iff.1 h;obtain⟨p,e1,e2,e3,e4,f1,f2⟩:=rat_of ox oy h;refine⟨sN (-p.num),?_,?_,?_⟩
 ·unfold snegR;rw[if_pos h1,e1,e2,sv_sd];unfold sok;rw[sD_neg]
 ·unfold qnegR;rw[if_pos h,toQ_of e1 e2 e3 e4];unfold qok;rw[Rat.neg_num,Rat.neg_den,sD_neg,←e2,←e4,e3]
 ·rw[saddR_eq h2 rfl];have e:sv false []=0:=rfl;rw[e,Int.add_zero,sfit_of (by rw[sv_dig oy h2];exact sright_len h2)];unfold sok;rw[sv_neg oy h2,sv_dig oy h2]
theorem fdiv_lenQ {n m:Bool}{a b:Nat}(hb:0<b)(ha:a<4294967296^100):(sD (Int.fdiv (zn n a) (zn m b))).length≤256:=by
 have h1:a/b≤a:=Nat.div_le_self _ _;have hq:(dig (a/b)).length≤256:=Nat.le_trans (dig_length_le (Nat.lt_of_le_of_lt h1 ha)) (by decide);have hq1:(dig (a/b+1)).length≤256:=Nat.le_trans (sum_len (k:=100) (Nat.lt_of_le_of_lt h1 ha) (by decide)) (by decide);rcases Bool.eq_false_or_eq_true (n==m) with hnm|hnm
 ·obtain rfl:n=m:=by simpa using hnm
  obtain⟨e1,_⟩:=fdiv_same n a b hb;unfold zn;rw[e1];exact hq
 ·obtain rfl:m= !n:=by cases n<;>cases m<;>simp at hnm⊢
  by_cases h:a%b=0
  ·obtain⟨e1,_⟩:=fdiv_zero n a b hb h;unfold zn;rw[e1,sD_neg];exact hq
  ·obtain⟨e1,_⟩:=fdiv_down n a b hb h;unfold zn;rw[e1,sD_neg];exact hq1
theorem floor_facts {n m:Bool}{xs ys:List Nat}(ox:Ok xs)(oy:Ok ys)(h:qright n xs m ys=true):∃(rn:Bool)(rd:List Nat),sdivR n xs m ys=((qfloorR n xs m ys).1,(qfloorR n xs m ys).2.1,rn,rd,0)∧(qfloorR n xs m ys).2.2=0:=by
 obtain⟨p,e1,e2,e3,e4,f1,f2⟩:=rat_of ox oy h;unfold qfloorR;rw[if_pos h,toQ_of e1 e2 e3 e4,Rat.floor_def];subst e1 e2 e3 e4;have pd:(sD (p.den:Int)).length≤64:=f2;have hp:=p.den_pos;have hl:(sD (Int.fdiv p.num p.den)).length≤256:=by
  have:=fdiv_lenQ (n:=sN p.num) (m:=false) (a:=p.num.natAbs) (b:=p.den) hp (Nat.lt_of_lt_of_le (sD_ltQ f1) (Nat.pow_le_pow_right (by decide) (by decide)));have e:=sv_sd p.num;rw[sv_zn]at e;unfold sD at e;rw[val_dig]at e;rw[e]at this;exact this
 have:=sdiv_sd (a:=p.num) (b:=(p.den:Int)) (by omega) (by omega) (by omega) hl;rw[sN_cast]at this;rw[show p.num/(p.den:Int)=Int.fdiv p.num p.den from(Int.fdiv_eq_ediv_of_nonneg _ (by omega)).symm];exact⟨sN (p.num.fmod p.den),sD (p.num.fmod p.den),this,rfl⟩
set_option maxHeartbeats 1000000
theorem info_rat:(Tryz.prog.info? 72).map (·.size)=some 4:=by kernel_rfl
def RetQ (w w':World)(e:Ending)(n:Bool)(xs:List Nat)(m:Bool)(ys:List Nat):Prop:=
 (∃A c B d,e= .returned (rv n A xs.length c m B ys.length d)∧Rd w' A c xs∧Rd w' B d ys)∧Below w.heap.size w w'
def RetQE (w w':World)(e:Ending)(r:R5):Prop:=
 (∃A c B d,e= .returned (.tuple #[rv r.1 A r.2.1.length c r.2.2.1 B r.2.2.2.1.length d,.int .i64 r.2.2.2.2])∧Rd w' A c r.2.1∧Rd w' B d r.2.2.2.1)∧Below w.heap.size w w'
theorem whole_any (neg:Bool)(A:Option Addr)(n c:Nat)(w:World):Calls Tryz.prog 82 #[iv neg A n c] w fun e w'=>e= .returned (iv neg A n c)∧Below w.heap.size w w':=by
 go_enter Tryz.func82,Tryz.ntmps82;go_wp2;refine bodyPost_ret (v:=iv neg A n c) (by simp[results,Tryz.results82,go_sem]) rfl ⟨rfl,?_⟩;exact(bA1 _ _).alloc (by simp) _
theorem theirs4_any (n m:Bool)(A B:Option Addr)(l c k d:Nat)(w:World):Calls Tryz.prog 45 #[rv n A l c m B k d] w fun e w'=>e= .returned (rv n A l c m B k d)∧Below w.heap.size w w':=by
 have M:Mem w ((w.alloc (.cells #[.bool n,.slice A l c,.bool m,.slice B k d] 57)).alloc (.cells #[.bool false,.slice none 0 0,.bool false,.slice none 0 0] 72)) [(w.heap.size+1,72,#[.bool false,.slice none 0 0,.bool false,.slice none 0 0]),(w.heap.size,57,#[.bool n,.slice A l c,.bool m,.slice B k d])] []:=
  ((Mem.start w).new 57 #[.bool n,.slice A l c,.bool m,.slice B k d]).newAt (by simp) 72 #[.bool false,.slice none 0 0,.bool false,.slice none 0 0]
 go_enter Tryz.func45,Tryz.ntmps45;go_upto_region 1 with fail;refine region_st (n:=8) (frame:= ?frame1) (fun jK=>[kP w.heap.size 0,kF (iv n A l c),kF (iv n A l c),kP w.heap.size 2,kF (iv m B k d),kF (iv m B k d),kF (rv n A l c m B k d),.none].getD jK .none) [⟨w.heap.size+1,7,72,#[.bool false,.slice none 0 0,.bool false,.slice none 0 0],.fix #[.bool n,.slice A l c,.bool m,.slice B k d]⟩] (by kernel_rfl) (by kernel_rfl) (by kernel_rfl) rfl (Mem.tailK M) (own_of M (by omega) (by simp<;>omega) rfl) own_one ?_ ?_ ?_
 case refine_1=>
  intro s;simp only[fr,Act.put,zA,zB,zC,zD,zE,zF,Nat.reduceAdd];rfl
 case refine_2=>
  iterate 8 (refine SN ?_ ?_;rotate_left)
  exact Steps.nil;all_goals (intro L s w9 hN hU hi hS K hK;dsimp only at hK⊢;simp only[Act.put,zD,zE,zF]at hK)
  ·go_simp;exact hS.o1 hK
  ·simp only[hS.f hN 0]at hK⊢;obtain⟨u1,u2,u3,u4⟩:=(hS.mem.k (i:=0) rfl).four;go_simp;exact hS.o1 hK
  ·simp only[hS.f hN 1]at hK⊢;go_simp;go_at_call 82;refine(whole_any _ _ _ _ _).mono ?_;rintro e9 w10 ⟨rfl,q⟩;exact hK.out _ _ (hS.val rfl rfl q rfl)
  ·go_simp;exact hS.o1 hK
  ·simp only[hS.f hN 3]at hK⊢;obtain⟨u1,u2,u3,u4⟩:=(hS.mem.k (i:=0) rfl).four;go_simp;exact hS.o1 hK
  ·simp only[hS.f hN 4]at hK⊢;go_simp;go_at_call 82;refine(whole_any _ _ _ _ _).mono ?_;rintro e9 w10 ⟨rfl,q⟩;exact hK.out _ _ (hS.val rfl rfl q rfl)
  ·simp only[hS.f hN 2,hS.f hN 5]at hK⊢;go_simp;exact hS.o1 hK
  ·simp only[hS.f hN 6]at hK⊢;obtain⟨_,_,_,cs9,b9,n9,z9,_⟩:=hS.own_at 0 rfl;obtain rfl:=z9 hi.out;refine ite_of rfl ?_;refine wp_store_row _ _ _ rfl (w.heap.size+1) _ rfl rfl _ _ b9 info_rat rfl (by rw[←Array.all_toList];rfl) ?_;simp only[Act.put];exact hK.out undef _ (hS.fillOwn (u:=undef) rfl (k:=0) rfl rfl rfl (sRG _ _ _) (b9.row _) rfl rfl)
 intro L s w9 hall hS;obtain⟨_,_,_,ocs,ob,on,_,oz⟩:=hS.own_at 0 rfl;obtain rfl:=oz (hall 7 (by decide));obtain⟨x1,x2,x3,x4⟩:=ob.four;go_wp2;refine bodyPost_ret (v:=rv n A l c m B k d) (by simp[results,Tryz.results45,go_sem,x1,x2,x3,x4]) rfl ⟨rfl,hS.mem.bel⟩
theorem is_any {n:Bool}{A:Option Addr}{c:Nat}{xs:List Nat}{w:World}(z:Int)(ha:Rd w A c xs):Calls Tryz.prog 125 #[iv n A xs.length c,.int .i64 z] w fun e w'=>e= .returned (.bool (isR n xs z))∧Below w.heap.size w w':=by
 have M:Mem w (w.alloc (.cells #[.bool n,.slice A xs.length c] 70)) [(w.heap.size,70,#[.bool n,.slice A xs.length c])] [(A,c,xs)]:=((Mem.start w).addR ha).new 70 #[.bool n,.slice A xs.length c];obtain⟨v1,v2,_,_⟩:=(M.k (i:=0) rfl).both;obtain⟨v,k,hr⟩:∃v k,ssmallR n xs=(v,k):=⟨_,_,rfl⟩;have hI:isR n xs z=(decide (k=0)&&decide (v=z)):=by unfold isR;rw[hr]
 rw[hI];have HR:=ZH hr;clear hI ha hr;by_cases hk:k=0
 ·subst hk;by_cases hv:v=z
  ·subst hv;go_enter Tryz.func125,Tryz.ntmps125;go_wp2_with fail;refine(ssmall_any n A c xs _ (M.r (i:=0) rfl)).mono ?_;rintro e w2 ⟨rfl,q⟩;rw[HR.out];replace M:=M.below q;go_wp2;go_ret;exact⟨by simp,M.bel⟩
  ·go_enter Tryz.func125,Tryz.ntmps125;go_wp2_with fail;refine(ssmall_any n A c xs _ (M.r (i:=0) rfl)).mono ?_;rintro e w2 ⟨rfl,q⟩;rw[HR.out];replace M:=M.below q;go_wp2;go_ret;exact⟨by simp[hv],M.bel⟩
 ·go_enter Tryz.func125,Tryz.ntmps125;go_wp2_with fail;refine(ssmall_any n A c xs _ (M.r (i:=0) rfl)).mono ?_;rintro e w2 ⟨rfl,q⟩;rw[HR.out];replace M:=M.below q;go_wp2;go_ret;exact⟨by simp[hk],M.bel⟩
theorem qright_any {n m:Bool}{A B:Option Addr}{c d:Nat}{xs ys:List Nat}{w:World}(ha:Rd w A c xs)(hb:Rd w B d ys):Calls Tryz.prog 76 #[rv n A xs.length c m B ys.length d] w fun e w'=>e= .returned (.bool (qright n xs m ys))∧Below w.heap.size w w':=by
 have M:Mem w (w.alloc (.cells #[.bool n,.slice A xs.length c,.bool m,.slice B ys.length d] 72)) [(w.heap.size,72,#[.bool n,.slice A xs.length c,.bool m,.slice B ys.length d])] [(B,d,ys),(A,c,xs)]:=(((Mem.start w).addR ha).addR hb).new 72 #[.bool n,.slice A xs.length c,.bool m,.slice B ys.length d];have ox:=ha.ok;have oy:=hb.ok;clear ha hb;obtain⟨v1,v2,v3,v4⟩:=(M.k (i:=0) rfl).four;by_cases c1:64<xs.length
 ·go_enter Tryz.func76,Tryz.ntmps76;go_wp2;go_ret;refine⟨?_,M.bel⟩;rw[show qright n xs m ys=false by simp[qright];omega];rfl
 by_cases c2:64<ys.length
 ·go_enter Tryz.func76,Tryz.ntmps76;go_wp2;go_ret;refine⟨?_,M.bel⟩;rw[show qright n xs m ys=false by simp[qright];omega];rfl
 by_cases c3:ys=[]
 ·subst c3;go_enter Tryz.func76,Tryz.ntmps76;go_wp2;go_ret;refine⟨?_,M.bel⟩;rw[show qright n xs m []=false by simp[qright]];rfl
 have c4:0<ys.length:=List.length_pos_iff.2 c3;have d1:decide ((64:Int)<(xs.length:Int))=false:=dF (by omega);have d2:decide ((64:Int)<(ys.length:Int))=false:=dF (by omega);have d3:((ys.length:Int)==0)=false:=by simp;exact c3
 cases m
 case true=>
  go_enter Tryz.func76,Tryz.ntmps76;go_wp2;go_ret;refine⟨?_,M.bel⟩;rw[show qright n xs true ys=false by simp[qright]];rfl
 rcases Bool.eq_false_or_eq_true (sright n xs&&sright false ys) with h|h
 ·simp only[Bool.and_eq_true]at h;obtain⟨h1,h2⟩:=h;have hl:=gcd_len2 ox oy (sright_len h1) (sright_len h2);have HQ:Hid (isR false (dig (Nat.gcd (val xs) (val ys))) 1=qright n xs false ys):=by
   show _=_;rw[isR_dig hl];unfold qright;rw[h1,h2,dT (p:=xs.length≤64) (by omega),dT (p:=ys.length≤64) (by omega),dT c3];rfl
  have HG:=ZH (sgcd_sok h1 h2);clear h1 h2 hl ox oy c3;generalize Nat.gcd (val xs) (val ys)=g at*;go_enter Tryz.func76,Tryz.ntmps76;go_wp2_with fail;refine(sgcd_any n false A B c d xs ys _ (M.r (i:=1) rfl) (M.r (i:=0) rfl)).mono ?_;rw[HG.out];rintro e w2 ⟨⟨A2,c2,rfl,h⟩,q⟩;replace M:=((M.below q).addR h).new 70 #[.bool false,.slice A2 (dig g).length c2];clear q h v1 v2 v3 v4;obtain⟨v1,v2,_,_⟩:=(M.k (i:=0) rfl).both;go_wp2_with fail;refine(is_any 1 (M.r (i:=0) rfl)).mono ?_;rintro e w3 ⟨rfl,q⟩;replace M:=M.below q;rw[HQ.out];go_wp2;go_ret;exact⟨rfl,M.bel⟩
 ·have HG:=ZH (sgcdR_no h);have HQ:Hid (qright n xs false ys=false):=by
   show _=_;simp only[Bool.and_eq_false_iff]at h;rcases h with h|h<;>simp[qright,h]
  clear h;go_enter Tryz.func76,Tryz.ntmps76;go_wp2_with fail;refine(sgcd_any n false A B c d xs ys _ (M.r (i:=1) rfl) (M.r (i:=0) rfl)).mono ?_;rw[HG.out];rintro e w2 ⟨⟨A2,c2,rfl,h⟩,q⟩;replace M:=((M.below q).addR h).new 70 #[.bool false,.slice A2 0 c2];go_wp2;go_ret;exact⟨by rw[HQ.out];rfl,M.bel⟩
set_option maxHeartbeats 4000000
theorem qof_any (z:Int)(w:World)(hz: -9223372036854775808≤z)(hz':z≤9223372036854775807):Calls Tryz.prog 26 #[.int .i64 z] w fun e w'=>RetQ w w' e (sN z) (sD z) false [1]:=by
 have M:Mem w (w.alloc (.cells #[.bool false,.slice none 0 0,.bool false,.slice none 0 0] 72)) [(w.heap.size,72,#[.bool false,.slice none 0 0,.bool false,.slice none 0 0])] []:=(Mem.start w).new 72 #[.bool false,.slice none 0 0,.bool false,.slice none 0 0];go_enter Tryz.func26,Tryz.ntmps26;go_wp2_with fail;refine(sof_any z _ hz hz').mono ?_;rintro e w2 ⟨⟨A2,c2,rfl,h⟩,q⟩;replace M:=(M.below q).addR h;clear q h;go_wp2_with fail;refine(sof_any 1 _ (by decide) (by decide)).mono ?_;rintro e w3 ⟨⟨A3,c3,rfl,h⟩,q⟩;replace M:=(M.below q).addR h;clear q h;go_wp2_with ((with_reducible refine st_ ?_);refine wP2 _ _ (M.k (i:=0) rfl) rfl rfl rfl rfl info_rat rfl rfl ?_;intro w4 b4 g4;replace M:=M.row (by omega) (by simp) rfl b4 g4;obtain⟨v1,v2,v3,v4⟩:=(M.k (i:=0) rfl).four);show bodyPost _ _ (fun e w'=>RetQ w w' e (sN z) (sD z) (sN 1) (sD 1)) _ _ _;refine bodyPost_ret (v:=rv (sN z) A2 (sD z).length c2 (sN 1) A3 (sD 1).length c3) (by simp[results,Tryz.results26,go_sem,v1,v2,v3,v4]) rfl ⟨⟨A2,c2,A3,c3,rfl,M.r (i:=1) rfl,M.r (i:=0) rfl⟩,M.bel⟩
theorem qmake_any {n m:Bool}{A B:Option Addr}{c d:Nat}{xs ys:List Nat}{w:World}(ha:Rd w A c xs)(hb:Rd w B d ys):Calls Tryz.prog 123 #[iv n A xs.length c,iv m B ys.length d] w fun e w'=>RetQE w w' e (qmakeR n xs m ys):=by
 have M:Mem w (((w.alloc (.cells #[.bool n,.slice A xs.length c] 70)).alloc (.cells #[.bool m,.slice B ys.length d] 70)).alloc (.cells #[.bool false,.slice none 0 0,.bool false,.slice none 0 0] 72)) [(w.heap.size+1+1,72,#[.bool false,.slice none 0 0,.bool false,.slice none 0 0]),(w.heap.size+1,70,#[.bool m,.slice B ys.length d]),(w.heap.size,70,#[.bool n,.slice A xs.length c])] [(B,d,ys),(A,c,xs)]:=
  ((((((Mem.start w).addR ha).addR hb).new 70 #[.bool n,.slice A xs.length c]).newAt (by simp) 70 #[.bool m,.slice B ys.length d]).newAt (by simp) 72 #[.bool false,.slice none 0 0,.bool false,.slice none 0 0])
 have ox:=ha.ok;have oy:=hb.ok;clear ha hb;obtain⟨v1,v2,_,_⟩:=(M.k (i:=2) rfl).both;obtain⟨v3,v4,_,_⟩:=(M.k (i:=1) rfl).both;rcases Bool.eq_false_or_eq_true (sright n xs&&sright m ys) with h|h
 case inr=>
  have HG:=ZH (sgcdR_no h);have HE:Hid (qmakeR n xs m ys=dbad 2):=by show _=_;simp only[Bool.and_eq_false_iff]at h;unfold qmakeR;rcases h with h|h<;>rw[h]<;>simp
  clear h ox oy;go_enter Tryz.func123,Tryz.ntmps123;go_wp2_with fail;refine(sgcd_any _ _ A B c d _ _ _ (M.r (i:=1) rfl) (M.r (i:=0) rfl)).mono ?_;rw[HG.out];rintro e w2 ⟨⟨A2,c2,rfl,h⟩,q⟩;replace M:=(M.below q).addR h;have p2:=(M.k (i:=0) rfl).lt;replace M:=M.new 70 #[.bool false,.slice A2 (([]:List Nat)).length c2];clear q h v1 v2 v3 v4;obtain⟨v1,v2,_,_⟩:=(M.k (i:=0) rfl).both;obtain⟨v3,v4,_,_⟩:=(M.k (i:=2) rfl).both;obtain⟨v5,v6,_,_⟩:=(M.k (i:=3) rfl).both;go_wp2_with ((with_reducible refine st_ ?_);refine wP2 _ _ (M.k (i:=1) rfl) rfl rfl rfl rfl info_rat rfl rfl ?_;intro w4 b4 g4;replace M:=M.rowAt (i:=1) rfl (by omega) (by simp<;>omega) rfl b4 g4;obtain⟨f1,f2,f3,f4⟩:=(M.k (i:=1) rfl).four);rw[HE.out];exact bodyPost_ret (v:= .tuple #[rv false none 0 0 false none 0 0,.int .i64 2]) (by simp[results,Tryz.results123,go_sem,f1,f2,f3,f4]) rfl ⟨⟨none,0,none,0,rfl,Rd.nil,Rd.nil⟩,M.bel⟩
 simp only[Bool.and_eq_true]at h;obtain⟨h1,h2⟩:=h;by_cases hy:ys=[]
 ·subst hy;have HG:=ZH (sgcd_sok h1 h2);have HE:Hid (qmakeR n xs m []=dbad 2):=by show _=_;unfold qmakeR;simp
  clear h1 h2 ox oy;go_enter Tryz.func123,Tryz.ntmps123;go_wp2_with fail;refine(sgcd_any _ _ A B c d _ _ _ (M.r (i:=1) rfl) (M.r (i:=0) rfl)).mono ?_;rw[HG.out];rintro e w2 ⟨⟨A2,c2,rfl,h⟩,q⟩;replace M:=(M.below q).addR h;have p2:=(M.k (i:=0) rfl).lt;replace M:=M.new 70 #[.bool false,.slice A2 (dig (Nat.gcd (val xs) (val []))).length c2];clear q h v1 v2 v3 v4;obtain⟨v1,v2,_,_⟩:=(M.k (i:=0) rfl).both;obtain⟨v3,v4,_,_⟩:=(M.k (i:=2) rfl).both;obtain⟨v5,v6,_,_⟩:=(M.k (i:=3) rfl).both;go_wp2_with ((with_reducible refine st_ ?_);refine wP2 _ _ (M.k (i:=1) rfl) rfl rfl rfl rfl info_rat rfl rfl ?_;intro w4 b4 g4;replace M:=M.rowAt (i:=1) rfl (by omega) (by simp<;>omega) rfl b4 g4;obtain⟨f1,f2,f3,f4⟩:=(M.k (i:=1) rfl).four);rw[HE.out];exact bodyPost_ret (v:= .tuple #[rv false none 0 0 false none 0 0,.int .i64 2]) (by simp[results,Tryz.results123,go_sem,f1,f2,f3,f4]) rfl ⟨⟨none,0,none,0,rfl,Rd.nil,Rd.nil⟩,M.bel⟩
 have d3:((ys.length:Int)==0)=false:=by simp;exact hy
 obtain⟨gd,hg,hn,hN,hD,-,-,-,-,lN,lD⟩:=make_facts ox oy h1 h2 hy;have HE:Hid (qmakeR n xs m ys=if (sD (toQ n xs m ys).num).length≤64∧(dig (toQ n xs m ys).den).length≤64 then(sN (toQ n xs m ys).num,sD (toQ n xs m ys).num,false,dig (toQ n xs m ys).den,0) else dbad 3):=by show _=_;unfold qmakeR;rw[h1,h2,dT hy];rfl
 generalize toQ n xs m ys=qq at*;generalize sN qq.num=qn at*;generalize sD qq.num=qd at*;generalize dig qq.den=dd at*;have HG:=ZH hg;have HS:=ZH hn;have HN:=ZH hN;have HD:=ZH hD;clear hg hn hN hD h1 h2 hy ox oy;go_enter Tryz.func123,Tryz.ntmps123;go_wp2_with fail;refine(sgcd_any _ _ A B c d _ _ _ (M.r (i:=1) rfl) (M.r (i:=0) rfl)).mono ?_;rw[HG.out];rintro e w2 ⟨⟨A2,c2,rfl,h⟩,q⟩;replace M:=(M.below q).addR h;have p2:=(M.k (i:=0) rfl).lt;replace M:=M.new 70 #[.bool false,.slice A2 (gd).length c2];clear q h v1 v2 v3 v4;obtain⟨v1,v2,_,_⟩:=(M.k (i:=0) rfl).both;obtain⟨v3,v4,_,_⟩:=(M.k (i:=2) rfl).both;obtain⟨v5,v6,_,_⟩:=(M.k (i:=3) rfl).both;go_upto_if 30 with fail;generalize hz6:w2.heap.size=z6 at*;generalize w2.alloc (.cells #[.bool false,.slice A2 gd.length c2] 70)=W at*;go_cut [] (fun wx=>∃A6 c6,Mem w wx [(z6,70,#[.bool m,.slice A6 gd.length c6]),(w.heap.size+1+1,72,#[.bool false,.slice none 0 0,.bool false,.slice none 0 0]),(w.heap.size+1,70,#[.bool m,.slice B ys.length d]),(w.heap.size,70,#[.bool n,.slice A xs.length c])] [(A6,c6,gd),(B,d,ys),(A,c,xs)])
 case first=>
  obtain⟨v1,v2,_,_⟩:=(M.k (i:=0) rfl).both;obtain⟨v3,v4,_,_⟩:=(M.k (i:=2) rfl).both;cases m
  case false=>
   go_wp2_with fail;go_meet;exact⟨A2,c2,M⟩
  case true=>
   go_wp2_with fail;refine(sneg_any false A2 c2 gd _ (M.r (i:=0) rfl)).mono ?_;rw[HS.out];rintro e w3 ⟨⟨A3,c3,rfl,h⟩,q⟩;replace M:=(M.below q).addR h;go_wp2_with ((with_reducible refine st_ ?_);refine wP2 _ _ (M.k (i:=0) rfl) rfl rfl rfl rfl info_int rfl rfl ?_;intro w4 b4 g4;replace M:=M.rowAt (i:=0) rfl (by omega) (by simp<;>omega) rfl b4 g4);go_meet;exact⟨A3,c3,M.sub (by simp) (by simp)⟩
 case rest=>
  clear M v1 v2 v3 v4 v5 v6;obtain⟨A6,c6,M⟩:=hcut;obtain⟨v1,v2,_,_⟩:=(M.k (i:=0) rfl).both;obtain⟨v3,v4,_,_⟩:=(M.k (i:=3) rfl).both;go_wp2_with fail;refine(sdivmod_any _ _ A A6 c c6 _ _ _ (M.r (i:=2) rfl) (M.r (i:=0) rfl)).mono ?_;rw[HN.out];rintro e w5 ⟨⟨A8,c8,B8,d8,rfl,h,k⟩,q⟩;replace M:=((M.below q).addR k).addR h;have p5:=(M.k (i:=0) rfl).lt;replace M:=(M.new 70 #[.bool qn,.slice A8 qd.length c8]).newAt (g:=w5.heap.size+1) (by simp) 70 #[.bool false,.slice B8 0 d8];clear q h k v1 v2 v3 v4;obtain⟨v1,v2,_,_⟩:=(M.k (i:=2) rfl).both;obtain⟨v3,v4,_,_⟩:=(M.k (i:=4) rfl).both;go_wp2_with fail;refine(sdivmod_any _ _ B A6 d c6 _ _ _ (M.r (i:=3) rfl) (M.r (i:=2) rfl)).mono ?_;rw[HD.out];rintro e w7 ⟨⟨A9,c9,B9,d9,rfl,h,k⟩,q⟩;replace M:=((M.below q).addR k).addR h;have p7:=(M.k (i:=0) rfl).lt;replace M:=(M.new 70 #[.bool false,.slice A9 dd.length c9]).newAt (g:=w7.heap.size+1) (by simp) 70 #[.bool false,.slice B9 0 d9];clear q h k v1 v2 v3 v4;obtain⟨v1,v2,_,_⟩:=(M.k (i:=1) rfl).both;obtain⟨v3,v4,_,_⟩:=(M.k (i:=3) rfl).both;by_cases hf1:64<qd.length
  ·go_wp2_with ((with_reducible refine st_ ?_);refine wP2 _ _ (M.k (i:=5) rfl) rfl rfl rfl rfl info_rat rfl rfl ?_;intro w4 b4 g4;replace M:=M.rowAt (i:=5) rfl (by omega) (by simp<;>omega) rfl b4 g4;obtain⟨f1,f2,f3,f4⟩:=(M.k (i:=5) rfl).four);rw[HE.out,if_neg (by omega)];exact bodyPost_ret (v:= .tuple #[rv false none 0 0 false none 0 0,.int .i64 3]) (by simp[results,Tryz.results123,go_sem,f1,f2,f3,f4]) rfl ⟨⟨none,0,none,0,rfl,Rd.nil,Rd.nil⟩,M.bel⟩
  have d1:decide ((64:Int)<(qd.length:Int))=false:=dF (by omega);by_cases hf2:64<dd.length
  ·go_wp2_with ((with_reducible refine st_ ?_);refine wP2 _ _ (M.k (i:=5) rfl) rfl rfl rfl rfl info_rat rfl rfl ?_;intro w4 b4 g4;replace M:=M.rowAt (i:=5) rfl (by omega) (by simp<;>omega) rfl b4 g4;obtain⟨f1,f2,f3,f4⟩:=(M.k (i:=5) rfl).four);rw[HE.out,if_neg (by omega)];exact bodyPost_ret (v:= .tuple #[rv false none 0 0 false none 0 0,.int .i64 3]) (by simp[results,Tryz.results123,go_sem,f1,f2,f3,f4]) rfl ⟨⟨none,0,none,0,rfl,Rd.nil,Rd.nil⟩,M.bel⟩
  have d2:decide ((64:Int)<(dd.length:Int))=false:=dF (by omega);go_wp2_with ((with_reducible refine st_ ?_);refine wP2 _ _ (M.k (i:=5) rfl) rfl rfl rfl rfl info_rat rfl rfl ?_;intro w4 b4 g4;replace M:=M.rowAt (i:=5) rfl (by omega) (by simp<;>omega) rfl b4 g4;obtain⟨f1,f2,f3,f4⟩:=(M.k (i:=5) rfl).four);rw[HE.out,if_pos (by omega)];exact bodyPost_ret (v:= .tuple #[rv qn A8 qd.length c8 false A9 dd.length c9,.int .i64 0]) (by simp[results,Tryz.results123,go_sem,f1,f2,f3,f4]) rfl ⟨⟨A8,c8,A9,c9,rfl,M.r (i:=2) rfl,M.r (i:=0) rfl⟩,M.bel⟩
end Go.Proofs.YtecfcjdgmpopjaaGreat

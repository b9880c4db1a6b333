/-
  Joined texts: Ej, Fd, Fc, Fe, Ek, El.
-/
import Derived.Test.YtpnmcacndjkfaaaGreatEi
import Derived.Test.YtpnmcacndjkfaaaGreatEc
set_option linter.unusedSimpArgs false
set_option linter.unusedVariables false
namespace Go.Proofs.YtpnmcacndjkfaaaGreat
open Go.RowKit Num
def Cd (d:Int)(B:Nat)(q:Rat):Prop:=∃z:Int,(d:Rat)*q=((z:Int):Rat)∧z.natAbs≤B
theorem Cd.mono {d:Int}{B C:Nat}{q:Rat}(h:Cd d B q)(hl:B≤C):Cd d C q:=by
 obtain⟨z,h1,h2⟩:=h;exact⟨z,h1,Nat.le_trans h2 hl⟩
theorem Cd.add {d:Int}{B C:Nat}{p q:Rat}(h:Cd d B p)(k:Cd d C q):Cd d (B+C) (p+q):=by
 obtain⟨z,h1,h2⟩:=h;obtain⟨y,k1,k2⟩:=k;refine⟨z+y,by rw[Rat.mul_add,h1,k1,Rat.intCast_add],?_⟩;have:=Int.natAbs_add_le z y;omega
theorem Cd.neg {d:Int}{B:Nat}{p:Rat}(h:Cd d B p):Cd d B (-p):=by
 obtain⟨z,h1,h2⟩:=h;exact⟨-z,by rw[Rat.intCast_neg,←h1];grind,by rw[Int.natAbs_neg];exact h2⟩
theorem Cd.mul {d:Int}{B K:Nat}{p:Rat}{n:Int}(h:Cd d B p)(hn:n.natAbs≤K):Cd d (B*K) (p*((n:Int):Rat)):=by
 obtain⟨z,h1,h2⟩:=h;exact⟨z*n,by rw[Rat.intCast_mul,←h1];grind,by rw[Int.natAbs_mul];exact Nat.mul_le_mul h2 hn⟩
theorem Cd.int {d:Int}{K:Nat}(D:Nat)(hd:d.natAbs≤D){n:Int}(hn:n.natAbs≤K):Cd d (D*K) ((n:Int):Rat):=⟨d*n,by rw[Rat.intCast_mul],by rw[Int.natAbs_mul];exact Nat.mul_le_mul hd hn⟩
theorem Cd.zero (d:Int):Cd d 0 0:=⟨0,by rw[Rat.mul_zero];rfl,by decide⟩
structure Lim (d:Int) (X3:Nat):Prop where
 ne:d≠0
 le:d.natAbs≤X3
theorem Cd.few {X3 X G Y:Nat}(HB:Bnds X3 X G Y){d:Int}(hd:Lim d X3){B:Nat}{q:Rat}(h:Cd d B q)(hB:B≤Y):Few q:=by
 obtain⟨z,h1,h2⟩:=h;have hdq:=rat_cast_ne hd.ne;have e:q=Rat.divInt z d:=by
  rw[Rat.divInt_eq_div,←h1];grind
 rw[e];refine(sz_divInt hd.ne (k:=64) (sD_small ?_) (sD_small ?_)).few ZL
 ·exact Nat.lt_of_le_of_lt (Nat.le_trans h2 hB) HB.few
 ·have a1:=HB.l1;have a2:=HB.l4;have a3:=hd.le;exact Nat.lt_of_le_of_lt (show d.natAbs≤Y by omega) HB.few
theorem dot_cd {Y:Nat}{d:Int}(hfew:∀(B:Nat)(q:Rat),Cd d B q→B≤Y→Few q){K Q:Nat}:∀(l:List Rat)(m:List Int){S:Nat}{s:Rat},Cd d S s→(∀x∈l,Cd d Q x)→(∀n∈m,n.natAbs≤K)→S+l.length*(Q*K)≤Y→∃t,dotO s l m=some t∧Cd d (S+l.length*(Q*K)) t
 |[],m,S,s,hs,_,_,_=>by
  refine⟨s,?_,by simpa using hs⟩;unfold dotO;rfl
 |x::l,[],S,s,hs,_,_,_=>⟨s,rfl,hs.mono (Nat.le_add_right _ _)⟩
 |x::l,n::m,S,s,hs,hl,hm,hB=>by
  have hx:=(hl x List.mem_cons_self).mul (hm n List.mem_cons_self);rw[List.length_cons,Nat.add_mul,Nat.one_mul]at hB⊢;have h1:mulO x ((n:Int):Rat)=some (x*((n:Int):Rat)):=qfit_of (hfew _ _ hx (by omega));have h2:=hs.add hx;have h3:addO s (x*((n:Int):Rat))=some (s+x*((n:Int):Rat)):=qfit_of (hfew _ _ h2 (by omega));obtain⟨t,h4,h5⟩:=dot_cd hfew l m h2 (fun y hy=>hl y (List.mem_cons_of_mem _ hy)) (fun y hy=>hm y (List.mem_cons_of_mem _ hy)) (by omega);refine⟨t,?_,h5.mono (by omega)⟩;unfold dotO;rw[h1];show(addO s _).bind _=_;rw[h3];exact h4
theorem rowM_R (ξ:Nat→Rat)(a:List Int):∀(m j:Nat),rowM ξ a m j=sumR (fun v=>((a.getD v 0:Int):Rat)*ξ v) m j
 |0,_=>rfl
 |m+1,j=>by
  show _+rowM ξ a m (j+1)=_+sumR _ m (j+1);rw[rowM_R ξ a m (j+1)]
theorem lin_R (ξ:Nat→Rat):∀(l:List Rat)(f:List Nat),l.length=f.length→lin ξ l f=sumR (fun k=>l.getD k 0*ξ (f.getD k 0)) f.length 0
 |[],[],_=>rfl
 |[],_::_,h=>by cases h
 |_::_,[],h=>by cases h
 |a::l,k::f,h=>by
  rw[List.length_cons,sumR_first];show a*ξ k+lin ξ l f=_;rw[lin_R ξ l f (by simpa using h)];rfl
def rowV (p:Pg)(v j:Nat):Int:=if v<p.lo.length then(if v=j then 1 else 0) else(p.a.getD (v-p.lo.length) []).getD j 0
theorem row_ev {p:Pg}{ξ:Nat→Rat}(hs:Sat p ξ){v:Nat}(hv:v<p.lo.length+p.a.length):ξ v=sumR (fun j=>((rowV p v j:Int):Rat)*ξ j) p.lo.length 0:=by
 by_cases h:v<p.lo.length
 ·rw[sumR_one p.lo.length 0 v (Nat.zero_le _) (by omega) (fun j hj=>by
   unfold rowV;rw[if_pos h,if_neg (fun e=>hj e.symm)];show((0:Int):Rat)*_=0;rw[show((0:Int):Rat)=0 from rfl,Rat.zero_mul])]
  unfold rowV;rw[if_pos h,if_pos rfl];show _=((1:Int):Rat)*_;rw[show((1:Int):Rat)=1 from rfl,Rat.one_mul]
 ·have h1:=hs (v-p.lo.length) (by omega);rw[show p.lo.length+(v-p.lo.length)=v by omega,rowM_R]at h1;rw[h1];refine sumR_congr _ _ fun j _ _=> ?_;unfold rowV;rw[if_neg h]
theorem spread_lo {p:Pg}{x:Nat→Rat}{j:Nat}(h:j<p.lo.length):spread p x j=x j:=if_pos h
theorem spread_ev {p:Pg}{x:Nat→Rat}{v:Nat}(hv:v<p.lo.length+p.a.length):spread p x v=sumR (fun j=>((rowV p v j:Int):Rat)*x j) p.lo.length 0:=by
 rw[row_ev (spread_sat p x) hv];exact sumR_congr _ _ fun j _ hj=>by rw[spread_lo (by omega)]
theorem Good.inj {p:Pg}{b:Tb}(h:Good p b):Inj p.lo.length fun k j=>rowV p (b.F k) j:=fun x hx j hj=>by
 have hF:∀k,k<b.free.length→spread p x (b.F k)=0:=fun k hk=>by
  rw[spread_ev (by rw[←h.nv];exact h.wf.fv k hk)];exact hx k (by rw[←h.fl];exact hk)
 rw[←spread_lo (p:=p) (x:=x) hj];rcases h.all j (by rw[h.nv];omega) with ⟨r,hr,e⟩|⟨k,hk,e⟩
 ·rw[←e];have h1:=(h.eq _).1 (spread_sat p x) r (by rw[←h.wf.bt];exact hr);rw[h1,lin_R _ _ _ (h.wf.ft r (by rw[←h.wf.bt];exact hr))];refine sumR_zero _ _ fun k _ hk=> ?_;have:=hF k (by omega);unfold Tb.F at this;rw[this,Rat.mul_zero]
 ·rw[←e];exact hF k hk
theorem Good.unit {p:Pg}{b:Tb}(h:Good p b){k0:Nat}(hk:k0<b.free.length):∃ξ:Nat→Rat,Sat p ξ∧∀k,k<b.free.length→ξ (b.F k)=if k=k0 then 1 else 0:=by
 obtain⟨η,hη⟩:∃η:Nat→Rat,η=fun v=>if v=b.F k0 then 1 else 0:=⟨_,rfl⟩
 obtain⟨ξ,hξ⟩:∃ξ:Nat→Rat,∀v,((∃k,k<b.free.length∧b.F k=v)→ξ v=η v)∧∀r,r<b.basic.length→b.B r=v→ξ v=lin η (b.t.getD r []) b.free:=by
  have hex:∀v,∃q:Rat,((∃k,k<b.free.length∧b.F k=v)→q=η v)∧∀r,r<b.basic.length→b.B r=v→q=lin η (b.t.getD r []) b.free:=fun v=>by
   by_cases hf:∃k,k<b.free.length∧b.F k=v
   ·refine⟨η v,fun _=>rfl,fun r hr e=> ?_⟩;obtain⟨k,hk,e2⟩:=hf;exact absurd (e.trans e2.symm) (h.dd r k hr hk)
   ·by_cases hb:∃r,r<b.basic.length∧b.B r=v
    ·obtain⟨r,hr,e⟩:=hb;refine⟨lin η (b.t.getD r []) b.free,fun h=>absurd h hf,fun r' hr' e'=> ?_⟩;rw[h.db r' r hr' hr (e'.trans e.symm)]
    ·exact⟨0,fun h=>absurd h hf,fun r hr e=>absurd ⟨r,hr,e⟩ hb⟩
  exact⟨fun v=>(hex v).choose,fun v=>(hex v).choose_spec⟩
 have hF:∀k,k<b.free.length→ξ (b.F k)=η (b.F k):=fun k hk=>(hξ _).1 ⟨k,hk,rfl⟩;refine⟨ξ,(h.eq ξ).2 fun r hr=> ?_,fun k hk'=> ?_⟩
 ·rw[(hξ _).2 r (by rw[h.wf.bt];exact hr) rfl];refine lin_congr _ _ fun v hv=> ?_;obtain⟨k,hk,rfl⟩:=mem_iff_at.1 hv;exact(hF k hk).symm
 ·rw[hF k hk',hη];by_cases e:k=k0
  ·rw[if_pos e];simp only[e,if_true]
  ·rw[if_neg e];have:¬b.F k=b.F k0:=fun e2=>e (h.df k k0 hk' hk e2);simp only[if_neg this]
theorem sumR_swap (f:Nat→Nat→Rat):∀(m n:Nat),sumR (fun k=>sumR (fun j=>f k j) n 0) m 0=sumR (fun j=>sumR (fun k=>f k j) m 0) n 0
 |0,n=>by
  symm;exact sumR_zero n 0 (fun v _ _=>rfl)
 |m+1,n=>by
  rw[sumR_last,sumR_swap f m n,Nat.zero_add,←sumR_plus];refine sumR_congr _ _ fun j _ _=> ?_;rw[sumR_last,Nat.zero_add]
theorem sumR_one2 {g:Nat→Rat}(m u:Nat)(h2:u<m)(h:∀v,v<m→v≠u→g v=0):sumR g m 0=g u:=by
 have e:=sumR_one (g:=fun v=>if v<m then g v else 0) m 0 u (Nat.zero_le _) (by omega) (fun v hv=>by
  by_cases hl:v<m
  ·rw[if_pos hl];exact h v hl hv
  ·rw[if_neg hl])
 simp only[if_pos h2]at e;rw[←e];exact sumR_congr _ _ fun v _ hv=>by rw[if_pos (by omega)]
theorem Good.injT {p:Pg}{b:Tb}(h:Good p b):Inj p.lo.length fun j k=>rowV p (b.F k) j:=fun u hu k0 hk0=>by
 obtain⟨ξ,h1,h2⟩:=h.unit (k0:=k0) (by rw[h.fl];exact hk0);have e1:sumR (fun k=>u k*ξ (b.F k)) p.lo.length 0=u k0:=by
  rw[sumR_one2 p.lo.length k0 hk0 (fun k hk hne=>by rw[h2 k (by rw[h.fl];exact hk),if_neg hne,Rat.mul_zero])];rw[h2 k0 (by rw[h.fl];exact hk0),if_pos rfl,Rat.mul_one]
 have e2:sumR (fun k=>u k*ξ (b.F k)) p.lo.length 0=sumR (fun k=>sumR (fun j=>u k*(((rowV p (b.F k) j:Int):Rat)*ξ j)) p.lo.length 0) p.lo.length 0:=sumR_congr _ _ fun k _ hk=>by
  rw[sumR_mul,←row_ev h1 (by rw[←h.nv];exact h.wf.fv k (by rw[h.fl];omega))]
 rw[sumR_swap]at e2;rw[←e1,e2];refine sumR_zero _ _ fun j _ hj=> ?_;have:=hu j (by omega);have e3:sumR (fun k=>u k*(((rowV p (b.F k) j:Int):Rat)*ξ j)) p.lo.length 0=ξ j*ev (fun j k=>rowV p (b.F k) j) u p.lo.length j:=by
  unfold ev;rw[←sumR_mul];exact sumR_congr _ _ fun k _ _=>by grind
 rw[e3,this,Rat.mul_zero]
structure Near (p:Pg):Prop where
 lo:∀j,j<p.lo.length→-1048576≤p.lo.getD j 0∧p.lo.getD j 0≤1048576
 hi:∀j,j<p.lo.length→-1048576≤p.hi.getD j 0∧p.hi.getD j 0≤1048576
 c:∀j,j<p.lo.length→-1048576≤p.c.getD j 0∧p.c.getD j 0≤1048576
 b:∀i,i<p.a.length→-1099511627776≤p.b.getD i 0∧p.b.getD i 0≤1099511627776
 a:∀i,i<p.a.length→∀j,j<p.lo.length→-1048576≤(p.a.getD i []).getD j 0∧(p.a.getD i []).getD j 0≤1048576
theorem near_get {most:Int}{l:List Int}(h:nearL most l=true){j:Nat}(hj:j<l.length): -most≤l.getD j 0∧l.getD j 0≤most:=by
 have h1:=List.all_eq_true.1 h (l.getD j 0) (by rw[List.getD_eq_getElem?_getD,List.getElem?_eq_getElem hj];exact List.getElem_mem hj);rw[Bool.and_eq_true,decide_eq_true_eq,decide_eq_true_eq]at h1;exact h1
theorem near_of_right {p:Pg}(h:rightPg p=true):Near p:=by
 rw[rightPg]at h;simp only[Bool.and_eq_true,decide_eq_true_eq]at h;obtain⟨h1,h2,h3,h4,h5,h6,h7,h8,h9,h10,h11⟩:=h;have hr:∀i,i<p.a.length→(p.a.getD i []).length=p.lo.length∧nearL 1048576 (p.a.getD i [])=true:=fun i hi=>by
  have h12:=List.all_eq_true.1 h11 (p.a.getD i []) (by rw[List.getD_eq_getElem?_getD,List.getElem?_eq_getElem hi];exact List.getElem_mem hi);rw[Bool.and_eq_true,decide_eq_true_eq]at h12;exact h12
 exact⟨fun j hj=>near_get h6 hj,fun j hj=>near_get h7 (by omega),fun j hj=>near_get h8 (by omega),fun i hi=>near_get h9 (by omega),fun i hi j hj=>near_get (hr i hi).2 (by rw[(hr i hi).1];exact hj)⟩
theorem rowV_near {p:Pg}(hn:Near p){v j:Nat}(hv:v<p.lo.length+p.a.length)(hj:j<p.lo.length):(rowV p v j).natAbs≤1048576:=by
 unfold rowV;by_cases h:v<p.lo.length
 ·rw[if_pos h];split<;>decide
 ·rw[if_neg h];have:=hn.a (v-p.lo.length) (by omega) j hj;omega
theorem Good.vals {X3 X G Y:Nat}(HB:Bnds X3 X G Y){p:Pg}{b:Tb}(h:Good p b)(hn:Near p)(h4:p.lo.length≤4):∃d:Int,Lim d X3∧∀j,j<p.lo.length→Cd d X (b.val j):=by
 have he:∀k,∃e:Int,k<p.lo.length→b.val (b.F k)=((e:Int):Rat)∧e.natAbs≤1099511627776:=fun k=>by
  by_cases hk:k<p.lo.length
  ·have hkf:k<b.free.length:=by rw[h.fl];exact hk
   have hv:b.F k<p.lo.length+p.a.length:=by rw[←h.nv];exact h.wf.fv k hkf
   have hr:=(h.rest k hkf).2;by_cases hj:b.F k<p.lo.length
   ·have e1:=h.elo _ hj;rw[e1.1,e1.2]at hr;have a1:=hn.lo _ hj;have a2:=hn.hi _ hj;rcases hr with hr|hr
    ·injection hr with hr;exact⟨_,fun _=>⟨hr.symm,by omega⟩⟩
    ·injection hr with hr;exact⟨_,fun _=>⟨hr.symm,by omega⟩⟩
   ·have e1:=h.erow (b.F k-p.lo.length) (by omega);rw[show p.lo.length+(b.F k-p.lo.length)=b.F k by omega]at e1;rw[e1.1,e1.2]at hr;have a1:=hn.b (b.F k-p.lo.length) (by omega);rcases hr with hr|hr
    ·cases hr
    ·injection hr with hr;exact⟨_,fun _=>⟨hr.symm,by omega⟩⟩
  ·exact⟨0,fun h=>absurd h hk⟩
 obtain⟨d,h1,h2,q,h3⟩:=elim p.lo.length (fun k j=>rowV p (b.F k) j) (fun k=>(he k).choose) b.val 1048576 1099511627776
  (fun k j hk hj=>rowV_near hn (by rw[←h.nv];exact h.wf.fv k (by rw[h.fl];exact hk)) hj) (fun k hk=>((he k).choose_spec hk).2) h.inj (fun k hk=>by
   rw[←((he k).choose_spec hk).1];exact(row_ev h.val (by rw[←h.nv];exact h.wf.fv k (by rw[h.fl];exact hk))).symm)
 exact⟨d,⟨h1,Nat.le_trans h2 (HB.dn _ h4)⟩,fun j hj=>⟨q j,(h3 j hj).1,Nat.le_trans (h3 j hj).2 (HB.qn _ h4)⟩⟩
theorem Good.nums {X3 X G Y:Nat}(HB:Bnds X3 X G Y){p:Pg}{b:Tb}(h:Good p b)(hn:Near p)(h4:p.lo.length≤4){L:List Rat}(hL:L.length=b.free.length){r:Nat→Int}(hr:∀j,j<p.lo.length→(r j).natAbs≤1048576)(hs:∀ξ,Sat p ξ→sumR (fun j=>((r j:Int):Rat)*ξ j) p.lo.length 0=lin ξ L b.free):∃d:Int,Lim d X3∧∀q∈L,Cd d X q:=by
 obtain⟨d,h1,h2,q,h3⟩:=elim p.lo.length (fun j k=>rowV p (b.F k) j) r (fun k=>L.getD k 0) 1048576 1099511627776
  (fun j k hj hk=>rowV_near hn (by rw[←h.nv];exact h.wf.fv k (by rw[h.fl];exact hk)) hj) (fun j hj=>Nat.le_trans (hr j hj) (by decide)) h.injT (fun j hj=>by
   have e1:=hs _ (spread_sat p fun v=>if v=j then 1 else 0);rw[lin_R _ _ _ hL,h.fl,sumR_one2 p.lo.length j hj (fun v hv hne=>by rw[spread_lo hv,if_neg hne,Rat.mul_zero]),spread_lo hj,if_pos rfl,Rat.mul_one]at e1;rw[e1];refine sumR_congr _ _ fun k _ hk=> ?_;rw[spread_ev (by rw[←h.nv];exact h.wf.fv k (by rw[h.fl];omega)),sumR_one2 p.lo.length j hj (fun v hv hne=>by rw[if_neg hne,Rat.mul_zero]),if_pos rfl,Rat.mul_one];exact Rat.mul_comm _ _)
 refine⟨d,⟨h1,Nat.le_trans h2 (HB.dn _ h4)⟩,fun x hx=> ?_⟩;obtain⟨k,hk,rfl⟩:=List.getElem_of_mem hx;obtain⟨a1,a2⟩:=h3 k (by rw[←h.fl,←hL];exact hk);have e:L.getD k 0=L[k]:=by
  rw[List.getD_eq_getElem?_getD,List.getElem?_eq_getElem hk];rfl
 rw[e]at a1;exact⟨q k,a1,Nat.le_trans a2 (HB.qn _ h4)⟩
set_option maxRecDepth 100000
def smallPg (p:Pg):Bool:=fitsPg p&&(decide (p.lo.length≤4)&&decide (p.a.length≤5))
theorem psmall_any {w:World}{m:Pa}{p:Pg}(hp:PgAt w m p):Calls Tryz.prog 10 #[.agg (pgC m p)] w fun e w'=>e= .returned (.bool (smallPg p))∧Below w.heap.size w w':=by
 have M:=(Mem.start w).new tyR (pgC m p);have HF:=ZH (pfits_any (hp.below M.bel));have HR:Hid (smallPg p=(fitsPg p&&(decide (p.lo.length≤4)&&decide (p.a.length≤5)))):=rfl;obtain⟨R,hR⟩:∃R,smallPg p=R:=⟨_,rfl⟩;rw[hR]at HR⊢;obtain⟨p0,p1,p2,p3,p4⟩:=(M.k (i:=0) rfl).fiveP;clear hp hR;go_enter Tryz.func10,Tryz.ntmps10;go_wp2_with fail;refine HF.out.mono ?_;rintro e w1 ⟨rfl,q1⟩;replace M:=M.below q1;clear p0 p1 p2 p3 p4 HF;obtain⟨p0,p1,p2,p3,p4⟩:=(M.k (i:=0) rfl).fiveP;have HM:=ZH M.bel;clear M q1;cases hfp:fitsPg p with
 |false=>
  rw[hfp]at HR;have HC:Hid (R=false):=HR.out;go_wp2_with fail;exact bodyPost_ret (v:= .bool false) (by simp[results,Tryz.results10,go_sem]) rfl ⟨by rw[HC.out],HM.out⟩
 |true=>
  rw[hfp]at HR;by_cases h1:p.lo.length≤4
  ·have d1:decide ((p.lo.length:Int)≤4)=true:=decide_eq_true (by omega);by_cases h2:p.a.length≤5
   ·have d2:decide ((p.a.length:Int)≤5)=true:=decide_eq_true (by omega);have HC:Hid (R=true):=HR.out.trans (by rw[decide_eq_true h1,decide_eq_true h2];rfl);clear HR;go_wp2_with fail;exact bodyPost_ret (v:= .bool true) (by simp[results,Tryz.results10,go_sem]) rfl ⟨by rw[HC.out],HM.out⟩
   ·have d2:decide ((p.a.length:Int)≤5)=false:=decide_eq_false (by omega);have HC:Hid (R=false):=HR.out.trans (by rw[decide_eq_false h2];simp);clear HR;go_wp2_with fail;exact bodyPost_ret (v:= .bool false) (by simp[results,Tryz.results10,go_sem]) rfl ⟨by rw[HC.out],HM.out⟩
  ·have d1:decide ((p.lo.length:Int)≤4)=false:=decide_eq_false (by omega);have HC:Hid (R=false):=HR.out.trans (by rw[decide_eq_false h1];simp);clear HR;go_wp2_with fail;exact bodyPost_ret (v:= .bool false) (by simp[results,Tryz.results10,go_sem]) rfl ⟨by rw[HC.out],HM.out⟩
theorem small_sz {p:Pg}(h:smallPg p=true):PgSz p:=by
 unfold smallPg at h;rw[Bool.and_eq_true]at h;exact sz_fits h.1
def xOf (b:Tb):List Rat:=(b.vars.take b.n).map (·.v)
def yOf (b:Tb):List Rat:=dualGo b.n (zerosT b) b.cost b.free
theorem Good.xlen {p:Pg}{b:Tb}(h:Good p b):(xOf b).length=p.lo.length:=by
 have:=h.nv;unfold xOf;rw[List.length_map,List.length_take,h.n];omega
theorem Good.xat {p:Pg}{b:Tb}(h:Good p b){j:Nat}(hj:j<p.lo.length):(xOf b).getD j 0=b.val j:=by
 have hjl:j<b.vars.length:=by have:=h.nv;omega
 unfold xOf Tb.val Tb.var;rw[List.getD_eq_getElem?_getD,List.getElem?_map,List.getElem?_take,h.n,if_pos hj,List.getElem?_eq_getElem hjl,List.getD_eq_getElem?_getD,List.getElem?_eq_getElem hjl];rfl
theorem Good.xcd {p:Pg}{b:Tb}(h:Good p b){d:Int}{Q:Nat}(hd:∀j,j<p.lo.length→Cd d Q (b.val j)):∀q∈xOf b,Cd d Q q:=fun q hq=>by
 obtain⟨j,hj,rfl⟩:=List.getElem_of_mem hq;have e:=h.xat (j:=j) (by rw[←h.xlen];exact hj);rw[List.getD_eq_getElem?_getD,List.getElem?_eq_getElem hj]at e;have e':(xOf b)[j]=b.val j:=e;rw[e'];exact hd j (by rw[←h.xlen];exact hj)
theorem mem_abs {l:List Int}{K:Nat}(h:∀j,j<l.length→(l.getD j 0).natAbs≤K):∀n∈l,n.natAbs≤K:=fun n hn=>by
 obtain⟨j,hj,rfl⟩:=List.getElem_of_mem hn;have:=h j hj;rw[List.getD_eq_getElem?_getD,List.getElem?_eq_getElem hj]at this;exact this
theorem getD_abs {l:List Int}{K:Nat}(h:∀j,j<l.length→(l.getD j 0).natAbs≤K)(j:Nat):(l.getD j 0).natAbs≤K:=by
 by_cases hj:j<l.length
 ·exact h j hj
 ·rw[List.getD_eq_getElem?_getD,List.getElem?_eq_none (by omega)];exact Nat.zero_le _
theorem Good.cost_cd {X3 X G Y:Nat}(HB:Bnds X3 X G Y){p:Pg}{b:Tb}(h:Good p b)(hn:Near p)(h4:p.lo.length≤4)(h3:p.c.length=p.lo.length):∃d:Int,Lim d X3∧∀q∈b.cost,Cd d X q:=
 h.nums HB hn h4 h.wf.fc (r:=fun j=>p.c.getD j 0) (fun j hj=>by have:=hn.c j hj;omega) fun ξ hs=>by
  rw[←h.cost ξ hs,rowM_R]
theorem Good.line_cd {X3 X G Y:Nat}(HB:Bnds X3 X G Y){p:Pg}{b:Tb}(h:Good p b)(hn:Near p)(h4:p.lo.length≤4){i:Nat}(hi:i<b.t.length):∃d:Int,Lim d X3∧∀q∈b.t.getD i [],Cd d X q:=by
 have hv:b.B i<p.lo.length+p.a.length:=by rw[←h.nv];exact h.wf.bv i (by rw[h.wf.bt];exact hi)
 exact h.nums HB hn h4 (h.wf.ft i hi) (r:=fun j=>rowV p (b.B i) j) (fun j hj=>rowV_near hn hv hj) fun ξ hs=>by
  rw[←row_ev hs hv];exact(h.eq ξ).1 hs i hi
def Tb.Fr (b:Tb)(v:Nat):Prop:=∃k,k<b.free.length∧b.F k=v
theorem wrap {P:Nat→Prop}{m n:Nat}(h:∀i,m≤i→i<n→P i→P (i+1))(hw:P n→P m){i j:Nat}(hi:m≤i)(hin:i≤n)(hj:m≤j)(hjn:j≤n)(hP:P i):P j:=by
 have up:∀d a,m≤a→a+d≤n→P a→P (a+d):=fun d=>by
  induction d with
  |zero=>exact fun a _ _ h=>h
  |succ d ih=>exact fun a ha hd hp=>h (a+d) (by omega) (by omega) (ih a ha (by omega) hp)
 have hn:=up (n-i) i hi (by omega) hP;rw[show i+(n-i)=n by omega]at hn;have hm:=up (j-m) m ZL (by omega) (hw hn);rw[show m+(j-m)=j by omega]at hm;exact hm
theorem most_of {P:Nat→Prop}:∀(N:Nat),(∃v,P v)→(∀v,P v→v<N)→∃v,P v∧∀u,P u→u≤v
 |0,⟨v,hv⟩,hN=>absurd (hN v hv) (Nat.not_lt_zero _)
 |N+1,h,hN=>by
  by_cases e:P N
  ·exact⟨N,e,fun u hu=>Nat.le_of_lt_succ (hN u hu)⟩
  ·exact most_of N h fun v hv=>Nat.lt_of_le_of_ne (Nat.le_of_lt_succ (hN v hv)) fun e'=>e (e'▸hv)
structure Turn (b b':Tb) (i k:Nat):Prop where
 hi:i<b.basic.length
 hk:k<b.free.length
 fr:∀v,b'.Fr v↔(b.Fr v∧v≠b.F k)∨v=b.B i
theorem Good.turn {p:Pg}{b b':Tb}{i k:Nat}(h:Good p b)(hi:i<b.basic.length)(hk:k<b.free.length)(hf:b'.free=b.free.set k (b.B i)):Turn b b' i k:=by
 have hF:∀r,b'.F r=if r=k then b.B i else b.F r:=fun r=>by
  show b'.free.getD r 0=_;rw[hf,getD_set hk];rfl
 have lf:b'.free.length=b.free.length:=by rw[hf,List.length_set]
 refine⟨hi,hk,fun v=>⟨fun⟨r,hr,e⟩=> ?_,fun H=> ?_⟩⟩
 ·rw[hF]at e;by_cases e1:r=k
  ·rw[if_pos e1]at e;exact .inr e.symm
  ·rw[if_neg e1]at e;exact .inl ⟨⟨r,by rw[←lf];exact hr,e⟩,fun e2=>e1 (h.df r k (by rw[←lf];exact hr) hk (e.trans e2))⟩
 ·rcases H with ⟨⟨r,hr,e⟩,hne⟩|e
  ·refine⟨r,by rw[lf];exact hr,?_⟩;rw[hF,if_neg (fun e1=>hne (by rw[←e,e1]))];exact e
  ·exact⟨k,by rw[lf];exact hk,by rw[hF,if_pos rfl];exact e.symm⟩
theorem Good.not_fr {p:Pg}{b:Tb}(h:Good p b){i:Nat}(hi:i<b.basic.length):¬b.Fr (b.B i):=fun⟨k,hk,e⟩=>h.dd i k hi hk e.symm
theorem Good.same_ends {p:Pg}{b c:Tb}(h:Good p b)(h':Good p c){v:Nat}(hv:v<p.lo.length+p.a.length):(b.var v).lo=(c.var v).lo∧(b.var v).hi=(c.var v).hi:=by
 by_cases e:v<p.lo.length
 ·rw[(h.elo v e).1,(h.elo v e).2,(h'.elo v e).1,(h'.elo v e).2];exact⟨rfl,rfl⟩
 ·obtain⟨i,rfl⟩:∃i,v=p.lo.length+i:=⟨v-p.lo.length,by omega⟩;rw[(h.erow i (by omega)).1,(h.erow i (by omega)).2,(h'.erow i (by omega)).1,(h'.erow i (by omega)).2];exact⟨rfl,rfl⟩
theorem mul_sign {a x:Rat}(h:0<a*x):(0<a∧0<x)∨(a<0∧x<0):=by
 by_cases h1:0<a
 ·by_cases h2:0<x
  ·exact .inl ⟨h1,h2⟩
  ·have:=mul_pos_le h1 (Rat.not_lt.1 h2);grind
 ·by_cases h2:a<0
  ·by_cases h3:x<0
   ·exact .inr ⟨h2,h3⟩
   ·have:=mul_neg_le h2 (Rat.not_lt.1 h3);grind
  ·have:a=0:=by grind
   subst this;grind
theorem lin_pos (ξ:Nat→Rat):∀(l:List Rat)(f:List Nat),0<lin ξ l f→∃j,j<f.length∧0<l.getD j 0*ξ (f.getD j 0)
 |[],f,h=>by
  unfold lin at h;exact absurd h (by decide)
 |a::l,[],h=>by
  unfold lin at h;exact absurd h (by decide)
 |a::l,k::f,h=>by
  by_cases h1:0<a*ξ k
  ·exact⟨0,by simp,h1⟩
  ·obtain⟨j,h2,h3⟩:=lin_pos ξ l f (by
    have:0<a*ξ k+lin ξ l f:=h;grind)
   exact⟨j+1,by simpa using h2,h3⟩
theorem lin_turn (up:Bool)(ξ η:Nat→Rat):∀(l:List Rat)(f:List Nat),lin (fun v=>turnA up (ξ v-η v)) l f=turnA up (lin ξ l f-lin η l f)
 |[],f=>by
  unfold lin turnA;cases up<;>simp<;>grind
 |a::l,[]=>by
  unfold lin turnA;cases up<;>simp<;>grind
 |a::l,k::f=>by
  show a*turnA up (ξ k-η k)+lin (fun v=>turnA up (ξ v-η v)) l f=turnA up ((a*ξ k+lin ξ l f)-(a*η k+lin η l f));rw[lin_turn up ξ η l f];unfold turnA;cases up<;>simp<;>grind
theorem help_dir {up:Bool}{a D:Rat}{x:Vr}(h:0<a*turnA up D):(0<D∧helpB up a x=x.mayRise)∨(D<0∧helpB up a x=x.mayFall):=by
 unfold helpB;unfold turnA at h;cases up with
 |true=>
  simp only[if_true]at h⊢;rcases mul_sign h with ⟨h1,h2⟩|⟨h1,h2⟩
  ·exact .inl ⟨h2,by rw[decide_eq_true h1,decide_eq_false (show ¬a<0 by grind)];simp⟩
  ·exact .inr ⟨h2,by rw[decide_eq_true h1,decide_eq_false (show ¬0<a by grind)];simp⟩
 |false=>
  simp only[Bool.false_eq_true,if_false]at h⊢;rcases mul_sign h with ⟨h1,h2⟩|⟨h1,h2⟩
  ·exact .inr ⟨by grind,by rw[decide_eq_true h1,decide_eq_false (show ¬a<0 by grind)];simp⟩
  ·exact .inl ⟨by grind,by rw[decide_eq_true h1,decide_eq_false (show ¬0<a by grind)];simp⟩
theorem rise_true {x:Vr}(h:x.mayRise=true){u:Rat}(hu:x.hi=some u):x.v<u:=by
 unfold Vr.mayRise at h;rw[hu]at h;exact of_decide_eq_true h
theorem fall_true {x:Vr}(h:x.mayFall=true){l:Rat}(hl:x.lo=some l):l<x.v:=by
 unfold Vr.mayFall at h;rw[hl]at h;exact of_decide_eq_true h
structure Step1 (p:Pg) (b b':Tb) (i k:Nat):Prop where
 good:Good p b
 good':Good p b'
 turn:Turn b b' i k
 beyond:beyondT b=some i
 helps:helpsT b i (b.var (b.B i)).below=some k
 stay:∀v,b.Fr v→v≠b.F k→b'.val v=b.val v
 goal:b'.val (b.B i)=if (b.var (b.B i)).below=true then(b.var (b.B i)).lo.getD 0 else(b.var (b.B i)).hi.getD 0
theorem cycle_one {p:Pg}{st:Nat→Tb}{I K:Nat→Nat}{m n:Nat}(hmn:m<n)(hs:∀i,m≤i→i<n→Step1 p (st i) (st (i+1)) (I i) (K i))(hfr:∀v,(st m).Fr v↔(st n).Fr v)(hv:∀v,(st n).Fr v→(st m).val v=(st n).val v):False:=by
 have hne:∀v e l,m≤e→e≤n→m≤l→l≤n→(∀i,m≤i→i<n→(st i).F (K i)≠v)→(st e).Fr v→(st l).Fr v∧(st l).val v=(st e).val v:=fun v e l he he' hl hl' hno hf=>by
  refine wrap (P:=fun i=>(st i).Fr v∧(st i).val v=(st e).val v) (fun i h1 h2 ⟨h3,h4⟩=> ?_) (fun⟨h3,h4⟩=>⟨(hfr v).2 h3,(hv v h3).trans h4⟩) he he' hl hl' ⟨hf,rfl⟩;exact⟨((hs i h1 h2).turn.fr v).2 (.inl ⟨h3,(hno i h1 h2).symm⟩),((hs i h1 h2).stay v h3 (hno i h1 h2).symm).trans h4⟩
 obtain⟨r,⟨e,e1,e2,er⟩,hmost⟩:=most_of (P:=fun v=>∃i,m≤i∧i<n∧(st i).F (K i)=v) (p.lo.length+p.a.length) ⟨_,m,Nat.le_refl _,hmn,rfl⟩ (fun v ⟨i,h1,h2,h3⟩=>by
  rw[←h3,←(hs i h1 h2).good.nv];exact(hs i h1 h2).good.wf.fv _ (hs i h1 h2).turn.hk)
 have hmost':∀i,m≤i→i<n→(st i).F (K i)≤r:=fun i h1 h2=>hmost _ ⟨i,h1,h2,rfl⟩;have S:=hs e e1 e2;have hfe:(st e).Fr r:=⟨K e,S.turn.hk,er⟩;obtain⟨l,l1,l2,lr,lx⟩:∃l,m≤l∧l<n∧(st l).B (I l)=r∧(st (l+1)).val r=(st e).val r:=by
  apply Classical.byContradiction;intro hno;refine wrap (P:=fun i=>¬((st i).Fr r∧(st i).val r=(st e).val r)) (fun i h1 h2 h3 ⟨h4,h5⟩=> ?_) (fun h3 ⟨h4,h5⟩=>h3 ⟨(hfr r).1 h4,(hv r ((hfr r).1 h4)).symm.trans h5⟩) (i:=e+1) (by omega) (by omega) e1 (Nat.le_of_lt e2) (fun⟨h4,_⟩=> ?_) ⟨hfe,rfl⟩
  ·rcases((hs i h1 h2).turn.fr r).1 h4 with ⟨h6,h7⟩|h6
   ·exact h3 ⟨h6,((hs i h1 h2).stay r h6 h7).symm.trans h5⟩
   ·exact hno ⟨i,h1,h2,h6.symm,h5⟩
  ·rcases(S.turn.fr r).1 h4 with ⟨_,h7⟩|h6
   ·exact h7 er.symm
   ·exact S.good.not_fr S.turn.hi (h6▸hfe)
 have W:=hs l l1 l2;obtain⟨b1,b2,b3⟩:=beyond_some W.beyond;obtain⟨c1,c2,c3⟩:=beyond_some S.beyond;have hit:I e<(st e).t.length:=by rw[←S.good.wf.bt];exact c1
 obtain⟨d1,d2,d3⟩:=helps_some (S.good.wf.ft _ hit) S.helps;have eB:(st l).basic.getD (I l) 0=r:=lr;rw[eB]at b2 b3;have hin:∀v,v<p.lo.length+p.a.length→v<r→Inn ((st l).var v):=fun v hv hvr=>by
  rcases W.good.all v (by rw[W.good.nv];exact hv) with ⟨j,hj,ej⟩|⟨j,hj,ej⟩
  ·cases hb:((st l).var v).below||((st l).var v).above with
   |false=>exact Bool.or_eq_false_iff.1 hb
   |true=>
    have ej':(st l).basic.getD j 0=v:=ej;have:=b3 j hj (by rw[ej'];exact hb);omega
  ·rw[←ej];exact W.good.inn j hj
 have hxv:(st e).B (I e)<p.lo.length+p.a.length:=by rw[←S.good.nv];exact S.good.wf.bv _ c1
 have hxr:(st e).B (I e)<r:=by
  have h1:¬∀i,m≤i→i<n→(st i).F (K i)≠(st e).B (I e):=fun hno=>S.good.not_fr c1 (hne _ (e+1) e (by omega) (by omega) e1 (Nat.le_of_lt e2) hno ((S.turn.fr _).2 (.inr rfl))).1;have h2:(st e).B (I e)≠r:=fun h=>S.good.not_fr c1 (by rw[h];exact hfe);have h3:(st e).B (I e)≤r:=Nat.le_of_not_lt fun h4=>h1 fun i a1 a2 a3=>by
   have:=hmost' i a1 a2;omega
  omega
 have hD:0<turnA ((st e).var ((st e).B (I e))).below ((st l).val ((st e).B (I e))-(st e).val ((st e).B (I e))):=by
  have h1:=inn_iff.1 (hin _ hxv hxr);have h2:=S.good.same_ends W.good hxv;have c2':(((st e).var ((st e).B (I e))).below||((st e).var ((st e).B (I e))).above)=true:=c2;cases hb:((st e).var ((st e).B (I e))).below with
  |true=>
   obtain⟨lo,q1,q2⟩:=below_iff.1 hb;have h3:=h1.1 lo (by rw[←h2.1];exact q1);show 0<(st l).val _-(st e).val _;unfold Tb.val;grind
  |false=>
   rw[hb,Bool.false_or]at c2';obtain⟨u,q1,q2⟩:=above_iff.1 c2';have h3:=h1.2 u (by rw[←h2.2];exact q1);show 0< -((st l).val _-(st e).val _);unfold Tb.val;grind
 have g1:=(S.good.eq _).1 W.good.val _ hit;have g2:=(S.good.eq _).1 S.good.val _ hit;rw[g1,g2,←lin_turn]at hD;obtain⟨j,hj,hpos⟩:=lin_pos _ _ _ hD;have hjv:(st e).F j<p.lo.length+p.a.length:=by rw[←S.good.nv];exact S.good.wf.fv _ hj
 have hen:=S.good.same_ends W.good hjv;have hdir:=help_dir (x:=(st e).var ((st e).F j)) hpos;have d3':=d3 j hj;have d2':=d2;have eF:(st e).free.getD j 0=(st e).F j:=rfl;have eK:(st e).free.getD (K e) 0=r:=er;have eBe:(st e).basic.getD (I e) 0=(st e).B (I e):=rfl;rw[eF]at hdir d3';rw[eK]at d3' d2';by_cases hjr:(st e).F j<r
 ·have hno:¬helpB ((st e).var ((st e).B (I e))).below (((st e).t.getD (I e) []).getD j 0) ((st e).var ((st e).F j))=true:=fun h=>by
   have:=d3' h;omega
  have h1:=inn_iff.1 (hin _ hjv hjr);rcases hdir with ⟨p1,p2⟩|⟨p1,p2⟩
  ·rw[p2]at hno;obtain⟨u,q1,q2⟩:=rise_false (Bool.eq_false_iff.2 hno);have h3:=h1.2 u (by rw[←hen.2];exact q1);unfold Tb.val at p1;grind
  ·rw[p2]at hno;obtain⟨u,q1,q2⟩:=fall_false (Bool.eq_false_iff.2 hno);have h3:=h1.1 u (by rw[←hen.1];exact q1);unfold Tb.val at p1;grind
 ·by_cases hjr2:(st e).F j=r
  ·have hjk:j=K e:=S.good.df j (K e) hj S.turn.hk (hjr2.trans er.symm);subst hjk;rw[hjr2]at hdir hen;have hgoal:=W.goal;rw[lr,lx]at hgoal;rcases hdir with ⟨p1,p2⟩|⟨p1,p2⟩
   ·rw[p2]at d2';cases hb:((st l).var r).below with
    |true=>
     obtain⟨lo,q1,q2⟩:=below_iff.1 hb;rw[if_pos hb,q1]at hgoal;have hgoal':(st e).val r=lo:=hgoal;have p1':0<((st l).var r).v-(st e).val r:=p1;grind
    |false=>
     rw[hb,Bool.false_or]at b2;obtain⟨u,q1,q2⟩:=above_iff.1 b2;rw[hb,if_neg (by decide),q1]at hgoal;have hgoal':((st e).var r).v=u:=hgoal;have:=rise_true d2' (u:=u) (by rw[hen.2];exact q1);grind
   ·rw[p2]at d2';cases hb:((st l).var r).below with
    |true=>
     obtain⟨lo,q1,q2⟩:=below_iff.1 hb;rw[if_pos hb,q1]at hgoal;have hgoal':((st e).var r).v=lo:=hgoal;have:=fall_true d2' (l:=lo) (by rw[hen.1];exact q1);grind
    |false=>
     rw[hb,Bool.false_or]at b2;obtain⟨u,q1,q2⟩:=above_iff.1 b2;rw[hb,if_neg (by decide),q1]at hgoal;have hgoal':(st e).val r=u:=hgoal;have p1':((st l).var r).v-(st e).val r<0:=p1;grind
  ·have h1:=(hne ((st e).F j) e l e1 (Nat.le_of_lt e2) l1 (Nat.le_of_lt l2) (fun i a1 a2 a3=>by
    have:=hmost' i a1 a2;omega) ⟨j,hj,rfl⟩).2
   rcases hdir with ⟨p1,_⟩|⟨p1,_⟩
   ·rw[h1]at p1;grind
   ·rw[h1]at p1;grind
end Go.Proofs.YtpnmcacndjkfaaaGreat

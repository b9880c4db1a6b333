/-
  Joined texts: Ej, Fd, Fc, Fe, Ff, Ek.
-/
import Derived.Test.YtpnmcacndjkfaaaGreatEi
import Derived.Test.YtpnmcacndjkfaaaGreatEc
set_option linter.unusedSimpArgs false
set_option linter.unusedVariables false
namespace Go.Proofs.YtpnmcacndjkfaaaGreat
open Go.RowKit Num
def Cd (d:Int)(B:Nat)(q:Rat):Prop:=∃z:Int,(d:Rat)*q=((z:Int):Rat)∧z.natAbs≤B
theorem Cd.mono {d:Int}{B C:Nat}{q:Rat}(h:Cd d B q)(hl:B≤C):Cd d C q:=by
 obtain⟨z,h1,h2⟩:=h;exact⟨z,h1,Nat.le_trans h2 hl⟩
theorem Cd.add {d:Int}{B C:Nat}{p q:Rat}(h:Cd d B p)(k:Cd d C q):Cd d (B+C) (p+q):=by
 obtain⟨z,h1,h2⟩:=h;obtain⟨y,k1,k2⟩:=k;refine⟨z+y,by rw[Rat.mul_add,h1,k1,Rat.intCast_add],?_⟩;have:=Int.natAbs_add_le z y;omega
theorem Cd.neg {d:Int}{B:Nat}{p:Rat}(h:Cd d B p):Cd d B (-p):=by
 obtain⟨z,h1,h2⟩:=h;exact⟨-z,by rw[Rat.intCast_neg,←h1];grind,by rw[Int.natAbs_neg];exact h2⟩
theorem Cd.mul {d:Int}{B K:Nat}{p:Rat}{n:Int}(h:Cd d B p)(hn:n.natAbs≤K):Cd d (B*K) (p*((n:Int):Rat)):=by
 obtain⟨z,h1,h2⟩:=h;exact⟨z*n,by rw[Rat.intCast_mul,←h1];grind,by rw[Int.natAbs_mul];exact Nat.mul_le_mul h2 hn⟩
theorem Cd.int {d:Int}{K:Nat}(D:Nat)(hd:d.natAbs≤D){n:Int}(hn:n.natAbs≤K):Cd d (D*K) ((n:Int):Rat):=⟨d*n,by rw[Rat.intCast_mul],by rw[Int.natAbs_mul];exact Nat.mul_le_mul hd hn⟩
theorem Cd.zero (d:Int):Cd d 0 0:=⟨0,by rw[Rat.mul_zero];rfl,by decide⟩
structure Lim (d:Int) (X3:Nat):Prop where
 ne:d≠0
 le:d.natAbs≤X3
theorem Cd.few {X3 X G Y:Nat}(HB:Bnds X3 X G Y){d:Int}(hd:Lim d X3){B:Nat}{q:Rat}(h:Cd d B q)(hB:B≤Y):Few q:=by
 obtain⟨z,h1,h2⟩:=h;have hdq:=rat_cast_ne hd.ne;have e:q=Rat.divInt z d:=by
  rw[Rat.divInt_eq_div,←h1];grind
 rw[e];refine(sz_divInt hd.ne (k:=64) (sD_small ?_) (sD_small ?_)).few ZL
 ·exact Nat.lt_of_le_of_lt (Nat.le_trans h2 hB) HB.few
 ·have a1:=HB.l1;have a2:=HB.l4;have a3:=hd.le;exact Nat.lt_of_le_of_lt (show d.natAbs≤Y by omega) HB.few
theorem dot_cd {Y:Nat}{d:Int}(hfew:∀(B:Nat)(q:Rat),Cd d B q→B≤Y→Few q){K Q:Nat}:∀(l:List Rat)(m:List Int){S:Nat}{s:Rat},Cd d S s→(∀x∈l,Cd d Q x)→(∀n∈m,n.natAbs≤K)→S+l.length*(Q*K)≤Y→∃t,dotO s l m=some t∧Cd d (S+l.length*(Q*K)) t
 |[],m,S,s,hs,_,_,_=>by
  refine⟨s,?_,by simpa using hs⟩;unfold dotO;rfl
 |x::l,[],S,s,hs,_,_,_=>⟨s,rfl,hs.mono (Nat.le_add_right _ _)⟩
 |x::l,n::m,S,s,hs,hl,hm,hB=>by
  have hx:=(hl x List.mem_cons_self).mul (hm n List.mem_cons_self);rw[List.length_cons,Nat.add_mul,Nat.one_mul]at hB⊢;have h1:mulO x ((n:Int):Rat)=some (x*((n:Int):Rat)):=qfit_of (hfew _ _ hx (by omega));have h2:=hs.add hx;have h3:addO s (x*((n:Int):Rat))=some (s+x*((n:Int):Rat)):=qfit_of (hfew _ _ h2 (by omega));obtain⟨t,h4,h5⟩:=dot_cd hfew l m h2 (fun y hy=>hl y (List.mem_cons_of_mem _ hy)) (fun y hy=>hm y (List.mem_cons_of_mem _ hy)) (by omega);refine⟨t,?_,h5.mono (by omega)⟩;unfold dotO;rw[h1];show(addO s _).bind _=_;rw[h3];exact h4
theorem rowM_R (ξ:Nat→Rat)(a:List Int):∀(m j:Nat),rowM ξ a m j=sumR (fun v=>((a.getD v 0:Int):Rat)*ξ v) m j
 |0,_=>rfl
 |m+1,j=>by
  show _+rowM ξ a m (j+1)=_+sumR _ m (j+1);rw[rowM_R ξ a m (j+1)]
theorem lin_R (ξ:Nat→Rat):∀(l:List Rat)(f:List Nat),l.length=f.length→lin ξ l f=sumR (fun k=>l.getD k 0*ξ (f.getD k 0)) f.length 0
 |[],[],_=>rfl
 |[],_::_,h=>by cases h
 |_::_,[],h=>by cases h
 |a::l,k::f,h=>by
  rw[List.length_cons,sumR_first];show a*ξ k+lin ξ l f=_;rw[lin_R ξ l f (by simpa using h)];rfl
def rowV (p:Pg)(v j:Nat):Int:=if v<p.lo.length then(if v=j then 1 else 0) else(p.a.getD (v-p.lo.length) []).getD j 0
theorem row_ev {p:Pg}{ξ:Nat→Rat}(hs:Sat p ξ){v:Nat}(hv:v<p.lo.length+p.a.length):ξ v=sumR (fun j=>((rowV p v j:Int):Rat)*ξ j) p.lo.length 0:=by
 by_cases h:v<p.lo.length
 ·rw[sumR_one p.lo.length 0 v (Nat.zero_le _) (by omega) (fun j hj=>by
   unfold rowV;rw[if_pos h,if_neg (fun e=>hj e.symm)];show((0:Int):Rat)*_=0;rw[show((0:Int):Rat)=0 from rfl,Rat.zero_mul])]
  unfold rowV;rw[if_pos h,if_pos rfl];show _=((1:Int):Rat)*_;rw[show((1:Int):Rat)=1 from rfl,Rat.one_mul]
 ·have h1:=hs (v-p.lo.length) (by omega);rw[show p.lo.length+(v-p.lo.length)=v by omega,rowM_R]at h1;rw[h1];refine sumR_congr _ _ fun j _ _=> ?_;unfold rowV;rw[if_neg h]
theorem spread_lo {p:Pg}{x:Nat→Rat}{j:Nat}(h:j<p.lo.length):spread p x j=x j:=if_pos h
theorem spread_ev {p:Pg}{x:Nat→Rat}{v:Nat}(hv:v<p.lo.length+p.a.length):spread p x v=sumR (fun j=>((rowV p v j:Int):Rat)*x j) p.lo.length 0:=by
 rw[row_ev (spread_sat p x) hv];exact sumR_congr _ _ fun j _ hj=>by rw[spread_lo (by omega)]
theorem Good.inj {p:Pg}{b:Tb}(h:Good p b):Inj p.lo.length fun k j=>rowV p (b.F k) j:=fun x hx j hj=>by
 have hF:∀k,k<b.free.length→spread p x (b.F k)=0:=fun k hk=>by
  rw[spread_ev (by rw[←h.nv];exact h.wf.fv k hk)];exact hx k (by rw[←h.fl];exact hk)
 rw[←spread_lo (p:=p) (x:=x) hj];rcases h.all j (by rw[h.nv];omega) with ⟨r,hr,e⟩|⟨k,hk,e⟩
 ·rw[←e];have h1:=(h.eq _).1 (spread_sat p x) r (by rw[←h.wf.bt];exact hr);rw[h1,lin_R _ _ _ (h.wf.ft r (by rw[←h.wf.bt];exact hr))];refine sumR_zero _ _ fun k _ hk=> ?_;have:=hF k (by omega);unfold Tb.F at this;rw[this,Rat.mul_zero]
 ·rw[←e];exact hF k hk
theorem Good.unit {p:Pg}{b:Tb}(h:Good p b){k0:Nat}(hk:k0<b.free.length):∃ξ:Nat→Rat,Sat p ξ∧∀k,k<b.free.length→ξ (b.F k)=if k=k0 then 1 else 0:=by
 obtain⟨η,hη⟩:∃η:Nat→Rat,η=fun v=>if v=b.F k0 then 1 else 0:=⟨_,rfl⟩
 obtain⟨ξ,hξ⟩:∃ξ:Nat→Rat,∀v,((∃k,k<b.free.length∧b.F k=v)→ξ v=η v)∧∀r,r<b.basic.length→b.B r=v→ξ v=lin η (b.t.getD r []) b.free:=by
  have hex:∀v,∃q:Rat,((∃k,k<b.free.length∧b.F k=v)→q=η v)∧∀r,r<b.basic.length→b.B r=v→q=lin η (b.t.getD r []) b.free:=fun v=>by
   by_cases hf:∃k,k<b.free.length∧b.F k=v
   ·refine⟨η v,fun _=>rfl,fun r hr e=> ?_⟩;obtain⟨k,hk,e2⟩:=hf;exact absurd (e.trans e2.symm) (h.dd r k hr hk)
   ·by_cases hb:∃r,r<b.basic.length∧b.B r=v
    ·obtain⟨r,hr,e⟩:=hb;refine⟨lin η (b.t.getD r []) b.free,fun h=>absurd h hf,fun r' hr' e'=> ?_⟩;rw[h.db r' r hr' hr (e'.trans e.symm)]
    ·exact⟨0,fun h=>absurd h hf,fun r hr e=>absurd ⟨r,hr,e⟩ hb⟩
  exact⟨fun v=>(hex v).choose,fun v=>(hex v).choose_spec⟩
 have hF:∀k,k<b.free.length→ξ (b.F k)=η (b.F k):=fun k hk=>(hξ _).1 ⟨k,hk,rfl⟩;refine⟨ξ,(h.eq ξ).2 fun r hr=> ?_,fun k hk'=> ?_⟩
 ·rw[(hξ _).2 r (by rw[h.wf.bt];exact hr) rfl];refine lin_congr _ _ fun v hv=> ?_;obtain⟨k,hk,rfl⟩:=mem_iff_at.1 hv;exact(hF k hk).symm
 ·rw[hF k hk',hη];by_cases e:k=k0
  ·rw[if_pos e];simp only[e,if_true]
  ·rw[if_neg e];have:¬b.F k=b.F k0:=fun e2=>e (h.df k k0 hk' hk e2);simp only[if_neg this]
theorem sumR_swap (f:Nat→Nat→Rat):∀(m n:Nat),sumR (fun k=>sumR (fun j=>f k j) n 0) m 0=sumR (fun j=>sumR (fun k=>f k j) m 0) n 0
 |0,n=>by
  symm;exact sumR_zero n 0 (fun v _ _=>rfl)
 |m+1,n=>by
  rw[sumR_last,sumR_swap f m n,Nat.zero_add,←sumR_plus];refine sumR_congr _ _ fun j _ _=> ?_;rw[sumR_last,Nat.zero_add]
theorem sumR_one2 {g:Nat→Rat}(m u:Nat)(h2:u<m)(h:∀v,v<m→v≠u→g v=0):sumR g m 0=g u:=by
 have e:=sumR_one (g:=fun v=>if v<m then g v else 0) m 0 u (Nat.zero_le _) (by omega) (fun v hv=>by
  by_cases hl:v<m
  ·rw[if_pos hl];exact h v hl hv
  ·rw[if_neg hl])
 simp only[if_pos h2]at e;rw[←e];exact sumR_congr _ _ fun v _ hv=>by rw[if_pos (by omega)]
theorem Good.injT {p:Pg}{b:Tb}(h:Good p b):Inj p.lo.length fun j k=>rowV p (b.F k) j:=fun u hu k0 hk0=>by
 obtain⟨ξ,h1,h2⟩:=h.unit (k0:=k0) (by rw[h.fl];exact hk0);have e1:sumR (fun k=>u k*ξ (b.F k)) p.lo.length 0=u k0:=by
  rw[sumR_one2 p.lo.length k0 hk0 (fun k hk hne=>by rw[h2 k (by rw[h.fl];exact hk),if_neg hne,Rat.mul_zero])];rw[h2 k0 (by rw[h.fl];exact hk0),if_pos rfl,Rat.mul_one]
 have e2:sumR (fun k=>u k*ξ (b.F k)) p.lo.length 0=sumR (fun k=>sumR (fun j=>u k*(((rowV p (b.F k) j:Int):Rat)*ξ j)) p.lo.length 0) p.lo.length 0:=sumR_congr _ _ fun k _ hk=>by
  rw[sumR_mul,←row_ev h1 (by rw[←h.nv];exact h.wf.fv k (by rw[h.fl];omega))]
 rw[sumR_swap]at e2;rw[←e1,e2];refine sumR_zero _ _ fun j _ hj=> ?_;have:=hu j (by omega);have e3:sumR (fun k=>u k*(((rowV p (b.F k) j:Int):Rat)*ξ j)) p.lo.length 0=ξ j*ev (fun j k=>rowV p (b.F k) j) u p.lo.length j:=by
  unfold ev;rw[←sumR_mul];exact sumR_congr _ _ fun k _ _=>by grind
 rw[e3,this,Rat.mul_zero]
structure Near (p:Pg):Prop where
 lo:∀j,j<p.lo.length→-1048576≤p.lo.getD j 0∧p.lo.getD j 0≤1048576
 hi:∀j,j<p.lo.length→-1048576≤p.hi.getD j 0∧p.hi.getD j 0≤1048576
 c:∀j,j<p.lo.length→-1048576≤p.c.getD j 0∧p.c.getD j 0≤1048576
 b:∀i,i<p.a.length→-1099511627776≤p.b.getD i 0∧p.b.getD i 0≤1099511627776
 a:∀i,i<p.a.length→∀j,j<p.lo.length→-1048576≤(p.a.getD i []).getD j 0∧(p.a.getD i []).getD j 0≤1048576
theorem near_get {most:Int}{l:List Int}(h:nearL most l=true){j:Nat}(hj:j<l.length): -most≤l.getD j 0∧l.getD j 0≤most:=by
 have h1:=List.all_eq_true.1 h (l.getD j 0) (by rw[List.getD_eq_getElem?_getD,List.getElem?_eq_getElem hj];exact List.getElem_mem hj);rw[Bool.and_eq_true,decide_eq_true_eq,decide_eq_true_eq]at h1;exact h1
theorem near_of_right {p:Pg}(h:rightPg p=true):Near p:=by
 rw[rightPg]at h;simp only[Bool.and_eq_true,decide_eq_true_eq]at h;obtain⟨h1,h2,h3,h4,h5,h6,h7,h8,h9,h10,h11⟩:=h;have hr:∀i,i<p.a.length→(p.a.getD i []).length=p.lo.length∧nearL 1048576 (p.a.getD i [])=true:=fun i hi=>by
  have h12:=List.all_eq_true.1 h11 (p.a.getD i []) (by rw[List.getD_eq_getElem?_getD,List.getElem?_eq_getElem hi];exact List.getElem_mem hi);rw[Bool.and_eq_true,decide_eq_true_eq]at h12;exact h12
 exact⟨fun j hj=>near_get h6 hj,fun j hj=>near_get h7 (by omega),fun j hj=>near_get h8 (by omega),fun i hi=>near_get h9 (by omega),fun i hi j hj=>near_get (hr i hi).2 (by rw[(hr i hi).1];exact hj)⟩
theorem rowV_near {p:Pg}(hn:Near p){v j:Nat}(hv:v<p.lo.length+p.a.length)(hj:j<p.lo.length):(rowV p v j).natAbs≤1048576:=by
 unfold rowV;by_cases h:v<p.lo.length
 ·rw[if_pos h];split<;>decide
 ·rw[if_neg h];have:=hn.a (v-p.lo.length) (by omega) j hj;omega
theorem Good.vals {X3 X G Y:Nat}(HB:Bnds X3 X G Y){p:Pg}{b:Tb}(h:Good p b)(hn:Near p)(h4:p.lo.length≤4):∃d:Int,Lim d X3∧∀j,j<p.lo.length→Cd d X (b.val j):=by
 have he:∀k,∃e:Int,k<p.lo.length→b.val (b.F k)=((e:Int):Rat)∧e.natAbs≤1099511627776:=fun k=>by
  by_cases hk:k<p.lo.length
  ·have hkf:k<b.free.length:=by rw[h.fl];exact hk
   have hv:b.F k<p.lo.length+p.a.length:=by rw[←h.nv];exact h.wf.fv k hkf
   have hr:=(h.rest k hkf).2;by_cases hj:b.F k<p.lo.length
   ·have e1:=h.elo _ hj;rw[e1.1,e1.2]at hr;have a1:=hn.lo _ hj;have a2:=hn.hi _ hj;rcases hr with hr|hr
    ·injection hr with hr;exact⟨_,fun _=>⟨hr.symm,by omega⟩⟩
    ·injection hr with hr;exact⟨_,fun _=>⟨hr.symm,by omega⟩⟩
   ·have e1:=h.erow (b.F k-p.lo.length) (by omega);rw[show p.lo.length+(b.F k-p.lo.length)=b.F k by omega]at e1;rw[e1.1,e1.2]at hr;have a1:=hn.b (b.F k-p.lo.length) (by omega);rcases hr with hr|hr
    ·cases hr
    ·injection hr with hr;exact⟨_,fun _=>⟨hr.symm,by omega⟩⟩
  ·exact⟨0,fun h=>absurd h hk⟩
 obtain⟨d,h1,h2,q,h3⟩:=elim p.lo.length (fun k j=>rowV p (b.F k) j) (fun k=>(he k).choose) b.val 1048576 1099511627776
  (fun k j hk hj=>rowV_near hn (by rw[←h.nv];exact h.wf.fv k (by rw[h.fl];exact hk)) hj) (fun k hk=>((he k).choose_spec hk).2) h.inj (fun k hk=>by
   rw[←((he k).choose_spec hk).1];exact(row_ev h.val (by rw[←h.nv];exact h.wf.fv k (by rw[h.fl];exact hk))).symm)
 exact⟨d,⟨h1,Nat.le_trans h2 (HB.dn _ h4)⟩,fun j hj=>⟨q j,(h3 j hj).1,Nat.le_trans (h3 j hj).2 (HB.qn _ h4)⟩⟩
theorem Good.nums {X3 X G Y:Nat}(HB:Bnds X3 X G Y){p:Pg}{b:Tb}(h:Good p b)(hn:Near p)(h4:p.lo.length≤4){L:List Rat}(hL:L.length=b.free.length){r:Nat→Int}(hr:∀j,j<p.lo.length→(r j).natAbs≤1048576)(hs:∀ξ,Sat p ξ→sumR (fun j=>((r j:Int):Rat)*ξ j) p.lo.length 0=lin ξ L b.free):∃d:Int,Lim d X3∧∀q∈L,Cd d X q:=by
 obtain⟨d,h1,h2,q,h3⟩:=elim p.lo.length (fun j k=>rowV p (b.F k) j) r (fun k=>L.getD k 0) 1048576 1099511627776
  (fun j k hj hk=>rowV_near hn (by rw[←h.nv];exact h.wf.fv k (by rw[h.fl];exact hk)) hj) (fun j hj=>Nat.le_trans (hr j hj) (by decide)) h.injT (fun j hj=>by
   have e1:=hs _ (spread_sat p fun v=>if v=j then 1 else 0);rw[lin_R _ _ _ hL,h.fl,sumR_one2 p.lo.length j hj (fun v hv hne=>by rw[spread_lo hv,if_neg hne,Rat.mul_zero]),spread_lo hj,if_pos rfl,Rat.mul_one]at e1;rw[e1];refine sumR_congr _ _ fun k _ hk=> ?_;rw[spread_ev (by rw[←h.nv];exact h.wf.fv k (by rw[h.fl];omega)),sumR_one2 p.lo.length j hj (fun v hv hne=>by rw[if_neg hne,Rat.mul_zero]),if_pos rfl,Rat.mul_one];exact Rat.mul_comm _ _)
 refine⟨d,⟨h1,Nat.le_trans h2 (HB.dn _ h4)⟩,fun x hx=> ?_⟩;obtain⟨k,hk,rfl⟩:=List.getElem_of_mem hx;obtain⟨a1,a2⟩:=h3 k (by rw[←h.fl,←hL];exact hk);have e:L.getD k 0=L[k]:=by
  rw[List.getD_eq_getElem?_getD,List.getElem?_eq_getElem hk];rfl
 rw[e]at a1;exact⟨q k,a1,Nat.le_trans a2 (HB.qn _ h4)⟩
set_option maxRecDepth 100000
def smallPg (p:Pg):Bool:=fitsPg p&&(decide (p.lo.length≤4)&&decide (p.a.length≤5))
theorem psmall_any {w:World}{m:Pa}{p:Pg}(hp:PgAt w m p):Calls Tryz.prog 10 #[.agg (pgC m p)] w fun e w'=>e= .returned (.bool (smallPg p))∧Below w.heap.size w w':=by
 have M:=(Mem.start w).new tyR (pgC m p);have HF:=ZH (pfits_any (hp.below M.bel));have HR:Hid (smallPg p=(fitsPg p&&(decide (p.lo.length≤4)&&decide (p.a.length≤5)))):=rfl;obtain⟨R,hR⟩:∃R,smallPg p=R:=⟨_,rfl⟩;rw[hR]at HR⊢;obtain⟨p0,p1,p2,p3,p4⟩:=(M.k (i:=0) rfl).fiveP;clear hp hR;go_enter Tryz.func10,Tryz.ntmps10;go_wp2_with fail;refine HF.out.mono ?_;rintro e w1 ⟨rfl,q1⟩;replace M:=M.below q1;clear p0 p1 p2 p3 p4 HF;obtain⟨p0,p1,p2,p3,p4⟩:=(M.k (i:=0) rfl).fiveP;have HM:=ZH M.bel;clear M q1;cases hfp:fitsPg p with
 |false=>
  rw[hfp]at HR;have HC:Hid (R=false):=HR.out;go_wp2_with fail;exact bodyPost_ret (v:= .bool false) (by simp[results,Tryz.results10,go_sem]) rfl ⟨by rw[HC.out],HM.out⟩
 |true=>
  rw[hfp]at HR;by_cases h1:p.lo.length≤4
  ·have d1:decide ((p.lo.length:Int)≤4)=true:=decide_eq_true (by omega);by_cases h2:p.a.length≤5
   ·have d2:decide ((p.a.length:Int)≤5)=true:=decide_eq_true (by omega);have HC:Hid (R=true):=HR.out.trans (by rw[decide_eq_true h1,decide_eq_true h2];rfl);clear HR;go_wp2_with fail;exact bodyPost_ret (v:= .bool true) (by simp[results,Tryz.results10,go_sem]) rfl ⟨by rw[HC.out],HM.out⟩
   ·have d2:decide ((p.a.length:Int)≤5)=false:=decide_eq_false (by omega);have HC:Hid (R=false):=HR.out.trans (by rw[decide_eq_false h2];simp);clear HR;go_wp2_with fail;exact bodyPost_ret (v:= .bool false) (by simp[results,Tryz.results10,go_sem]) rfl ⟨by rw[HC.out],HM.out⟩
  ·have d1:decide ((p.lo.length:Int)≤4)=false:=decide_eq_false (by omega);have HC:Hid (R=false):=HR.out.trans (by rw[decide_eq_false h1];simp);clear HR;go_wp2_with fail;exact bodyPost_ret (v:= .bool false) (by simp[results,Tryz.results10,go_sem]) rfl ⟨by rw[HC.out],HM.out⟩
theorem cmpQ_le {a b:Rat}(h:a≤b):cmpQ a b≤0:=by
 have h2:=cmp_le h;exact Int.not_lt.1 (of_decide_eq_false h2)
theorem small_sz {p:Pg}(h:smallPg p=true):PgSz p:=by
 unfold smallPg at h;rw[Bool.and_eq_true]at h;exact sz_fits h.1
abbrev an2 (k:Int)(AX:Option Addr)(cX:Nat)(AY:Option Addr)(lY cY:Nat):Array Value:= #[.int .i64 k,.slice AX 0 cX,.bool false,.slice none 0 0,.bool false,.slice none 0 0,.slice AY lY cY]
def xOf (b:Tb):List Rat:=(b.vars.take b.n).map (·.v)
def yOf (b:Tb):List Rat:=dualGo b.n (zerosT b) b.cost b.free
theorem solve_form {p:Pg}{P:Nat}(hr:rightPg p=true):(∃b v,Good p b∧AllIn b∧cheapT b=none∧dotO 0 (xOf b) p.c=some v∧solveT p P=⟨1,xOf b,some v,yOf b⟩)∨(∃b i,Good p b∧beyondT b=some i∧helpsT b i (b.var (b.B i)).below=none∧solveT p P=⟨2,[],none,proofT b i⟩)∨solveT p P=⟨3,[],none,[]⟩:=by
 have hr':=hr;rw[rightPg]at hr';simp only[Bool.and_eq_true,decide_eq_true_eq]at hr';obtain⟨_,h2,h3,h4,_,_,_,_,_,h10,_⟩:=hr';unfold solveT;cases hA:(beginT p P).bind (answerT p) with
 |none=>exact .inr (.inr rfl)
 |some a=>
  obtain⟨b,hb,ha⟩:=Option.bind_eq_some_iff.1 hA;have hg:=begin_good hr hb;unfold answerT at ha;obtain⟨r,hf,ha⟩:=Option.bind_eq_some_iff.1 ha;have hfe:=feas_good (endsL_at h10 h2) _ _ hg hf;cases ho:r.2 with
  |some i=>
   rw[ho]at ha;cases ha;obtain⟨s1,s2⟩:=hfe.some i ho;exact .inr (.inl ⟨_,_,hfe.good,s1,s2,rfl⟩)
  |none=>
   rw[ho]at ha;obtain⟨b2,hb2,ha⟩:=Option.bind_eq_some_iff.1 ha;obtain⟨v,hv,rfl⟩:=Option.map_eq_some_iff.1 ha;obtain⟨g2,g3,g4⟩:=opt_good _ _ hfe.good (fun v hv=>hfe.good.all_in (hfe.none ho) hv) hb2;exact .inl ⟨b2,v,g2,g3,g4,hv,rfl⟩
theorem Good.xlen {p:Pg}{b:Tb}(h:Good p b):(xOf b).length=p.lo.length:=by
 have:=h.nv;unfold xOf;rw[List.length_map,List.length_take,h.n];omega
theorem Good.xat {p:Pg}{b:Tb}(h:Good p b){j:Nat}(hj:j<p.lo.length):(xOf b).getD j 0=b.val j:=by
 have hjl:j<b.vars.length:=by have:=h.nv;omega
 unfold xOf Tb.val Tb.var;rw[List.getD_eq_getElem?_getD,List.getElem?_map,List.getElem?_take,h.n,if_pos hj,List.getElem?_eq_getElem hjl,List.getD_eq_getElem?_getD,List.getElem?_eq_getElem hjl];rfl
theorem Good.xrow {p:Pg}{b:Tb}(h:Good p b){a:List Int}(ha:a.length=p.lo.length):dotQ (xOf b) a=rowM b.val a p.lo.length 0:=by
 have e1:=rowM_list (xOf b) a 0 (fun j=>(xOf b).getD j 0) (by rw[h.xlen,ha];omega) (fun k hk=>by rw[Nat.zero_add]);rw[h.xlen]at e1;rw[←show a.drop 0=a from rfl,←e1];exact rowM_congr _ _ _ fun k _ hk=>h.xat (by omega)
theorem Good.xcd {p:Pg}{b:Tb}(h:Good p b){d:Int}{Q:Nat}(hd:∀j,j<p.lo.length→Cd d Q (b.val j)):∀q∈xOf b,Cd d Q q:=fun q hq=>by
 obtain⟨j,hj,rfl⟩:=List.getElem_of_mem hq;have e:=h.xat (j:=j) (by rw[←h.xlen];exact hj);rw[List.getD_eq_getElem?_getD,List.getElem?_eq_getElem hj]at e;have e':(xOf b)[j]=b.val j:=e;rw[e'];exact hd j (by rw[←h.xlen];exact hj)
theorem mem_abs {l:List Int}{K:Nat}(h:∀j,j<l.length→(l.getD j 0).natAbs≤K):∀n∈l,n.natAbs≤K:=fun n hn=>by
 obtain⟨j,hj,rfl⟩:=List.getElem_of_mem hn;have:=h j hj;rw[List.getD_eq_getElem?_getD,List.getElem?_eq_getElem hj]at this;exact this
theorem getD_abs {l:List Int}{K:Nat}(h:∀j,j<l.length→(l.getD j 0).natAbs≤K)(j:Nat):(l.getD j 0).natAbs≤K:=by
 by_cases hj:j<l.length
 ·exact h j hj
 ·rw[List.getD_eq_getElem?_getD,List.getElem?_eq_none (by omega)];exact Nat.zero_le _
theorem coef_mem:∀(l:List Rat)(f:List Nat)(v:Nat),coef l f v=0∨coef l f v∈l
 |[],_,_=> .inl rfl
 |_::_,[],_=> .inl rfl
 |a::l,k::f,v=>by
  show(if v=k then a else coef l f v)=0∨(if v=k then a else coef l f v)∈a::l;split
  ·exact .inr List.mem_cons_self
  ·rcases coef_mem l f v with h|h
   ·exact .inl h
   ·exact .inr (List.mem_cons_of_mem _ h)
theorem least_cd {p:Pg}{d:Int}{y:List Rat}{Q G D N:Nat}{c:Option (List Int)}(hfew:∀(B:Nat)(q:Rat),Cd d B q→B≤N→Few q)(hle:d.natAbs≤D)(hdot:∀j,∃t,dotO 0 y (colL p j)=some t∧Cd d Q t)(hc:∀l,c=some l→∀j,(l.getD j 0).natAbs≤1048576)(hQ:Q+D*1048576≤G)(hG:G≤N):∀(r:List (Int×Int))(j:Nat){S:Nat}{s:Rat},Cd d S s→(∀x∈r,x.1.natAbs≤1048576∧x.2.natAbs≤1048576)→S+r.length*(G*1048576)≤N→∃t,leastO p y c j s r=some t∧Cd d (S+r.length*(G*1048576)) t
 |[],j,S,s,hs,_,_=>⟨s,rfl,by simpa using hs⟩
 |(l,h)::r,j,S,s,hs,hr,hB=>by
  obtain⟨d0,h1,h2⟩:=hdot j;have hdd:∃d1,(match c with|none=>some d0|some c=>addO d0 (c.getD j 0))=some d1∧Cd d G d1:=by
   cases c with
   |none=>exact⟨d0,rfl,h2.mono (by omega)⟩
   |some cl=>
    have h3:=h2.add (Cd.int D hle (hc cl rfl j));exact⟨_,qfit_of (hfew _ _ h3 (by omega)),h3.mono (by omega)⟩
  obtain⟨d1,h3,h4⟩:=hdd;have hend:∃e:Int,(if d1<0 then((h:Int):Rat) else((l:Int):Rat))=((e:Int):Rat)∧e.natAbs≤1048576:=by
   have:=hr (l,h) List.mem_cons_self;split
   ·exact⟨h,rfl,this.2⟩
   ·exact⟨l,rfl,this.1⟩
  obtain⟨e,h5,h6⟩:=hend;have h7:=h4.mul h6;have h8:=hs.add h7;rw[List.length_cons,Nat.add_mul,Nat.one_mul]at hB⊢;obtain⟨t,h9,h10⟩:=least_cd hfew hle hdot hc hQ hG r (j+1) h8 (fun x hx=>hr x (List.mem_cons_of_mem _ hx)) (by omega);refine⟨t,?_,h10.mono (by omega)⟩;unfold leastO;rw[h1];show Option.bind (match c with|none=>some d0|some c=>addO d0 (c.getD j 0)) _=_;rw[h3];show Option.bind (mulO d1 (if d1<0 then((h:Int):Rat) else((l:Int):Rat))) _=_;rw[h5];have e1:mulO d1 ((e:Int):Rat)=some (d1*((e:Int):Rat)):=qfit_of (hfew _ _ h7 (by omega));rw[e1];show Option.bind (addO s (d1*((e:Int):Rat))) _=_;have e2:addO s (d1*((e:Int):Rat))=some (s+d1*((e:Int):Rat)):=qfit_of (hfew _ _ h8 (by omega));rw[e2];exact h9
theorem leastP_cd {X3 X G Y:Nat}(HB:Bnds X3 X G Y){p:Pg}{d:Int}(hd:Lim d X3)(hr:rightPg p=true){y:List Rat}{c:Option (List Int)}(h4:p.lo.length≤4)(h5:p.a.length≤5)(hl:y.length=p.a.length)(hc:c=none∨c=some p.c)(hy:∀q∈y,Cd d X q):leastP p y c=some (boundQ p y c):=by
 have hn:=near_of_right hr;have hr':=hr;rw[rightPg]at hr';simp only[Bool.and_eq_true,decide_eq_true_eq]at hr';obtain⟨_,g2,g3,g4,_,_,_,_,_,_,g11⟩:=hr';have hrl:∀i,i<p.a.length→(p.a.getD i []).length=p.lo.length:=fun i hi=>by
  have h12:=List.all_eq_true.1 g11 (p.a.getD i []) (by rw[List.getD_eq_getElem?_getD,List.getElem?_eq_getElem hi];exact List.getElem_mem hi);rw[Bool.and_eq_true,decide_eq_true_eq]at h12;exact h12.1
 have hrow:∀i,i<p.a.length→∀j,((p.a.getD i []).getD j 0).natAbs≤1048576:=fun i hi j=>getD_abs (fun j hj=>by have:=hn.a i hi j (by rw[←hrl i hi];exact hj);omega) j;have hcol:∀j,∀n∈colL p j,n.natAbs≤1048576:=fun j n hm=>by
  obtain⟨r,hr,rfl⟩:=List.mem_map.1 hm;obtain⟨i,hi,rfl⟩:=List.getElem_of_mem hr;have:=hrow i hi j;rw[List.getD_eq_getElem?_getD (l:=p.a),List.getElem?_eq_getElem hi]at this;exact this
 have e1:=HB.l1;have e2:=HB.l2;have e3:=HB.l3;have e4:=HB.l4;have hfew:∀(B:Nat)(q:Rat),Cd d B q→B≤Y→Few q:=fun B q h hB=>h.few HB hd hB;have hle:=hd.le;have hyl:y.length≤5:=by omega
 have hdc:∀(m:List Int)(K:Nat),K≤1099511627776→(∀n∈m,n.natAbs≤K)→∃t,dotO 0 y m=some t∧Cd d (0+y.length*(X*K)) t:=fun m K hK hm=>dot_cd hfew y m (Cd.zero d) hy hm (by
  have k1:y.length*(X*K)≤5*(X*1099511627776):=Nat.mul_le_mul hyl (Nat.mul_le_mul_left _ hK);generalize y.length*(X*K)=W at*;omega)
 have hz:(p.lo.zip p.hi).length≤4:=by rw[List.length_zip];omega
 have hdot:∀j,∃t,dotO 0 y (colL p j)=some t∧Cd d (5*(X*1048576)) t:=fun j=>by
  obtain⟨t,k1,k2⟩:=hdc (colL p j) 1048576 (by decide) (hcol j);exact⟨t,k1,k2.mono (by rw[Nat.zero_add];exact Nat.mul_le_mul_right _ hyl)⟩
 obtain⟨t,h3,h6⟩:=hdc p.b 1099511627776 ZL (mem_abs fun j hj=>by have:=hn.b j (by omega);omega);have hzl:(p.lo.zip p.hi).length*(G*1048576)≤4*(G*1048576):=Nat.mul_le_mul_right _ hz;obtain⟨s,h1,h2⟩:=least_cd (c:=c) (Q:=5*(X*1048576)) (G:=G) (D:=X3) (N:=Y) hfew hle hdot (fun l e j=>by
  rcases hc with hc|hc
  ·rw[hc]at e;cases e
  ·rw[hc]at e;cases e;exact getD_abs (fun j hj=>by have:=hn.c j (by omega);omega) j) (by omega) (by omega) (p.lo.zip p.hi) 0 (Cd.zero d) (fun x hx=>by
   obtain⟨k,hk,rfl⟩:=List.getElem_of_mem hx;rw[List.length_zip]at hk;have e:=zip_at (l:=p.lo) (h:=p.hi) (k:=k) (by omega) (by omega);rw[List.getD_eq_getElem?_getD,List.getElem?_eq_getElem (by rw[List.length_zip];omega)]at e;have e':(p.lo.zip p.hi)[k]'(by rw[List.length_zip];omega)=(p.lo.getD k 0,p.hi.getD k 0):=e;rw[e'];have a1:=hn.lo k (by omega);have a2:=hn.hi k (by omega);exact⟨by show(p.lo.getD k 0).natAbs≤_;omega,by show(p.hi.getD k 0).natAbs≤_;omega⟩) (by omega)
 have h7:=h2.add h6.neg;have h8:leastP p y c=some (s+ -t):=by
  unfold leastP;rw[h1];show Option.bind (dotO 0 y p.b) _=_;rw[h3];refine qfit_of (hfew _ _ h7 ?_);have k1:y.length*(X*1099511627776)≤5*(X*1099511627776):=Nat.mul_le_mul_right _ hyl;omega
 rw[h8,leastP_exact h8]
theorem dual_mem {n:Nat}{l:List Rat}{f:List Nat}{y:List Rat}(hf:f.Nodup)(hN:∀v∈f,v<n+y.length)(hl:l.length=f.length){d:Int}{Q:Nat}(h1:∀q∈l,Cd d Q q)(h2:∀i,i<y.length→y.getD i 0=0):∀q∈dualGo n y l f,Cd d Q q:=fun q hq=>by
 obtain⟨d1,d2⟩:=dual_at n l f y hf hN hl;obtain⟨i,hi,rfl⟩:=List.getElem_of_mem hq;have hi':i<y.length:=by rw[←d1];exact hi
 have e:=d2 i hi';rw[List.getD_eq_getElem?_getD,List.getElem?_eq_getElem hi]at e;have e':(dualGo n y l f)[i]=if n+i∈f then-coef l f (n+i) else y.getD i 0:=e
 rw[e'];split
 ·rcases coef_mem l f (n+i) with h|h
  ·rw[h];exact(Cd.zero d).neg.mono (Nat.zero_le _)
  ·exact(h1 _ h).neg
 ·rw[h2 i hi'];exact(Cd.zero d).mono (Nat.zero_le _)
theorem Good.cost_cd {X3 X G Y:Nat}(HB:Bnds X3 X G Y){p:Pg}{b:Tb}(h:Good p b)(hn:Near p)(h4:p.lo.length≤4)(h3:p.c.length=p.lo.length):∃d:Int,Lim d X3∧∀q∈b.cost,Cd d X q:=
 h.nums HB hn h4 h.wf.fc (r:=fun j=>p.c.getD j 0) (fun j hj=>by have:=hn.c j hj;omega) fun ξ hs=>by
  rw[←h.cost ξ hs,rowM_R]
theorem Good.line_cd {X3 X G Y:Nat}(HB:Bnds X3 X G Y){p:Pg}{b:Tb}(h:Good p b)(hn:Near p)(h4:p.lo.length≤4){i:Nat}(hi:i<b.t.length):∃d:Int,Lim d X3∧∀q∈b.t.getD i [],Cd d X q:=by
 have hv:b.B i<p.lo.length+p.a.length:=by rw[←h.nv];exact h.wf.bv i (by rw[h.wf.bt];exact hi)
 exact h.nums HB hn h4 (h.wf.ft i hi) (r:=fun j=>rowV p (b.B i) j) (fun j hj=>rowV_near hn hv hj) fun ξ hs=>by
  rw[←row_ev hs hv];exact(h.eq ξ).1 hs i hi
theorem solve_proved {p:Pg}{P:Nat}(hr:rightPg p=true)(h4:p.lo.length≤4)(h5:p.a.length≤5):(∃(x y:List Rat)(v:Rat),solveT p P=⟨1,x,some v,y⟩∧(∀q∈x,Few q)∧(∀q∈y,Few q∧0≤q)∧y.length=p.a.length∧x.length=p.lo.length∧(∀j,j<p.lo.length→((p.lo.getD j 0:Int):Rat)≤x.getD j 0∧x.getD j 0≤((p.hi.getD j 0:Int):Rat))∧(∀i,i<p.a.length→∃s,dotO 0 x (p.a.getD i [])=some s∧s≤((p.b.getD i 0:Int):Rat))∧dotO 0 x p.c=some v∧leastP p y (some p.c)=some v)∨(∃(y:List Rat)(v:Rat),solveT p P=⟨2,[],none,y⟩∧(∀q∈y,Few q∧0≤q)∧y.length=p.a.length∧leastP p y none=some v∧0<v)∨solveT p P=⟨3,[],none,[]⟩:=by
 obtain⟨X3,X,G,Y,HB⟩:=big_ex;have l1:=HB.l1;have l2:=HB.l2;have l4:=HB.l4;have hn:=near_of_right hr;have hr':=hr;rw[rightPg]at hr';simp only[Bool.and_eq_true,decide_eq_true_eq]at hr';obtain⟨_,g2,g3,g4,_,_,_,_,_,_,g11⟩:=hr';have hrl:∀i,i<p.a.length→(p.a.getD i []).length=p.lo.length:=fun i hi=>by
  have h12:=List.all_eq_true.1 g11 (p.a.getD i []) (by rw[List.getD_eq_getElem?_getD,List.getElem?_eq_getElem hi];exact List.getElem_mem hi);rw[Bool.and_eq_true,decide_eq_true_eq]at h12;exact h12.1
 rcases solve_form (P:=P) hr with ⟨b,v,hg,ha,hc,hv,hs⟩|⟨b,i,hg,hb,hh,hs⟩|hs
 ·obtain⟨t1,t2⟩:=hg.optimal ha hc g2 g4;obtain⟨d,hd,hx⟩:=hg.vals HB hn h4;obtain⟨d',hd',hco⟩:=hg.cost_cd HB hn h4 g3;have hxc:=hg.xcd hx;have hyc:∀q∈yOf b,Cd d' X q:=dual_mem hg.nodup (fun v hv=>by rw[hg.zeros_len,hg.n];exact hg.lt v hv) hg.wf.fc hco (fun i hi=>zeros_at);have hfit:=hg.fits ha;refine .inl ⟨xOf b,yOf b,v,hs,fun q hq=>(hxc q hq).few HB hd (by omega),fun q hq=>⟨(hyc q hq).few HB hd' (by omega),t1.pos q hq⟩,t1.len,hg.xlen,fun j hj=> ?_,fun i hi=> ?_,hv,?_⟩
  ·rw[hg.xat hj];exact⟨hfit.lo j hj,hfit.hi j hj⟩
  ·have h6:=mem_abs (K:=1048576) (l:=p.a.getD i []) fun j hj=>by have:=hn.a i hi j (by rw[←hrl i hi];exact hj);omega
   obtain⟨s,h7,_⟩:=dot_cd (fun B q h hB=>h.few HB hd hB) (xOf b) (p.a.getD i []) (Cd.zero d) hxc h6 (by
    have:(xOf b).length≤4:=by rw[hg.xlen];exact h4
    have h:=Nat.mul_le_mul_right (X*1048576) this;omega)
   refine⟨s,h7,?_⟩;rw[dot_exact _ _ h7,Rat.zero_add,hg.xrow (hrl i hi)];exact hfit.row i hi
  ·rw[leastP_cd HB hd' hr h4 h5 (y:=yOf b) t1.len (.inr rfl) hyc];have e:boundQ p (yOf b) (some p.c)=rowM b.val p.c p.lo.length 0:=t2;rw[e,dot_exact _ _ hv,Rat.zero_add,hg.xrow g3]
 ·obtain⟨t1,t2⟩:=hg.infeasible hb hh g2 g4;obtain⟨s1,_,_⟩:=beyond_some hb;have hit:i<b.t.length:=by rw[←hg.wf.bt];exact s1
  obtain⟨d,hd,hl⟩:=hg.line_cd HB hn h4 hit;have hyc:∀q∈proofT b i,Cd d X q:=by
   have h1:∀q∈dualGo b.n (zerosT b) ((b.t.getD i []).map fun a=>if (b.var (b.B i)).below then-a else a) b.free,Cd d X q:=
    dual_mem hg.nodup (fun v hv=>by rw[hg.zeros_len,hg.n];exact hg.lt v hv) (by rw[List.length_map];exact hg.wf.ft i hit) (fun q hq=>by
     obtain⟨a,ha,rfl⟩:=List.mem_map.1 hq;split
     ·exact(hl a ha).neg
     ·exact hl a ha) (fun i hi=>zeros_at)
   have h2:proofT b i=if b.B i<b.n then proofGo b.n (b.var (b.B i)).below (zerosT b) (b.t.getD i []) b.free else(proofGo b.n (b.var (b.B i)).below (zerosT b) (b.t.getD i []) b.free).set (b.B i-b.n) 1:=rfl
   rw[h2,proof_dual];split
   ·exact h1
   ·intro q hq;rcases List.mem_or_eq_of_mem_set hq with h|h
    ·exact h1 q h
    ·rw[h];exact(Cd.int (n:=1) (K:=1) X3 hd.le (by decide)).mono (by omega)
  exact .inr (.inl ⟨proofT b i,boundQ p (proofT b i) none,hs,fun q hq=>⟨(hyc q hq).few HB hd (by omega),t1.pos q hq⟩,t1.len,leastP_cd HB hd hr h4 h5 t1.len (.inl rfl) hyc,t2⟩)
 ·exact .inr (.inr hs)
end Go.Proofs.YtpnmcacndjkfaaaGreat
